/-
  Texts of the proof, part 3 of 6: what is used to prove the statement. No condition.
-/
import Derived.Test.YtloaobgmjdjhhaaGreatDoorEpochFirstQ1
import Derived.WalkSpells
import Derived.Laws.CopyRow
namespace Go.Proofs.YtloaobgmjdjhhaaGreatDoor.AI
open Go.RowKit
set_option maxRecDepth 100000
set_option maxHeartbeats 4000000
set_option linter.unusedVariables false
set_option linter.unusedSimpArgs false
open _root_.Bool renaming true→J,false→af,and_false→Mh
open Call renaming operands→eY
open _root_.Classical renaming propDecidable→mc
open _root_.Int renaming ofNat_eq_natCast→ak,ofNat→aM,toNat→aQ,reduceEq→aU,reduceNeg→bp,toNat_natCast→bO
open IntKind renaming wrap→pt
open _root_.List renaming length→ai,replicate→aA,length_cons→cg,range→cq,length_singleton→cX,take→dQ,cons_append→fR,length_nil→gE,nil_append→kn,foldl_cons→xR
open _root_.Nat renaming beq→aB,add_zero→dt
open Oper renaming wp→Iz
open _root_.Option renaming some→M,none→D,map_some→ct,getD_some→vL
open _root_.Prod renaming p2→aY,p3→bi,p4→bx,q3→bP,p5→cI,q5→cY,q4→dG,p6→dY,q6→fG,q7→kA,p7→lh,q8→qH,p8→AM
open Result renaming andThen_ok→cU
open Sem renaming run_bind→eQ,run→kz
open _root_.Sum renaming inr→bS,inl→oh
open World renaming cell?→O5
noncomputable section
def NE (op:Int):Prop:=op=1\/op=2\/op=3\/op=14
def ZE (e:Xp):Prop:=GE 4 e\/e= .mk 0 0 [] []
structure NO (nT:Nat) (s:Sx):Prop where
 o0:1<=s.op
 o1:s.op<=15
 vr:s.op=1->s.index=[]->s.name∈NV
 lk:s.op=4->s.name=[109]\/s.name=[110]
 rw:s.op=5\/s.op=6->s.name=[114]
 cn:s.op=9\/s.op=10\/s.op=11->s.name=[99]
 sp:s.op=12\/s.op=13->s.name∈wS.take nT
 se:s.op=14->s.name=[102]
 ge:s.op=15->s.name=[97]/\s.arg=[102]
 el:¬s.op=2->s.els=[]
 bo:s.op=1\/9<=s.op->s.body=[]
variable {nT:Nat}
def GS (nT:Nat):Nat->Sx->Prop
 |0,_=>False
 |d+1,s=>(s.index≠[]->s.name=[113])/\s.index.length<=1/\(∀e∈s.index,GE 4 e)/\(NE s.op->GE 4 s.expr)/\ZE s.expr/\s.body.length<=8/\s.els.length<=8/\(∀x∈s.body,GS nT d x)/\(∀x∈s.els,GS nT d x)/\NO nT s
theorem GS.mono:∀{d:Nat} {s:Sx},GS nT d s->GS nT (d+1) s
 |0,_,h=>h.elim
 |_+1,_,⟨a,b,c,e,f,g,i,j,k,l⟩=>⟨a,b,c,e,f,g,i,λx z=>(j x z).mono,λx z=>(k x z).mono,l⟩
theorem GS.le {d k:Nat} {s:Sx} (h:GS nT d s) (hk:d<=k):GS nT k s:=by
 induction hk with
 |refl=>exact h
 |step _ a=>exact a.mono
theorem NO.asg {s a:ζ} {e:Xp} {i:Y Xp} (hs:i=[]->s∈NV):NO nT (.mk 1 0 s a i e [] []):=by
 constructor<;>simp[Sx.op,Sx.name,Sx.index,Sx.els,Sx.body];exact λh=>by simpa using hs h
theorem GS.asg {d:Nat} {s:ζ} (hs:s∈NV) {e:Xp} (h:GE 4 e):GS nT (d+1) (.mk 1 0 s [] [] e [] []):=
 ⟨λh=>(h rfl).elim,by simp[Sx.index],λe he=>(by cases he),λ_=>h,.inl h,by simp[Sx.body],by simp[Sx.els],λx a=>(by cases a),λx a=>(by cases a),NO.asg λ_=>hs⟩
theorem GS.aix {d:Nat} {i e:Xp} (hi:GE 4 i) (h:GE 4 e):GS nT (d+1) (.mk 1 0 [113] [] [i] e [] []):=
 ⟨λ_=>rfl,by simp[Sx.index],λe he=>(by simp only[Sx.index,aI]at he;rw[he];exact hi),λ_=>h,.inl h,by simp[Sx.body],by simp[Sx.els],λx a=>(by cases a),λx a=>(by cases a),NO.asg λh=>(by cases h)⟩
theorem GS.we {d:Nat} {op:Int} {s a:ζ} {e:Xp} {b l:Y Sx} (h:GE 4 e) (hb:b.length<=8) (hl:l.length<=8) (z:∀x∈b,GS nT d x) (gl:∀x∈l,GS nT d x) (hn:NO nT (.mk op 0 s a [] e b l)):GS nT (d+1) (.mk op 0 s a [] e b l):=
 ⟨λh=>(h rfl).elim,by simp[Sx.index],λe he=>(by cases he),λ_=>h,.inl h,hb,hl,z,gl,hn⟩
theorem GS.wo {d:Nat} {op ln:Int} {s a:ζ} {b:Y Sx} (L:4<=op/\op≠14) (hb:b.length<=8) (A:∀x∈b,GS nT d x) (hn:NO nT (.mk op ln s a [] (.mk 0 0 [] []) b [])):GS nT (d+1) (.mk op ln s a [] (.mk 0 0 [] []) b []):=
 ⟨λh=>(h rfl).elim,by simp[Sx.index],λe he=>(by cases he),λh=>(by have h:op=1\/op=2\/op=3\/op=14:=h;omega),.inr rfl,hb,by simp[Sx.els],A,λx z=>(by cases z),hn⟩
def QS (nT:Nat) (d:Nat) (n:Int) (t:Q7) (h:HD) (y:MK×Q7×HD×Y Sx):Prop:=(y.2.2.2.length:Int)<=max 0 n/\(∀s∈y.2.2.2,GS nT (d+1) s)/\vH t y.2.1/\y.2.2.1.2=h.2
def QT (nT:Nat) (d:Nat) (t:Q7) (h:HD) (y:Sx×MK×Q7×HD):Prop:=GS nT (d+1) y.1/\vH t y.2.2.1/\y.2.2.2.2=h.2
def QB (nT:Nat) (d:Nat) (t:Q7) (h:HD) (y:Y Sx×MK×Q7×HD):Prop:=y.1.length<=2/\(∀s∈y.1,GS nT (d+1) s)/\vH t y.2.2.1/\y.2.2.2.2=h.2
abbrev RS:Type:=(ν×MK×Q7×HD)->I (MK×Q7×HD×Y Sx)
abbrev RT:Type:=(Int×MK×Q7×HD)->I (Sx×MK×Q7×HD)
abbrev RBk:Type:=((ζ×Int)×MK×Q7×HD)->I (Y Sx×MK×Q7×HD)
def SpS (nT:Nat) (rs:RS) (d:Nat):Prop:=∀(n:Int) (m:MK) (t:Q7) (h:HD),n<=3->TP t->h.2.length+d<=100->Ok (rs (((d:Int),n),m,t,h)) (QS nT d n t h)
def SpT (nT:Nat) (a:RT) (d:Nat):Prop:=∀(m:MK) (t:Q7) (h:HD),TP t->h.2.length+d<=100->Ok (a ((d:Int),m,t,h)) (QT nT d t h)
def SpB (nT:Nat) (a:RBk) (d:Nat):Prop:=∀(s:ζ) (m:MK) (t:Q7) (h:HD),TP t->h.2.length+1+d<=100->Ok (a ((s,(d:Int)),m,t,h)) (QB nT d t h)
theorem Z8 (rs:RS) (A:RT) (rb:RBk) (d:Nat) (ht:SpT nT A d):SpS nT (m6 rs A rb) d:=by
 intro n m t h hn hp hh;unfold m6 aY bi bx bP dG cY bg bw bB cQ aD cJ eD;refine qK (λx=>(n-x.1).toNat) (λx=>0<=x.1/\(x.1<=n\/x.1=0)/\vH t x.2.2.1/\(x.2.2.2.1.length:Int)<=x.1/\(∀s∈x.2.2.2.1,GS nT (d+1) s)/\x.2.2.2.2.2=h.2) ?_ ⟨dx _,.inr rfl,vH.refl hp,by simp,λs hs=>(by cases hs),rfl⟩;rintro⟨(i:Int),m',t',l,h'⟩ ⟨i0,i1,e1,e2,e3,z⟩;dsimp only at i0 i1 e1 e2 e3 z;refine aV (λx=>x.2=(m',t',l,h')/\(x.1=J->i<n)) ?_ ?_
 .refine bJ (λg=>aK (λ_=>aj ⟨rfl,λ_=>g⟩) λ_=>aj ⟨rfl,λ_=>g⟩) λ_=>aj ⟨rfl,λh=>(by cases h)⟩
 rintro⟨b,x⟩ ⟨Z,U⟩;dsimp only at Z U;subst Z;refine aN (λhb=>?_) λ_=>aj ⟨by dsimp only;omega,e3,e1,z⟩
 have g:=U hb;refine ax (ht m' t' h' e1.p (by rw[z];exact hh)) λy hy=>?_
 obtain⟨s,m2,t2,h2⟩:=y;obtain⟨k1,k2,L⟩:=hy;dsimp only at k1 k2 L;refine bh (by simp) (be (by simp;omega) (by omega) (aj ?_));dsimp only;rw[fE,zL,iw (n:=i+1) (by omega) (by omega)];refine ⟨⟨by omega,by omega,e1.trans k2,by simp;omega,λx a=>?_,L.trans z⟩,by omega⟩;rcases bG.1 a with a|a
 .exact e3 x a
 .rw[aI]at a;subst a;exact k1
theorem aa0 (rs:RS) (rt:RT) (rb:RBk) (d:Nat) (hs:SpS nT rs d):SpB nT (m7 rs rt rb) d:=by
 intro s m t h hp hh;unfold m7 aY bi bP dG bB aX;refine be (by simp;omega) (by omega) ?_;refine ax (gG 2 t hp) λy A=>?_
 obtain⟨k,t1⟩:=y;obtain⟨z,Z,a,_⟩:=A;have a:=a (by decide);dsimp only at z Z a;have ew:bl .i64 (1+k)=1+k:=iw (by omega) (by omega);dsimp only;rw[ew];refine ax (hs (1+k) m t1 (h.1,h.2++[s]) (by omega) z.p (by simp;omega)) λy A=>?_
 obtain⟨m2,t2,h2,l⟩:=y;obtain⟨k1,k2,U,L⟩:=A;dsimp only at k1 k2 U L;refine bh (by simp) ?_;dsimp only;rw[L];have el:bl .i64 ((aM (h.2++[s]).length)-1)=(h.2.length:Int):=by
  rw[bf,cX,iw (by simp<;>omega) (by simp<;>omega)];simp<;>omega
 rw[el];refine dc (dI (by omega) (AX (by simp;omega) (aj ?_)));refine ⟨by dsimp only;omega,k2,z.trans U,?_⟩;show dQ (aQ (h.2.length:Int)) (h.2++[s])=h.2;simp
theorem DO (s:ζ) (m:MK) (t:Q7) (h:HD) (hh:h.2.length<=100):Ok (eS (s,m,t,h)) λy=>y.2=(m,t,h):=by
 unfold eS dG;exact ax (zo h.2 s (by omega)) λy _=>aj rfl
theorem aen (rs:RS) (rt:RT) (rb:RBk) (d:Nat) (hd:d<=5) (h0:1<=d->SpS nT rs 0) (hS:1<=d->SpS nT rs (d-1)) (hB:1<=d->SpB nT rb (d-1)):SpT nT (oE rs rt rb) d:=by
 intro m t h hp hh;unfold oE aY bi bx bP dG cY bg bw bB kZ aD eD;refine ax (gG 18 t hp) λy A=>?_
 obtain⟨k,t1⟩:=y;obtain⟨s1,k0,k1,_⟩:=A;have k1:=k1 (by decide);dsimp only at s1 k0 k1;have hE:∀(j:Nat) (m':MK) (t':Q7) (h':HD),j<=1->TP t'->Ok (fy ((j:Int),m',t',h')) λy=>GE 4 y.1/\y.2.1=m'/\vH t' y.2.2.1/\y.2.2.2=h':=λj m' t' h' hj ht'=>(adt j (by omega) m' t' h' ht').mono λy A=>⟨A.1.le (by omega),A.2⟩
 have ed:bl .i64 ((d:Int)-1)=(d:Int)-1:=iw (by omega) (by omega);have ed1:1<=d->(d:Int)-1=((d-1:Nat):Int):=λ_=>by omega
 refine aV (λx=>x.2=((m.1,bl .i64 (m.2.1-1),m.2.2),t1,(0,0,[],[],0,0,[]),h)/\(x.1=J->1<=d)) ?_ ?_
 .refine bJ (λg=>aT (bJ (λ_=>aj ⟨rfl,λ_=>?_⟩) λ_=>aj ⟨rfl,λh=>(by cases h)⟩)) λ_=>aj ⟨rfl,λh=>(by cases h)⟩
  dsimp only at g;omega
 generalize ((m.1,bl .i64 (m.2.1-1),m.2.2):MK)=m0;rintro⟨nest,x⟩ ⟨e,hn⟩;dsimp only at e hn;subst e;refine bJ (λ_=>?_) λg4=>?_
 .refine aR k0 (by dsimp only[ai];omega) (aR k0 (by dsimp only[ai];omega) (aT ?_));refine ax (hE 1 m0 t1 h (by omega) s1.p) λy A=>?_
  obtain⟨e,m2,t2,h2⟩:=y;obtain⟨v1,v2,v3,v4⟩:=A;dsimp only at v1 v2 v3 v4;subst v2;subst v4;refine bh (by simp) (aS (uC _ _) (aj ?_));dsimp only;rw[fE,zL];have hnv:∀z∈([[120],[121],[120],[118]]:Y ζ),z∈NV:=by decide
  exact⟨GS.asg (hnv _ (bN (T:=.str) k0 (by dsimp only[ai];omega))) v1,s1.trans v3,rfl⟩
 dsimp only at g4;refine aK (λ_=>?_) λg5=>?_
 .refine ax (gG 2 t1 s1.p) λy A=>?_
  obtain⟨u1,u2,u3,_⟩:=A;have u3:=u3 (by decide);refine aR u2 u3 (aR u2 u3 (aT ?_));refine ax (hE 1 m0 y.2 h (by omega) u1.p) λz U=>?_
  obtain⟨e,m2,t2,h2⟩:=z;obtain⟨v1,v2,v3,v4⟩:=U;dsimp only at v1 v2 v3 v4;subst v2;subst v4;refine bh (by simp) (aS (uC _ _) (aj ?_));dsimp only;rw[fE,zL];have hnv:∀z∈([[97],[98]]:Y ζ),z∈NV:=by decide
  exact⟨GS.asg (hnv _ (bN (T:=.str) u2 u3)) v1,s1.trans (u1.trans v3),rfl⟩
 dsimp only at g5;refine aK (λ_=>?_) λg6=>?_
 .refine ax (hE 0 m0 t1 h (by omega) s1.p) λz U=>?_
  obtain⟨e,m2,t2,h2⟩:=z;obtain⟨v1,v2,v3,v4⟩:=U;dsimp only at v1 v2 v3 v4;subst v2;subst v4;refine bh (by simp) ?_;refine ax (hE 1 m2 t2 h2 (by omega) v3.p) λz U=>?_
  obtain⟨e',m3,t3,h3⟩:=z;obtain⟨w1,w2,w3,w4⟩:=U;dsimp only at w1 w2 w3 w4;subst w2;subst w4;refine bh (by simp) (aj ?_);dsimp only;rw[fE,fE];exact⟨GS.aix v1 w1,s1.trans (v3.trans w3),rfl⟩
 dsimp only at g6;have U:∀(c:Prop),c->c:=λ_ h=>h
 have dd:1<=d->d-1+1=d:=λ_=>by omega
 have w8:8<=k->bl .i64 (k-8)=k-8:=λ_=>iw (by omega) (by omega)
 refine aV (λx=>x.2=(m0,t1,(0,0,[],[],0,0,[]),h)/\(x.1=J->1<=d)) ?_ ?_
 .refine aK (λ_=>aj ⟨rfl,λg=>?_⟩) λ_=>aj ⟨rfl,λh=>(by cases h)⟩
  dsimp only at g;rw[sO]at g;omega
 rintro⟨b,x⟩ ⟨e,hb⟩;dsimp only at e hb;subst e;refine aN (λa=>?_) λ_=>?_
 .have L:=hb a;refine ax (hE 1 m0 t1 h (by omega) s1.p) λz U=>?_
  obtain⟨e,m2,t2,h2⟩:=z;obtain⟨v1,v2,v3,v4⟩:=U;dsimp only at v1 v2 v3 v4;subst v2;subst v4;refine bh (by simp) ?_;dsimp only;rw[ed,ed1 L];refine ax (hS L 1 m2 t2 h2 (by omega) v3.p (by omega)) λz U=>?_
  obtain⟨m3,t3,h3,l⟩:=z;obtain⟨w1,w2,w3,w4⟩:=U;dsimp only at w1 w2 w3 w4;rw[dd L]at w2;refine bh (by simp) ?_;refine aV (λx=>x.2.2.2.1=(2,0,[],[],e.op,e.n,e.name,e.l)/\vH t1 x.2.1/\x.2.2.2.2.1.2=h2.2/\x.2.2.2.2.2.1=l/\x.2.2.2.2.2.2.length<=8/\∀s∈x.2.2.2.2.2.2,GS nT d s) ?_ ?_
  .refine ax (gG 2 t3 w3.p) λy A=>?_
   refine aK (λ_=>?_) λ_=>aj ⟨rfl,v3.trans (w3.trans A.1),w4,rfl,by simp,λs hs=>(by cases hs)⟩
   dsimp only;refine ax (hS L 1 m3 y.2 h3 (by omega) A.1.p (by rw[w4];omega)) λz U=>?_
   obtain⟨m4,t4,h4,l2⟩:=z;obtain⟨x1,x2,x3,x4⟩:=U;dsimp only at x1 x2 x3 x4;rw[dd L]at x2;exact bh (by simp) (aj ⟨rfl,v3.trans (w3.trans (A.1.trans x3)),x4.trans w4,rfl,by dsimp only;omega,x2⟩)
  rintro⟨m5,t5,z5,e5,h5,l5,l6⟩ ⟨x1,x2,x3,x4,x5,x6⟩;dsimp only at x1 x2 x3 x4 x5 x6;subst x1;subst x4;refine aj ?_;dsimp only;rw[fE];exact⟨GS.we v1 (by first|omega|(dsimp only;omega)) x5 w2 x6 (by constructor<;>simp[Sx.op,Sx.name,Sx.index,Sx.arg,Sx.els,Sx.body]),s1.trans x2,x3⟩
 refine aV (λx=>x.2=(m0,t1,(0,0,[],[],0,0,[]),h)/\(x.1=J->1<=d)) ?_ ?_
 .refine aK (λ_=>aj ⟨rfl,λg=>?_⟩) λ_=>aj ⟨rfl,λh=>(by cases h)⟩
  dsimp only at g;rw[sO]at g;omega
 rintro⟨b,x⟩ ⟨e,hb⟩;dsimp only at e hb;subst e;refine aN (λa=>?_) λ_=>?_
 .have L:=hb a;refine aS (IL _) (aS (Pw _) (aS (Gh _ _ _) ?_));dsimp only;rw[ed,ed1 L];refine ax (hS L 1 _ t1 h (by omega) s1.p (by omega)) λz U=>?_
  obtain⟨m3,t3,h3,l⟩:=z;obtain⟨w1,w2,w3,w4⟩:=U;dsimp only at w1 w2 w3 w4;rw[dd L]at w2;refine bh (by simp) ?_;refine aS (IL _) (aS (Pw _) (aS (Gh _ _ _) (aS (uC _ _) ?_)));refine be (by simp;omega) (by omega) (aj ?_);dsimp only;rw[fE,fE,zL];refine ⟨GS.we (GE.bin (by omega) (GE.nm (by decide) 2) (GE.num _ 2)) (by simp;omega) (by simp) (λx Z=>?_) (λx Z=>(by cases Z)) (by constructor<;>simp[Sx.op,Sx.name,Sx.index,Sx.arg,Sx.els,Sx.body]),s1.trans w3,w4⟩;rcases bG.1 Z with Z|Z
  .exact w2 x Z
  .rw[aI]at Z;subst Z;rw[<- dd L];exact GS.asg (by decide) (GE.bin (by omega) (GE.nm (by decide) 2) (GE.num _ 2))
 refine aV (λx=>x.2=(m0,t1,(0,0,[],[],0,0,[]),h)/\(x.1=J->nest=J/\(k=8\/k=9))) ?_ ?_
 .refine aK (λg=>aN (λgn=>?_) λ_=>aj ⟨rfl,λh=>(by cases h)⟩) λ_=>aK (λg=>aN (λgn=>?_) λ_=>aj ⟨rfl,λh=>(by cases h)⟩) λ_=>aj ⟨rfl,λh=>(by cases h)⟩
  all_goals
   dsimp only at g ⊢;rw[w8 (by omega)];refine aR (by omega) (by simp;omega) (aR (by omega) (by simp;omega) (aT ?_));refine ax (DO _ m0 t1 h (by omega)) λy A=>?_
   obtain⟨yb,y2⟩:=y;dsimp only at A;subst A;exact bh (by simp) (aj ⟨rfl,λ_=>⟨gn,by omega⟩⟩)
 rintro⟨b,x⟩ ⟨e,hb⟩;dsimp only at e hb;subst e;refine aN (λa=>?_) λ_=>?_
 .obtain⟨q1,q2⟩:=hb a;have L:=hn q1;have hnm:aJ (T:=.str) [[109],[110]] (k-8)=[109]\/aJ (T:=.str) [[109],[110]] (k-8)=[110]:=by rcases q2 with rfl|rfl<;>simp[aJ]
  dsimp only;rw[w8 (by omega),ed,ed1 L];refine aR (by omega) (by simp;omega) (aR (by omega) (by simp;omega) (aT ?_));refine ax (hB L _ m0 t1 h s1.p (by omega)) λz U=>?_
  obtain⟨l,m3,t3,h3⟩:=z;obtain⟨w1,w2,w3,w4⟩:=U;dsimp only at w1 w2 w3 w4;rw[dd L]at w2;exact bh (by simp) (aj ⟨GS.wo (by omega) (by first|omega|(dsimp only;omega)) w2 (by constructor<;>simp[Sx.op,Sx.name,Sx.index,Sx.arg,Sx.els,Sx.body];exact hnm),s1.trans w3,w4⟩)
 refine aV (λx=>x.2=(m0,t1,(0,0,[],[],0,0,[]),h)/\(x.1=J->nest=J/\(k=10\/k=11))) ?_ ?_
 .refine aK (λg=>aN (λgn=>?_) λ_=>aj ⟨rfl,λh=>(by cases h)⟩) λ_=>aK (λg=>aN (λgn=>?_) λ_=>aj ⟨rfl,λh=>(by cases h)⟩) λ_=>aj ⟨rfl,λh=>(by cases h)⟩
  all_goals
   dsimp only at g ⊢;refine ax (DO _ m0 t1 h (by omega)) λy A=>?_
   obtain⟨yb,y2⟩:=y;dsimp only at A;subst A;exact bh (by simp) (aj ⟨rfl,λ_=>⟨gn,by omega⟩⟩)
 rintro⟨b,x⟩ ⟨e,hb⟩;dsimp only at e hb;subst e;refine aN (λa=>?_) λ_=>?_
 .obtain⟨q1,q2⟩:=hb a;have L:=hn q1;dsimp only;rw[ed,ed1 L,iw (n:=k-10) (by omega) (by omega),iw (n:=k-10+5) (by omega) (by omega)];refine ax (hB L _ m0 t1 h s1.p (by omega)) λz U=>?_
  obtain⟨l,m3,t3,h3⟩:=z;obtain⟨w1,w2,w3,w4⟩:=U;dsimp only at w1 w2 w3 w4;rw[dd L]at w2;exact bh (by simp) (aj ⟨GS.wo (by omega) (by first|omega|(dsimp only;omega)) w2 (by constructor<;>simp[Sx.op,Sx.name,Sx.index,Sx.arg,Sx.els,Sx.body]<;>omega),s1.trans w3,w4⟩)
 refine aV (λx=>x.2=(m0,t1,(0,0,[],[],0,0,[]),h)/\(x.1=J->nest=J)) ?_ ?_
 .exact aK (λ_=>aj ⟨rfl,λg=>g⟩) λ_=>aj ⟨rfl,λh=>(by cases h)⟩
 rintro⟨b,x⟩ ⟨e,hb⟩;dsimp only at e hb;subst e;refine aN (λa=>?_) λ_=>?_
 .have L:=hn (hb a);refine ax (gG 2 t1 s1.p) λy A=>?_
  obtain⟨u1,u2,u3,_⟩:=A;have u3:=u3 (by decide);dsimp only;rw[iw (n:=1+y.1) (by omega) (by omega)];refine ax (h0 L (1+y.1) _ y.2 h (by omega) u1.p (by omega)) λz U=>?_
  obtain⟨m3,t3,h3,l⟩:=z;obtain⟨w1,w2,w3,w4⟩:=U;dsimp only at w1 w2 w3 w4;exact bh (by simp) (aj ⟨GS.wo (by omega) (by first|omega|(dsimp only;omega)) (λx Z=>(w2 x Z).le (by omega)) (by constructor<;>simp[Sx.op,Sx.name,Sx.index,Sx.arg,Sx.els,Sx.body]),s1.trans (u1.trans w3),w4⟩)
 refine aV (λx=>x.2=(m0,t1,(0,0,[],[],0,0,[]),h)/\(x.1=J->nest=J)) ?_ ?_
 .exact aK (λ_=>aN (λgn=>aj ⟨rfl,λ_=>gn⟩) λ_=>aj ⟨rfl,λh=>(by cases h)⟩) λ_=>aj ⟨rfl,λh=>(by cases h)⟩
 rintro⟨b,x⟩ ⟨e,hb⟩;dsimp only at e hb;subst e;refine aN (λa=>?_) λ_=>?_
 .have L:=hn (hb a);dsimp only;rw[ed,ed1 L];refine ax (hS L 2 _ t1 h (by omega) s1.p (by omega)) λz U=>?_
  obtain⟨m3,t3,h3,l⟩:=z;obtain⟨w1,w2,w3,w4⟩:=U;dsimp only at w1 w2 w3 w4;rw[dd L]at w2;exact bh (by simp) (aj ⟨GS.wo (by omega) (by first|omega|(dsimp only;omega)) w2 (by constructor<;>simp[Sx.op,Sx.name,Sx.index,Sx.arg,Sx.els,Sx.body]),s1.trans w3,w4⟩)
 refine aV (λx=>x.2=(m0,t1,(0,0,[],[],0,0,[]),h)/\(x.1=J->nest=J)) ?_ ?_
 .refine aK (λ_=>aN (λgn=>aN (λ_=>?_) λ_=>aj ⟨rfl,λh=>(by cases h)⟩) λ_=>aj ⟨rfl,λh=>(by cases h)⟩) λ_=>aj ⟨rfl,λh=>(by cases h)⟩
  refine ax (DO _ m0 t1 h (by omega)) λy A=>?_
  obtain⟨yb,y2⟩:=y;dsimp only at A;subst A;exact bh (by simp) (aj ⟨rfl,λ_=>gn⟩)
 rintro⟨b,x⟩ ⟨e,hb⟩;dsimp only at e hb;subst e;refine aN (λa=>?_) λ_=>?_
 .have L:=hn (hb a);refine aS (IL _) (aS (uC _ _) (aj ?_));dsimp only;rw[fE,zL];refine ⟨GS.wo (by omega) (by simp) (λx Z=>?_) (by constructor<;>simp[Sx.op,Sx.name,Sx.index,Sx.arg,Sx.els,Sx.body]),s1,rfl⟩;simp only[bm,cF,gu]at Z;rw[<- dd L];rcases Z with rfl|rfl
  .exact GS.wo (by omega) (by simp) (λx Z=>(by cases Z)) (by constructor<;>simp[Sx.op,Sx.name,Sx.index,Sx.arg,Sx.els,Sx.body])
  .exact GS.asg (by decide) (GE.nm (by decide) 3)
 refine aV (λx=>x.2=(m0,t1,(0,0,[],[],0,0,[]),h)/\(x.1=J->nest=J)) ?_ ?_
 .refine aK (λ_=>aN (λgn=>?_) λ_=>aj ⟨rfl,λh=>(by cases h)⟩) λ_=>aj ⟨rfl,λh=>(by cases h)⟩
  refine ax (DO _ m0 t1 h (by omega)) λy A=>?_
  obtain⟨yb,y2⟩:=y;dsimp only at A;subst A;exact bh (by simp) (aj ⟨rfl,λ_=>gn⟩)
 rintro⟨b,x⟩ ⟨e,hb⟩;dsimp only at e hb;subst e;refine aN (λa=>?_) λ_=>?_
 .have L:=hn (hb a);refine ax (gG 2 t1 s1.p) λy A=>aj ?_
  obtain⟨u1,u2,u3,_⟩:=A;have u3:=u3 (by decide);dsimp only;rw[iw (n:=10+y.1) (by omega) (by omega)];refine ⟨GS.wo (by omega) (by simp) (λx Z=>?_) (by constructor<;>simp[Sx.op,Sx.name,Sx.index,Sx.arg,Sx.els,Sx.body]),s1.trans u1,rfl⟩;simp only[bm,cF,gu]at Z;rw[Z,<-dd L];exact GS.wo (by omega) (by simp) (λx Z=>(by cases Z)) (by constructor<;>simp[Sx.op,Sx.name,Sx.index,Sx.arg,Sx.els,Sx.body]<;>omega)
 refine aV (λx=>x.2=(m0,t1,(0,0,[],[],0,0,[]),h)) ?_ ?_
 .exact aK (λ_=>aN (λ_=>aN (λ_=>aj rfl) λ_=>aj rfl) λ_=>aj rfl) λ_=>aj rfl
 rintro⟨b,x⟩ e;dsimp only at e;subst e;refine aN (λa=>?_) λ_=>?_
 .refine ax (hE 1 _ t1 h (by omega) s1.p) λz U=>?_
  obtain⟨e,m2,t2,h2⟩:=z;obtain⟨v1,v2,v3,v4⟩:=U;dsimp only at v1 v2 v3 v4;subst v2;subst v4;refine bh (by simp) (aj ?_);dsimp only;rw[fE];exact⟨GS.we v1 (by simp) (by simp) (λx Z=>(by cases Z)) (λx Z=>(by cases Z)) (by constructor<;>simp[Sx.op,Sx.name,Sx.index,Sx.arg,Sx.els,Sx.body]),s1.trans v3,rfl⟩
 refine aV (λx=>x.2.1=m0/\vH t1 x.2.2.1/\x.2.2.2.2=h) ?_ ?_
 .refine aK (λ_=>aN (λ_=>?_) λ_=>aj ⟨rfl,vH.refl s1.p,rfl⟩) λ_=>aj ⟨rfl,vH.refl s1.p,rfl⟩
  exact ax (gG 2 t1 s1.p) λy A=>aj ⟨rfl,A.1,rfl⟩
 rintro⟨b,m9,t9,z9,h9⟩ ⟨e1,e2,e3⟩;dsimp only at e1 e2 e3;subst e1;subst e3;refine aN (λa=>?_) λ_=>?_
 .exact aj ⟨GS.wo (by omega) (by simp) (λx Z=>(by cases Z)) (by constructor<;>simp[Sx.op,Sx.name,Sx.index,Sx.arg,Sx.els,Sx.body]),s1.trans e2,rfl⟩
 refine ax (hE 1 _ t9 h9 (by omega) e2.p) λz U=>?_
 obtain⟨e,m2,t2,h2⟩:=z;obtain⟨v1,v2,v3,v4⟩:=U;dsimp only at v1 v2 v3 v4;subst v2;subst v4;refine bh (by simp) (aS (uC _ _) (aj ?_));dsimp only;rw[fE,zL];exact⟨GS.asg (by decide) v1,s1.trans (e2.trans v3),rfl⟩
theorem Oh:∀(n:Nat),(∀d:Nat,d<=5->3*d+1<=n->SpT nT (eO n) d)/\(∀d:Nat,d<=5->3*d+2<=n->SpS nT (dP n) d)/\(∀d:Nat,d<=5->3*d+3<=n->SpB nT (eo n) d)
 |0=>⟨λd _ h=>by omega,λd _ h=>by omega,λd _ h=>by omega⟩
 |n+1=>by
  obtain⟨s,a,z⟩:=Oh n;refine ⟨λd h1 h2=>?_,λd h1 h2=>?_,λd h1 h2=>?_⟩
  .exact aen (dP n) (eO n) (eo n) d h1 (λh=>a 0 (by omega) (by omega)) (λh=>a (d-1) (by omega) (by omega)) (λh=>z (d-1) (by omega) (by omega))
  .exact Z8 (dP n) (eO n) (eo n) d (s d h1 (by omega))
  .exact aa0 (dP n) (eO n) (eo n) d (a d h1 (by omega))
theorem ZJ (d:Nat) (hd:d<=5):SpS nT qW d:=(Oh fuel).2.1 d hd (by rw[kg];omega)
def GX:Nat->Xp->Prop
 |0,_=>False
 |d+1,e=>e.l.length<=2/\∀x∈e.l,GX d x
theorem GE.x:∀{d:Nat} {e:Xp},GE d e->GX d e
 |0,_,h=>h.elim
 |_+1,_,h=>⟨h.2.2.1,λx a=>(h.2.2.2.1 x a).x⟩
theorem ZE.x {e:Xp} (h:ZE e):GX 4 e:=by
 rcases h with h|rfl
 .exact h.x
 .exact⟨by simp[Xp.l],λx a=>(by cases a)⟩
def GT:Nat->Sx->Prop
 |0,_=>False
 |d+1,s=>s.index.length<=1/\(∀e∈s.index,GX 4 e)/\GX 4 s.expr/\s.body.length<=8/\s.els.length<=8/\(∀x∈s.body,GT d x)/\(∀x∈s.els,GT d x)
theorem GS.t {nT:Nat}:∀{d:Nat} {s:Sx},GS nT d s->GT d s
 |0,_,h=>h.elim
 |_+1,_,⟨_,b,c,_,f,g,i,j,k,_⟩=>⟨b,λe he=>(c e he).x,f.x,g,i,λx a=>(j x a).t,λx a=>(k x a).t⟩
theorem yR (s:Sx):oz (Sx.op s,Sx.line s,Sx.name s,Sx.arg s,Sx.index s,eC (Xp.op (Sx.expr s),Xp.n (Sx.expr s),Xp.name (Sx.expr s),Xp.l (Sx.expr s)),Sx.body s,Sx.els s)=s:=by
 rw[fE,zL]
theorem UN (k:Int):Ok (mO k) λ_=>True:=by
 unfold mO bg iZ aD;with_reducible repeat' first|(refine OS.ok ?_;constructor)|refine IM.mk λ_=>?_
 all_goals trivial
theorem rA (e:Xp):Ok (pV e) λ_=>True:=by
 unfold pV bg aD;with_reducible repeat' first|(refine OS.ok ?_;constructor)|refine IM.mk λ_=>?_
 all_goals trivial
theorem Am:∀(n d:Nat) (e:Xp),d<n->GX d e->Ok (ir n e) λ_=>True
 |0,_,_,h,_=>by omega
 |n+1,0,_,_,h=>h.elim
 |n+1,d+1,e,hn,h=>by
  obtain⟨h1,h2⟩:=h;rw[tm];unfold mF bg bw jk bC cQ aD cJ;refine aV (λx=>x.2=e) (aK (λ_=>aj (fE e)) λ_=>aj (fE e)) ?_;rintro⟨b,x⟩ A;dsimp only at A;subst A;refine aV (λy=>y.2=x) ?_ ?_
  .refine ax (UN _) λ_ _=>?_
   with_reducible repeat' first|refine ca (λ_=>?_) λ_=>?_|refine bJ (λ_=>?_) λ_=>?_|refine em (λ_=>?_) λ_=>?_|refine aN (λ_=>?_) λ_=>?_|exact aj (fE x)|refine ax (iK _) λ_ _=>?_
  rintro⟨L,y⟩ s;dsimp only at s;subst s;refine aN (λ_=>aj trivial) λ_=>?_
  refine bZ y.l.length (λi x=>x.1=(i:Int)/\x.2=y) ?_ ?_ ⟨rfl,fE y⟩
  .rintro i ⟨a,z⟩ hi ⟨e1,e2⟩;dsimp only at e1 e2;subst e1;subst e2;refine dh ?_;refine b7 (aT ?_);refine ax (Am n d _ (by omega) (h2 _ (bN (T:=.ex) (xs:=z.l) (j:=(i:Int)) (by omega) (by omega)))) λ_ _=>?_
   refine em (λ_=>aj trivial) λ_=>aj ?_
   dsimp only;exact⟨gw (by omega),fE z⟩
  .rintro⟨a,z⟩ ⟨e1,e2⟩;dsimp only at e1 e2;subst e1;subst e2;exact di (aj trivial)
theorem gD (e:Xp) (h:GX 4 e):Ok (ju e) λ_=>True:=Am fuel 4 e (by rw[kg];omega) h
theorem Mr (d:Int×Int×ζ×Int×Int×ζ):Ok (kw d) λ_=>True:=by
 unfold kw aY bi cI fG bg bw jk aD;refine aV (λ_=>True) ?_ λx _=>aN (λ_=>aj trivial) λ_=>?_
 .with_reducible repeat' first|refine ca (λ_=>?_) λ_=>?_|refine bJ (λ_=>?_) λ_=>?_|refine em (λ_=>?_) λ_=>?_|exact aj trivial|refine ax (iK _) λ_ _=>?_
 refine aV (λ_=>True) ?_ λx _=>aN (λ_=>aj trivial) λ_=>?_
 .with_reducible repeat' first|refine ca (λ_=>?_) λ_=>?_|refine aK (λ_=>?_) λ_=>?_|refine em (λ_=>?_) λ_=>?_|exact aj trivial|refine ax (iK _) λ_ _=>?_
 with_reducible repeat' first|(refine OS.ok ?_;constructor)|refine IM.mk λ_=>?_
 all_goals trivial
theorem Ie (a:Sx->I Bool) (rs:Y Sx->I Bool) (l:Y Sx) (hl:l.length<=1000) (h:∀s∈l,Ok (a s) λ_=>True):Ok (jL a rs l) λ_=>True:=by
 unfold jL bw wQ aX cQ aD cJ;refine bZ l.length (λi x=>x=(i:Int)) ?_ ?_ rfl
 .rintro i x hi rfl;refine dh ?_;refine b7 ?_;refine ax (h _ (bN (T:=.sm) (xs:=l) (j:=(i:Int)) (by omega) (by omega))) λ_ _=>?_
  exact em (λ_=>aj trivial) λ_=>aj (gw (by omega))
 .rintro x rfl;exact di (aj trivial)
theorem Kp (z:Sx->I Bool) (rs:Y Sx->I Bool) (s:Sx) (h1:∀e∈s.index,GX 4 e) (h2:GX 4 s.expr) (hb:Ok (rs s.body) λ_=>True) (he:Ok (rs s.els) λ_=>True):Ok (ky z rs s) λ_=>True:=by
 unfold ky bg bw iZ jk bC aD eD;refine aV (λx=>x.2=s) ?_ ?_
 .with_reducible repeat' first|refine ca (λ_=>?_) λ_=>?_|refine aK (λ_=>?_) λ_=>?_|refine bJ (λ_=>?_) λ_=>?_|refine fc (λ_=>?_) λ_=>?_|refine em (λ_=>?_) λ_=>?_|refine aN (λ_=>?_) λ_=>?_|exact aj (yR _)|refine ax (iK _) λ_ _=>?_|refine ax (rA _) λ_ _=>?_|refine ax (gD _ h2x) λ_ _=>?_
 rintro⟨b,x⟩ a;dsimp only at a;have a:=a.symm;subst a;refine aN (λ_=>aj trivial) λ_=>?_
 refine aV (λx=>x.2=s) ?_ ?_
 .with_reducible repeat' first|refine ca (λ_=>?_) λ_=>?_|refine aK (λ_=>?_) λ_=>?_|refine bJ (λ_=>?_) λ_=>?_|refine fc (λ_=>?_) λ_=>?_|refine em (λ_=>?_) λ_=>?_|refine aN (λ_=>?_) λ_=>?_|exact aj (yR _)|refine ax (iK _) λ_ _=>?_|refine ax (rA _) λ_ _=>?_|refine ax (gD _ h2x) λ_ _=>?_
 rintro⟨b,x⟩ a;dsimp only at a;have a:=a.symm;subst a;refine aV (λx=>x.2=s) ?_ ?_
 .with_reducible repeat' first|refine ca (λ_=>?_) λ_=>?_|refine aK (λ_=>?_) λ_=>?_|refine bJ (λ_=>?_) λ_=>?_|refine fc (λ_=>?_) λ_=>?_|refine em (λ_=>?_) λ_=>?_|refine aN (λ_=>?_) λ_=>?_|exact aj (yR _)|refine ax (iK _) λ_ _=>?_|refine ax (rA _) λ_ _=>?_|refine ax (gD _ h2x) λ_ _=>?_
 rintro⟨b,x⟩ a;dsimp only at a;have a:=a.symm;subst a;refine aN (λ_=>aj trivial) λ_=>?_
 refine aV (λx=>x.2=s) ?_ ?_
 .with_reducible repeat' first|refine ca (λ_=>?_) λ_=>?_|refine aK (λ_=>?_) λ_=>?_|refine bJ (λ_=>?_) λ_=>?_|refine fc (λ_=>?_) λ_=>?_|refine em (λ_=>?_) λ_=>?_|refine aN (λ_=>?_) λ_=>?_|exact aj (yR _)|refine ax (iK _) λ_ _=>?_|refine ax (rA _) λ_ _=>?_|refine ax (gD _ h2x) λ_ _=>?_
 rintro⟨b,x⟩ a;dsimp only at a;have a:=a.symm;subst a;refine aN (λ_=>aj trivial) λ_=>?_
 refine aV (λx=>x.2=s) ?_ ?_
 .with_reducible repeat' first|refine ca (λ_=>?_) λ_=>?_|refine aK (λ_=>?_) λ_=>?_|refine bJ (λ_=>?_) λ_=>?_|refine fc (λ_=>?_) λ_=>?_|refine em (λ_=>?_) λ_=>?_|refine aN (λ_=>?_) λ_=>?_|exact aj (yR _)|refine ax (iK _) λ_ _=>?_|refine ax (rA _) λ_ _=>?_|refine ax (gD _ h2x) λ_ _=>?_
  all_goals
   rename_i g;dsimp only[ak]at g;refine b7 (aT ?_);refine ax (gD _ (h1 _ (bN (T:=.ex) (xs:=Sx.index _) (j:=0) (by omega) (by omega)))) λ_ _=>aj (yR _)
 rintro⟨b,x⟩ a;dsimp only at a;have a:=a.symm;subst a;refine aN (λ_=>aj trivial) λ_=>?_
 refine aV (λx=>x.2=s) ?_ ?_
 .with_reducible repeat' first|refine ca (λ_=>?_) λ_=>?_|refine aK (λ_=>?_) λ_=>?_|refine bJ (λ_=>?_) λ_=>?_|refine fc (λ_=>?_) λ_=>?_|refine em (λ_=>?_) λ_=>?_|refine aN (λ_=>?_) λ_=>?_|exact aj (yR _)|refine ax (iK _) λ_ _=>?_|refine ax (rA _) λ_ _=>?_|refine ax (gD _ h2x) λ_ _=>?_
 rintro⟨b,x⟩ a;dsimp only at a;have a:=a.symm;subst a;refine aV (λx=>x.2=s) ?_ ?_
 .have h2x:GX 4 (eC (Xp.op (Sx.expr s),Xp.n (Sx.expr s),Xp.name (Sx.expr s),Xp.l (Sx.expr s))):=by rw[fE];exact h2
  with_reducible repeat' first|refine ca (λ_=>?_) λ_=>?_|refine aK (λ_=>?_) λ_=>?_|refine bJ (λ_=>?_) λ_=>?_|refine fc (λ_=>?_) λ_=>?_|refine em (λ_=>?_) λ_=>?_|refine aN (λ_=>?_) λ_=>?_|exact aj (yR _)|refine ax (iK _) λ_ _=>?_|refine ax (rA _) λ_ _=>?_|refine ax (gD _ h2x) λ_ _=>?_
 rintro⟨b,x⟩ a;dsimp only at a;have a:=a.symm;subst a;refine aN (λ_=>aj trivial) λ_=>?_
 refine aV (λx=>x.2=s) ?_ ?_
 .with_reducible repeat' first|refine ca (λ_=>?_) λ_=>?_|refine aK (λ_=>?_) λ_=>?_|refine bJ (λ_=>?_) λ_=>?_|refine fc (λ_=>?_) λ_=>?_|refine em (λ_=>?_) λ_=>?_|refine aN (λ_=>?_) λ_=>?_|exact aj (yR _)|refine ax (iK _) λ_ _=>?_|refine ax (rA _) λ_ _=>?_|refine ax (gD _ h2x) λ_ _=>?_
 rintro⟨b,x⟩ a;dsimp only at a;have a:=a.symm;subst a;refine aV (λx=>x.2=s) ?_ ?_
 .with_reducible repeat' first|refine ca (λ_=>?_) λ_=>?_|refine aK (λ_=>?_) λ_=>?_|refine bJ (λ_=>?_) λ_=>?_|refine fc (λ_=>?_) λ_=>?_|refine em (λ_=>?_) λ_=>?_|refine aN (λ_=>?_) λ_=>?_|exact aj (yR _)|refine ax (iK _) λ_ _=>?_|refine ax (rA _) λ_ _=>?_|refine ax (gD _ h2x) λ_ _=>?_
 rintro⟨b,x⟩ a;dsimp only at a;have a:=a.symm;subst a;refine aN (λ_=>aj trivial) λ_=>?_
 refine aV (λ_=>True) ?_ λ_ _=>aj trivial
 refine ax hb λ_ _=>aN (λ_=>ax he λ_ _=>aj trivial) λ_=>aj trivial
theorem Kv:∀(n:Nat),(∀(d:Nat) (s:Sx),2*d<n->GT d s->Ok (eL n s) λ_=>True)/\(∀(d:Nat) (l:Y Sx),2*d+1<n->l.length<=1000->(∀s∈l,GT d s)->Ok (dN n l) λ_=>True)
 |0=>⟨λd _ h=>by omega,λd _ h=>by omega⟩
 |n+1=>by
  obtain⟨z,a⟩:=Kv n;refine ⟨λd s hd h=>?_,λd l hd hl h=>?_⟩
  .cases d with
   |zero=>exact h.elim
   |succ d=>
    obtain⟨_,Z,U,g4,g5,L,A⟩:=h;exact Kp (eL n) (dN n) s Z U (a d _ (by omega) (by omega) L) (a d _ (by omega) (by omega) A)
  .exact Ie (eL n) (dN n) l hl λs hs=>z d s (by omega) (h s hs)
theorem L3 (d:Nat) (hd:d<=100) (l:Y Sx) (hl:l.length<=1000) (h:∀s∈l,GT d s):Ok (ox l) λ_=>True:=(Kv fuel).2 d l (by rw[kg];omega) hl h
abbrev DT:Type:=Int×Int×ζ×Int×Int×ζ
abbrev HT:Type:=ζ×Int×Y ζ×Y Sx
abbrev PG:Type:=Y DT×Y HT
structure PX (p:PG):Prop where
 d:p.1.length<=100
 t:p.2.length<=8
 l:∀t∈p.2,t.2.2.1.length<=100
 b:∀t∈p.2,t.2.2.2.length<=100
 s:∀t∈p.2,∀s∈t.2.2.2,GT 5 s
theorem abf (p:PG) (h:PX p):Ok (qr p) λ_=>True:=by
 obtain⟨hd,ht,hl,hb,hs⟩:=h;unfold qr aY bx cY bw bC aX cQ aD cJ;refine bZ p.1.length (λi x=>x.1=(i:Int)/\x.2=p) ?_ ?_ ⟨rfl,rfl⟩
 .rintro i ⟨a,x⟩ hi ⟨e1,e2⟩;dsimp only at e1 e2;subst e1;subst e2;refine dh ?_;refine b7 (aT ?_);refine ax (Mr _) λ_ _=>?_
  exact em (λ_=>aj trivial) λ_=>aj ⟨gw (by omega),rfl⟩
 rintro⟨a,x⟩ ⟨e1,e2⟩;dsimp only at e1 e2;subst e1;subst e2;refine di ?_;refine ax (P:=λ_=>True) ?_ λ_ _=>aj trivial
 refine bZ x.2.length (λi y=>y.1=(i:Int)/\y.2=x) ?_ ?_ ⟨rfl,rfl⟩
 .rintro i ⟨a,x⟩ hi ⟨e1,e2⟩;dsimp only at e1 e2;subst e1;have e2:=e2.symm;subst e2;refine dh ?_;refine b7 (aT ?_);have hm:=bN (T:=zJ) (xs:=x.2) (j:=(i:Int)) (by omega) (by omega);have h1:=hl _ hm;have h2:=hb _ hm;have L:=hs _ hm;revert h1 h2 L;generalize (aJ (T:=zJ) x.2 (i:Int))=t;intro h1 h2 L;refine bZ t.2.2.1.length (λk y=>y.1=(k:Int)/\y.2=(x,t)) ?_ ?_ ⟨rfl,rfl⟩
  .rintro k ⟨a,z⟩ hk ⟨A,s⟩;dsimp only at A s;subst A;subst s;refine dh ?_;refine b7 (aT ?_);refine ax (iK _) λ_ _=>?_
   exact em (λ_=>aj trivial) λ_=>aj ⟨gw (by omega),rfl⟩
  .rintro⟨a,z⟩ ⟨A,s⟩;dsimp only at A s;subst A;subst s;refine di ?_;refine ax (P:=λr=>match r with|.inl y=>y.1=((i+1:Nat):Int)/\y.2=x|.inr _=>True) ?_ ?_
   .refine aV (λy=>y.2=x) ?_ ?_
    .refine ax (iK _) λ_ _=>em (λ_=>aj rfl) λ_=>?_
     exact ax (L3 5 (by omega) _ (by dsimp only;omega) L) λ_ _=>aj rfl
    rintro⟨b,y⟩ e;dsimp only at e;subst e;exact aN (λ_=>aj trivial) λ_=>aj ⟨gw (by omega),rfl⟩
   .rintro (y|y) U
    .exact aj U
    .exact aj trivial
 .rintro⟨a,y⟩ ⟨e1,e2⟩;dsimp only at e1 e2;subst e1;subst e2;exact di (aj trivial)
theorem xN (l:Y DT) (s:ζ) (hl:l.length<=1000):Ok (ip (l,s)) λr=> -1<=r/\r<(l.length:Int):=by
 unfold ip bw bC aX cQ aD cJ;refine bZ l.length (λi x=>x=(i:Int)) ?_ ?_ rfl
 .rintro i x hi rfl;refine dh ?_;refine b7 (aT ?_);exact aK (λ_=>aj ⟨by omega,by omega⟩) λ_=>aj (gw (by omega))
 .rintro x rfl;exact di (aj ⟨by omega,by omega⟩)
theorem tD (l:Y HT) (s:ζ) (hl:l.length<=1000):Ok (hX (l,s)) λr=> -1<=r/\r<(l.length:Int):=by
 unfold hX bw bC aX cQ aD cJ;refine bZ l.length (λi x=>x=(i:Int)) ?_ ?_ rfl
 .rintro i x hi rfl;refine dh ?_;refine b7 (aT ?_);exact aK (λ_=>aj ⟨by omega,by omega⟩) λ_=>aj (gw (by omega))
 .rintro x rfl;exact di (aj ⟨by omega,by omega⟩)
def DD (p:PG) (s:ζ):Prop:=∃v,ip (p.1,s)=M v/\0<=v/\v<(p.1.length:Int)
theorem abs (p:PG) (h:PX p) (t:Int) (s:ζ):Ok (qp (p,t,s)) λk=>k≠0->k≠7->k≠8->DD p s:=by
 have hd:=h.d;have ht:=h.t;unfold qp bg bw iZ jk wQ bC aX aD;refine aV (λx=>x.2=p) ?_ ?_
 .refine fc (λL=>bJ (λA=>?_) λ_=>aj rfl) λ_=>aj rfl
  dsimp only[ak]at L A;refine aR L A (aT ?_);have hm:=h.l _ (bN (T:=zJ) (xs:=p.2) (j:=t) L A);exact ax (zo _ s (dy hm (by omega))) λ_ _=>aj rfl
 rintro⟨b,x⟩ e;dsimp only at e;have e:=e.symm;subst e;refine aN (λ_=>aj λ_ _ h=>(h rfl).elim) λ_=>?_
 obtain⟨v,hv,v0,z⟩:=xN p.1 s (by omega);refine aS hv ?_;refine bJ (λ_=>?_) λg=>?_
 .exact ax (tD p.2 s (by omega)) λ_ _=>fc (λ_=>aj λ_ h=>(h rfl).elim) λ_=>aj λh=>(h rfl).elim
 have a:DD p s:=⟨v,hv,g,z⟩
 refine aR g z (aT ?_);refine aK (λ_=>?_) λ_=>?_
 .exact aR g z (aT (ca (λ_=>aj λ_ _ _=>a) λ_=>aj λ_ _ _=>a))
 refine aK (λ_=>aj λ_ _ _=>a) λ_=>?_
 refine aV (λx=>x.2=p) (aK (λ_=>aj rfl) λ_=>aK (λ_=>aj rfl) λ_=>aK (λ_=>aj rfl) λ_=>aj rfl) ?_;rintro⟨b,x⟩ e;dsimp only at e;have e:=e.symm;subst e;exact aN (λ_=>aR g z (aT (aj λ_ _ _=>a))) λ_=>aj λ_ _ _=>a
theorem pw (p:PG) (h:PX p) (t:Int) (s:ζ) (a b:Int):Ok (gQ (p,t,s,a,b)) λr=>r=0->(a≠7/\a≠8)->(b≠7/\b≠8)->DD p s:=by
 unfold gQ aY bi dG bg jk aD;refine ax (abs p h t s) λk hk=>?_
 refine aK (λ_=>aj λh=>(by cases h)) λg=>?_
 refine aV (λx=>x=af->k=a\/k=b) ?_ ?_
 .refine ca (λ_=>aj λh=>?_) λh=>aj λ_=>.inl h
  simp at h;exact .inr h
 rintro x z;refine aN (λ_=>aj λh=>(by cases h)) λh=>aj λ_ h1 h2=>hk g ?_ ?_
 .rcases z h with h|h<;>omega
 .rcases z h with h|h<;>omega
theorem Oi:∀(n d:Nat) (e:Xp),d<n->GX d e->Ok (nZ n e) λ_=>True
 |0,_,_,h,_=>by omega
 |n+1,0,_,_,h=>h.elim
 |n+1,d+1,e,hn,h=>by
  obtain⟨h1,h2⟩:=h;rw[yY];unfold vg bw bC cQ aD cJ;refine bZ e.l.length (λi x=>x.1.2.2=(i:Int)/\x.2=e) ?_ ?_ ⟨rfl,fE e⟩
  .rintro i ⟨⟨a,b,c⟩,z⟩ hi ⟨e1,e2⟩;dsimp only at e1 e2;subst e1;subst e2;refine dh ?_;refine b7 (aT ?_);refine ax (Oi n d _ (by omega) (h2 _ (bN (T:=.ex) (xs:=z.l) (j:=(i:Int)) (by omega) (by omega)))) λ_ _=>aj ?_
   exact⟨gw (by omega),fE z⟩
  .rintro⟨⟨a,b,c⟩,z⟩ ⟨e1,e2⟩;dsimp only at e1 e2;subst e1;subst e2;exact di (aj trivial)
theorem G5 (p:PG) (hp:PX p) (t:Int):∀(n d:Nat) (e:Xp),d<n->GX d e->Ok (nY n (p,t,e)) λ_=>True
 |0,_,_,h,_=>by omega
 |n+1,0,_,_,h=>h.elim
 |n+1,d+1,e,hn,h=>by
  obtain⟨h1,h2⟩:=h;rw[yX];unfold ve bg bw bC cQ aD cJ;refine aV (λx=>x.2.1=p/\x.2.2=e) ?_ ?_
  .refine aK (λ_=>ax (pw p hp t _ _ _) λ_ _=>aj ⟨rfl,fE e⟩) λ_=>aK (λ_=>ax (pw p hp t _ _ _) λ_ _=>aj ⟨rfl,fE e⟩) λ_=>aj ⟨rfl,fE e⟩
  rintro⟨r,A,e'⟩ ⟨z,s⟩;dsimp only at z s;have z:=z.symm;subst z;have s:=s.symm;subst s;refine qK (λx=>((e.l.length:Int)-x.1.2).toNat) (λx=>0<=x.1.2/\x.2.1=p/\x.2.2=e) ?_ ⟨dx _,rfl,fE e⟩;rintro⟨⟨a,(b:Int)⟩,A,e'⟩ ⟨b0,z,s⟩;dsimp only at b0 z s;have z:=z.symm;subst z;have s:=s.symm;subst s;refine aV (λx=>x.2.1=p/\x.2.2=e/\(x.1=J->b<(e.l.length:Int))) ?_ ?_
  .exact bJ (λg=>aj ⟨rfl,fE e,λ_=>g⟩) λ_=>aj ⟨rfl,fE e,λh=>(by cases h)⟩
  rintro⟨c,A,e'⟩ ⟨z,s,f3⟩;dsimp only at z s f3;have z:=z.symm;subst z;have s:=s.symm;subst s;refine aN (λhc=>?_) λ_=>aj trivial
  have g:=f3 hc;refine aR b0 g (aT ?_);refine ax (G5 p hp t n d _ (by omega) (h2 _ (bN (T:=.ex) (xs:=e.l) (j:=b) b0 g))) λ_ _=>aj ?_
  dsimp only;rw[iw (n:=b+1) (by omega) (by omega)];exact⟨⟨by omega,rfl,fE e⟩,by omega⟩
theorem xM (p:PG) (hp:PX p) (t:Int) (e:Xp) (h:GX 4 e):Ok (mN (p,t,e)) λ_=>True:=by
 unfold mN bw aD;have z:GX 4 (eC (Xp.op e,Xp.n e,Xp.name e,Xp.l e)):=by rw[fE];exact h
 refine ax (gD _ z) λ_ _=>em (λ_=>aj trivial) λ_=>?_
 refine ax (Oi fuel 4 _ (by rw[kg];omega) z) λ_ _=>?_
 refine aV (λx=>x.2.1=p/\x.2.2=e) (bJ (λ_=>aj ⟨rfl,fE e⟩) λ_=>aj ⟨rfl,fE e⟩) ?_;rintro⟨r,A,e'⟩ ⟨s,a⟩;dsimp only at s a;have s:=s.symm;subst s;have a:=a.symm;subst a;exact aN (λ_=>aj trivial) λ_=>ax (G5 p hp t fuel 4 _ (by rw[kg];omega) z) λ_ _=>aj trivial
theorem fO (b:Bool):Ok (dj b) λ_=>True:=by
 unfold dj;exact aN (λ_=>aj trivial) λ_=>aj trivial
theorem uG (x:ν):Ok (jp x) λr=>r=0->x.1=0/\x.2=0:=by
 unfold jp jk;exact ca (λh=>aj λh2=>(h h2).elim) λh=>aj λh2=>⟨h,h2⟩
abbrev WK:Type:=(Y DT×Y HT×Int)×(Bool×Y Sx)×Y ζ×Y ζ
theorem ZN (a b:Int) (s:ζ) (w:WK) (h:w.2.1.2.length<=100):Ok (ef ((a,b,s),w)) λy=>y.2=w:=by
 unfold ef aY bg bw kZ aX cQ aD cJ;refine bZ w.2.1.2.length (λi x=>x.1=(i:Int)/\x.2=w) ?_ ?_ ⟨rfl,rfl⟩
 .rintro i ⟨c,x⟩ hi ⟨e1,e2⟩;dsimp only at e1 e2;subst e1;have e2:=e2.symm;subst e2;refine dh ?_;refine b7 (b7 (aT ?_));refine aV (λx=>x.2=w) ?_ ?_
  .refine aK (λ_=>aK (λ_=>aj rfl) λ_=>aj rfl) λ_=>aK (λ_=>aK (λ_=>aj rfl) λ_=>aj rfl) λ_=>aj rfl
  rintro⟨c,x⟩ e;dsimp only at e;have e:=e.symm;subst e;exact aN (λ_=>aj rfl) λ_=>aj ⟨gw (by omega),rfl⟩
 .rintro⟨c,x⟩ ⟨e1,e2⟩;dsimp only at e1 e2;subst e1;have e2:=e2.symm;subst e2;exact di (aj rfl)
def Rn:Nat->Sx->Nat
 |0,_=>0
 |d+1,s=>1+(s.body.map (Rn d)).sum+(s.els.map (Rn d)).sum
def og (d:Nat) (l:Y Sx):Nat:=(l.map (Rn d)).sum
def KS:Nat->Nat
 |0=>0
 |d+1=>1+16*KS d
theorem Pf {α:Type} {f:α->Nat} {k:Nat}:∀{l:Y α},(∀x∈l,f x<=k)->(l.map f).sum<=l.length*k
 |[],_=>by simp
 |x::r,h=>by
  have:=Pf (l:=r) λy a=>h y (cC _ a)
  have:=h x (c9 ..);rw[eV,List.sum_cons,cg,jf];omega
theorem Xs:∀{d:Nat} {s:Sx},GT d s->Rn d s<=KS d
 |0,_,h=>h.elim
 |d+1,s,⟨_,_,_,Z,U,L,A⟩=>by
  have a:=Pf (f:=Rn d) (l:=s.body) λx z=>Xs (L x z)
  have b:=Pf (f:=Rn d) (l:=s.els) λx z=>Xs (A x z)
  have c:=cR (KS d) Z;have e:=cR (KS d) U;show 1+_+_<=1+16*KS d;omega
theorem QK:∀{d:Nat} {s:Sx},GT d s->Rn (d+1) s=Rn d s
 |0,_,h=>h.elim
 |d+1,s,⟨_,_,_,_,_,A,z⟩=>by
  show 1+(s.body.map (Rn (d+1))).sum+(s.els.map (Rn (d+1))).sum=1+(s.body.map (Rn d)).sum+(s.els.map (Rn d)).sum;rw[iL λx a=>QK (A x a),iL λx a=>QK (z x a)]
theorem af5 {d:Nat} {l:Y Sx} (h:∀s∈l,GT d s):og d l<=l.length*KS d:=Pf λx a=>Xs (h x a)
theorem xD {d:Nat} {l:Y Sx} {i:Nat} (hi:i<l.length):og d (l.take (i+1))=og d (l.take i)+Rn d (aJ (T:=.sm) l (i:Int)):=by
 unfold og;rw[nu (T:=.sm) hi,cM,Gv];simp
theorem QL {d:Nat} (l:Y Sx) (i:Nat):og d (l.take i)<=og d l:=by
 conv=>rhs;rw[<- Cg i l]
 unfold og;rw[cM,Gv];omega
theorem FW:∀(n d:Nat) (l:Y Sx),d<n->l.length<=1000->(∀s∈l,GT d s)->KS d<=100000->n_ n l=M ((og d l:Nat):Int)
 |0,_,_,h,_,_,_=>by omega
 |n+1,d,l,hn,hl,h,A=>by
  refine cf ?_;rw[yZ];unfold vh bw wQ aX cQ aD cJ;have hb:=af5 h;have z:=Nat.mul_le_mul hl A;refine bZ l.length (λi x=>x.2=(i:Int)/\x.1=(l.length:Int)-i+(og d (l.take i):Nat)) ?_ ?_ ⟨rfl,by simp[og]⟩
  .rintro i ⟨a,b⟩ hi ⟨e1,e2⟩;dsimp only at e1 e2;subst e1;subst e2;have hp:=QL (d:=d) l (i+1);rw[xD hi]at hp;refine dh ?_;refine b7 (aT ?_);rw[xD hi];have hm:=h _ (bN (T:=.sm) (xs:=l) (j:=(i:Int)) (by omega) (by omega));revert hm hp;generalize (aJ (T:=.sm) l (i:Int))=s;intro hp hm;cases d with
   |zero=>exact hm.elim
   |succ d=>
    obtain⟨_,_,_,g4,Z,U,L⟩:=hm;have hk:KS (d+1)=1+16*KS d:=rfl;have hc:Rn (d+1) s=1+og d s.body+og d s.els:=rfl;rw[hc]at hp ⊢;refine aS (FW n d _ (by omega) (by omega) U (by omega)) ?_;refine b7 (aT ?_);refine aS (FW n d _ (by omega) (by omega) L (by omega)) (aj ⟨gw (by omega),?_⟩);dsimp only;rw[iw (n:=(l.length:Int)-i+(og (d+1) (l.take i):Nat)+(og d s.body:Nat)) (by omega) (by omega),iw (by omega) (by omega)];omega
  .rintro⟨a,b⟩ ⟨e1,e2⟩;dsimp only at e1 e2;subst e1;subst e2;rw[cO];exact di (aj (by dsimp only;omega))
theorem WM (l:Y DT) (hl:l.length<=100):Ok (r7 l) λ_=>True:=by
 unfold r7 aY bi bx bP dG fG bg bw iZ jk bB bC aX cQ aD cJ;refine bZ l.length (λi x=>x.2.2.2.2=(i:Int)) ?_ ?_ rfl
 .rintro i ⟨a,b,c,d,e⟩ hi e1;dsimp only at e1;subst e1;refine dh ?_;refine aV (λ_=>True) ?_ λx _=>aj (gw (by omega))
  refine b7 (aT ?_);have htk:(dQ (aQ (i:Int)) l).length<=100:=by rw[bM];omega
  refine dc (dI (by dsimp only;omega) (dI (by dsimp only;omega) ?_));refine ax (xN _ _ (dy htk (by omega))) λv hv=>?_
  refine fc (λ_=>aj trivial) λ_=>bJ (λ_=>aj trivial) λ_=>?_
  refine aV (λ_=>True) ?_ λx _=>?_
  .refine aV (λ_=>True) (aK (λ_=>aj trivial) λ_=>aj trivial) λx _=>aN (λ_=>aj trivial) λ_=>?_
   refine aV (λ_=>True) (aK (λ_=>aj trivial) λ_=>aj trivial) λx _=>aN (λ_=>aj trivial) λ_=>?_
   exact aK (λ_=>aj trivial) λ_=>aj trivial
  refine aV (λ_=>True) (bJ (λ_=>aj trivial) λ_=>bJ (λ_=>aj trivial) λ_=>bJ (λ_=>aj trivial) λ_=>aj trivial) λx _=>aN (λ_=>aj trivial) λ_=>?_
  refine aK (λ_=>?_) λ_=>aj trivial
  refine dc (dI (by dsimp only;omega) (dI (by dsimp only;omega) ?_));refine ax (xN _ _ (dy htk (by omega))) λv hv=>?_
  refine bJ (λ_=>aj trivial) λg=>?_
  have h2:=hv.2;rw[bM]at h2;exact aR g (by dsimp only at h2 ⊢;omega) (aT (ca (λ_=>aj trivial) λ_=>aj trivial))
 .rintro⟨a,b,c,d,e⟩ e1;dsimp only at e1;subst e1;exact di (aj trivial)
theorem Pc (p:PG) (h:PX p):Ok (ov p) λ_=>True:=by
 have hd:=h.d;have ht:=h.t;unfold ov aY bi bx bw iZ bB bC aX cQ aD cJ;refine bZ p.2.length (λi x=>x.1=(i:Int)/\x.2=p) ?_ ?_ ⟨rfl,rfl⟩
 .rintro i ⟨a,x⟩ hi ⟨e1,e2⟩;dsimp only at e1 e2;subst e1;have e2:=e2.symm;subst e2;refine dh ?_;refine b7 (aT ?_);refine aV (λx=>x.2.1=p) ?_ ?_
  .refine ax (xN _ _ (by dsimp only;omega)) λv hv=>fc (λ_=>aj rfl) λ_=>?_
   refine dc (dI (by dsimp only;omega) (dI (by dsimp only;omega) ?_));exact ax (tD _ _ (by rw[bM];dsimp only;omega)) λ_ _=>aj rfl
  rintro⟨b,x,z⟩ e;dsimp only at e;have e:=e.symm;subst e;exact aN (λ_=>aj trivial) λ_=>aj ⟨gw (by omega),rfl⟩
 rintro⟨a,x⟩ ⟨e1,e2⟩;dsimp only at e1 e2;subst e1;have e2:=e2.symm;subst e2;refine di ?_;refine ax (P:=λ_=>True) ?_ λ_ _=>aj trivial
 refine bZ p.2.length (λi x=>x.1=(i:Int)/\x.2=p) ?_ ?_ ⟨rfl,rfl⟩
 .rintro i ⟨a,x⟩ hi ⟨e1,e2⟩;dsimp only at e1 e2;subst e1;have e2:=e2.symm;subst e2;refine dh ?_;refine b7 (aT ?_);have hm:=h.l _ (bN (T:=zJ) (xs:=p.2) (j:=(i:Int)) (by omega) (by omega));revert hm;generalize (aJ (T:=zJ) p.2 (i:Int))=t;intro hm;refine bJ (λ_=>aj trivial) λ_=>?_
  refine bZ t.2.2.1.length (λk y=>y.1=(k:Int)/\y.2=(p,t)) ?_ ?_ ⟨rfl,rfl⟩
  .rintro k ⟨a,z⟩ hk ⟨A,s⟩;dsimp only at A s;subst A;subst s;refine dh ?_;refine b7 (aT ?_);refine aV (λx=>x.2=(p,t)) ?_ ?_
   .refine ax (xN _ _ (by dsimp only;omega)) λv hv=>fc (λ_=>aj rfl) λ_=>?_
    refine ax (tD _ _ (by dsimp only;omega)) λv hv=>fc (λ_=>aj rfl) λ_=>?_
    refine dc (dI (by dsimp only;omega) (dI (by dsimp only;omega) ?_));exact ax (zo _ _ (by rw[bM];dsimp only;omega)) λ_ _=>aj rfl
   rintro⟨b,x⟩ e;dsimp only at e;subst e;exact aN (λ_=>aj trivial) λ_=>aj ⟨gw (by omega),rfl⟩
  .rintro⟨a,z⟩ ⟨A,s⟩;dsimp only at A s;subst A;subst s;exact di (aj ⟨gw (by omega),rfl⟩)
 .rintro⟨a,x⟩ ⟨e1,e2⟩;dsimp only at e1 e2;subst e1;have e2:=e2.symm;subst e2;exact di (aj trivial)
structure WQ (w:WK) (y:Int×WK):Prop where
 p:y.2.1=w.1
 a:y.2.2.1=w.2.1
 s:y.2.2.2.1.length<=w.2.2.1.length+1
 t:y.2.2.2.2.length<=w.2.2.2.length+1
theorem WQ.same (w:WK) (e:Int):WQ w (e,w):=⟨rfl,rfl,Nat.le_succ _,Nat.le_succ _⟩
theorem am7 (s:Sx) (z:Y DT) (T:Y HT) (t:Int) (A:Bool×Y Sx) (sp se:Y ζ) (hp:PX (z,T)) (hA:A.2.length<=100) (h1:sp.length<=100000000) (h2:se.length<=100000000) (U:∀e∈s.index,GX 4 e) (he:GX 4 s.expr):Ok (mM (s,((z,T,t),A,sp,se))) (WQ ((z,T,t),A,sp,se)):=by
 have hex:GX 4 (eC (Xp.op s.expr,Xp.n s.expr,Xp.name s.expr,Xp.l s.expr)):=by rw[fE];exact he
 have hin:∀(a b:Int) (n:ζ),Ok (ef ((a,b,n),((z,T,t),A,sp,se))) λy=>y.2=((z,T,t),A,sp,se):=λa b n=>ZN a b n _ hA
 have hth:T.length<=1000:=by have:=hp.t;dsimp only at this;omega
 have hdl:z.length<=1000:=by have:=hp.d;dsimp only at this;omega
 have sm:∀e,WQ ((z,T,t),A,sp,se) (e,((z,T,t),A,sp,se)):=WQ.same _;unfold mM aY bi bx cI bP dG cY fG bg iZ jk bB bC aD eD;refine ax (hin _ _ _) λy L=>?_
 obtain⟨b1,Z⟩:=y;dsimp only at L;subst L;refine bh (by simp) ?_;refine ax (hin _ _ _) λy L=>?_
 obtain⟨b2,Z⟩:=y;dsimp only at L;subst L;refine bh (by simp) ?_;refine ax (hin _ _ _) λy L=>?_
 obtain⟨b3,Z⟩:=y;dsimp only at L;subst L;refine bh (by simp) ?_;refine aK (λ_=>?_) λ_=>?_
 .refine aK (λ_=>?_) λg=>?_
  .exact ax (pw _ hp _ _ _ _) λ_ _=>ax (xM _ hp _ _ hex) λ_ _=>ax (uG _) λ_ _=>aj (sm _)
  .refine ax (pw _ hp _ _ _ _) λ_ _=>?_
   dsimp only[ak]at g;refine b7 (aT ?_);refine ax (xM _ hp _ _ (U _ (bN (T:=.ex) (xs:=s.index) (j:=0) (by omega) (by omega)))) λ_ _=>?_
   exact ax (xM _ hp _ _ hex) λ_ _=>ax (uG _) λ_ _=>ax (uG _) λ_ _=>aj (sm _)
 refine aV (λx=>x.2=((z,T,t),A,s,(z,T),sp,se)) (aK (λ_=>aj (by dsimp only;rw[yR])) λ_=>aj (by dsimp only;rw[yR])) ?_;rintro⟨b,x⟩ e;dsimp only at e;subst e;refine aN (λ_=>ax (xM _ hp _ _ hex) λ_ _=>aj (sm _)) λ_=>?_
 refine aK (λ_=>?_) λ_=>?_
 .refine aV (λx=>WQ ((z,T,t),A,sp,se) x) ?_ λx U=>aj U
  refine ax (pw _ hp _ _ _ _) λ_ _=>aN (λ_=>?_) λ_=>?_
  .exact ax (fO _) λ_ _=>ax (uG _) λ_ _=>aj (sm _)
  .refine ax (hin _ _ _) λy L=>?_
   obtain⟨b4,Z⟩:=y;dsimp only at L;subst L;exact bh (by simp) (ax (fO _) λ_ _=>ax (uG _) λ_ _=>aj (sm _))
 refine aV (λx=>x.2=((z,T,t),A,s,(z,T),sp,se)) (aK (λ_=>aj (by dsimp only;rw[yR])) λ_=>aj (by dsimp only;rw[yR])) ?_;rintro⟨b,x⟩ e;dsimp only at e;subst e;refine aN (λ_=>?_) λ_=>?_
 .refine aV (λx=>WQ ((z,T,t),A,sp,se) x) ?_ λx U=>aj U
  refine ax (pw _ hp _ _ _ _) λ_ _=>aN (λ_=>?_) λ_=>?_
  .exact ax (fO _) λ_ _=>ax (uG _) λ_ _=>aj (sm _)
  .refine ax (hin _ _ _) λy L=>?_
   obtain⟨b4,Z⟩:=y;dsimp only at L;subst L;exact bh (by simp) (ax (fO _) λ_ _=>ax (uG _) λ_ _=>aj (sm _))
 refine aK (λ_=>ax (fO _) λ_ _=>aj (sm _)) λ_=>?_
 refine aK (λ_=>?_) λ_=>?_
 .refine aV (λx=>WQ ((z,T,t),A,sp,se) x) ?_ λx U=>aj U
  exact aN (λ_=>ax (fO _) λ_ _=>aj (sm _)) λ_=>ax (fO _) λ_ _=>aj (sm _)
 refine aV (λx=>x.2=((z,T,t),A,s,(z,T),sp,se)) (aK (λ_=>aj (by dsimp only;rw[yR])) λ_=>aK (λ_=>aj (by dsimp only;rw[yR])) λ_=>aj (by dsimp only;rw[yR])) ?_;rintro⟨b,x⟩ e;dsimp only at e;subst e;refine aN (λ_=>?_) λ_=>?_
 .refine ax (pw _ hp _ _ _ _) λr hr=>ca (λ_=>aj (sm _)) λg=>?_
  obtain⟨v,hv,v0,v1⟩:=hr g (by omega) (by omega);refine aS hv (aR v0 v1 (aT ?_));refine ax (hin _ _ _) λy L=>?_
  obtain⟨b4,Z⟩:=y;dsimp only at L;subst L;refine bh (by simp) ?_;refine aV (λx=>WQ ((z,T,t),A,sp,se) x) ?_ λx U=>aj U
  refine aN (λ_=>ax (fO _) λ_ _=>aj (sm _)) λ_=>em (λ_=>ax (fO _) λ_ _=>aj (sm _)) λ_=>?_
  exact aK (λ_=>ax (fO _) λ_ _=>aj (sm _)) λ_=>ax (fO _) λ_ _=>aj (sm _)
 refine aK (λ_=>?_) λ_=>?_
 .refine ax (pw _ hp _ _ _ _) λr hr=>ca (λ_=>aj (sm _)) λg=>?_
  refine ax (tD T _ hth) λv hv=>?_
  refine aV (λx=>x.2=((z,T,t),A,s,sp,se)) ?_ ?_
  .refine aN (λ_=>aj (by dsimp only;rw[yR])) λ_=>aN (λ_=>aj (by dsimp only;rw[yR])) λ_=>aN (λ_=>aj (by dsimp only;rw[yR])) λ_=>aK (λ_=>aj (by dsimp only;rw[yR])) λ_=>aj (by dsimp only;rw[yR])
  rintro⟨b,x⟩ e;dsimp only at e;subst e;refine aN (λ_=>aj (sm _)) λ_=>?_
  refine ax (zo sp _ (by omega)) λ_ _=>fc (λ_=>aj (sm _)) λ_=>?_
  exact be (by simp;omega) (by omega) (aj ⟨rfl,rfl,by simp,Nat.le_succ _⟩)
 refine aK (λ_=>?_) λ_=>?_
 .refine aV (λx=>WQ ((z,T,t),A,sp,se) x) ?_ λx U=>aj U
  refine ax (pw _ hp _ _ _ _) λr hr=>?_
  refine aN (λ_=>ax (fO _) λ_ _=>ax (uG _) λ_ _=>aj (sm _)) λ_=>?_
  refine aN (λ_=>ax (fO _) λ_ _=>ax (uG _) λ_ _=>aj (sm _)) λ_=>?_
  exact ax (tD T _ hth) λv hv=>ax (fO _) λ_ _=>ax (uG _) λ_ _=>aj (sm _)
 refine aK (λ_=>?_) λ_=>?_
 .refine aV (λx=>x.2=((z,T,t),A,s,(z,T),sp,se)) ?_ ?_
  .refine ax (pw _ hp _ _ _ _) λr hr=>?_
   exact aN (λ_=>ax (fO _) λ_ _=>ax (uG _) λ_ _=>aj (by dsimp only;rw[yR])) λ_=>ax (fO _) λ_ _=>ax (uG _) λ_ _=>aj (by dsimp only;rw[yR])
  rintro⟨b,x⟩ e;dsimp only at e;subst e;refine aV (λx=>x.2=((z,T,t),A,s,(z,T),sp,se)) ?_ ?_
  .refine aV (λx=>x.2=((z,T,t),A,s,(z,T),sp,se)) ?_ ?_
   .exact aK (λ_=>ax (zo se _ (by omega)) λ_ _=>aj (by dsimp only;rw[yR])) λ_=>aj (by dsimp only;rw[yR])
   rintro⟨b,x⟩ e;dsimp only at e;subst e;exact aN (λ_=>aj (by dsimp only;rw[yR])) λ_=>aj (by dsimp only;rw[yR])
  rintro⟨b,x⟩ e;dsimp only at e;subst e;refine be (by simp;omega) (by omega) ?_;exact ax (xM _ hp _ _ hex) λ_ _=>ax (uG _) λ_ _=>aj ⟨rfl,rfl,Nat.le_succ _,by simp⟩
 exact ax (pw _ hp _ _ _ _) λ_ _=>ax (pw _ hp _ _ _ _) λ_ _=>ax (fO _) λ_ _=>ax (uG _) λ_ _=>ax (uG _) λ_ _=>aj (sm _)
abbrev RA4:Type:=(Y Sx×WK)->I (ν×WK)
structure QA (l:List Sx) (d:Nat) (w:WK) (y:ν×WK):Prop where
 p:y.2.1=w.1
 a:y.2.2.1.2.length=w.2.1.2.length
 s:y.2.2.2.1.length<=w.2.2.1.length+l.length*KS d
 t:y.2.2.2.2.length<=w.2.2.2.length+l.length*KS d
def SpA (rr:RA4) (d:Nat):Prop:=∀(l:Y Sx) (w:WK),l.length<=100->(∀s∈l,GT d s)->PX (w.1.1,w.1.2.1)->w.2.1.2.length+d<=50->w.2.2.1.length+l.length*KS d<=100000000->w.2.2.2.length+l.length*KS d<=100000000->Ok (rr (l,w)) (QA l d w)
theorem aid (rr:RA4) (d:Nat) (hr:∀d',d=d'+1->SpA rr d'):SpA (mQ rr) d:=by
 rintro l ⟨⟨z,T,t⟩,A,sp,se⟩ hl hg hp hA h1 h2;dsimp only at hp hA h1 h2;have hK:∀i:Nat,i<=l.length->i*KS d<=l.length*KS d:=λi hi=>cR _ hi
 unfold mQ aY bi bx bP dG cY ck bg bw jk bB bC aX cQ aD cJ eD;refine bZ l.length (λi x=>x.1=(i:Int)/\x.2.1=(z,T,t)/\x.2.2.1.2.length=A.2.length/\x.2.2.2.1.length<=sp.length+i*KS d/\x.2.2.2.2.length<=se.length+i*KS d) ?_ ?_ ⟨rfl,rfl,rfl,by simp,by simp⟩
 .rintro i ⟨a,P,A',sp',se'⟩ hi ⟨e1,e2,e3,e4,e5⟩;dsimp only at e1 e2 e3 e4 e5;subst e1;subst e2;have hKi:=hK (i+1) (by omega);have hKs:=jf i (KS d);rw[Nat.succ_eq_add_one]at hKs;refine dh ?_;refine b7 (aT ?_);have hm:=hg _ (bN (T:=.sm) (xs:=l) (j:=(i:Int)) (by omega) (by omega));revert hm;generalize (aJ (T:=.sm) l (i:Int))=s;intro hm;cases d with
  |zero=>exact hm.elim
  |succ d=>
   have hR:=hr d rfl;obtain⟨_,g2,g3,g4,g5,g6,g7⟩:=hm;have hk:KS (d+1)=1+16*KS d:=rfl;have kb:s.body.length*KS d<=8*KS d:=cR _ g4;have ke:s.els.length*KS d<=8*KS d:=cR _ g5;dsimp only;rw[yR];refine ax (am7 s z T t A' sp' se' hp (by omega) (by omega) (by omega) g2 g3) λy Z=>?_
   obtain⟨e,P2,A2,sp2,se2⟩:=y;obtain⟨U,L,q3,q4⟩:=Z;dsimp only at U L q3 q4;subst U;subst L;refine bh (by simp) ?_;refine aV (λx=>x.2=((z,T,t),s,A2,sp2,se2)) (bJ (λ_=>aj rfl) λ_=>aj rfl) ?_;rintro⟨e,x⟩ ex;dsimp only at ex;subst ex;refine ca (λ_=>aj ⟨rfl,e3,by dsimp only;omega,by dsimp only;omega⟩) λ_=>?_
   refine be (by simp;omega) (by omega) (aR (by simp) (by simp;omega) (aR (by simp) (by simp;omega) ?_));dsimp only;rw[yR];refine ax (hR s.body ((z,T,t),(A2.1,cL (A2.2++[_]) _ s),sp2,se2) (by omega) g6 hp ?_ ?_ ?_) λy Z=>?_
   .dsimp only;rw[bY];simp;omega
   .dsimp only;omega
   .dsimp only;omega
   obtain⟨e6,P6,A6,sp6,se6⟩:=y;obtain⟨U,L,q5,q6⟩:=Z;dsimp only at U L q5 q6;subst U;rw[bY,bf,cX]at L;refine bh (by simp) ?_;refine aV (λx=>x.2.1=(z,T,t)/\x.2.2.1.2.length=A2.2.length+1/\x.2.2.2.1.length<=sp2.length+16*KS d/\x.2.2.2.2.length<=se2.length+16*KS d) ?_ ?_
   .refine aK (λ_=>?_) λ_=>aj ⟨rfl,L,by dsimp only;omega,by dsimp only;omega⟩
    refine ax (hR s.els ((z,T,t),A6,sp6,se6) (by omega) g7 hp (by dsimp only;omega) (by dsimp only;omega) (by dsimp only;omega)) λy Z=>?_
    obtain⟨e7,P7,A7,sp7,se7⟩:=y;obtain⟨r1,r2,r5,r6⟩:=Z;dsimp only at r1 r2 r5 r6;subst r1;exact bh (by simp) (aj ⟨rfl,r2.trans L,by dsimp only;omega,by dsimp only;omega⟩)
   rintro⟨e8,P8,A8,sp8,se8⟩ ⟨r1,r2,r5,r6⟩;dsimp only at r1 r2 r5 r6;subst r1;have el:bl .i64 ((aM A8.2.length)-1)=(A2.2.length:Int):=by
    rw[r2,iw (by simp<;>omega) (by simp<;>omega)];simp<;>omega
   dsimp only;rw[el];have tk:(dQ (aQ (A2.2.length:Int)) A8.2).length=A2.2.length:=by rw[bM];omega
   refine dc (dI (by omega) (AX (by rw[r2];omega) ?_));refine ca (λ_=>aj ⟨rfl,by dsimp only;omega,by dsimp only;omega,by dsimp only;omega⟩) λ_=>aj ?_
   exact⟨gw (by omega),rfl,by dsimp only;omega,by dsimp only;omega,by dsimp only;omega⟩
 .rintro⟨a,P,A',sp',se'⟩ ⟨e1,e2,e3,e4,e5⟩;dsimp only at e1 e2 e3 e4 e5;subst e1;subst e2;exact di (aj ⟨rfl,e3,e4,e5⟩)
theorem YX:∀(n d:Nat),d<n->SpA (iQ n) d
 |0,_,h=>by omega
 |n+1,d,h=>aid (iQ n) d λa hd=>YX n a (by omega)
theorem EY (p:PG) (h:PX p):Ok (fH p) λr=>r.1=0->(p.2.map λt=>og 5 t.2.2.2).sum<=60:=by
 have hd:=h.d;have ht:=h.t;unfold fH aY bi bx bP cY bw jk bB bC aX cQ aD cJ;refine ax (abf p h) λ_ _=>em (λ_=>aj λh=>(by cases h)) λ_=>?_
 refine ax (WM p.1 hd) λ_ _=>ca (λhn=>aj λh=>(hn h).elim) λ_=>bJ (λ_=>aj λh=>(by cases h)) λ_=>?_
 refine ax (Pc p h) λ_ _=>ca (λhn=>aj λh=>(hn h).elim) λ_=>?_
 have U:KS 5=69905:=rfl;refine bZ p.2.length (λi x=>x.1.2=(i:Int)/\x.2=p/\x.1.1=((((p.2.take i).map λt=>og 5 t.2.2.2).sum:Nat):Int)/\(x.1.1:Int)<=((i*6990500:Nat):Int)) ?_ ?_ ⟨rfl,rfl,by simp,by simp⟩
 .rintro i ⟨⟨(c:Int),a⟩,x⟩ hi ⟨e1,e2,e3,L⟩;dsimp only at e1 e2 e3 L;subst e1;have e2:=e2.symm;subst e2;refine dh ?_;refine b7 (aT ?_);have hm:=bN (T:=zJ) (xs:=p.2) (j:=(i:Int)) (by omega) (by omega);have hb:=h.b _ hm;have hcb:=af5 (h.s _ hm);have hcb2:=cR (KS 5) hb;rw[U]at hcb hcb2;refine aS (FW fuel 5 _ (by rw[kg];omega) (dy hb (by omega)) (h.s _ hm) (by rw[U];omega)) (aj ⟨gw (by omega),rfl,?_,?_⟩)
  .dsimp only;rw[nu (T:=zJ) hi,cM,Gv,iw (by omega) (by omega),e3];simp
  .dsimp only;rw[iw (by omega) (by omega)];omega
 rintro⟨⟨(c:Int),a⟩,x⟩ ⟨e1,e2,e3,L⟩;dsimp only at e1 e2 e3 L;subst e1;have e2:=e2.symm;subst e2;rw[cO]at e3;refine di ?_;refine ax (P:=λr=>r.1=0->(p.2.map λt=>og 5 t.2.2.2).sum<=60) ?_ λ_ h=>aj h
 refine bJ (λ_=>aj λh=>(by cases h)) λZ=>?_
 have Z:c<=60:=Z;refine bZ p.2.length (λi x=>x.1=(i:Int)/\x.2.1=p/\x.2.2.1.1=p.1/\x.2.2.1.2.1=p.2/\x.2.2.2.1.2.length=0/\x.2.2.2.2.1.length<=i*6990500/\x.2.2.2.2.2.length<=i*6990500) ?_ ?_ ⟨rfl,rfl,rfl,rfl,rfl,by simp,by simp⟩
 .rintro i ⟨a,x,⟨z,T,t⟩,A,sp,se⟩ hi ⟨e1,e2,e3,L,e5,e6,e7⟩;dsimp only at e1 e2 e3 L e5 e6 e7;subst e1;have e2:=e2.symm;subst e2;subst e3;subst L;refine dh ?_;refine b7 (aT ?_);have hm:=bN (T:=zJ) (xs:=p.2) (j:=(i:Int)) (by omega) (by omega);have hb:=h.b _ hm;have hs:=h.s _ hm;revert hb hs;dsimp only;generalize (aJ (T:=zJ) p.2 (i:Int))=th;intro hb hs;have hk:KS 5=69905:=rfl;have hle:th.2.2.2.length*KS 5<=100*KS 5:=cR _ hb;rw[hk]at hle;refine ax (YX fuel 5 (by rw[kg];omega) th.2.2.2 ((p.1,p.2,(i:Int)),A,sp,se) hb hs h (by dsimp only;omega) (by dsimp only;rw[hk];omega) (by dsimp only;rw[hk];omega)) λy hy=>?_
  obtain⟨e,P2,A2,sp2,se2⟩:=y;obtain⟨q1,q2,q3,q4⟩:=hy;dsimp only at q1 q2 q3 q4;subst q1;rw[hk]at q3 q4;refine bh (by simp) (ca (λhn=>aj λh=>(hn h).elim) λ_=>aj ?_);exact⟨gw (by omega),rfl,rfl,rfl,by dsimp only;omega,by dsimp only;omega,by dsimp only;omega⟩
 .rintro⟨a,x,P,w⟩ ⟨e1,e2,_⟩;dsimp only at e1 e2;subst e1;have e2:=e2.symm;subst e2;exact di (aj λ_=>by omega)
theorem dk {R:Type} {o o':I R} {Q:R->Prop} (h:o=o') (hk:Ok o' Q):Ok o Q:=h▸hk
def D0:Y DT:=[(1,0,[120],0,0,[]),(1,0,[121],0,1,[]),(2,0,[118],0,0,[]),(1,0,[113],2,0,[]),(3,0,[109],0,0,[]),(3,0,[110],0,0,[]),(4,0,[114],0,0,[]),(5,0,[99],0,0,[109]),(6,0,[102],0,0,[])]
def L0:Y ζ:=[[97],[98]]
set_option maxHeartbeats 20000000 in
theorem aq3:∃r,fH (D0,[([109,97,105,110],0,L0,[oz (1,0,[120],[],[],eC (1,1,[],[]),[],[])])])=M r/\r.1=0:=by
 suffices h:Ok (fH (D0,[([109,97,105,110],0,L0,[oz (1,0,[120],[],[],eC (1,1,[],[]),[],[])])])) λr=>r.1=0 by
  obtain⟨y,h1,h2⟩:=h;exact⟨y,h1,h2⟩
 unfold fH aY bi bx bP cY bw jk bB bC aX cQ aD cJ;with_reducible repeat' first|exact aj rfl|refine YB ?_|refine YA ?_|refine Yz ?_|refine Yx ?_|refine RY ?_|refine ahp ?_|refine aT ?_|refine fX rfl ?_|refine gf rfl ?_|refine bh rfl ?_|refine Yy ?_|refine RZ ?_|refine dk (qr.eq_1 ..) ?_|refine dk (kw.eq_1 ..) ?_|refine dk (fA.eq_1 ..) ?_|refine dk (jU.eq_1 ..) ?_|refine dk (kS.eq_1 ..) ?_|refine dk (l9.eq_1 ..) ?_|refine dk (pW.eq_1 ..) ?_|refine dk (r8.eq_1 ..) ?_|refine dk (ox.eq_1 ..) ?_|refine dk (jL.eq_1 ..) ?_|refine dk (ky.eq_1 ..) ?_|refine dk (mF.eq_1 ..) ?_|refine dk (ju.eq_1 ..) ?_|refine dk (mO.eq_1 ..) ?_|refine dk (pV.eq_1 ..) ?_|refine dk (r7.eq_1 ..) ?_|refine dk (ip.eq_1 ..) ?_|refine dk (ov.eq_1 ..) ?_|refine dk (hX.eq_1 ..) ?_|refine dk (jq.eq_1 ..) ?_|refine dk (CF.eq_1 ..) ?_|refine dk (vh.eq_1 ..) ?_|refine dk (wA.eq_1 ..) ?_|refine dk (mQ.eq_1 ..) ?_|refine dk (mM.eq_1 ..) ?_|refine dk (ef.eq_1 ..) ?_|refine dk (gQ.eq_1 ..) ?_|refine dk (qp.eq_1 ..) ?_|refine dk (mN.eq_1 ..) ?_|refine dk (CE.eq_1 ..) ?_|refine dk (vg.eq_1 ..) ?_|refine dk (CD.eq_1 ..) ?_|refine dk (ve.eq_1 ..) ?_|refine dk (jp.eq_1 ..) ?_|refine dk (dj.eq_1 ..) ?_|refine dk (ck.eq_1 ..) ?_|refine dk (congrFun (hP dN kg) _) ?_|refine dk (zA _ _) ?_|refine dk (congrFun (hP eL kg) _) ?_|refine dk (Aj _ _) ?_|refine dk (congrFun (hP ir kg) _) ?_|refine dk (tm _ _) ?_|refine dk (congrFun (hP n_ kg) _) ?_|refine dk (yZ _ _) ?_|refine dk (congrFun (hP iQ kg) _) ?_|refine dk (CQ _ _) ?_|refine dk (congrFun (hP nZ kg) _) ?_|refine dk (yY _ _) ?_|refine dk (congrFun (hP nY kg) _) ?_|refine dk (yX _ _) ?_
 all_goals trace_state
structure TM (nT:Nat) (t:HT):Prop where
 l:t.2.2.1=L0
 b:t.2.2.2.length<=8
 s:∀s∈t.2.2.2,GS nT 3 s
structure PJ (p:PG):Prop where
 d:p.1=D0
 t0:1<=p.2.length
 t:p.2.length<=4
 m:∀t∈p.2,TM p.2.length t
 n:p.2.map Prod.fst=wS.take p.2.length
theorem PJ.x {p:PG} (h:PJ p):PX p:=⟨by rw[h.d];decide,by have:=h.t;omega,λt ht=>by rw[(h.m t ht).l];decide,λt ht=>by have:=(h.m t ht).b;omega,λt ht s hs=>((h.m t ht).s s hs).le (by omega:3<=5) |>.t⟩
theorem Tv:s7 ()=M D0:=rfl
theorem afy:∀m:Nat,m<5->∀j:Nat,j<m->aJ (T:=.str) wS (j:Int)∈wS.take m:=by decide
theorem RD {nT:Nat} (op:Int) {n:ζ} (s:op=12\/op=13) (hn:n∈wS.take nT):GS nT 3 (oz (op,0,n,[],[],eC (0,0,[],[]),[],[])):=GS.wo (by omega) (by simp) (λx a=>(by cases a)) (by rcases s with rfl|rfl<;>(constructor<;>simp[Sx.op,Sx.name,Sx.index,Sx.arg,Sx.els,Sx.body]<;>exact hn))
theorem H3 (x:η) (hl:x.length<=9223372036854775807) (hx:∀z∈x,0<=z/\z<=255):Ok (pg x) λp=>PJ p/\∃r,fH p=M r/\r.1=0:=by
 unfold pg aY bi bx cI dY lh AM bP fG kA qH Prod.q9 bg bw jk bB kZ cQ aD cJ eD;refine aS Tv ?_;refine ax (gG 3 (x,0) ⟨hl,hx,by dsimp only;omega,by dsimp only;omega⟩) λy L=>?_
 obtain⟨n,t0⟩:=y;obtain⟨s0,n0,n1,_⟩:=L;have n1:=n1 (by decide);dsimp only at s0 n0 n1;have ew:bl .i64 (2+n)=2+n:=iw (by omega) (by omega);obtain⟨nT,hnT⟩:∃m:Nat,2+n=(m:Int):=⟨(2+n).toNat,by omega⟩
 refine bZ nT (λi x=>x.1=(i:Int)/\x.2.2.1=D0/\x.2.2.2.1=wS/\TP x.2.2.2.2.1/\x.2.2.2.2.2.1.2=[]/\x.2.2.2.2.2.2.map Prod.fst=wS.take i/\∀t∈x.2.2.2.2.2.2,TM nT t) ?_ ?_ ⟨rfl,rfl,rfl,s0.p,rfl,rfl,λt ht=>(by cases ht)⟩
 .rintro i ⟨a,m,A,N,t,h,th⟩ hi ⟨e1,e2,e3,e4,e5,e6,e7⟩;dsimp only at e1 e2 e3 e4 e5 e6 e7;subst e1;subst e2;refine bJ (λg=>?_) λg=>(by dsimp only at g;rw[ew]at g;omega)
  have l4:N.length=4:=by rw[e3];rfl
  refine b7 (b7 (aT ?_));have hthl:th.length=i:=by have:=hP ai e6;rw[bQ,bM]at this;have q4:wS.length=4:=rfl;omega
  refine aV (λx=>x.2.2.2.1.1=aJ (T:=.str) N (i:Int)/\x.2.1=D0/\x.2.2.1=wS/\TP x.2.2.2.2.1/\x.2.2.2.2.2.1.2=[]/\x.2.2.2.2.2.2.1=th/\x.2.2.2.2.2.2.2.1=L0/\x.2.2.2.2.2.2.2.2.length<=3/\∀s∈x.2.2.2.2.2.2.2.2,GS nT 3 s) ?_ ?_
  .refine aK (λ_=>?_) λ_=>aj ⟨rfl,rfl,e3,e4,e5,rfl,rfl,by simp,λs hs=>(by cases hs)⟩
   refine bZ (1+n).toNat (λk x=>x.2.2.2.2.1.1=aJ (T:=.str) N (i:Int)/\x.1=1+(k:Int)/\x.2.2.1=D0/\x.2.2.2.1=wS/\TP x.2.2.2.2.2.1/\x.2.2.2.2.2.2.1.2=[]/\x.2.2.2.2.2.2.2.1=th/\x.2.2.2.2.2.2.2.2.1=L0/\x.2.2.2.2.2.2.2.2.2.length<=k/\∀s∈x.2.2.2.2.2.2.2.2.2,GS nT 3 s) ?_ ?_ ⟨rfl,rfl,rfl,e3,e4,e5,rfl,rfl,by simp,λs hs=>(by cases hs)⟩
   .rintro k ⟨c,m1,D1,N1,z1,t1,h1,th1,l1,b1⟩ hk ⟨fz,f1,f2,f3,f4,U,f6,f7,f8,Z⟩;dsimp only at fz f1 f2 f3 f4 U f6 f7 f8 Z;subst f1;refine bJ (λ_=>?_) λg=>(by dsimp only at g;rw[ew]at g;omega)
    have l41:N1.length=4:=by rw[f3];rfl
    refine b7 (b7 (aT ?_));refine be (by simp;omega) (by omega) (aj ?_);dsimp only;rw[iw (n:=1+(k:Int)+1) (by omega) (by omega)];refine ⟨fz,by omega,f2,f3,f4,U,f6,f7,by simp;omega,λs hs=>?_⟩;rcases bG.1 hs with hs|hs
    .exact Z s hs
    .rw[aI]at hs;rw[hs];refine RD 12 (.inl rfl) ?_;rw[f3,show 1+(k:Int)=((1+k:Nat):Int) by omega];exact afy nT (by omega) (1+k) (by omega)
   .rintro⟨c,m1,D1,N1,z1,t1,h1,th1,l1,b1⟩ ⟨fz,f1,f2,f3,f4,U,f6,f7,f8,Z⟩;dsimp only at fz f1 f2 f3 f4 U f6 f7 f8 Z;subst f1;refine bJ (λg=>(by dsimp only at g;rw[ew]at g;omega)) λ_=>aj ?_
    exact⟨fz,f2,f3,f4,U,f6,f7,by dsimp only;omega,Z⟩
  rintro⟨m1,D1,N1,z1,t1,h1,th1,l1,b1⟩ ⟨fz,f2,f3,f4,U,f6,f7,f8,Z⟩;dsimp only at fz f2 f3 f4 U f6 f7 f8 Z;subst f2;subst f6;subst f7;refine ax (gG 3 t1 f4) λy L=>?_
  obtain⟨k2,t2⟩:=y;obtain⟨u1,u2,u3,_⟩:=L;have u3:=u3 (by decide);dsimp only at u1 u2 u3;dsimp only;rw[iw (n:=1+k2) (by omega) (by omega)];refine ax (ZJ (nT:=nT) 2 (by omega) (1+k2) m1 t2 h1 (by omega) u1.p (by rw[U];simp)) λy L=>?_
  obtain⟨m3,t3,h3,l3⟩:=y;obtain⟨w1,w2,w3,w4⟩:=L;dsimp only at w1 w2 w3 w4;refine bh (by simp) (be (by simp;omega) (by omega) ?_);have hbody:∀s∈b1++l3,GS nT 3 s:=λs hs=>by
   rcases bG.1 hs with hs|hs
   .exact Z s hs
   .exact w2 s hs
  have hlen:(b1++l3).length<=6:=by rw[bf];omega
  refine aV (λx=>x.2.2.2.1.1=aJ (T:=.str) N (i:Int)/\x.2.1=D0/\x.2.2.1=wS/\TP x.2.2.2.2.1/\x.2.2.2.2.2.1.2=[]/\x.2.2.2.2.2.2.1=th1/\x.2.2.2.2.2.2.2.1=L0/\x.2.2.2.2.2.2.2.2.length<=8/\∀s∈x.2.2.2.2.2.2.2.2,GS nT 3 s) ?_ ?_
  .refine aV (λx=>x.2.2.2.2.1.1=aJ (T:=.str) N (i:Int)/\x.2.2.1=D0/\x.2.2.2.1=wS/\TP x.2.2.2.2.2.1/\x.2.2.2.2.2.2.1.2=[]/\x.2.2.2.2.2.2.2.1=th1/\x.2.2.2.2.2.2.2.2.1=L0/\x.2.2.2.2.2.2.2.2.2=b1++l3) ?_ ?_
   .refine aK (λ_=>?_) λ_=>aj ⟨fz,rfl,f3,w3.p,w4.trans U,rfl,rfl,rfl⟩
    exact ax (gG 3 t3 w3.p) λy L=>aj ⟨fz,rfl,f3,L.1.p,w4.trans U,rfl,rfl,rfl⟩
   rintro⟨b,m4,D4,N4,z4,t4,h4,th4,l4,b4⟩ ⟨pz,p2,p3,p4,p5,p6,p7,p8⟩;dsimp only at pz p2 p3 p4 p5 p6 p7 p8;subst p2;subst p6;subst p7;subst p8;have l44:N4.length=4:=by rw[p3];rfl
   refine aN (λ_=>?_) λ_=>aj ⟨pz,rfl,p3,p4,p5,rfl,rfl,by dsimp only;omega,hbody⟩
   refine b7 (b7 (aT ?_));refine be (by simp at hlen ⊢;omega) (by omega) (aj ⟨pz,rfl,p3,p4,p5,rfl,rfl,by dsimp only;rw[bf,cX];omega,λs hs=>?_⟩);rcases bG.1 hs with hs|hs
   .exact hbody s hs
   .rw[aI]at hs;rw[hs];refine RD 13 (.inr rfl) ?_;rw[p3];exact afy nT (by omega) 1 (by omega)
  rintro⟨m4,D4,N4,z4,t4,h4,th4,l4,b4⟩ ⟨pz,p2,p3,p4,p5,p6,p7,p8,p9⟩;dsimp only at pz p2 p3 p4 p5 p6 p7 p8 p9;subst p2;subst p6;subst p7;refine be (by simp;omega) (by omega) (aj ?_);dsimp only;refine ⟨gw (by omega),rfl,p3,p4,p5,by rw[nu (T:=.str) (xs:=wS) (i:=i) (by have q4:wS.length=4:=rfl;omega),cM,e6,<-e3];show _++[z4.1]=_;rw[pz],λt ht=>?_⟩;rcases bG.1 ht with ht|ht
  .exact e7 t ht
  .rw[aI]at ht;rw[ht];exact⟨rfl,p8,p9⟩
 .rintro⟨a,m,A,N,t,h,th⟩ ⟨e1,e2,e3,e4,e5,e6,e7⟩;dsimp only at e1 e2 e3 e4 e5 e6 e7;subst e1;subst e2;refine bJ (λg=>(by dsimp only at g;rw[ew]at g;omega)) λ_=>?_
  have hthl:th.length=nT:=by have:=hP ai e6;rw[bQ,bM]at this;have q4:wS.length=4:=rfl;omega
  have hpm:PJ (D0,th):=⟨rfl,by dsimp only;omega,by dsimp only;omega,by dsimp only;rw[hthl];exact e7,by dsimp only;rw[hthl];exact e6⟩
  refine ax (P:=λp=>PJ p/\∃r,fH p=M r/\r.1=0) ?_ λr hr=>aj hr
  obtain⟨y,L,_⟩:=EY (D0,th) hpm.x;refine aS L (ca (λ_=>?_) λh=>aj ⟨hpm,y,L,h⟩);refine aS Tv (aS (Pw _) (aS (uC _ _) (aj ?_)));refine ⟨⟨rfl,by simp,by simp,λt ht=>?_,rfl⟩,aq3⟩;simp only[aI]at ht;rw[ht];refine ⟨rfl,by simp,λs hs=>?_⟩;simp only[aI]at hs;rw[hs,fE,zL];exact GS.asg (by decide) (GE.num _ 3)
abbrev iA (l:Y IT) (k:Nat):IT:=aJ (T:=Cm) l (k:Int)
def JT (l:Y IT) (ρ:Nat->Nat) (a e k:Nat):Prop:=(iA l k).1=5->∃k':Nat,(iA l k).2.1=(k':Int)/\(k'=e\/a<=k'/\k'<e/\ρ k'<ρ k)
def rD (l:Y IT) (a e:Nat):Prop:=a<=e/\∃ρ:Nat->Nat,∀k,a<=k->k<e->1<=ρ k/\ρ k<=e-a/\JT l ρ a e k/\((iA l k).1<5->k+1=e\/ρ (k+1)<ρ k)
theorem rD.nil (l:Y IT) (a:Nat):rD l a a:=⟨bT _,λ_=>0,λk h1 h2=>by omega⟩
theorem rD.one {l:Y IT} {a:Nat} (h:¬(iA l a).1=5):rD l a (a+1):=⟨by omega,λ_=>1,λk h1 h2=>⟨bT 1,by show 1<=a+1-a;omega,λs=>by rw[show k=a by omega]at s;exact (h s).elim,λ_=>.inl (by omega)⟩⟩
theorem rD.congr {l s:Y IT} {a e:Nat} (h:rD l a e) (hc:∀k,a<=k->k<e->iA s k=iA l k):rD s a e:=by
 obtain⟨h1,ρ,h2⟩:=h;exact⟨h1,ρ,λk A z=>by unfold JT;rw[hc k A z];exact h2 k A z⟩
theorem rD.app {l:Y IT} {a b c:Nat} (h:rD l a b) (k:rD l b c):rD l a c:=by
 obtain⟨h1,ρ,h2⟩:=h;obtain⟨k1,σ,k2⟩:=k;refine ⟨by omega,λk=>if k<b then ρ k+(c-b) else σ k,λk U L=>?_⟩;by_cases hk:k<b
 .obtain⟨z,A,q3,q4⟩:=h2 k U hk;simp only[aC hk];refine ⟨by omega,by omega,?_,λs=>?_⟩
  .intro s;simp only[aC hk];obtain⟨k',e,r⟩:=q3 s;refine ⟨k',e,?_⟩;rcases r with r|⟨r1,r2,r3⟩
   .subst r;by_cases hc:k'=c
    .exact .inl hc
    .have:=(k2 k' (bT _) (by omega)).2.1;rw[aw (xO _)];exact .inr ⟨by omega,by omega,by omega⟩
   .rw[aC r2];exact .inr ⟨r1,by omega,by omega⟩
  .rcases q4 s with r|r
   .by_cases hc:k+1=c
    .exact .inl hc
    .have:=(k2 (k+1) (by omega) (by omega)).2.1;rw[aw (by omega)];exact .inr (by omega)
   .by_cases hb:k+1<b
    .rw[aC hb];exact .inr (by omega)
    .rw[aw hb];by_cases hc:k+1=c
     .exact .inl hc
     .have:=(k2 (k+1) (by omega) (by omega)).2.1;exact .inr (by omega)
 .obtain⟨z,A,q3,q4⟩:=k2 k (by omega) L;simp only[aw hk];refine ⟨z,by omega,?_,λs=>?_⟩
  .intro s;simp only[aw hk];obtain⟨k',e,r⟩:=q3 s;refine ⟨k',e,r.imp id λ⟨r1,r2,r3⟩=>⟨by omega,r2,?_⟩⟩;rw[aw (by omega)];exact r3
  .rw[aw (by omega)];exact q4 s
theorem rD.ite {l:Y IT} {a j e:Nat} (h:rD l a j) (hj:(iA l j).1=5) (L:(iA l j).2.1=(e:Int)) (k:rD l (j+1) e):rD l a e:=by
 obtain⟨h1,ρ,h2⟩:=h;obtain⟨k1,σ,k2⟩:=k;refine ⟨by omega,λk=>if k<j then ρ k+(e-j) else if k=j then e-j else σ k,λk Z U=>?_⟩;by_cases hk:k<j
 .obtain⟨z,A,q3,q4⟩:=h2 k Z hk;simp only[aC hk];refine ⟨by omega,by omega,?_,λs=>?_⟩
  .intro s;simp only[aC hk];obtain⟨k',e',r⟩:=q3 s;refine ⟨k',e',.inr ?_⟩;rcases r with r|⟨r1,r2,r3⟩
   .rw[r,aw (xO _),aC rfl];exact⟨by omega,by omega,by omega⟩
   .rw[aC r2];exact⟨r1,by omega,by omega⟩
  .refine .inr ?_;by_cases hb:k+1<j
   .rw[aC hb];rcases q4 s with r|r<;>omega
   .rw[aw hb,aC (by omega)];omega
 .by_cases hkj:k=j
  .subst hkj;simp only[aw hk,aC];exact⟨by omega,by omega,λ_=>⟨e,L,.inl rfl⟩,λs=>by rw[hj]at s;omega⟩
  .obtain⟨z,A,q3,q4⟩:=k2 k (by omega) U;simp only[aw hk,aw hkj];refine ⟨z,by omega,?_,λs=>?_⟩
   .intro s;simp only[aw hk,aw hkj];obtain⟨k',e',r⟩:=q3 s;refine ⟨k',e',r.imp id λ⟨r1,r2,r3⟩=>⟨by omega,r2,?_⟩⟩;rw[aw (by omega),aw (by omega)];exact r3
   .rw[aw (by omega),aw (by omega)];exact q4 s
theorem rD.whl {l:Y IT} {a c j:Nat} (h:rD l a c) (hc:(iA l c).1=10) (k:rD l (c+1) j) (hj:(iA l j).1=5) (U:(iA l j).2.1=(a:Int)):rD l a (j+1):=by
 obtain⟨h1,ρ,h2⟩:=h;obtain⟨k1,σ,k2⟩:=k;refine ⟨by omega,λk=>if k<c then ρ k+1 else if k=c then 1 else if k<j then σ k+(c-a)+2 else c-a+2,λk Z g2=>?_⟩;by_cases hk:k<c
 .obtain⟨L,A,q3,q4⟩:=h2 k Z hk;simp only[aC hk];refine ⟨by omega,by omega,?_,λs=>?_⟩
  .intro s;simp only[aC hk];obtain⟨k',e',r⟩:=q3 s;refine ⟨k',e',.inr ?_⟩;rcases r with r|⟨r1,r2,r3⟩
   .rw[r,aw (xO _),aC rfl];exact⟨by omega,by omega,by omega⟩
   .rw[aC r2];exact⟨r1,by omega,by omega⟩
  .refine .inr ?_;by_cases hb:k+1<c
   .rw[aC hb];rcases q4 s with r|r<;>omega
   .rw[aw hb,aC (by omega)];omega
 .by_cases hkc:k=c
  .subst hkc;simp only[aw hk,aC];exact⟨by omega,by omega,λs=>by rw[hc]at s;omega,λs=>by rw[hc]at s;omega⟩
  .simp only[aw hk,aw hkc];by_cases hkj:k<j
   .obtain⟨L,A,q3,q4⟩:=k2 k (by omega) hkj;simp only[aC hkj];refine ⟨by omega,by omega,?_,λs=>?_⟩
    .intro s;simp only[aw hk,aw hkc,aC hkj];obtain⟨k',e',r⟩:=q3 s;refine ⟨k',e',.inr ?_⟩;rcases r with r|⟨r1,r2,r3⟩
     .rw[r,aw (by omega),aw (by omega),aw (xO _)];exact⟨by omega,by omega,by omega⟩
     .rw[aw (by omega),aw (by omega),aC r2];exact⟨by omega,by omega,by omega⟩
    .refine .inr ?_;rw[aw (by omega),aw (by omega)];by_cases hb:k+1<j
     .rw[aC hb];rcases q4 s with r|r<;>omega
     .rw[aw hb];omega
   .have hkj:k=j:=by omega
    subst hkj;simp only[aw (xO _)];refine ⟨by omega,by omega,λ_=>⟨a,U,.inr ⟨bT _,by omega,?_⟩⟩,λs=>by rw[hj]at s;omega⟩;simp only[aw hk,aw hkc,aw (xO _)];by_cases z:a<c
    .rw[aC z];have:=(h2 a (bT _) z).2.1;omega
    .rw[aw z,aC (by omega)];omega
def OB (nT:Nat) (i:IT):Prop:=
 if i.1=6 then 0<=i.2.2.1/\i.2.2.1<=2 else if i.1=8 then 0<=i.2.1/\i.2.1<=2 else if i.1=7 then i.2.2.1=3/\i.2.2.2.2.1=2 else if i.1=9 then i.2.1=3/\i.2.2.2.2.1=2 else if i.1=11\/i.1=12 then i.2.1=0\/i.2.1=1 else if 13<=i.1/\i.1<=16 then i.2.1=2 else if 21<=i.1/\i.1<=23 then i.2.1=0 else if i.1=24\/i.1=25 then 0<=i.2.1/\i.2.1<(nT:Int) else if i.1=26 then i.2.1=0 else if i.1=27 then i.2.2.1=0 else if i.1=4 then 6<=i.2.2.2.2.1/\i.2.2.2.2.1<=18 else ¬i.1=3
structure GO (nT:Nat) (i:IT):Prop where
 o1:1<=i.1
 o2:i.1<=27
 r:∀j:Int,j∈i_ i->0<=j/\j<32
 b:OB nT i
def SO (ss:Y π) (t s:Int):Prop:=0<=s/\s<ss.length/\(aJ (T:=yP) ss s).1=t
structure GI (nT:Nat) (ss:List π) (t:Int) (i:IT):Prop where
 o:GO nT i
 s:SO ss t i.2.2.2.2.2
theorem VZ (l:Y IT) (hl:l.length<=1000000) (h1:1<=l.length) (hb:rD l 0 (l.length-1)) (he:(iA l (l.length-1)).1=28) (k:Nat) (hk:k<l.length):pU (l,(k:Int))=M J:=by
 obtain⟨_,ρ,hρ⟩:=hb;refine cf ?_;unfold pU bg bw iZ bC aX cQ aD cJ;refine qK (λx=>((l.length:Int)+1-x.2).toNat) (λx=>0<=x.2/\∃q:Nat,x.1=(q:Int)/\q<l.length/\((if q<l.length-1 then ρ q else 0:Nat):Int)+x.2<=(l.length:Int)) ?_ ⟨by dsimp only;omega,k,rfl,hk,?_⟩
 .rintro⟨a,(n:Int)⟩ ⟨n0,q,e,hq,hr⟩;dsimp only at n0 e hr;subst e;refine fc (λ_=>?_) λg=>(by dsimp only[ak]at g;omega)
  refine gJ ?_;refine gJ (bJ (λg=>by dsimp only at g;omega) λ_=>aj ?_);refine gf (by rw[mE];dsimp only[ak];omega) ?_;refine b7 (aT ?_);refine aS (Gn _) ?_;refine em (λ_=>aj rfl) λhs=>?_
  have hs:1<=(iA l q).1/\(iA l q).1<=5:=ba hs;have z:q<l.length-1:=wu λh=>by rw[show q=l.length-1 by omega]at hs;rw[he]at hs;omega
  obtain⟨r1,r2,r3,Z⟩:=hρ q (ie _) z;rw[aC z]at hr;refine b7 (aT ?_);have fin:∀s:Nat,s=l.length-1\/s<l.length-1/\ρ s<ρ q->0<=n+1/\∃A:Nat,(s:Int)=(A:Int)/\A<l.length/\((if A<l.length-1 then ρ A else 0:Nat):Int)+(n+1)<=(l.length:Int):=λs h=>⟨by omega,s,rfl,by omega,by
   rcases h with h|⟨h,h'⟩
   .rw[aw (by omega)];omega
   .rw[aC h];omega⟩
  refine aK (λL=>?_) λL=>aj (aj ?_)
  .obtain⟨s,e,U⟩:=r3 L;refine aR (dZ _) (by dsimp only;omega) (aT (aj (aj ?_)));dsimp only;rw[iw (n:=n+1) (by omega) (by omega)];have:=fin s (U.imp id λh=>⟨h.2.1,h.2.2⟩);rw[<- e]at this;exact⟨this,by omega⟩
  .dsimp only;have L:¬(iA l q).1=5:=L;rw[iw (n:=n+1) (by omega) (by omega),gw (by omega)];refine ⟨fin (q+1) ?_,by omega⟩;rcases Z (by omega) with h|h
   .exact .inl h
   .by_cases hb:q+1=l.length-1
    .exact .inl hb
    .exact .inr ⟨by omega,h⟩
 .dsimp only;split
  .rename_i h;have:=(hρ k (ie _) h).2.1;omega
  .omega
theorem LU (w:WT) (a:w.1=C0):nV (w,3,2)=M J:=by
 refine cf ?_;have h0:(0:Int)<=3:=by decide
 have h1:(3:Int)<(w.1.length:Int):=by rw[a];decide
 have s:aJ (T:=Pd) w.1 3=([113],0,2,af,0):=by rw[a];rfl
 unfold nV bg jk bC aX aD;refine gJ (aS (sM _ _) (aK (λ_=>?_) λh=>(h ⟨h0,h1⟩).elim));dsimp only;rw[s];refine aR h0 h1 (aT (aK (λ_=>?_) λh=>(h rfl).elim));refine aR h0 h1 (aT (ca (λ_=>?_) λh=>b8 h (by decide)));exact aR h0 h1 (aT (aj (aj rfl)))
theorem Pu {nT:Nat} (w:WT) (i:IT) (hw:WX w) (hT:w.2.2.2.2.1.length=nT) (hb:OB nT i):mj (w,i)=M J:=by
 obtain⟨hc,hl,hd,hf,_,_,_⟩:=hw;refine cf ?_;unfold mj aY bi bx cI dY bg iZ bC aX aD;unfold OB at hb;simp only[sM,YD];refine aK (λh=>?_) λn6=>?_
 .rw[aC h]at hb;have s:(aJ (T:=Pd) w.1 i.2.2.1).2.2.1=(0:Int):=by
   rw[hc];rcases (by omega:i.2.2.1=0\/i.2.2.1=1\/i.2.2.1=2) with h|h|h<;>rw[h]<;>rfl
  have hi:0<=i.2.2.1/\i.2.2.1<(w.1.length:Int):=⟨hb.1,by rw[hc];have:=hb.2;show i.2.2.1<5;omega⟩
  exact gJ (aK (λ_=>aR hi.1 hi.2 (aT (aj (aj (aP s))))) λh=>(h hi).elim)
 rw[aw n6]at hb;refine aK (λh=>?_) λU=>?_
 .rw[aC h]at hb;have s:(aJ (T:=Pd) w.1 i.2.1).2.2.1=(0:Int):=by
   rw[hc];rcases (by omega:i.2.1=0\/i.2.1=1\/i.2.1=2) with h|h|h<;>rw[h]<;>rfl
  have hi:0<=i.2.1/\i.2.1<(w.1.length:Int):=⟨hb.1,by rw[hc];have:=hb.2;show i.2.1<5;omega⟩
  exact gJ (aK (λ_=>aR hi.1 hi.2 (aT (aj (aj (aP s))))) λh=>(h hi).elim)
 rw[aw U]at hb;refine aK (λh=>?_) λZ=>?_
 .rw[aC h]at hb;rw[hb.1,hb.2];exact aS (LU w hc) (aj rfl)
 rw[aw Z]at hb;refine aK (λh=>?_) λL=>?_
 .rw[aC h]at hb;rw[hb.1,hb.2];exact aS (LU w hc) (aj rfl)
 rw[aw L]at hb;refine aV (λx=>x.2=(w,i)/\(x.1=J↔i.1=11\/i.1=12)) (aK (λh=>aj ⟨rfl,λ_=>.inl h,λ_=>aP h⟩) λh=>aj ⟨rfl,λh2=>.inr (ba h2),λh2=>aP (h2.resolve_left h)⟩) ?_;rintro⟨b,x⟩ ⟨e,z⟩;dsimp only at e z;subst e;refine aN (λh=>?_) λh=>?_
 .rw[aC (z.1 h)]at hb;have s:(aJ (T:=Vo) w.2.1 i.2.1).2=af:=by
   rw[hl];rcases hb with h|h<;>rw[h]<;>rfl
  have hi:0<=i.2.1/\i.2.1<(w.2.1.length:Int):=⟨by omega,by rw[hl];show i.2.1<3;omega⟩
  exact gJ (aK (λ_=>aR hi.1 hi.2 (aT (aj (aj (by dsimp only;rw[s];rfl))))) λh=>(h hi).elim)
 rw[aw λh2=>by rw[z.2 h2]at h;cases h]at hb;have hj:∀{p:Prop} {b:Bool},(b=J->p)->(p->b=J)->b=af->¬p:=λ_ h2 A a=>by rw[h2 a]at A;cases A
 refine aV (λx=>x.2=(w,i)/\(x.1=J->13<=i.1/\i.1<=16)/\(13<=i.1/\i.1<=16->x.1=J)) (aK (λh=>aj ⟨rfl,λ_=>by first|omega|(dsimp only at h;omega),λ_=>aP h⟩) λ_=>aK (λh=>aj ⟨rfl,λ_=>by first|omega|(dsimp only at h;omega),λ_=>aP h⟩) λ_=>aK (λh=>aj ⟨rfl,λ_=>by first|omega|(dsimp only at h;omega),λ_=>aP h⟩) λ_=>aj ⟨rfl,λh=>by have:=ba h;first|omega|(dsimp only at this;omega),λh=>aP (by first|omega|(dsimp only at *;omega))⟩) ?_;rintro⟨b,x⟩ ⟨e,h1,h2⟩;dsimp only at e h1 h2;subst e;refine aN (λh=>?_) λh=>?_
 .rw[aC (h1 h)]at hb;have hi:0<=i.2.1/\i.2.1<(w.2.1.length:Int):=⟨by omega,by rw[hl];show i.2.1<3;omega⟩
  exact gJ (aK (λ_=>aR hi.1 hi.2 (aT (aj (aj (by dsimp only;rw[hb,hl];rfl))))) λh=>(h hi).elim)
 rw[aw (hj h1 h2 h)]at hb;refine aV (λx=>x.2=(w,i)/\(x.1=J->21<=i.1/\i.1<=23)/\(21<=i.1/\i.1<=23->x.1=J)) (aK (λh=>aj ⟨rfl,λ_=>by first|omega|(dsimp only at h;omega),λ_=>aP h⟩) λ_=>aK (λh=>aj ⟨rfl,λ_=>by first|omega|(dsimp only at h;omega),λ_=>aP h⟩) λ_=>aj ⟨rfl,λh=>by have:=ba h;first|omega|(dsimp only at this;omega),λh=>aP (by first|omega|(dsimp only at *;omega))⟩) ?_;rintro⟨b,x⟩ ⟨e,h1,h2⟩;dsimp only at e h1 h2;subst e;refine aN (λh=>?_) λh=>?_
 .rw[aC (h1 h)]at hb;exact aj (aP ⟨by dsimp only;omega,by dsimp only;rw[hd];show i.2.1<1;omega⟩)
 rw[aw (hj h1 h2 h)]at hb;refine aV (λx=>x.2=(w,i)/\(x.1=J->i.1=24\/i.1=25)/\(i.1=24\/i.1=25->x.1=J)) (aK (λh=>aj ⟨rfl,λ_=>.inl h,λ_=>aP h⟩) λh=>aj ⟨rfl,λh2=>.inr (ba h2),λh2=>aP (h2.resolve_left h)⟩) ?_;rintro⟨b,x⟩ ⟨e,h1,h2⟩;dsimp only at e h1 h2;subst e;refine aN (λh=>?_) λh=>?_
 .rw[aC (h1 h)]at hb;exact aj (aP ⟨hb.1,by dsimp only;rw[hT];exact hb.2⟩)
 rw[aw (hj h1 h2 h)]at hb;refine aK (λh=>?_) λn=>?_
 .rw[aC h]at hb;exact aj (aP ⟨by dsimp only;omega,by dsimp only;rw[hf];show i.2.1<1;omega⟩)
 rw[aw n]at hb;refine aK (λh=>?_) λn=>?_
 .rw[aC h]at hb;exact aj (aP ⟨by dsimp only;omega,by dsimp only;rw[hf];show i.2.2.1<1;omega⟩)
 rw[aw n]at hb;by_cases a:i.1=4
 .rw[aC a]at hb;refine aK (λh=>by have h:i.1=3:=h;omega) λ_=>aK (λ_=>?_) λh=>(h a).elim
  refine gJ (fc (λ_=>aj (aj (PL.2 hb.2))) λh=>by dsimp only at h;omega)
 .rw[aw a]at hb;exact aK (λh=>(hb h).elim) λ_=>aK (λh=>(a h).elim) λ_=>aj rfl
structure GC (nT:Nat) (ss:List π) (k:Int) (c:Int×List IT):Prop where
 r0:1<=c.1
 r1:c.1<=32
 n:1<=c.2.length
 u:c.2.length<=1000000
 e:(iA c.2 (c.2.length-1)).1=28/\(iA c.2 (c.2.length-1)).2.2.2.2.2= -1
 b:rD c.2 0 (c.2.length-1)
 i:∀q:Nat,q<c.2.length-1->GI nT ss k (iA c.2 q)
 r:∀q:Nat,q<c.2.length-1->(iA c.2 q).1=10->0<=(iA c.2 q).2.2.1/\(iA c.2 q).2.2.1<(c.2.length:Int)
 g:∀q:Nat,q<c.2.length-1->∀j:Int,j∈i_ (iA c.2 q)->j<c.1
theorem Fa {nT:Nat} {w:WT} {k:Int} {c:Int×Y IT} (hw:WX w) (hT:w.2.2.2.2.1.length=nT) (hc:GC nT w.2.2.2.2.2 k c):iF (w,k,c)=M J:=by
 obtain⟨r0,r1,n1,hu,he,hb,hi,hr,hg⟩:=hc;refine cf ?_;unfold iF aY bi bx cI bP cY qH bg bw jk bC aX cQ aD cJ;refine aV (λx=>x.2=(w,c)/\x.1=af) ?_ ?_
 .refine bJ (λh=>by have h:c.1<0:=h;omega) λ_=>bJ (λh=>by have h:32<c.1:=h;omega) λ_=>aj ⟨rfl,bt λh=>by have h:aM c.2.length=0:=h;dsimp only[ak]at h;omega⟩
 rintro⟨b,x⟩ ⟨e,hb'⟩;dsimp only at e hb';subst e;subst hb';refine dF ?_;refine bZ c.2.length (λi x=>x.1=(i:Int)/\x.2=(w,c)) ?_ ?_ ⟨rfl,rfl⟩
 .rintro i ⟨a,x⟩ hi2 ⟨e1,e2⟩;dsimp only at e1 e2;subst e1;subst e2;have hla:=VZ c.2 hu n1 hb he.1 i hi2;have hz:∀z:IT,z=iA c.2 i->(i<c.2.length-1->GI nT w.2.2.2.2.2 k z/\(z.1=10->0<=z.2.2.1/\z.2.2.1<(c.2.length:Int))/\(z.1=5->0<=z.2.1/\z.2.1<(c.2.length:Int))/\∀j:Int,j∈i_ z->j<c.1)/\(i=c.2.length-1->z.1=28/\z.2.2.2.2.2= -1):=λz hz=>by
   subst hz;refine ⟨λh=>⟨hi i h,hr i h,λh5=>?_,hg i h⟩,λh=>by rw[h];exact he⟩;obtain⟨_,ρ,hρ⟩:=hb;obtain⟨q',e,hq'⟩:=(hρ i (ie _) h).2.2.1 h5;rw[e];omega
  refine dh ?_;refine b7 (aT ?_);generalize hzz:(aJ (T:=Cm) c.2 (i:Int))=z;obtain⟨A,L⟩:=hz z hzz.symm;have hcs:i<c.2.length-1\/i=c.2.length-1:=by omega
  have o1:1<=z.1:=by
   rcases hcs with h|h
   .exact (A h).1.o.o1
   .rw[(L h).1];decide
  have o2:z.1<=28:=by
   rcases hcs with h|h
   .exact Int.le_trans (A h).1.o.o2 (by decide)
   .rw[(L h).1];decide
  have U:z.1=28->i=c.2.length-1:=λh=>hcs.resolve_left λg=>by have:=(A g).1.o.o2;rw[h]at this;exact b8 this (by decide)
  have hob:OB nT z:=by
   rcases hcs with h|h
   .exact (A h).1.o.b
   .unfold OB;rw[(L h).1];simp
  have hrg:∀j:Int,j∈i_ z->0<=j/\j<c.1:=λj hj=>by
   rcases hcs with h|h
   .exact⟨((A h).1.o.r j hj).1,(A h).2.2.2 j hj⟩
   .unfold i_ at hj;rw[(L h).1]at hj;simp at hj
  have hwr:bl .i64 (aM c.2.length-1)=((c.2.length-1:Nat):Int):=by rw[iw (by dsimp only[ak];omega) (by dsimp only[ak];omega)];dsimp only[ak];omega
  have hcd:((decide (z.1=28)==decide ((i:Int)=bl .i64 (aM c.2.length-1))) !=J)=af:=by
   rw[hwr];rcases hcs with h|h
   .rw[bt λh2=>by have:=U h2;omega,bt (by omega:¬(i:Int)=((c.2.length-1:Nat):Int))];rfl
   .rw[aP (L h).1,aP (by omega:(i:Int)=((c.2.length-1:Nat):Int))];rfl
  refine aV (λx=>x=(af,w,c,z)) ?_ ?_
  .refine bJ (λh=>b8 h (C8.2 o1)) λ_=>bJ (λh=>b8 h (C8.2 o2)) λ_=>gf hcd ?_
   refine aS (Pu w z hw hT hob) (gf rfl (aS hla (aj rfl)))
  rintro x rfl;refine dF (aV (λx=>x=(af,w,c,z)) ?_ ?_)
  .simp only[sM,YD];refine aK (λh=>?_) λh=>?_
   .have h5:=(L (U h)).2;exact ca (λg=>(g h5).elim) λ_=>ca (λg=>(g h).elim) λ_=>aj rfl
   .have hsi:=(A (hcs.resolve_right λg=>h (L g).1)).1.s;refine ca (λ_=>ca (λg=>(g ⟨hsi.1,hsi.2.1⟩).elim) λg=>aR g.1 g.2 (aT (aj ?_))) λg=>(h g).elim
    rw[aP hsi.2.2];rfl
  rintro x rfl;refine dF (aV (λx=>x=(af,w,c,z)) ?_ ?_)
  .simp only[sM,YD];have Z:z.1=5\/z.1=10->i<c.2.length-1:=λh=>hcs.resolve_right λg=>by rw[(L g).1]at h;exact b8 h (by decide)
   refine aK (λh=>?_) λh=>?_
   .have h2:=(A (Z (.inl h))).2.2.1 h;refine ca (λg=>(g h2).elim) λ_=>aK (λg=>?_) λ_=>aj rfl
    rw[h]at g;exact b8 g (by decide)
   .refine aK (λg=>aj ?_) λ_=>aj rfl
    have h2:=(A (Z (.inr g))).2.1 g;rw[aP (show 0<=z.2.2.1/\z.2.2.1<aM c.2.length from h2)];rfl
  rintro x rfl;refine dF (aS (ur z) ?_);have hrl:=Ds z;refine bZ (i_ z).length (λj x=>x=((j:Int),w,c)) ?_ ?_ rfl
  .rintro j x hj rfl;refine dh ?_;refine b7 (aT ?_);refine aS (sM _ _) (ca (λg=>(g (hrg _ (bN (T:=.int .i64) (xs:=i_ z) (j:=(j:Int)) (by omega) (by omega)))).elim) λ_=>aj ?_);dsimp only;rw[gw (by omega)]
  .rintro x rfl;exact di (aj ⟨gw (by omega),rfl⟩)
 .rintro⟨a,x⟩ ⟨e1,e2⟩;dsimp only at e1 e2;subst e1;subst e2;exact di (aj rfl)
abbrev GN:Type:=Y (ζ×Int×Int×Bool×Int)×Y (ζ×Bool)×Y (ζ×Int)×Y ζ×Y ζ×Y π×Y ζ×Int×Int
theorem N6 (l:Y (ζ×Bool)) (s:ζ) (hl:l.length<=1000):Ok (kE (l,s)) λr=> -1<=r/\r<l.length/\(0<=r->(aJ (T:=Vo) l r).1=s)/\(r<0->∀c∈l,c.1≠s):=by
 unfold kE bw bC aX cQ aD cJ;refine bZ l.length (λi x=>x=(i:Int)/\∀k:Nat,k<i->(aJ (T:=Vo) l (k:Int)).1≠s) ?_ ?_ ⟨rfl,λk hk=>by omega⟩
 .rintro i x hi ⟨rfl,a⟩;refine dh ?_;refine b7 (aT ?_);refine aK (λh=>aj ⟨by omega,by omega,λ_=>h,λh=>by omega⟩) λh=>aj ⟨gw (by omega),λk hk=>?_⟩
  rcases ci k i with h1|h1
  .exact a k h1
  .rw[show k=i by omega];exact h
 .rintro x ⟨rfl,a⟩;exact di (aj ⟨by omega,by omega,λh=>by omega,λ_=>iI (T:=Vo) (p:=λc=>c.1≠s) a⟩)
theorem akr {r:Int} {s:ζ} (h: -1<=r/\r<HV.length/\(0<=r->(aJ (T:=Vo) HV r).1=s)/\(r<0->∀c∈HV,c.1≠s)):(s=[109]->r=0)/\(s=[110]->r=1)/\(s=[114]->r=2):=by
 obtain⟨h0,h1,h2,a⟩:=h;have h1:r<3:=h1;rcases (by omega:r= -1\/r=0\/r=1\/r=2) with rfl|rfl|rfl|rfl
 .have a:=a (by decide);exact⟨λh=>(a ([109],af) (by decide) h.symm).elim,λh=>(a ([110],af) (by decide) h.symm).elim,λh=>(a ([114],J) (by decide) h.symm).elim⟩
 .have h2:[109]=s:=h2 (by decide);subst h2;exact⟨λ_=>rfl,λh=>(by cases h),λh=>(by cases h)⟩
 .have h2:[110]=s:=h2 (by decide);subst h2;exact⟨λh=>(by cases h),λ_=>rfl,λh=>(by cases h)⟩
 .have h2:[114]=s:=h2 (by decide);subst h2;exact⟨λh=>(by cases h),λh=>(by cases h),λ_=>rfl⟩
theorem Bi (w:WT) (s:ζ) (A:w.1=C0):Ok (l8 (w,s)) λr=>(s∈NV->s∉L0->0<=r/\r<=2)/\(s=[113]->r=3):=by
 have hl:w.1.length=5:=by rw[A];rfl
 unfold l8 bw bC aX cQ aD cJ;refine bZ w.1.length (λi x=>x.1=(i:Int)/\x.2=w/\∀k:Nat,k<i->(aJ (T:=Pd) w.1 (k:Int)).1≠s) ?_ ?_ ⟨rfl,rfl,λk hk=>by omega⟩
 .rintro i ⟨a,x⟩ hi ⟨e1,e2,e3⟩;dsimp only at e1 e2 e3;subst e1;have e2:=e2.symm;subst e2;refine dh ?_;refine b7 (aT ?_);refine aK (λh=>aj ?_) λg=>aj ?_
  .rw[A]at h e3;rw[hl]at hi;rcases (by omega:i=0\/i=1\/i=2\/i=3\/i=4) with rfl|rfl|rfl|rfl|rfl
   .have h:[120]=s:=h;subst h;exact⟨λ_ _=>⟨by dsimp only;omega,by dsimp only;omega⟩,λh=>(by cases h)⟩
   .have h:[121]=s:=h;subst h;exact⟨λ_ _=>⟨by dsimp only;omega,by dsimp only;omega⟩,λh=>(by cases h)⟩
   .have h:[118]=s:=h;subst h;exact⟨λ_ _=>⟨by dsimp only;omega,by dsimp only;omega⟩,λh=>(by cases h)⟩
   .have h:[113]=s:=h;subst h;exact⟨λh=>b8 h (by decide),λ_=>rfl⟩
   .have h:[113]=s:=h;exact (e3 3 (by omega) h).elim
  .refine ⟨gw (by omega),rfl,λk hk=>?_⟩;rcases ci k i with h1|h1
   .exact e3 k h1
   .rw[show k=i by omega];exact g
 .rintro⟨a,x⟩ ⟨e1,e2,e3⟩;dsimp only at e1 e2 e3;subst e1;have e2:=e2.symm;subst e2;refine di (aj ?_);have hn:=iI (T:=Pd) (p:=λc=>c.1≠s) e3;rw[A]at hn;have a1:=hn ([120],0,0,af,0) (by decide);have a2:=hn ([121],0,0,af,1) (by decide);have a3:=hn ([118],0,0,J,0) (by decide);have L:=hn ([113],0,2,af,0) (by decide);refine ⟨λh z=>?_,λh=>(L h.symm).elim⟩;simp only[bm,cF,gu,L0]at h z;rcases h with rfl|rfl|rfl|rfl|rfl
  .exact (z (.inl rfl)).elim
  .exact (z (.inr rfl)).elim
  .exact (a1 rfl).elim
  .exact (a2 rfl).elim
  .exact (a3 rfl).elim
theorem Jr (i:IT) (g:GN) (out:Y IT) (h:out.length<=100000000):Ok (cN (i,g,out)) λy=>y.1=g/\y.2=out++[(i.1,i.2.1,i.2.2.1,i.2.2.2.1,i.2.2.2.2.1,g.2.2.2.2.2.2.2.1)]:=by
 unfold cN aY bi bx lh bB;exact be (by simp;omega) (by omega) (aj ⟨rfl,rfl⟩)
def VE:Nat->Nat
 |0=>0
 |d+1=>1+2*VE d
theorem JY {l m:Y IT} {k:Nat} (h:k<l.length):iA (l++m) k=iA l k:=by
 unfold iA;rw[Ag,Ag,av,av,bU h]
theorem yf (l:Y IT) (x:IT):iA (l++[x]) l.length=x:=by
 unfold iA;rw[Ag,av,cj (bT _)];simp
structure QC (nT:Nat) (ss:List π) (t:Int) (n:Nat) (out o:List IT):Prop where
 l:out.length<=o.length
 u:o.length<=out.length+n
 p:∀k:Nat,k<out.length->iA o k=iA out k
 b:rD o out.length o.length
 i:∀k:Nat,out.length<=k->k<o.length->GI nT ss t (iA o k)
 r:∀k:Nat,out.length<=k->k<o.length->(iA o k).1=10->0<=(iA o k).2.2.1/\(iA o k).2.2.1<=(o.length:Int)
variable {nT:Nat} {ss:Y π} {t:Int}
theorem QC.nil (n:Nat) (out:Y IT):QC nT ss t n out out:=⟨bT _,by omega,λ_ _=>rfl,rD.nil _ _,λk h1 h2=>by omega,λk h1 h2=>by omega⟩
theorem QC.trans {a b c:Nat} {x y z:Y IT} (h:QC nT ss t a x y) (k:QC nT ss t b y z) (hc:a+b<=c):QC nT ss t c x z:=by
 obtain⟨h1,h2,h3,h4,h5,h6⟩:=h;obtain⟨k1,k2,s,k4,k5,Z⟩:=k;refine ⟨by omega,by omega,λq hq=>(s q (by omega)).trans (h3 q hq),(h4.congr λq _ hq=>s q hq).app k4,λq U L=>?_,λq U L A=>?_⟩
 .by_cases hq:q<y.length
  .rw[s q hq];exact h5 q U hq
  .exact k5 q (by omega) L
 .by_cases hq:q<y.length
  .rw[s q hq]at A ⊢;have:=h6 q U hq A;omega
  .exact Z q (by omega) L A
theorem QC.one {out:Y IT} {i:IT} (h:GI nT ss t i) (a:¬i.1=5/\¬i.1=10):QC nT ss t 1 out (out++[i]):=by
 have hl:(out++[i]).length=out.length+1:=by rw[bf];rfl
 refine ⟨by omega,by omega,λk hk=>JY hk,?_,λk h1 h2=>?_,λk h1 h2 s=>?_⟩
 .rw[hl];exact rD.one (by rw[yf];exact a.1)
 .rw[show k=out.length by omega,yf];exact h
 .rw[show k=out.length by omega,yf]at s;exact (a.2 s).elim
structure GK (ss:List π) (t:Int) (g:GN):Prop where
 c:g.1=C0
 l:g.2.2.2.2.2.2.1=L0
 s:SO ss t g.2.2.2.2.2.2.2.1
theorem Z_ {nT:Nat} {op A B C N Z:Int} (h1:1<=op) (h2:op<=27) (hr:∀j:Int,j∈i_ (op,A,B,C,N,Z)->0<=j/\j<32) (hb:OB nT (op,A,B,C,N,Z)):GO nT (op,A,B,C,N,Z):=⟨h1,h2,hr,hb⟩
theorem Fg {op:Int} {r:υ} {g:GN} {out:Y IT} (h:out.length<=100000000) (hg:GK ss t g) (hi:GO nT (op,r)) (z:¬op=5/\¬op=10):Ok (cN ((op,r),g,out)) λy=>y.1=g/\QC nT ss t 1 out y.2:=(Jr (op,r) g out h).mono λy a=>⟨a.1,by rw[a.2];exact QC.one ⟨⟨hi.o1,hi.o2,hi.r,hi.b⟩,hg.s⟩ z⟩
theorem Oe:∀(n d:Nat),d<n->∀(e:Xp) (k:Int) (g:GN) (out:Y IT),GE d e->GK ss t g->0<=k->k+d<=31->out.length+VE d<=100000000->Ok (iV n ((e,k),g,out)) λy=>y.1=g/\QC nT ss t (VE d) out y.2
 |0,_,h,_,_,_,_,_,_,_,_,_=>by omega
 |n+1,0,_,e,_,_,_,h,_,_,_,_=>h.elim
 |n+1,d+1,hn,e,k,g,out,h,hg,k0,k1,hb=>by
  obtain⟨h1,h2,h3,h4,h5,h6⟩:=h;obtain⟨Z,gl,gs⟩:=id hg;have hv:VE (d+1)=1+2*VE d:=rfl;rw[Bw];unfold ri aY bi bx cI dY bg iZ bB bC aD cJ;refine aV (λy=>y.1=g/\QC nT ss t (VE (d+1)) out y.2) ?_ λx hx=>aj hx
  have fin:∀{y:GN×Y IT},(y.1=g/\QC nT ss t 1 out y.2)->y.1=g/\QC nT ss t (VE (d+1)) out y.2:=λh=>⟨h.1,(QC.nil 0 out).trans h.2 (by omega)⟩
  refine aK (λ_=>?_) λn1=>?_
  .refine ax (Fg (nT:=nT) (by omega) hg (Z_ (by decide) (by decide) (by simp[i_];omega) ((by decide:¬(1:Int)=3))) (by decide)) λy a=>bh (by simp) (aj (fin a))
  refine aK (λU=>?_) λU=>?_
  .refine ax (zo _ _ (by dsimp only;rw[gl];decide)) λv hv=>fc (λg0=>?_) λg0=>?_
   .have s:=hv.2.1;dsimp only at s g0;rw[gl]at s;have s:v<2:=s;refine ax (Fg (nT:=nT) (by omega) hg (Z_ (by decide) (by decide) (by simp[i_];omega) ((by decide:¬(2:Int)=3))) (by decide)) λy a=>bh (by simp) (aj (fin a))
   .have s:=hv.2.2.2 g0;dsimp only at s;rw[gl]at s;refine ax (Bi _ _ Z) λv L=>?_
    have v2:=L.1 (h5 U) s;refine ax (Fg (nT:=nT) (by omega) hg (Z_ (by decide) (by decide) (by simp[i_];omega) (v2)) (by decide)) λy a=>bh (by simp) (aj (fin a))
  have hl:=h2 n1 U;have hrec:∀(j:Nat),j<e.l.length->∀(k':Int) (o:Y IT),0<=k'->k'+d<=31->o.length+VE d<=100000000->Ok (iV n ((aJ (T:=.ex) e.l (j:Int),k'),g,o)) λy=>y.1=g/\QC nT ss t (VE d) o y.2:=λj hj k' o q0 A ho=>Oe n d (by omega) _ k' g o (h4 _ (bN (T:=.ex) (xs:=e.l) (j:=(j:Int)) (by omega) (by omega))) hg q0 A ho
  refine aK (λn3=>?_) λn3=>?_
  .refine b7 (aT ?_);refine ax (hrec 0 hl k out k0 (by omega) (by omega)) λy a=>?_
   obtain⟨g2,o2⟩:=y;obtain⟨A,z⟩:=a;dsimp only at A z;subst A;have q3:=z.u;refine bh (by simp) ?_;refine ax (Bi _ _ Z) λv L=>?_
   have v3:=L.2 (h1 n3);have v3:v=3:=v3;subst v3;refine aR (by decide) (by dsimp only;rw[Z];decide) (aT ?_);refine ax (Fg (nT:=nT) (by omega) hg (Z_ (by decide) (by decide) (by simp[i_];omega) (⟨rfl,by dsimp only;rw[Z];rfl⟩)) (by decide)) λy a=>bh (by simp) (aj ⟨a.1,z.trans a.2 (by omega)⟩)
  obtain⟨h7,h8,h9⟩:=h6 n1 U n3;refine aK (λn4=>?_) λn4=>?_
  .dsimp only[ak]at n4;omega
  .have hl2:1<e.l.length:=by omega
   refine b7 (aT ?_);refine ax (hrec 0 hl k out k0 (by omega) (by omega)) λy a=>?_
   obtain⟨g2,o2⟩:=y;obtain⟨A,z⟩:=a;dsimp only at A z;subst A;have q3:=z.u;refine bh (by simp) ?_;refine b7 (aT ?_);dsimp only;rw[iw (n:=k+1) (by omega) (by omega)];refine ax (hrec 1 hl2 _ o2 (by omega) (by omega) (by omega)) λy a=>?_
   obtain⟨g3,o3⟩:=y;obtain⟨r1,r2⟩:=a;dsimp only at r1 r2;subst r1;have r3:=r2.u;refine bh (by simp) ?_;refine ax (Fg (nT:=nT) (by omega) hg (Z_ (by decide) (by decide) (by simp[i_];omega) (⟨h8,h9⟩)) (by decide)) λy a=>bh (by simp) (aj ⟨a.1,(z.trans r2 (bT _)).trans a.2 (by omega)⟩)
theorem Vk (e:Xp) (k:Int) (g:GN) (out:Y IT) (he:GE 4 e) (hg:GK ss t g) (a:0<=k) (k1:k<=27) (h:out.length<=99999900):Ok (iU ((e,k),g,out)) λy=>y.1=g/\QC nT ss t 15 out y.2:=Oe fuel 4 (by rw[kg];omega) e k g out he hg a (by omega) (by have:VE 4=15:=rfl;omega)
structure GB (nT:Nat) (g:GN):Prop where
 c:g.1=C0
 l:g.2.1=HV
 d:g.2.2.1=NC
 f:g.2.2.2.1=UX
 t:g.2.2.2.2.1=wS.take nT
 h:g.2.2.2.2.2.2.1=L0
structure GQ (g y:GN):Prop where
 a:y.1=g.1
 b:y.2.1=g.2.1
 c:y.2.2.1=g.2.2.1
 d:y.2.2.2.1=g.2.2.2.1
 e:y.2.2.2.2.1=g.2.2.2.2.1
 h:y.2.2.2.2.2.2.1=g.2.2.2.2.2.2.1
theorem GQ.refl (g:GN):GQ g g:=⟨rfl,rfl,rfl,rfl,rfl,rfl⟩
theorem GQ.trans {a b c:GN} (h:GQ a b) (k:GQ b c):GQ a c:=⟨k.a.trans h.a,k.b.trans h.b,k.c.trans h.c,k.d.trans h.d,k.e.trans h.e,k.h.trans h.h⟩
variable {nT:Nat} {ss:Y π} {t:Int}
theorem GB.of {g y:GN} (h:GB nT g) (q:GQ g y):GB nT y:=⟨q.a.trans h.c,q.b.trans h.l,q.c.trans h.d,q.d.trans h.f,q.e.trans h.t,q.h.trans h.h⟩
theorem GQ.site (g:GN) (x:Y π) (a b:Int):GQ g (g.1,g.2.1,g.2.2.1,g.2.2.2.1,g.2.2.2.2.1,x,g.2.2.2.2.2.2.1,a,b):=⟨rfl,rfl,rfl,rfl,rfl,rfl⟩
abbrev gS (g:GN):Int:=g.2.2.2.2.2.2.2.1
abbrev gN (g:GN):Int:=g.2.2.2.2.2.2.2.2
structure QG (nT:Nat) (ss:List π) (t:Int) (n m:Nat) (g:GN) (out:List IT) (y:GN×List IT):Prop where
 q:GQ g y.1
 c:QC nT ss t n out y.2
 x:gN y.1=gN g+(m:Int)
theorem xY {op:Int} {r:υ} {g:GN} {out:Y IT} (h:out.length<=100000000) (hg:GB nT g) (hs:SO ss t (gS g)) (hi:GO nT (op,r)) (a:¬op=5/\¬op=10):Ok (cN ((op,r),g,out)) λy=>y.1=g/\QC nT ss t 1 out y.2:=Fg h ⟨hg.c,hg.h,hs⟩ hi a
theorem Dg (e:Xp) (k:Int) (g:GN) (out:Y IT) (he:GE 4 e) (hg:GB nT g) (hs:SO ss t (gS g)) (a:0<=k) (k1:k<=27) (h:out.length<=99999000):Ok (iU ((e,k),g,out)) λy=>y.1=g/\QC nT ss t 15 out y.2:=Vk e k g out he ⟨hg.c,hg.h,hs⟩ a k1 (by omega)
theorem GB.len {g:GN} (h:GB nT g):aM (ai g.2.2.2.2.2.2.1)=2:=by rw[h.h];rfl
theorem XJ (s:Sx) (g:GN) (out:Y IT) (h1:s.index≠[]->s.name=[113]) (h2:∀e∈s.index,GE 4 e) (h3:GE 4 s.expr) (h4:s.index=[]->s.name∈NV) (hg:GB nT g) (hs:SO ss t (gS g)) (h:out.length<=99990000):Ok (mB (s,g,out)) λy=>y.1=g/\QC nT ss t 40 out y.2:=by
 have hex:GE 4 (eC (Xp.op s.expr,Xp.n s.expr,Xp.name s.expr,Xp.l s.expr)):=by rw[fE];exact h3
 have e3:bl .i64 ((2:Int)+1)=3:=iw (by decide) (by decide);unfold mB aY bi bx cI dY bw iZ bB bC aX;refine bJ (λz=>?_) λz=>?_
 .dsimp only[ak]at z;refine b7 (aT ?_);refine ax (Dg _ _ g out (h2 _ (bN (T:=.ex) (xs:=s.index) (j:=0) (by omega) (by omega))) hg hs (by rw[hg.len];decide) (by rw[hg.len];decide) (by omega)) λy a=>?_
  obtain⟨g2,o2⟩:=y;obtain⟨U,L⟩:=a;dsimp only at U L;subst U;have q3:=L.u;refine bh (by simp) ?_;dsimp only;rw[hg.len,e3];refine ax (Dg _ _ g2 o2 hex hg hs (by decide) (by decide) (by omega)) λy a=>?_
  obtain⟨g3,o3⟩:=y;obtain⟨r1,r2⟩:=a;dsimp only at r1 r2;subst r1;have r3:=r2.u;refine bh (by simp) ?_;refine ax (Bi _ _ hg.c) λv hv=>?_
  have Z:=hv.2 (h1 (λh=>by rw[h]at z;simp at z));have Z:v=3:=Z;subst Z;refine aR (by decide) (by dsimp only;rw[hg.c];decide) (aT ?_);refine ax (xY (by omega) hg hs (Z_ (by decide) (by decide) (by simp[i_,hg.h,L0]) (⟨rfl,by dsimp only;rw[hg.c];rfl⟩)) (by decide)) λy a=>bh (by simp) (aj ⟨a.1,(L.trans r2 (bT _)).trans a.2 (by omega)⟩)
 .have hi0:s.index=[]:=g_.1 (by dsimp only[ak]at z;omega);refine ax (Dg _ _ g out hex hg hs (by rw[hg.len];decide) (by rw[hg.len];decide) (by omega)) λy a=>?_
  obtain⟨g2,o2⟩:=y;obtain⟨U,L⟩:=a;dsimp only at U L;subst U;have q3:=L.u;refine bh (by simp) ?_;refine ax (zo _ _ (by dsimp only;rw[hg.h];decide)) λv hv=>fc (λz=>?_) λz=>?_
  .have A:=hv.2.1;dsimp only at A z;rw[hg.h]at A;have A:v<2:=A;refine ax (xY (by omega) hg hs (Z_ (by decide) (by decide) (by simp[i_,hg.h,L0];omega) ((by decide:¬(2:Int)=3))) (by decide)) λy a=>bh (by simp) (aj ⟨a.1,L.trans a.2 (by omega)⟩)
  .have A:=hv.2.2.2 z;dsimp only at A;rw[hg.h]at A;refine ax (Bi _ _ hg.c) λv hv2=>?_
   have v2:=hv2.1 (h4 hi0) A;refine ax (xY (by omega) hg hs (Z_ (by decide) (by decide) (by simp[i_,hg.h,L0]) (v2)) (by decide)) λy a=>bh (by simp) (aj ⟨a.1,L.trans a.2 (by omega)⟩)
theorem af4 (s:ζ) (g:GN) (out:Y IT) (hg:GB nT g):Ok (jJ (s,g,out)) λy=>y.2=(g,out)/\(s=[99]->y.1=0):=by
 have hd:g.2.2.1.length=1:=by rw[hg.d];rfl
 unfold jJ aY bw bC aX cQ aD cJ;refine bZ 1 (λi x=>x.1=(i:Int)/\x.2=(g,out)/\(s=[99]->i=0)) ?_ ?_ ⟨rfl,rfl,λ_=>rfl⟩
 .rintro i ⟨a,x⟩ hi ⟨e1,e2,e3⟩;dsimp only at e1 e2 e3;subst e1;subst e2;refine dh ?_;refine b7 (aT ?_);refine aK (λ_=>aj ⟨rfl,λ_=>by dsimp only;omega⟩) λh=>aj ⟨gw (by omega),rfl,λh2=>?_⟩
  refine (h ?_).elim;dsimp only;rw[hg.d,show i=0 by omega,h2];rfl
 .rintro⟨a,x⟩ ⟨e1,e2,e3⟩;dsimp only at e1 e2 e3;subst e1;subst e2;exact di (aj ⟨rfl,λh=>by have:=e3 h;omega⟩)
def ME:Nat->Nat
 |0=>0
 |d+1=>50+16*ME d
def SR (ss:Y π) (t a:Int) (m:Nat):Prop:=0<=a/\a+m<=1000/\∀i:Int,a<=i->i<a+m->SO ss t i
def SpG (nT:Nat) (ss:Y π) (t:Int) (a:Sx×GN×Y IT->I (GN×Y IT)) (d:Nat):Prop:=∀(s:Sx) (g:GN) (out:Y IT),GS nT d s->GB nT g->SR ss t (gN g) (Rn d s)->out.length+ME d<=90000000->Ok (a (s,g,out)) (QG nT ss t (ME d) (Rn d s) g out)
def ag2 (nT:Nat) (ss:Y π) (t:Int) (rs:Y Sx×GN×Y IT->I (GN×Y IT)) (d:Nat):Prop:=∀(l:Y Sx) (g:GN) (out:Y IT),l.length<=100->(∀s∈l,GS nT d s)->GB nT g->SR ss t (gN g) (og d l)->out.length+l.length*ME d<=90000000->Ok (rs (l,g,out)) (QG nT ss t (l.length*ME d) (og d l) g out)
abbrev FS6:Type:=Y Sx×GN×Y IT->I (GN×Y IT)
abbrev FT6:Type:=Sx×GN×Y IT->I (GN×Y IT)
abbrev FA6:Type:=(Sx×Int×Int×Int)×GN×Y IT->I (GN×Y IT)
variable {nT:Nat} {ss:Y π} {t:Int}
def ane (nT:Nat) (ss:Y π) (t:Int) (a:FT6) (d:Nat):Prop:=∀(s:Sx) (g:GN) (out:Y IT),s.op=2\/s.op=3->GE 4 s.expr->s.body.length<=8->s.els.length<=8->(∀x∈s.body,GS nT d x)->(∀x∈s.els,GS nT d x)->(¬s.op=2->s.els=[])->GB nT g->SO ss t (gS g)->SR ss t (gN g) (og d s.body+og d s.els)->out.length+ME (d+1)<=90000000->Ok (a (s,g,out)) (QG nT ss t (17+16*ME d) (og d s.body+og d s.els) g out)
def anf (nT:Nat) (ss:Y π) (t:Int) (ra:FA6) (d:Nat):Prop:=∀(s:Sx) (a b c:Int) (g:GN) (out:Y IT),s.body.length<=8->(∀x∈s.body,GS nT d x)->GO nT (a,c,0,0,0,0)->GO nT (b,c,0,0,0,0)->¬a=5/\¬a=10->¬b=5/\¬b=10->GB nT g->SO ss t (gS g)->SR ss t (gN g) (og d s.body)->out.length+ME (d+1)<=90000000->Ok (ra ((s,a,b,c),g,out)) (QG nT ss t (17+16*ME d) (og d s.body) g out)
theorem SR.sub {a b:Int} {m n:Nat} (h:SR ss t a m) (h1:a<=b) (h2:b+n<=a+m):SR ss t b n:=⟨by have:=h.1;omega,by have:=h.2.1;omega,λi z s=>h.2.2 i (by omega) (by omega)⟩
theorem WF (rs:FS6) (L:FT6) (Z:FT6) (ra:FA6) (d:Nat) (ht:SpG nT ss t L d):ag2 nT ss t (rj rs L Z ra) d:=by
 intro l g out hl hs hg hso hb;unfold rj bw bB bC aX cQ aD cJ;refine bZ l.length (λi x=>x.1=(i:Int)/\QG nT ss t (i*ME d) (og d (l.take i)) g out x.2) ?_ ?_ ⟨rfl,GQ.refl g,QC.nil _ _,by simp[og]⟩
 .rintro i ⟨a,U,o2⟩ hi ⟨e1,z,s,q3⟩;dsimp only at e1 z s q3;subst e1;have hK:(i+1)*ME d<=l.length*ME d:=cR _ (by omega);have hKs:=jf i (ME d);rw[Nat.succ_eq_add_one]at hKs;have hp:=QL (d:=d) l (i+1);rw[xD hi]at hp;have q4:=s.u;refine dh ?_;refine b7 (aT ?_);refine ax (ht _ U o2 (hs _ (bN (T:=.sm) (xs:=l) (j:=(i:Int)) (by omega) (by omega))) (hg.of z) (hso.sub (by rw[q3];omega) (by rw[q3];dsimp only;omega)) (by omega)) λy A=>bh (by simp) (aj ?_)
  rw[xD hi];exact⟨gw (by omega),z.trans A.q,s.trans A.c (by omega),by rw[A.x,q3];dsimp only;omega⟩
 .rintro⟨a,U,o2⟩ ⟨e1,q⟩;dsimp only at e1;subst e1;rw[cO]at q;exact di (aj q)
theorem S4 (rs:FS6) (rt:FT6) (rb:FT6) (ra:FA6) (d:Nat) (hS:ag2 nT ss t rs d):anf nT ss t (pA rs rt rb ra) d:=by
 intro s a b c g out h1 h2 ga gb na nb hg hs hso hb;have hm:ME (d+1)=50+16*ME d:=rfl;have kb:s.body.length*ME d<=8*ME d:=cR _ h1;unfold pA aY bi bx cI dY lh bP qH bB;refine ax (xY (by omega) hg hs ga na) λy z=>?_
 obtain⟨g2,o2⟩:=y;obtain⟨Z,A⟩:=z;dsimp only at Z A;subst Z;have q3:=A.u;refine bh (by simp) ?_;refine ax (hS s.body g2 o2 (by omega) h2 hg hso (by omega)) λy z=>?_
 obtain⟨L,o3⟩:=y;obtain⟨r1,r2,r3⟩:=z;dsimp only at r1 r2 r3;have r4:=r2.u;refine bh (by simp) ?_;have U:=r1.trans (GQ.site L L.2.2.2.2.2.1 g2.2.2.2.2.2.2.2.1 L.2.2.2.2.2.2.2.2);refine ax (xY (by dsimp only;omega) (hg.of U) hs gb nb) λy z=>bh (by simp) (aj ⟨?_,?_,?_⟩)
 .rw[z.1];exact U
 .exact (A.trans r2 (bT _)).trans z.2 (by omega)
 .rw[z.1];exact r3
theorem Ab {l:Y IT} {j k:Nat} {x:IT} (h:j<l.length):iA (cL l (j:Int) x) k=if k=j then x else iA l k:=Kj (T:=Cm) l j k x h
abbrev ptB (l:Y IT) (j:Nat) (b:Int):Y IT:=cL l (j:Int) ((iA l j).1,(iA l j).2.1,b,(iA l j).2.2.2.1,(iA l j).2.2.2.2.1,(iA l j).2.2.2.2.2)
abbrev ptA (l:Y IT) (j:Nat) (a:Int):Y IT:=cL l (j:Int) ((iA l j).1,a,(iA l j).2.2.1,(iA l j).2.2.2.1,(iA l j).2.2.2.2.1,(iA l j).2.2.2.2.2)
theorem GI.pb {i:IT} {b:Int} (h:GI nT ss t i) (h1:i.1=10):GI nT ss t (i.1,i.2.1,b,i.2.2.2.1,i.2.2.2.2.1,i.2.2.2.2.2):=by
 obtain⟨Z,U,L,A,z,a⟩:=i;dsimp only at h1;subst h1;exact⟨⟨h.o.o1,h.o.o2,h.o.r,(by decide:¬(10:Int)=3)⟩,h.s⟩
theorem QC.cbr {n m:Nat} {out o1 o2 a:Y IT} {br:IT} (h1:QC nT ss t n out o1) (h2:o2=o1++[br]) (hb:GI nT ss t br) (A:br.1=10) (z:QC nT ss t m o2 a) (F:Y IT) (hl:a.length<=F.length) (L:∀k:Nat,k<a.length->¬k=o1.length->iA F k=iA a k) (hFb:∃b:Int,(0<=b/\b<=(F.length:Int))/\iA F o1.length=(br.1,br.2.1,b,br.2.2.2.1,br.2.2.2.2.1,br.2.2.2.2.2)):(∀k:Nat,k<out.length->iA F k=iA out k)/\rD F out.length o1.length/\(iA F o1.length).1=10/\rD F (o1.length+1) a.length/\(∀k:Nat,out.length<=k->k<a.length->GI nT ss t (iA F k))/\∀k:Nat,out.length<=k->k<a.length->(iA F k).1=10->0<=(iA F k).2.2.1/\(iA F k).2.2.1<=(F.length:Int):=by
 have l2:o2.length=o1.length+1:=by rw[h2,bf];rfl
 have l1:=h1.l;have l3:=z.l;have e1:∀k:Nat,k<o1.length->iA F k=iA o1 k:=λk hk=>by rw[L k (by omega) (by omega),z.p k (by omega),h2,JY hk]
 obtain⟨b,hb0,eb⟩:=hFb;refine ⟨λk hk=>(e1 k (by omega)).trans (h1.p k hk),h1.b.congr λk _ hk=>e1 k hk,by rw[eb];exact A,?_,λk Z s=>?_,λk Z s U=>?_⟩
 .have:=z.b;rw[l2]at this;exact this.congr λk Z s=>L k s (by omega)
 .rcases O6 k o1.length with hk|hk|hk
  .rw[e1 k hk];exact h1.i k Z hk
  .rw[hk,eb];exact hb.pb A
  .rw[L k s (by omega)];exact z.i k (by omega) s
 .rcases O6 k o1.length with hk|hk|hk
  .rw[e1 k hk]at U ⊢;have:=h1.r k Z hk U;omega
  .rw[hk,eb];exact hb0
  .rw[L k s (by omega)]at U ⊢;have:=z.r k (by omega) s U;omega
theorem M0 (rs:FS6) (rt:FT6) (rb:FT6) (ra:FA6) (d:Nat) (hS:ag2 nT ss t rs d):ane nT ss t (mY rs rt rb ra) d:=by
 intro s g out hop he h1 h2 h3 h4 hel hg hs hso hb;have hm:ME (d+1)=50+16*ME d:=rfl;have kb:s.body.length*ME d<=8*ME d:=cR _ h1;have ke:s.els.length*ME d<=8*ME d:=cR _ h2;have hex:GE 4 (eC (Xp.op s.expr,Xp.n s.expr,Xp.name s.expr,Xp.l s.expr)):=by rw[fE];exact he
 unfold mY aY bi bx cI dY lh qH ck bg bB aX;refine ax (Dg _ _ g out hex hg hs (by rw[hg.len];decide) (by rw[hg.len];decide) (by omega)) λy hy=>?_
 obtain⟨Z,o1⟩:=y;obtain⟨p1,p2⟩:=hy;dsimp only at p1 p2;subst p1;have p3:=p2.u;have p4:=p2.l;refine bh (by simp) ?_;refine ax (Jr _ Z o1 (by omega)) λy hy=>?_
 obtain⟨A,o2⟩:=y;obtain⟨q1,q2⟩:=hy;dsimp only at q1 q2;subst q1;rw[hg.len]at q2;have hbr:GI nT ss t ((10,2,0,0,0,A.2.2.2.2.2.2.2.1):IT):=⟨Z_ (by decide) (by decide) (by simp[i_]) (by decide:¬(10:Int)=3),hs⟩
 have l2:o2.length=o1.length+1:=by rw[q2,bf];rfl
 refine bh (by simp) ?_;refine ax (hS s.body A o2 (by omega) h3 hg (hso.sub (dx _) (by omega)) (by omega)) λy hy=>?_
 obtain⟨U,a⟩:=y;obtain⟨r1,r2,r3⟩:=hy;dsimp only at r1 r2 r3;have r4:=r2.u;have r5:=r2.l;have ebr:iA a o1.length=(10,2,0,0,0,A.2.2.2.2.2.2.2.1):=by rw[r2.p _ (by omega),q2,yf]
 refine bh (by simp) ?_;have qs:=r1.trans (GQ.site U U.2.2.2.2.2.1 A.2.2.2.2.2.2.2.1 U.2.2.2.2.2.2.2.2);refine aK (λh3w=>?_) λh3w=>?_
 .have hels:og d s.els=0:=by rw[hel (by have h3w:s.op=3:=h3w;omega)];rfl
  rw[hels,dt];refine ax (Jr _ _ a (by omega)) λy hy=>?_
  obtain⟨g4,L⟩:=y;obtain⟨w1,w2⟩:=hy;dsimp only at w1 w2;have l4:L.length=a.length+1:=by rw[w2,bf];rfl
  refine bh (by simp) (aR (dZ _) (by dsimp only[ak];omega) (aR (dZ _) (by dsimp only[ak];omega) (aj ?_)));have hat:o1.length<L.length:=by omega
  have ej:iA L a.length=(5,(out.length:Int),0,0,0,A.2.2.2.2.2.2.2.1):=by rw[w2,yf];rfl
  have e43:∀k:Nat,k<a.length->iA L k=iA a k:=λk hk=>by rw[w2,JY hk]
  refine ⟨by dsimp only;rw[w1];exact qs,?_,by dsimp only;rw[w1];exact r3⟩;dsimp only;have eF:∀{z:IT} {k:Nat},¬k=o1.length->iA (cL L ((o1.length:Nat):Int) z) k=iA L k:=λh=>by rw[Ab hat,aw h]
  obtain⟨f1,f2,f3,f4,f5,f6⟩:=p2.cbr q2 hbr rfl r2 (ptB L o1.length (aM L.length)) (by rw[bY];omega) (λk hk hn=>(eF hn).trans (e43 k hk)) ⟨_,⟨dZ _,by rw[bY];exact dx _⟩,by rw[Ab hat,aC rfl,e43 _ (by omega),ebr];rfl⟩;show QC nT ss t _ out (ptB L o1.length (aM L.length));have ejF:iA (ptB L o1.length (aM L.length)) a.length=(5,(out.length:Int),0,0,0,A.2.2.2.2.2.2.2.1):=(eF (by omega:¬a.length=o1.length)).trans ej;refine ⟨by rw[bY];omega,by rw[bY];omega,f1,?_,λk Z A=>?_,λk Z A U=>?_⟩
  .rw[(bY _ _ _).trans l4];exact f2.whl f3 f4 (by rw[ejF]) (by rw[ejF])
  .rw[bY,l4]at A;by_cases hk:k<a.length
   .exact f5 k Z hk
   .rw[show k=a.length by omega,ejF];exact⟨Z_ (by decide) (by decide) (by simp[i_]) (by decide:¬(5:Int)=3),hs⟩
  .have g2':=A;rw[bY,l4]at g2';by_cases hk:k<a.length
   .exact f6 k Z hk U
   .rw[show k=a.length by omega,ejF]at U;cases U
 refine aK (λhz=>?_) λ_=>?_
 .have hels:og d s.els=0:=by rw[g_.1 (by dsimp only[ak]at hz;omega:s.els.length=0)];rfl
  rw[hels,dt];refine aR (dZ _) (by dsimp only[ak];omega) (aR (dZ _) (by dsimp only[ak];omega) (aj ⟨qs,?_,r3⟩));dsimp only;have hat:o1.length<a.length:=by omega
  obtain⟨f1,f2,f3,f4,f5,f6⟩:=p2.cbr q2 hbr rfl r2 (ptB a o1.length (aM a.length)) (by rw[bY];omega) (λk hk hn=>by rw[Ab hat,aw hn]) ⟨_,⟨dZ _,by rw[bY];exact dx _⟩,by rw[Ab hat,aC rfl,ebr];rfl⟩;show QC nT ss t _ out (ptB a o1.length (aM a.length));refine ⟨by rw[bY];omega,by rw[bY];omega,f1,?_,λk Z A=>?_,λk Z A U=>?_⟩
  .rw[bY];exact (f2.app (rD.one (by rw[f3];decide))).app f4
  .rw[bY]at A;exact f5 k Z A
  .exact f6 k Z (by rw[bY]at A;exact A) U
 .refine ax (Jr _ _ a (by omega)) λy hy=>?_
  obtain⟨g4,L⟩:=y;obtain⟨w1,w2⟩:=hy;dsimp only at w1 w2;have l4:L.length=a.length+1:=by rw[w2,bf];rfl
  have qs4:GQ A g4:=by rw[w1];exact qs
  have x4:gN g4=gN A+(og d s.body:Nat):=by rw[w1];exact r3
  have hat:o1.length<L.length:=by omega
  have ej:iA L a.length=(5,0,0,0,0,A.2.2.2.2.2.2.2.1):=by rw[w2,yf]
  have e43:∀k:Nat,k<a.length->iA L k=iA a k:=λk hk=>by rw[w2,JY hk]
  refine bh (by simp) (aR (dZ _) (by dsimp only[ak];omega) (aR (dZ _) (by dsimp only[ak];omega) ?_));have eF:∀{z:IT} {k:Nat},¬k=o1.length->iA (cL L ((o1.length:Nat):Int) z) k=iA L k:=λh=>by rw[Ab hat,aw h]
  refine ax (hS s.els g4 (ptB L o1.length (aM L.length)) (by omega) h4 (hg.of qs4) (hso.sub (by rw[x4];omega) (by rw[x4];omega)) (by rw[bY];omega)) λy hy=>?_
  obtain⟨g5,o5⟩:=y;obtain⟨z1,z2,z3⟩:=hy;dsimp only at z1 z2 z3;have z4:=z2.l;have z5:=z2.u;have zp:=z2.p;have zb:=z2.b;have zi:=z2.i;have zr:=z2.r;rw[bY]at z4 z5 zp zb zi zr;have hj5:a.length<o5.length:=by omega
  refine bh (by simp) (aR (dZ _) (by dsimp only[ak];omega) (aR (dZ _) (by dsimp only[ak];omega) (aj ⟨qs4.trans z1,?_,by dsimp only;rw[z3,x4];omega⟩)));dsimp only;show QC nT ss t _ out (ptA o5 a.length (aM o5.length));have eG:∀{z:IT} {k:Nat},¬k=a.length->iA (cL o5 ((a.length:Nat):Int) z) k=iA o5 k:=λh=>by rw[Ab hj5,aw h]
  have ej5:iA o5 a.length=(5,0,0,0,0,A.2.2.2.2.2.2.2.1):=by rw[zp _ (by omega),eF (by omega),ej]
  obtain⟨f1,f2,f3,f4,f5,f6⟩:=p2.cbr q2 hbr rfl r2 (ptA o5 a.length (aM o5.length)) (by rw[bY];omega) (λk hk hn=>by rw[eG (by omega),zp k (by omega),eF hn,e43 k hk]) ⟨aM L.length,⟨dZ _,by rw[bY];dsimp only[ak];omega⟩,by rw[eG (by omega),zp _ (by omega),Ab hat,aC rfl,e43 _ (by omega),ebr]⟩;have ejF:iA (ptA o5 a.length (aM o5.length)) a.length=(5,aM o5.length,0,0,0,A.2.2.2.2.2.2.2.1):=by rw[Ab hj5,aC rfl,ej5]
  refine ⟨by rw[bY];omega,by rw[bY];omega,f1,?_,λk Z A=>?_,λk Z A U=>?_⟩
  .rw[bY];refine ((f2.app (rD.one (by rw[f3];decide))).app f4).ite (by rw[ejF]) (by rw[ejF];rfl) ?_;rw[l4]at zb;exact zb.congr λk Z A=>eG (by omega)
  .rw[bY]at A;rcases O6 k a.length with hk|hk|hk
   .exact f5 k Z hk
   .rw[hk,ejF];exact⟨Z_ (by decide) (by decide) (by simp[i_]) (by decide:¬(5:Int)=3),hs⟩
   .rw[eG (by omega)];exact zi k (by omega) A
  .have g2':=A;rw[bY]at g2';rcases O6 k a.length with hk|hk|hk
   .exact f6 k Z hk U
   .rw[hk,ejF]at U;cases U
   .rw[eG (by omega)]at U ⊢;rw[bY];exact zr k (by omega) g2' U
theorem Z9 (rs:FS6) (rt:FT6) (rb:FT6) (ra:FA6) (d:Nat) (hB:ane nT ss t rb d) (hA:anf nT ss t ra d):SpG nT ss t (sP rs rt rb ra) (d+1):=by
 intro s g out hs hg hso hb;have hm:ME (d+1)=50+16*ME d:=rfl;obtain⟨i1,i2,i3,i4,i5,i6,i7,i8,i9,Z⟩:=hs;have hcn:Rn (d+1) s=1+og d s.body+og d s.els:=rfl;rw[hcn]at hso ⊢;obtain⟨so0,so1,so2⟩:=id hso;have so0:0<=g.2.2.2.2.2.2.2.2:=so0;have so1:g.2.2.2.2.2.2.2.2+((1+og d s.body+og d s.els:Nat):Int)<=1000:=so1;have ew:bl .i64 (g.2.2.2.2.2.2.2.2+1)=g.2.2.2.2.2.2.2.2+1:=iw (by omega) (by omega);have gs:=GQ.site g g.2.2.2.2.2.1 g.2.2.2.2.2.2.2.2 (bl .i64 (g.2.2.2.2.2.2.2.2+1));unfold sP aY bi bx cI dY bP qH bg bB aX aD cJ eD;refine aV (λx=>QG nT ss t (ME (d+1)) (1+og d s.body+og d s.els) g out x) ?_ λx hx=>aj hx
 dsimp only;have hs1:SO ss t (gS ((g.1,g.2.1,g.2.2.1,g.2.2.2.1,g.2.2.2.2.1,g.2.2.2.2.2.1,g.2.2.2.2.2.2.1,g.2.2.2.2.2.2.2.2,bl .i64 (g.2.2.2.2.2.2.2.2+1)):GN)):=so2 _ (dx _) (by show g.2.2.2.2.2.2.2.2<g.2.2.2.2.2.2.2.2+((1+og d s.body+og d s.els:Nat):Int);omega);have hn1:gN ((g.1,g.2.1,g.2.2.1,g.2.2.2.1,g.2.2.2.2.1,g.2.2.2.2.2.1,g.2.2.2.2.2.2.1,g.2.2.2.2.2.2.2.2,bl .i64 (g.2.2.2.2.2.2.2.2+1)):GN)=gN g+1:=ew;revert gs hs1 hn1;generalize ((g.1,g.2.1,g.2.2.1,g.2.2.2.1,g.2.2.2.2.1,g.2.2.2.2.2.1,g.2.2.2.2.2.2.1,g.2.2.2.2.2.2.2.2,bl .i64 (g.2.2.2.2.2.2.2.2+1)):GN)=U;intro gs hs1 hn1;have L:=hg.of gs;have hso1:=hso.sub (b:=gN U) (n:=og d s.body+og d s.els) (by rw[hn1];omega) (by rw[hn1];omega);have fin:∀(n m:Nat) (y:GN×Y IT),QG nT ss t n m U out y->n<=ME (d+1)->m=og d s.body+og d s.els->QG nT ss t (ME (d+1)) (1+og d s.body+og d s.els) g out y:=λn m y A hn hm=>⟨gs.trans A.q,(QC.nil 0 out).trans A.c (by omega),by rw[A.x,hn1];omega⟩
 have fin0:s.op=1\/9<=s.op->∀(n:Nat) (y:GN×Y IT),y.1=U/\QC nT ss t n out y.2->n<=ME (d+1)->QG nT ss t (ME (d+1)) (1+og d s.body+og d s.els) g out y:=λz n y A hn=>fin n 0 y ⟨by rw[A.1];exact GQ.refl U,A.2,by rw[A.1];simp⟩ hn (by rw[Z.bo z,Z.el (by omega)];rfl)
 refine aK (λz=>?_) λ_=>?_
 .refine ax (XJ (oz _) U out ?_ ?_ ?_ ?_ L hs1 (by omega)) λy A=>bh (by simp) (aj (fin0 (.inl z) _ _ A (by omega)))
  .rw[yR];exact i1
  .rw[yR];exact i3
  .rw[yR];exact i4 (.inl z)
  .rw[yR];exact Z.vr z
 refine aV (λx=>x.2=(U,s,out)/\(x.1=J↔s.op=2\/s.op=3)) ?_ ?_
 .exact aK (λh=>aj ⟨by dsimp only;rw[yR],λ_=>.inl h,λ_=>aP h⟩) λh=>aj ⟨by dsimp only;rw[yR],λh2=>.inr (ba h2),λh2=>aP (h2.resolve_left h)⟩
 rintro⟨b,x⟩ ⟨e,hb2⟩;dsimp only at e hb2;subst e;refine aN (λhb3=>?_) λhbf=>?_
 .dsimp only;rw[yR];refine ax (hB s U out (hb2.1 hb3) (i4 (by rcases hb2.1 hb3 with h|h;exact .inr (.inl h);exact .inr (.inr (.inl h)))) i6 i7 i8 i9 Z.el L hs1 hso1 hb) λy A=>bh (by simp) (aj (fin _ _ _ A (by omega) rfl))
 have har:∀(a b c:Int),4<=s.op->GO nT (a,c,0,0,0,0)->GO nT (b,c,0,0,0,0)->¬a=5/\¬a=10->¬b=5/\¬b=10->Ok (ra ((s,a,b,c),U,out)) λy=>QG nT ss t (ME (d+1)) (1+og d s.body+og d s.els) g out y:=λa b c h4 ga gb na nb=>(hA s a b c U out i6 i8 ga gb na nb L hs1 (hso1.sub (dx _) (by omega)) hb).mono λy A=>fin _ _ _ A (by omega) (by rw[Z.el (by omega)];rfl)
 have hput:∀{op:Int} {r:υ},9<=s.op->GO nT (op,r)->¬op=5/\¬op=10->Ok (cN ((op,r),U,out)) (QG nT ss t (ME (d+1)) (1+og d s.body+og d s.els) g out):=λh9 hi h5=>(xY (by omega) L hs1 hi h5).mono λy A=>fin0 (.inr h9) _ _ A (by omega)
 have hlk:∀n:ζ,Ok (kE (U.2.1,n)) λr=>(n=[109]->r=0)/\(n=[110]->r=1)/\(n=[114]->r=2):=λn=>(N6 U.2.1 n (by rw[L.l];decide)).mono λr h=>akr (by rw[L.l]at h;exact h)
 have hcond:∀(n:ζ),Ok (jJ (n,U,out)) λy=>y.2=(U,out)/\(n=[99]->y.1=0):=λn=>af4 n U out L
 have hth:Ok (jq (U.2.2.2.2.1,s.name)) λr=>s.op=12\/s.op=13->0<=r/\r<(nT:Int):=(zo U.2.2.2.2.1 s.name (by rw[L.t,bM];have q4:wS.length=4:=rfl;omega)).mono λr hr z=>by
  have hn:=Z.sp z;have hl:(wS.take nT).length<=nT:=qI ..;obtain⟨_,h2,_,h4⟩:=hr;rw[L.t]at h2 h4;exact⟨C8.1 λh=>h4 h hn,by omega⟩
 have hft:∀n:ζ,Ok (jq (U.2.2.2.1,n)) λr=>n=[102]->r=0:=λn=>(zo U.2.2.2.1 n (by rw[L.f];decide)).mono λr hr hn=>by
  obtain⟨h1,h2,_,h4⟩:=hr;rw[L.f]at h2 h4;have h2:r<1:=h2;have:¬r<0:=λh=>h4 h (by rw[hn];decide)
  omega
 dsimp only;rw[yR];have gor:∀{a c:Int},1<=a->a<=27->i_ (a,c,0,0,0,0)=[]->OB nT (a,c,0,0,0,0)->GO nT (a,c,0,0,0,0):=λh1 h2 h3 h4=>⟨h1,h2,by rw[h3];exact λj hj=>(by cases hj),h4⟩
 refine aK (λz=>ax (hlk _) λv hv=>ax (har _ _ _ (by have z:s.op=4:=z;omega) (gor (by decide) (by decide) rfl ?_) (gor (by decide) (by decide) rfl ?_) (by decide) (by decide)) λy A=>bh (by simp) (aj A)) λ_=>?_
 .exact (Z.lk z).imp hv.1 hv.2.1
 .exact (Z.lk z).imp hv.1 hv.2.1
 refine aK (λz=>ax (hlk _) λv hv=>ax (har _ _ _ (by have z:s.op=5:=z;omega) (gor (by decide) (by decide) rfl ?_) (gor (by decide) (by decide) rfl ?_) (by decide) (by decide)) λy A=>bh (by simp) (aj A)) λ_=>?_
 .exact hv.2.2 (Z.rw (.inl z))
 .exact hv.2.2 (Z.rw (.inl z))
 refine aK (λz=>ax (hlk _) λv hv=>ax (har _ _ _ (by have z:s.op=6:=z;omega) (gor (by decide) (by decide) rfl ?_) (gor (by decide) (by decide) rfl ?_) (by decide) (by decide)) λy A=>bh (by simp) (aj A)) λ_=>?_
 .exact hv.2.2 (Z.rw (.inr z))
 .exact hv.2.2 (Z.rw (.inr z))
 refine aK (λz=>ax (har _ _ _ (by have z:s.op=7:=z;omega) (gor (by decide) (by decide) rfl (by decide:¬(17:Int)=3)) (gor (by decide) (by decide) rfl (by decide:¬(18:Int)=3)) (by decide) (by decide)) λy A=>bh (by simp) (aj A)) λ_=>?_
 refine aK (λz=>ax (har _ _ _ (by have z:s.op=8:=z;omega) (gor (by decide) (by decide) rfl (by decide:¬(19:Int)=3)) (gor (by decide) (by decide) rfl (by decide:¬(20:Int)=3)) (by decide) (by decide)) λy A=>bh (by simp) (aj A)) λ_=>?_
 refine aK (λz=>ax (hcond _) λy A=>?_) λ_=>?_
 .obtain⟨v,y2⟩:=y;obtain⟨y3,y4⟩:=A;dsimp only at y3;subst y3;exact bh (by simp) (ax (hput (by have z:s.op=9:=z;omega) (gor (by decide) (by decide) rfl (y4 (Z.cn (.inl z)))) (by decide)) λy A=>bh (by simp) (aj A))
 refine aK (λz=>ax (hcond _) λy A=>?_) λ_=>?_
 .obtain⟨v,y2⟩:=y;obtain⟨y3,y4⟩:=A;dsimp only at y3;subst y3;exact bh (by simp) (ax (hput (by have z:s.op=10:=z;omega) (gor (by decide) (by decide) rfl (y4 (Z.cn (.inr (.inl z))))) (by decide)) λy A=>bh (by simp) (aj A))
 refine aK (λz=>ax (hcond _) λy A=>?_) λ_=>?_
 .obtain⟨v,y2⟩:=y;obtain⟨y3,y4⟩:=A;dsimp only at y3;subst y3;exact bh (by simp) (ax (hput (by have z:s.op=11:=z;omega) (gor (by decide) (by decide) rfl (y4 (Z.cn (.inr (.inr z))))) (by decide)) λy A=>bh (by simp) (aj A))
 refine aK (λz=>ax hth λv hv=>ax (hput (by have z:s.op=12:=z;omega) (gor (by decide) (by decide) rfl (hv (.inl z))) (by decide)) λy A=>bh (by simp) (aj A)) λ_=>?_
 refine aK (λz=>ax hth λv hv=>ax (hput (by have z:s.op=13:=z;omega) (gor (by decide) (by decide) rfl (hv (.inr z))) (by decide)) λy A=>bh (by simp) (aj A)) λ_=>?_
 refine aK (λz=>?_) λn14=>?_
 .have hex:GE 4 (eC (Xp.op s.expr,Xp.n s.expr,Xp.name s.expr,Xp.l s.expr)):=by rw[fE];exact i4 (.inr (.inr (.inr z)))
  refine ax (Dg _ _ U out hex L hs1 (by rw[hg.len];decide) (by rw[hg.len];decide) (by omega)) λy A=>?_
  obtain⟨g2,o2⟩:=y;obtain⟨q1,q2⟩:=A;dsimp only at q1 q2;subst q1;have q3:=q2.u;refine bh (by simp) (ax (hft _) λv hv=>?_);refine ax (xY (by omega) L hs1 (Z_ (by decide) (by decide) (by simp[i_,hg.h,L0]) (hv (Z.se z))) (by decide)) λy A=>bh (by simp) (aj (fin0 (.inr (by have z:s.op=14:=z;omega)) 16 _ ⟨A.1,q2.trans A.2 (bT _)⟩ (by omega)))
 refine aK (λz=>?_) λn15=>?_
 .refine ax (zo _ _ (by rw[L.h];decide)) λv hv=>ax (hft _) λv2 hv2=>?_
  have hge:=Z.ge z;have hl:(0:Int)<=v/\v<2:=by
   obtain⟨_,h2,_,h4⟩:=hv;rw[L.h]at h2 h4;exact⟨C8.1 λh=>h4 h (by rw[hge.1];decide),h2⟩
  exact ax (hput (by have z:s.op=15:=z;omega) (Z_ (by decide) (by decide) (by simp[i_];omega) (hv2 hge.2)) (by decide)) λy A=>bh (by simp) (aj A)
 .exfalso;have h1:=Z.o0;have h2:=Z.o1;have h3:¬(s.op=2\/s.op=3):=λh=>by have hbf:b=af:=hbf;rw[hb2.2 h]at hbf;cases hbf
  omega
variable {nT:Nat} {ss:Y π} {t:Int}
theorem YW:∀(n:Nat),(∀d:Nat,3*d<n->SpG nT ss t (eU n) d)/\(∀d:Nat,3*d+1<n->ag2 nT ss t (dU n) d)/\(∀d:Nat,3*d+2<n->ane nT ss t (dv n) d)/\(∀d:Nat,3*d+2<n->anf nT ss t (dO n) d)
 |0=>⟨λd h=>by omega,λd h=>by omega,λd h=>by omega,λd h=>by omega⟩
 |n+1=>by
  obtain⟨z,a,A,hA⟩:=YW n;refine ⟨λd h=>?_,λd h=>?_,λd h=>?_,λd h=>?_⟩
  .cases d with
   |zero=>exact λs g out hs=>hs.elim
   |succ d=>exact Z9 (dU n) (eU n) (dv n) (dO n) d (A d (by omega)) (hA d (by omega))
  .exact WF (dU n) (eU n) (dv n) (dO n) d (z d (by omega))
  .exact M0 (dU n) (eU n) (dv n) (dO n) d (a d (by omega))
  .exact S4 (dU n) (eU n) (dv n) (dO n) d (a d (by omega))
theorem Qf (d:Nat) (hd:d<=100):ag2 nT ss t uS d:=(YW fuel).2.1 d (by rw[kg];omega)
structure SL (t k:Int) (m:Nat) (S:List π):Prop where
 l:S.length=m
 v:∀i:Nat,i<m->(aJ (T:=yP) S (i:Int)).1=t/\(aJ (T:=yP) S (i:Int)).2.1=k+i
theorem Kl {T:Ty} {l m:Y T.den} {k:Nat} (h:k<l.length):aJ (l++m) (k:Int)=aJ l (k:Int):=by
 rw[Ag,Ag,av,av,bU h]
theorem Kk {T:Ty} {l m:Y T.den} {k:Nat} (h:l.length<=k):aJ (l++m) (k:Int)=aJ m ((k-l.length:Nat):Int):=by
 rw[Ag,Ag,av,av,cj h]
theorem SL.nil (t k:Int):SL t k 0 []:=⟨rfl,λi h=>by omega⟩
theorem SL.one (t k z:Int):SL t k 1 [(t,k,z)]:=⟨rfl,λi h=>by rw[show i=0 by omega];exact⟨rfl,by show k=k+((0:Nat):Int);omega⟩⟩
theorem SL.app {k k':Int} {a b:Nat} {S S':Y π} (h:SL t k a S) (h':SL t k' b S') (hk:k'=k+a):SL t k (a+b) (S++S'):=by
 obtain⟨h1,h2⟩:=h;obtain⟨z,s⟩:=h';refine ⟨by rw[bf];omega,λi hi=>?_⟩;by_cases hl:i<S.length
 .rw[Kl (T:=yP) hl];exact h2 i (by omega)
 .rw[Kk (T:=yP) (by omega)];have:=s (i-S.length) (by omega);exact⟨this.1,this.2.trans (show k'+((i-S.length:Nat):Int)=k+(i:Int) by omega)⟩
theorem FO:∀(n d:Nat),d<n->∀(t k:Int) (l:Y Sx) (out:Y π),l.length<=100->(∀s∈l,GT d s)->0<=k->k+og d l<=100000000->out.length+og d l<=100000000->Ok (qc n ((t,k,l),out)) λy=>y.1=k+og d l/\∃S,y.2=out++S/\SL t k (og d l) S
 |0,_,h,_,_,_,_,_,_,_,_,_=>by omega
 |n+1,d,hn,t,k,l,out,hl,hs,k0,hkb,hb=>by
  rw[If];unfold yi bw wQ bB aX cQ aD cJ;refine bZ l.length (λi x=>x.1.2=(i:Int)/\x.1.1=k+og d (l.take i)/\∃S,x.2=out++S/\SL t k (og d (l.take i)) S) ?_ ?_ ⟨rfl,by simp[og],[],by simp,by simp[og];exact SL.nil t k⟩
  .rintro i ⟨⟨a,b⟩,o⟩ hi ⟨e1,e2,S,e3,e4⟩;dsimp only at e1 e2 e3;subst e1;subst e2;subst e3;have hp:=QL (d:=d) l (i+1);rw[xD hi]at hp;rw[xD hi];refine dh ?_;have hin:((i:Nat):Int)<(l.length:Int):=by omega
   have hm:=hs _ (bN (T:=.sm) (xs:=l) (j:=(i:Int)) (by omega) (by omega));have hSl:=e4.l;cases d with
   |zero=>exact hm.elim
   |succ d=>
    obtain⟨_,_,_,g4,g5,g6,g7⟩:=hm;have hc:Rn (d+1) (aJ (T:=.sm) l (i:Int))=1+og d (Sx.body (aJ (T:=.sm) l (i:Int)))+og d (Sx.els (aJ (T:=.sm) l (i:Int))):=rfl;rw[hc]at hp ⊢;dsimp only;refine aR (by omega) hin (aT (be (by simp;omega) (by omega) (aR (by omega) hin (aT ?_))));rw[iw (n:=k+(og (d+1) (l.take i):Nat)+1) (by omega) (by omega)];refine ax (FO n d (by omega) _ _ _ _ (by omega) g6 (by omega) (by omega) (by simp;omega)) λy z=>bh (by simp) ?_
    obtain⟨a2,o2⟩:=y;obtain⟨y1,S2,Z,U⟩:=z;dsimp only at y1 Z;subst y1;subst Z;have hSl2:=U.l;refine aR (by omega) hin (aT ?_);refine ax (FO n d (by omega) _ _ _ _ (by omega) g7 (by omega) (by omega) (by simp;omega)) λy z=>bh (by simp) (aj ?_)
    obtain⟨a3,o3⟩:=y;obtain⟨L,S3,A,z3⟩:=z;dsimp only at L A;subst L;subst A;refine ⟨gw (by omega),by dsimp only;omega,S++([_]++(S2++S3)),by simp only[gV];rfl,?_⟩;refine e4.app ?_ rfl;rw[qf];exact (SL.one t _ _).app (U.app z3 rfl) (by simp)
  .rintro⟨⟨a,b⟩,o⟩ ⟨e1,e2,e3⟩;dsimp only at e1 e2 e3;subst e1;subst e2;rw[cO]at e3 ⊢;exact di (aj ⟨rfl,e3⟩)
theorem Yi {T k' A k:Int} {l S:Y π} {m:Nat} (h:Ml T l=M (k',A)) (L:SL t k m S) (hk:(k'=t/\A=k)\/(k'<t/\t<T/\k=0)):∀i:Nat,i<=m->Ml T (l++S.take i)=M (if i=0 then (k',A) else (t,k+i))
 |0,_=>by rw[List.take_zero,ik,aC rfl];exact h
 |i+1,hi=>by
  have Z:=Yi h L hk i (by omega);rw[nu (T:=yP) (xs:=S) (i:=i) (by rw[L.l];omega),<-gV,Yk,Z];obtain⟨a,z⟩:=L.v i (by omega);rw[aw (Nat.succ_ne_zero i)];by_cases s:i=0
  .subst s;rw[aC rfl];unfold Ve;dsimp only;rcases hk with ⟨h1,h2⟩|⟨h1,h2,U⟩
   .rw[aC ⟨by rw[a,h1],by rw[z,h2];simp⟩,h1,h2];simp
   .rw[aw (λh=>by rw[a]at h;omega),aC ⟨by rw[a];exact h1,by rw[a];exact h2,by rw[z,U];rfl⟩,a,U];simp
  .rw[aw s];unfold Ve;dsimp only;rw[aC ⟨a,z⟩];congr 2;omega
abbrev CE6:Type:=ζ×Int×Int×Bool×Int
abbrev W4T:Type:=Y CE6×Y (ζ×Bool)×Y (ζ×Int)×Y ζ
def ceD (z:DT):Y CE6:=(cq (aQ (fJ z.2.2.2.1 1))).map λ(k:Nat)=>(z.2.2.1,(k:Int),z.2.2.2.1,decide (z.1=2),z.2.2.2.2.1)
def adD (y:W4T) (z:DT):W4T:=
 if z.1=1\/z.1=2 then (y.1++ceD z,y.2) else if z.1=3\/z.1=4 then (y.1,y.2.1++[(z.2.2.1,decide (z.1=4))],y.2.2) else if z.1=5 then (y.1,y.2.1,y.2.2.1++[(z.2.2.1,0)],y.2.2.2) else (y.1,y.2.1,y.2.2.1,y.2.2.2++[z.2.2.1])
def W4 (i:Nat):W4T:=(D0.take i).foldl adD ([],[],[],[])
theorem W4_9:W4 9=(C0,HV,NC,UX):=rfl
theorem W4_s {i:Nat} (hi:i<9):W4 (i+1)=adD (W4 i) (aJ (T:=tDc) D0 (i:Int)):=by
 unfold W4;rw[nu (T:=tDc) (xs:=D0) hi,dz];rfl
theorem D0_c:∀i:Nat,i<9->(aJ (T:=tDc) D0 (i:Int)).1=5->i=7:=by decide
theorem aql:∀i:Nat,i<9->(W4 i).1.length<=5/\(W4 i).2.1.length<=3/\(W4 i).2.2.1.length<=1/\(W4 i).2.2.2.length<=1/\fJ (aJ (T:=tDc) D0 (i:Int)).2.2.2.1 1<=2/\1<=fJ (aJ (T:=tDc) D0 (i:Int)).2.2.2.1 1:=by decide
def bsN (p:PG) (i:Nat):Nat:=((p.2.take i).map λt=>og 5 t.2.2.2).sum
def boN (p:PG) (i:Nat):Nat:=og 5 (aJ (T:=zJ) p.2 (i:Int)).2.2.2
theorem al3 {p:PG} {i:Nat} (hi:i<p.2.length):bsN p (i+1)=bsN p i+boN p i:=by
 unfold bsN boN;rw[nu (T:=zJ) hi,cM,Gv];simp
theorem XF {p:PG} (i:Nat) (h:(p.2.map λt=>og 5 t.2.2.2).sum<=60):bsN p i<=60:=by
 refine dy ?_ h
 conv=>rhs;rw[<- Cg i p.2]
 unfold bsN;rw[cM,Gv];omega
structure SW (p:PG) (i:Nat) (S:List π):Prop where
 l:S.length=bsN p i
 f:∃a b,Ml p.2.length S=M (a,b)/\(a<i\/a=0/\b=0)
 s:∀j:Nat,j<i->SR S (j:Int) (bsN p j:Nat) (boN p j)
structure WW (p:PG) (w:WT):Prop where
 x:WX w
 t:w.2.2.2.2.1=wS.take p.2.length
 s:∀j:Nat,j<p.2.length->SR w.2.2.2.2.2 (j:Int) (bsN p j:Nat) (boN p j)
theorem SO.app {S S':Y π} {t s:Int} (h:SO S t s):SO (S++S') t s:=by
 obtain⟨h0,h1,h2⟩:=h;obtain⟨s,rfl⟩:∃n:Nat,s=(n:Int):=⟨s.toNat,by omega⟩
 exact⟨h0,by rw[bf];omega,by rw[Kl (T:=yP) (by omega)];exact h2⟩
theorem XO (p:PG) (hp:PJ p) (r:ν) (hr:fH p=M r) (h0:r.1=0) (hc:(p.2.map λt=>og 5 t.2.2.2).sum<=60):Ok (uT p) (WW p):=by
 have hpt:=hp.t;unfold uT aY bi bx cI dY bP dG cY fG kA bg bw jk bB bC aX cQ aD cJ;refine aS hr (ca (λh=>(h h0).elim) λ_=>?_);have hD:p.1=D0:=hp.d;have hlen:p.1.length=9:=by rw[hD];rfl
 refine bZ 9 (λi x=>x.1=(i:Int)/\x.2.1=p/\x.2.2=W4 i) ?_ ?_ ⟨rfl,rfl,rfl⟩
 .rintro i ⟨a,p',y⟩ hi ⟨e1,e2,e3⟩;dsimp only at e1 e2 e3;subst e1;have e2:=e2.symm;subst e2;obtain⟨b1,b2,b3,b4,b5,b6⟩:=aql i hi;rw[<- e3]at b1 b2 b3 b4;have hW:=W4_s hi;rw[<- e3]at hW;have hcd:=D0_c i hi;have hlk:i=7->y.2.1=HV/\(aJ (T:=tDc) D0 (i:Int)).2.2.2.2.2=[109]:=λh=>by subst h;rw[e3];exact⟨rfl,rfl⟩
  refine dh ?_;refine b7 (aT ?_);dsimp only;rw[hD];revert hW hcd hlk b5 b6;generalize (aJ (T:=tDc) D0 (i:Int))=z;intro b5 b6 hW hcd hlk;refine aV (λx=>x=(p,W4 (i+1))) ?_ ?_
  .rw[hW];unfold adD;refine aV (λx=>x.2=(p,z,y)/\(x.1=J↔(z.1=1\/z.1=2))) ?_ ?_
   .exact aK (λh=>aj ⟨rfl,λ_=>.inl h,λ_=>aP h⟩) λh=>aj ⟨rfl,λh2=>.inr (ba h2),λh2=>aP (h2.resolve_left h)⟩
   rintro⟨b,x⟩ ⟨e,hb⟩;dsimp only at e hb;subst e;refine aN (λA=>?_) λA=>?_
   .rw[aC (hb.1 A)];unfold ceD;obtain⟨m,hm⟩:∃m:Nat,fJ z.2.2.2.1 1=(m:Int):=⟨(fJ z.2.2.2.1 1).toNat,by omega⟩
    rw[hm,bO];refine bZ m (λk x=>x=((k:Int),p,z,y.1++(cq k).map (λ(k:Nat)=>(z.2.2.1,(k:Int),z.2.2.2.1,decide (z.1=2),z.2.2.2.2.1)),y.2)) ?_ ?_ (by simp)
    .rintro k x hk rfl;refine bJ (λ_=>?_) λg=>(by dsimp only at g;rw[hm]at g;omega)
     refine be (by simp;omega) (by omega) (aj ?_);dsimp only;rw[gw (by omega),Gw,cM,<-gV];rfl
    .rintro x rfl;exact bJ (λg=>(by dsimp only at g;rw[hm]at g;omega)) λ_=>aj rfl
   rw[aw λh=>by have A:b=af:=A;rw[hb.2 h]at A;cases A];refine aV (λx=>x.2=(p,z,y)/\(x.1=J↔(z.1=3\/z.1=4))) ?_ ?_
   .exact aK (λh=>aj ⟨rfl,λ_=>.inl h,λ_=>aP h⟩) λh=>aj ⟨rfl,λh2=>.inr (ba h2),λh2=>aP (h2.resolve_left h)⟩
   rintro⟨c,x⟩ ⟨e,Z⟩;dsimp only at e Z;subst e;refine aN (λh=>?_) λh=>?_
   .rw[aC (Z.1 h)];exact be (by simp;omega) (by omega) (aj rfl)
   rw[aw λh2=>by have h:c=af:=h;rw[Z.2 h2]at h;cases h];refine aK (λh5=>?_) λh5=>?_
   .obtain⟨l1,l2⟩:=hlk (hcd h5);rw[aC h5];refine ax (N6 _ _ (by dsimp only;rw[l1];decide)) λv hv=>?_
    have hv:=(akr (by dsimp only at hv;rw[l1]at hv;exact hv)).1 l2;subst hv;exact be (by simp;omega) (by omega) (aj rfl)
   .rw[aw h5];exact be (by simp;omega) (by omega) (aj rfl)
  rintro x rfl;exact aj ⟨gw (by omega),rfl,rfl⟩
 .rintro⟨a,p',y⟩ ⟨e1,e2,j⟩;dsimp only at e1 e2 j;subst e1;have e2:=e2.symm;subst e2;rw[W4_9]at j;subst j;refine di ?_;refine ax (P:=WW p) ?_ λr hr=>aj hr
  refine bZ p.2.length (λi x=>x.1=(i:Int)/\x.2.1=p/\x.2.2.1=C0/\x.2.2.2.1=HV/\x.2.2.2.2.1=NC/\x.2.2.2.2.2.1=UX/\x.2.2.2.2.2.2.1=wS.take i/\SW p i x.2.2.2.2.2.2.2) ?_ ?_ ⟨rfl,rfl,rfl,rfl,rfl,rfl,rfl,rfl,⟨0,0,rfl,.inr ⟨rfl,rfl⟩⟩,λj hj=>by omega⟩
  .rintro i ⟨a,p2,c2,l2,d2,f2,t2,s2⟩ hi ⟨e1,e2,e3,e4,e5,e6,e7,U,⟨fa,fb,f8,f9⟩,L⟩;dsimp only at e1 e2 e3 e4 e5 e6 e7 U f8 L;subst e1;have e2:=e2.symm;subst e2;have hb8:=XF (i+1) hc;have hbs:=al3 hi;refine dh ?_;have hin:((i:Nat):Int)<(p.2.length:Int):=by omega
   have hm:=hp.m _ (bN (T:=zJ) (xs:=p.2) (j:=(i:Int)) (by omega) hin);have hnm:(aJ (T:=zJ) p.2 (i:Int)).1=aJ (T:=.str) wS (i:Int):=by
    have h1:=nu (T:=zJ) hi;have h2:=hP (List.map Prod.fst) h1;rw[cM,ll,ll,hp.n,List.take_take,List.take_take,tG (by omega),tG (by omega),nu (T:=.str) (xs:=wS) (i:=i) (by have q4:wS.length=4:=rfl;omega)]at h2;exact ((List.cons.inj (List.append_cancel_left h2)).1).symm
   have htl:t2.length=i:=by rw[e7,bM];have q4:wS.length=4:=rfl;omega
   dsimp only;refine aR (by omega) hin (aT (be (by simp;omega) (by omega) (aR (by omega) hin (aT ?_))));refine ax (FO fuel 5 (by rw[kg];omega) _ _ _ s2 (by have:=hm.b;omega) (λs hs=>((hm.s s hs).le (by omega:3<=5)).t) (dx _) ?_ ?_) λy hy=>bh (by simp) (aj ?_)
   .show (0:Int)+(boN p i:Nat)<=_;omega
   .show s2.length+boN p i<=_;omega
   obtain⟨_,S,h2,h3⟩:=hy;have h3:SL (i:Int) 0 (boN p i) S:=h3;refine ⟨gw (by omega),rfl,e3,e4,e5,e6,?_,?_⟩
   .dsimp only;rw[e7,hnm,<-nu (T:=.str) (xs:=wS) (i:=i) (by have q4:wS.length=4:=rfl;omega)]
   .dsimp only;rw[h2];refine ⟨by rw[bf,h3.l,U,hbs],?_,λj hj=>?_⟩
    .have hr:=Yi f8 h3 (by rcases f9 with h|⟨h,h'⟩;exact .inr ⟨h,by omega,rfl⟩;rcases Me i with hi0|hi0;exact .inl ⟨by omega,h'⟩;exact .inr ⟨by omega,by omega,rfl⟩) (boN p i) (bT _);rw[<- h3.l,cO]at hr;rw[hr];split
     .exact⟨_,_,rfl,f9.imp (λh=>by omega) id⟩
     .exact⟨_,_,rfl,.inl (by omega)⟩
    .rcases ci j i with h1|h1
     .obtain⟨g1,g2,g3⟩:=L j h1;exact⟨g1,g2,λq q1 q2=>(g3 q q1 q2).app⟩
     .have hj:j=i:=by omega
      subst hj;refine ⟨by omega,by omega,λq q1 q2=>?_⟩;obtain⟨q,rfl⟩:∃n:Nat,q=(n:Int):=⟨q.toNat,by omega⟩
      refine ⟨by omega,by rw[bf,h3.l];omega,?_⟩;rw[Kk (T:=yP) (by omega)];exact (h3.v _ (by omega)).1
  .rintro⟨a,p2,c2,l2,d2,f2,t2,s2⟩ ⟨e1,e2,e3,e4,e5,e6,e7,U,⟨fa,fb,f8,f9⟩,L⟩;dsimp only at e1 e2 e3 e4 e5 e6 e7 U f8 L;subst e1;have e2:=e2.symm;subst e2;subst e3;subst e4;subst e5;subst e6;subst e7;refine di (aj ?_);have hb8:=XF p.2.length hc;refine ⟨⟨rfl,rfl,rfl,rfl,⟨p.2.length,hp.t0,hp.t,rfl⟩,by dsimp only;omega,?_⟩,rfl,L⟩;unfold SV0;have hTl:(wS.take p.2.length).length=p.2.length:=by rw[bM];have q4:wS.length=4:=rfl;omega
   dsimp only;rw[hTl,f8];simp
def NM9:Y ζ:=[[120],[121],[118],[113],[109],[110],[114],[99],[102]]
set_option maxHeartbeats 20000000 in
theorem adn (t:Y ζ) (ht:t.length<=4) (s:Y π):pR (C0,HV,NC,UX,t,s)=M (NM9++t,J):=by
 refine cf ?_;unfold pR aY bi bx cI dG kA bg bw jk bB bC aX cQ aD cJ;with_reducible repeat' first|exact aj rfl|refine YB ?_|refine YA ?_|refine Yz ?_|refine Yx ?_|refine ahp ?_|refine aT ?_|refine fX rfl ?_|refine gf rfl ?_|refine bh rfl ?_|refine Yy ?_|refine RZ ?_|refine RY ?_
 refine be (by show 9+t.length<=1073741824;omega) (by decide) ?_;with_reducible repeat' first|exact aj rfl|refine YB ?_|refine YA ?_|refine Yz ?_|refine Yx ?_|refine ahp ?_|refine aT ?_|refine fX rfl ?_|refine gf rfl ?_|refine bh rfl ?_|refine Yy ?_|refine RZ ?_|refine RY ?_
theorem UV:∀x∈NM9++wS,Ok (fA x) λb=>b=J:=by
 intro x a;simp only[NM9,wS,fR,kn,bm,cF,gu]at a;rcases a with rfl|rfl|rfl|rfl|rfl|rfl|rfl|rfl|rfl|rfl|rfl|rfl|rfl;all_goals with_reducible repeat' first|exact aj rfl|refine YB ?_|refine YA ?_|refine Yz ?_|refine Yx ?_|refine RY ?_|refine ahp ?_|refine aT ?_|refine fX rfl ?_|refine gf rfl ?_|refine bh rfl ?_|refine Yy ?_|refine RZ ?_|refine dk (fA.eq_1 ..) ?_|refine dk (jU.eq_1 ..) ?_|refine dk (kS.eq_1 ..) ?_|refine dk (l9.eq_1 ..) ?_|refine dk (pW.eq_1 ..) ?_|refine dk (r8.eq_1 ..) ?_
theorem GT.up:∀{d:Nat} {s:Sx},GT d s->GT (d+1) s
 |0,_,h=>h.elim
 |_+1,_,⟨a,b,c,e,f,g,i⟩=>⟨a,b,c,e,f,λx z=>GT.up (g x z),λx z=>GT.up (i x z)⟩
theorem amm {l:Y Sx} (h:∀s∈l,GT 3 s):og 5 l=og 3 l:=by
 unfold og;rw[iL λx a=>(QK (GT.up (h x a))).trans (QK (h x a))]
theorem ani:∀i:Nat,i<13->∀r:Nat,r<i->aJ (T:=.str) (NM9++wS) (r:Int)≠aJ (T:=.str) (NM9++wS) (i:Int):=by decide
theorem RE (T:Int):∀l:Y π,l.foldl (Ve T) D=D
 |[]=>rfl
 |_::r=>RE T r
theorem Yj {T:Int} {l:Y π} (h:Ml T l≠D) (i:Nat):Ml T (l.take i)≠D:=λhn=>h (by
 unfold Ml at hn ⊢;rw[<- Cg i l,dz,hn,RE])
theorem acy {T t n:Int} {z:π} (h:Ve T (M (t,n)) z≠D):Ve T (M (t,n)) z=M (z.1,z.2.1+1)/\(z.1=t/\z.2.1=n\/t<z.1/\z.1<T/\z.2.1=0):=by
 unfold Ve at h ⊢;dsimp only at h ⊢;by_cases h1:z.1=t/\z.2.1=n
 .rw[aC h1];exact⟨by rw[h1.1,h1.2],.inl h1⟩
 .rw[aw h1]at h ⊢;by_cases h2:t<z.1/\z.1<T/\z.2.1=0
  .rw[aC h2];exact⟨by rw[h2.2.2];rfl,.inr h2⟩
  .rw[aw h2]at h;exact (h rfl).elim
theorem Cw {R:Type} {a b:Int} {t f:I R} {Q:R->Prop} (h:b<=a) (hf:Ok f Q):Ok (aF (fP a b) t f) Q:=gf (gB.2 h) hf
theorem It {w:WT} (hx:WX w):io w=M J:=by
 obtain⟨w1,w2,w3,w4,a,s⟩:=w;obtain⟨hc,hl,hd,hf,⟨n,n1,n4,ht⟩,hs,hv⟩:=hx;dsimp only at hc hl hd hf ht hs;subst hc;subst hl;subst hd;subst hf;have hT:a.length=n:=by rw[ht,bM];have q4:wS.length=4:=rfl;omega
 have hv:Ml a.length s≠D:=hv;refine cf ?_;unfold io aY bi bx cI cY fG bg bw iZ jk bB bC aX cQ aD cJ;refine aV (λx=>x=(af,C0,HV,NC,UX,a,s)) ?_ ?_
 .refine Cw (show (5:Int)<=12 by decide) (Cw (show (3:Int)<=4 by decide) (Cw (show (1:Int)<=2 by decide) (Cw (show (1:Int)<=2 by decide) (Cw (show (1:Int)<=(a.length:Int) by omega) (Cw (show (a.length:Int)<=4 by omega) (aj ?_))))));dsimp only[ak];rw[gB.2 (show (s.length:Int)<=60 by omega)]
 rintro x rfl;refine dF (aS (adn a (by omega) s) (gf rfl ?_));have hN:NM9++a=(NM9++wS).take (9+n):=by rw[ht];rcases (by omega:n=1\/n=2\/n=3\/n=4) with rfl|rfl|rfl|rfl<;>rfl
 have hNl:(NM9++a).length=9+n:=by rw[bf,hT];rfl
 have hNg:∀i:Nat,i<9+n->aJ (T:=.str) (NM9++a) (i:Int)=aJ (T:=.str) (NM9++wS) (i:Int):=λi hi=>by
  rw[hN,Ag,Ag,av,av,List.getElem?_take_of_lt hi]
 refine bZ (9+n) (λi x=>x=((i:Int),C0,HV,NC,UX,a,s)) ?_ ?_ rfl
 .rintro i x hi rfl;refine bJ (λ_=>?_) λg=>(by dsimp only[ak]at g;rw[hNl]at g;omega)
  refine aV (λx=>x=(af,C0,HV,NC,UX,a,s)) ?_ ?_
  .refine aR (by dsimp only;omega) (by dsimp only;rw[hNl];omega) (aT ?_);have hmem:aJ (T:=.str) (NM9++a) (i:Int)∈NM9++wS:=by rw[hNg i hi];exact bN (T:=.str) (by omega) (by have:(NM9++wS).length=13:=rfl;omega)
   refine ax (UV _ hmem) λb hb=>?_
   refine gf (by rw[hb];rfl) (dc (dI (by dsimp only;omega) (dI (by dsimp only;rw[hNl];omega) ?_)));refine aR (by dsimp only;omega) (by dsimp only;rw[hNl];omega) (aT ?_);refine ax (zo _ _ (by dsimp only;rw[bM,hNl];omega)) λr hr=>aj ?_
   obtain⟨_,h2,Z,_⟩:=hr;dsimp only at h2 Z;rw[bM,hNl]at h2;have hr0:¬0<=r:=λh0=>by
    have Z:=Z h0;obtain⟨r,rfl⟩:∃m:Nat,r=(m:Int):=⟨r.toNat,by omega⟩
    rw[Ag,av,List.getElem?_take_of_lt (by omega),<-av,<-Ag (T:=.str),hNg r (by omega),hNg i hi]at Z;exact ani i (by omega) r (by omega) Z
   rw[mE.2 (by omega)]
  .rintro x rfl;exact dF (aj (by dsimp only;rw[gw (by omega)]))
 rintro x rfl;refine bJ (λg=>(by dsimp only[ak]at g;rw[hNl]at g;omega)) λ_=>?_
 refine ax (P:=λb=>b=J) ?_ λy hy=>aj hy
 refine bZ 1 (λi x=>x=((i:Int),C0,HV,NC,UX,a,s)) ?_ ?_ rfl
 .rintro i x hi rfl;have hi0:i=0:=by omega
  subst hi0;refine fX rfl (bh rfl (aT (aV (λx=>x=(af,C0,HV,NC,UX,a,s)) ?_ ?_)))
  .exact gf rfl (gf rfl (bh rfl (aT (aj rfl))))
  .rintro x rfl;exact dF (aj (by dsimp only;rw[gw (by omega)]))
 rintro x rfl;refine bJ (λg=>(by have g:(1:Int)<1:=g;omega)) λ_=>?_
 refine ax (P:=λb=>b=J) ?_ λy hy=>aj hy
 refine bZ s.length (λi x=>x=((i:Int),C0,HV,NC,UX,a,s)/\∃t k:Int,Ml a.length (s.take i)=M (t,k)/\0<=t/\t<(a.length:Int)/\(i=0->t=0/\k=0)/\(¬i=0->(aJ (T:=yP) s ((i-1:Nat):Int)).1=t/\(aJ (T:=yP) s ((i-1:Nat):Int)).2.1+1=k/\0<k/\k<=i)) ?_ ?_ ⟨rfl,0,0,rfl,by omega,by omega,λ_=>⟨rfl,rfl⟩,λh=>(h rfl).elim⟩
 .rintro i x hi ⟨rfl,t,k,hF,t0,tT,hz,hp⟩;have hw:¬(i:Int)=0->bl .i64 ((i:Int)-1)=((i-1:Nat):Int):=λh=>by rw[iw (by omega) (by omega)];omega
  have hnx:=Jm (T:=a.length) hi;have hne:=Yj hv (i+1);rw[hnx,hF]at hne;obtain⟨hs1,A⟩:=acy hne;rw[hF,hs1]at hnx;refine dh ?_;refine aV (λx=>x=(C0,HV,NC,UX,a,s)) ?_ ?_
  .refine b7 (aT ?_);revert A;generalize (aJ (T:=yP) s (i:Int))=z;obtain⟨(L:Int),(z2:Int),z3⟩:=z;intro A;dsimp only at A;refine aV (λx=>x=(af,(C0,HV,NC,UX,a,s),L,z2,z3)) ?_ ?_
   .refine Cw (show (0:Int)<=L by omega) (aj ?_);dsimp only[ak];rw[mE.2 (show L<(a.length:Int) by omega)]
   rintro x rfl;refine dF (aV (λx=>x.2=((C0,HV,NC,UX,a,s),L,z2,z3)/\(x.1=J->i=0\/¬t=L)/\(x.1=af->¬i=0/\t=L)) ?_ ?_)
   .refine aK (λh=>aj ⟨rfl,λ_=>.inl (by have h:((i:Nat):Int)=0:=h;omega),λh=>(by cases h)⟩) λh=>?_
    have h:¬((i:Nat):Int)=0:=h;dsimp only;rw[hw h];have hq:=(hp (by omega)).1;exact aR (by omega) (by first|omega|(dsimp only;omega)) (aT (aj ⟨rfl,λh2=>.inr (by rw[<- hq];simpa using h2),λh2=>⟨by omega,by rw[<- hq];simpa using h2⟩⟩))
   rintro⟨c,x⟩ ⟨e,U,hc⟩;dsimp only at e U hc;subst e;refine aN (λhct=>?_) λhcf=>?_
   .have hz2:z2=0:=by
     rcases U hct with h|h
     .have:=hz h;omega
     .omega
    refine aV (λx=>x=(af,C0,HV,NC,UX,a,s)) ?_ ?_
    .refine ca (λh=>(h hz2).elim) λ_=>bJ (λh=>?_) λ_=>aj rfl
     have h:(0:Int)<((i:Nat):Int):=h;dsimp only;rw[hw (by omega)];have hq:=(hp (by omega)).1;refine aR (by omega) (by first|omega|(dsimp only;omega)) (aT (aj ?_));dsimp only;rw[hq,gB.2 (show t<=L by omega)]
    rintro x rfl;exact dF (aj rfl)
   .obtain⟨h1,h2⟩:=hc hcf;obtain⟨_,p2,p3,p4⟩:=hp h1;dsimp only;rw[hw (by omega)];refine aR (by omega) (by first|omega|(dsimp only;omega)) (aT ?_);refine ca (λh=>(h ?_).elim) λ_=>aj rfl
    try dsimp only
    rw[p2,iw (by omega) (by omega)];omega
  .rintro x rfl;refine aj ⟨by dsimp only;rw[gw (by omega)],_,_,hnx,?_⟩;revert A;rw[show i+1-1=i by omega];generalize (aJ (T:=yP) s (i:Int))=z;obtain⟨(L:Int),(z2:Int),z3⟩:=z;intro A;dsimp only at A ⊢;refine ⟨by omega,by omega,λh=>by omega,λ_=>⟨rfl,rfl,?_,?_⟩⟩
   .by_cases h0:i=0
    .have:=hz h0;omega
    .have:=hp h0;omega
   .by_cases h0:i=0
    .have:=hz h0;omega
    .have:=hp h0;omega
 .rintro x ⟨rfl,_⟩;exact di (aj rfl)
theorem XQ {c:CT} (a:WX c.1) (hl:c.2.length=c.1.2.2.2.2.1.length) (h:∀k:Nat,k<c.2.length->GC c.2.length c.1.2.2.2.2.2 (k:Int) (aJ (T:=wP) c.2 (k:Int))):jS c=M J:=by
 obtain⟨w,l⟩:=c;dsimp only at a hl h;have z:l.length<=4:=by
  obtain⟨n,_,s,ht⟩:=a.t;rw[hl,ht,bM];omega
 refine cf ?_;unfold jS bx bw bC aX cQ aD cJ;refine aV (λx=>x=(af,w,l)) ?_ ?_
 .refine aS (It a) (gf rfl (aj ?_));dsimp only;rw[hl];simp
 rintro x rfl;refine dF (bZ l.length (λi x=>x=((i:Int),w,l)) ?_ ?_ rfl)
 .rintro i x hi rfl;refine dh ?_;refine b7 (aT (aS (Fa a hl.symm (h i hi)) (gf rfl (aj ?_))));dsimp only;rw[gw (by omega)]
 .rintro x rfl;exact di (aj rfl)
theorem Q_ (p:PG) (hp:PJ p) (hr4:∃r,fH p=M r/\r.1=0):Ok (qV p) λy=>CB y.1:=by
 have hpt:=hp.t;obtain⟨r,hr,h0⟩:=hr4;obtain⟨r',hr',h60⟩:=EY p hp.x;rw[hr]at hr';cases hr';have h60:=h60 h0;unfold qV aY bi bx cI dY bP cY fG qH bw jk bB bC kZ aX cQ aD cJ;refine aS hr (ca (λh=>(h h0).elim) λ_=>?_);refine ax (XO p hp r hr h0 h60) λw U=>?_
 have hwT:w.2.2.2.2.1.length=p.2.length:=by rw[U.t,bM];have q4:wS.length=4:=rfl;omega
 refine bZ p.2.length (λi x=>x.1.1=((bsN p i:Nat):Int)/\x.1.2=(i:Int)/\x.2.1=p/\x.2.2.1=w/\x.2.2.2.length=i/\∀j:Nat,j<i->GC p.2.length w.2.2.2.2.2 (j:Int) (aJ (T:=wP) x.2.2.2 (j:Int))) ?_ ?_ ⟨rfl,rfl,rfl,rfl,rfl,λj hj=>by omega⟩
 .rintro i ⟨⟨a,b⟩,p2,w2,cs⟩ hi ⟨e0,e1,e2,e3,e4,e5⟩;dsimp only at e0 e1 e2 e3 e4 e5;subst e0;subst e1;have e2:=e2.symm;subst e2;have e3:=e3.symm;subst e3;have hin:((i:Nat):Int)<(p.2.length:Int):=by omega
  refine dh ?_;have hm:=hp.m _ (bN (T:=zJ) (xs:=p.2) (j:=(i:Int)) (by omega) hin);have hsr:=U.s i hi;have hbs:=al3 hi;have hb1:=XF (i+1) h60;have hbo:boN p i=og 3 (aJ (T:=zJ) p.2 (i:Int)).2.2.2:=amm λs hs=>(hm.s s hs).t
  rw[hbo]at hsr hbs;dsimp only;refine aR (by omega) hin (aT (aR (by omega) hin (aT ?_)));revert hm hsr hbs;generalize (aJ (T:=zJ) p.2 (i:Int))=t;intro hm hsr hbs;have hk:ME 3=50+16*(50+16*50):=rfl;have hle:=cR (ME 3) hm.b;rw[hk]at hle;have hll:t.2.2.1.length=2:=by rw[hm.l];rfl
  refine ax (Qf (nT:=p.2.length) (ss:=w.2.2.2.2.2) (t:=(i:Int)) 3 (by omega) _ _ [] (by have:=hm.b;omega) hm.s ⟨U.x.c,U.x.l,U.x.d,U.x.f,U.t,hm.l⟩ hsr (by rw[hk,gE];omega)) λy hy=>bh (by simp) ?_
  obtain⟨g2,o2⟩:=y;obtain⟨q1,q2,q3⟩:=hy;dsimp only at q1 q2 q3;have q4:=q2.u;rw[hk,gE]at q4;refine ax (Jr _ _ o2 (by omega)) λy hy=>bh (by simp) ?_
  obtain⟨g3,A⟩:=y;obtain⟨hg3,Z⟩:=hy;dsimp only at hg3 Z;have hL:aM (ai g3.2.2.2.2.2.2.1)=2:=by
   rw[hg3];show aM (ai g2.2.2.2.2.2.2.1)=2;rw[q1.h];show aM (ai t.2.2.1)=2;rw[hll];rfl
  have l3:A.length=o2.length+1:=by rw[Z,bf];rfl
  have L:A.length-1=o2.length:=by omega
  have iq:∀q:Nat,q<o2.length->iA A q=iA o2 q:=λq hq=>by rw[Z,JY hq]
  have iend:iA A o2.length=(28,0,0,0,0,-1):=by rw[Z,yf]
  have hreg:∀q:Nat,q<A.length->∀j:Int,j∈i_ (iA A q)->0<=j/\j<32:=λq hq j hj=>by
   by_cases h:q<o2.length
   .rw[iq q h]at hj;exact (q2.i q (ie _) h).o.r j hj
   .rw[show q=o2.length by omega,iend]at hj;simp[i_]at hj
  dsimp only;rw[hL];refine bZ A.length (λk x=>∃rg:Int,x=((k:Int),p,w,g3,rg,cs,A)/\2<=rg/\rg<=32/\∀q:Nat,q<k->∀j:Int,j∈i_ (iA A q)->j<rg) ?_ ?_ ⟨2,rfl,by omega,by omega,λq hq=>by omega⟩
  .rintro k x hk2 ⟨rg,rfl,r0,r1,r2⟩;refine dh ?_;dsimp only;refine b7 (b7 (aT (aS (ur _) ?_)));have hrk:=hreg k hk2;have hrl:=Ds (iA A k);revert hrk hrl;generalize hins:(aJ (T:=Cm) A (k:Int))=ins;rw[show iA A k=ins from hins];intro hrk hrl;refine bZ (i_ ins).length (λj x=>∃rg':Int,x=((j:Int),p,w,g3,rg',cs,A)/\rg<=rg'/\rg'<=32/\∀q:Nat,q<j->rg'>aJ (T:=.int .i64) (i_ ins) (q:Int)) ?_ ?_ ⟨rg,rfl,dx _,r1,λq hq=>by omega⟩
   .rintro j x hj ⟨rg',rfl,s0,s1,s2⟩;refine dh ?_;refine b7 (aT (aj ?_));have hz:=hrk _ (bN (T:=.int .i64) (xs:=i_ ins) (j:=(j:Int)) (by omega) (by omega));dsimp only;obtain⟨z,hzj⟩:∃z:Int,aJ (T:=.int .i64) (i_ ins) (j:Int)=z:=⟨_,rfl⟩
    rw[hzj]at hz ⊢;have hz0:(0:Int)<=z:=hz.1;have hz1:(32:Int)>z:=hz.2;rw[gw (by omega),iw (n:=z+1) (by omega) (by omega)];have him:rg'<=fJ rg' (z+1)/\z+1<=fJ rg' (z+1)/\fJ rg' (z+1)<=32:=by
     unfold fJ;split
     .rename_i h;have h:=sO.1 h;omega
     .rename_i h;have h:=gB.1 (O8.2 h);omega
    refine ⟨_,rfl,by omega,him.2.2,λq hq=>?_⟩;rcases ci q j with h1|h1
    .have:=s2 q h1;omega
    .rw[show q=j by omega,hzj];exact Int.lt_of_lt_of_le (show z<z+1 by omega) him.2.1
   .rintro x ⟨rg',rfl,s0,s1,s2⟩;refine di (aj ?_);refine ⟨rg',by dsimp only;rw[gw (by omega)],by omega,s1,λq hq j hj=>?_⟩;rcases ci q k with h1|h1
    .have:=r2 q h1 j hj;omega
    .rw[show q=k by omega,show iA A k=ins from hins]at hj;exact iI (T:=.int .i64) (p:=λc=>rg'>c) s2 j hj
  .rintro x ⟨rg,rfl,r0,r1,r2⟩;refine di (RZ (be (by simp;omega) (by omega) (RY (aj ?_))));dsimp only;have q3':(g2.2.2.2.2.2.2.2.2:Int)=(bsN p i:Nat)+(og 3 t.2.2.2:Nat):=q3;refine ⟨by rw[q3',hbs];omega,gw (by omega),rfl,rfl,by simp;omega,λj hj=>?_⟩;rcases ci j i with h1|h1
   .rw[Kl (T:=wP) (by rw[e4];exact h1)];exact e5 j h1
   .rw[show j=i by omega,Kk (T:=wP) (by rw[e4];omega),e4,IA];refine ⟨show (1:Int)<=rg by omega,r1,show 1<=A.length by omega,show A.length<=1000000 by omega,?_,?_,?_,?_,?_⟩
    .show (iA A (A.length-1)).1=28/\(iA A (A.length-1)).2.2.2.2.2= -1;rw[L,iend];exact⟨rfl,rfl⟩
    .show rD A 0 (A.length-1);rw[L];exact q2.b.congr λq _ hq=>iq q hq
    .show ∀q:Nat,q<A.length-1->GI p.2.length w.2.2.2.2.2 (i:Int) (iA A q);rw[L];exact λq hq=>by rw[iq q hq];exact q2.i q (ie _) hq
    .show ∀q:Nat,q<A.length-1->(iA A q).1=10->0<=(iA A q).2.2.1/\(iA A q).2.2.1<(A.length:Int)
     rw[L];intro q hq h10;rw[iq q hq]at h10 ⊢;have:=q2.r q (ie _) hq h10;omega
    .exact λq hq j hj=>r2 q (show q<A.length by have hq:q<A.length-1:=hq;omega) j hj
 .rintro⟨⟨a,b⟩,p2,w2,cs⟩ ⟨e0,e1,e2,e3,e4,e5⟩;dsimp only at e0 e1 e2 e3 e4 e5;subst e1;subst e2;subst e3;refine di (aj ?_);have hgc:∀t∈cs,∃k:Nat,GC p2.2.length w2.2.2.2.2.2 (k:Int) t:=iI (T:=wP) λk hk=>⟨k,e5 k (by omega)⟩
  refine ⟨by dsimp only;omega,λt ht=>?_,λt ht=>?_,U.x,XQ U.x ?_ ?_⟩
  .obtain⟨k,hk⟩:=hgc t ht;exact hk.u
  .obtain⟨k,hk⟩:=hgc t ht;exact hk.r0
  .dsimp only;rw[e4,hwT]
  .dsimp only;rw[e4];exact e5
theorem My (a b:η) (L:a.length<=9223372036854775807) (A:∀z∈a,0<=z/\z<=255) (hb:b.length<=1000000):Ok (s8 (a,b)) TR:=by
 unfold s8;refine ax (P:=CB) ?_ λc hc=>ax (X7 b hb) λl hl=>?_
 .unfold ye;exact ax (H3 a L A) λp hp=>ax (Q_ p hp.1 hp.2) λy s=>aj s
 .exact ax (ang c l hc (by omega)) λy s=>aj s
theorem Q9 (a b c:η) (n:Int) (n0:0<=n) (n1:n<=1000000) (L:a.length<=9223372036854775807) (A:∀z∈a,0<=z/\z<=255) (hc:c.length<=9223372036854775807) (s:∀z∈c,0<=z/\z<=255):Ok (lG ((a,b,c),n)) TR:=by
 unfold lG bw bB aX;refine bJ (λ_=>ax (Jn c n hc s) λy h=>aj h) λ_=>?_
 have h0:0<=H7 (aM b.length) n/\H7 (aM b.length) n<=(b.length:Int)/\H7 (aM b.length) n<=n:=by
  unfold H7;split
  .rename_i h;rw[sO]at h;dsimp only[ak]at h;exact⟨n0,by omega,dx _⟩
  .rename_i h;have h:=gB.1 (O8.2 h);dsimp only[ak]at h ⊢;exact⟨by omega,dx _,h⟩
 refine dc (dI h0.1 (dI h0.2.1 ?_));have h1:(dQ (aQ (H7 (aM b.length) n)) b).length<=1000000:=by rw[bM];have:=h0.1;have:=h0.2.2;omega
 exact ax (My a _ L A h1) λy h=>aj h
def HS.zero (w:vG):HS:=⟨aA w.2.2.2.2.1.length [],aA w.2.2.2.2.1.length [],aA w.2.1.length [],aA w.2.1.length [],aA w.1.length [],aA w.2.2.2.1.length [],[],aA w.2.2.2.2.1.length [],aA w.2.2.2.2.1.length (-1)⟩
theorem HS.zero_ok {w:vG} (h1:w.1.length<=1000) (h2:w.2.1.length<=1000) (s:w.2.2.2.1.length<=1000) (a:w.2.2.2.2.1.length<=1000):Vf 0 (HS.zero w):=by
 have z:(0:Int)<=0:=by omega
 exact⟨z,by omega,Ce.repl z _,Ce.repl z _,Ce.repl z _,Ce.repl z _,Ce.repl z _,Ce.repl z _,En.nil z,Ce.repl z _,by simpa[HS.zero] using a,by simp[HS.zero],by simp[HS.zero],by simp[HS.zero],by simpa[HS.zero] using h2,by simp[HS.zero],by simpa[HS.zero] using h1,by simpa[HS.zero] using s⟩
structure Fit (w:vG) (h:HS):Prop where
 T:h.T.length=w.2.2.2.2.1.length
 L:h.L.length=w.2.1.length
 C:h.C.length=w.1.length
 F:h.F.length=w.2.2.2.1.length
theorem Fit.zero (w:vG):Fit w (HS.zero w):=⟨by simp[HS.zero],by simp[HS.zero],by simp[HS.zero],by simp[HS.zero]⟩
theorem Fit.ent {w:vG} {h:HS} (f:Fit w h) (e:EV) (x:η):Fit w (j8 w h e x):=by
 obtain⟨a,b,c,d,g,i,j,k⟩:=G6 w h e x;exact⟨a.trans f.T,c.trans f.L,g.trans f.C,i.trans f.F⟩
theorem Fit.step {w:vG} {h:HS} (f:Fit w h) (e:EV):Fit w (Rw w h e).1:=f.ent e _
def evP (e:ET):EV:=⟨e.1.toNat,e.2.1.toNat,e.2.2.1.toNat,e.2.2.2.1⟩
theorem aq6 {w:WT} {e:ET} (f:EvF w e):EvT (evP e) e:=by
 obtain⟨⟨k1,k2,ce,lk,cd,th,fu⟩,t0,_,_⟩:=f;refine ⟨(fK t0).symm,(fK (by omega)).symm,λh=>(fK ?_).symm,rfl⟩;unfold evP at h;simp only[bm,cF,gu]at h;by_cases h1:e.2.1=3\/e.2.1=4
 .exact (ce h1).1
 by_cases h2:6<=e.2.1/\e.2.1<=11
 .exact (lk h2).1
 by_cases z:16<=e.2.1/\e.2.1<=19
 .exact (cd z).1
 by_cases s:e.2.1=20\/e.2.1=21
 .exact (th s).1
 by_cases a:e.2.1=22\/e.2.1=23
 .exact (fu a).1
 omega
theorem aev {w:WT} {e:ET} (f:EvF w e) (wb:WB w) {h:HS} (a:Fit w h):EOK w h (evP e):=by
 obtain⟨⟨k1,k2,ce,lk,cd,th,fu⟩,t0,t1,s⟩:=f;have Z:=wb.t;have U:=a.T;have A:=a.L;have f3:=a.C;have z:=a.F;unfold evP;refine ⟨by dsimp only;omega,by dsimp only;omega,by dsimp only;omega,by dsimp only;omega,λq=>?_,λq=>?_,λq=>?_,λq=>?_,λq=>?_⟩<;>dsimp only at q ⊢
 .have:=th (by omega);omega
 .have:=lk (by omega);omega
 .have g:=cd (by omega);have hl:e.2.2.1.toNat<w.2.2.1.length:=by omega
  have hm:=s (w.2.2.1.getD e.2.2.1.toNat ([],0)) (by rw[av,ay hl];exact vN hl);refine ⟨hl,hm.1,?_⟩;unfold Py;have:=hm.2;have:=hm.1;omega
 .have:=ce (by omega);omega
 .have:=fu (by omega);omega
theorem jE {σ R:Type} {f:σ->I (σ⊕R)} {Q:R->Prop} (n:Nat) (hn:n<=1000000) (z:Nat->σ->Prop) (h0:∀i x,i<n->z i x->Ok (f x) λr=>match r with|.inl y=>z (i+1) y|.inr r=>Q r) (h1:∀x,z n x->Ok (f x) λr=>match r with|.inl _=>False|.inr r=>Q r) {x:σ} (A:z 0 x):Ok (gA f x) Q:=by
 have key:∀m i x,i+m=n->z i x->∃r,iterN f (m+1) x=M r/\Q r:=by
  intro m;induction m with
  |zero=>
   intro i x hi A;have:i=n:=by omega
   subst this;obtain⟨r,s,a⟩:=h1 x A;cases r with
   |inl y=>exact a.elim
   |inr r=>exact⟨r,by rw[iterN,s],a⟩
  |succ m L=>
   intro i x hi A;obtain⟨r,s,a⟩:=h0 i x (by omega) A;cases r with
   |inl y=>
    obtain⟨r,Z,U⟩:=L (i+1) y (by omega) a;exact⟨r,by rw[iterN,s];exact Z,U⟩
   |inr r=>exact⟨r,Aa (n:=1) (by rw[iterN,s]) (by omega),a⟩
 obtain⟨r,s,a⟩:=key n 0 x (by omega) A;exact⟨r,Aa s (by omega),a⟩
theorem O_ (a b:Int):fm (a,b)=M (decide (0<=a/\a<b)):=by
 refine cf ?_;unfold fm iZ aD;with_reducible repeat' first|(refine OS.ok ?_;constructor)|refine IM.mk λ_=>?_
 .by_cases h:a<b<;>simp[*,fP]
 .simp;omega
theorem U8 (l:η) (t:Int) (hl:l.length<=1000):kU (l,t)=M (l.contains t):=by
 refine cf ?_;unfold kU sd yq bg bw bC aX cQ aD cJ;refine ax (P:=λy:Int=>0<=y↔t∈l) ?_ λy a=>aj ?_
 .refine jE l.length (by omega) (λi x=>x=(i:Int)/\∀j,j<i->¬l.getD j 0=t) ?_ ?_ ⟨rfl,λj hj=>by omega⟩
  .rintro i x hi ⟨rfl,hn⟩;refine dh ?_;refine b7 (aT (aK (λh=>aj ?_) λh=>aj ?_))
   .refine ⟨λ_=>?_,λ_=>by omega⟩;have h:t=aJ (T:=.int .i64) l (i:Int):=h;rw[h];exact bN (T:=.int .i64) (xs:=l) (by omega) (by omega)
   .refine ⟨gw (by omega),λj hj=>?_⟩;have h:¬t=l.getD i 0:=h;by_cases e:j=i
    .subst e;exact λg=>h g.symm
    .exact hn j (by omega)
  .rintro x ⟨rfl,hn⟩;refine di (aj ?_);refine ⟨λg=>(by omega),λg=>?_⟩;obtain⟨j,hj,e⟩:=List.getElem_of_mem g;exact (hn j hj (by rw[av,ay hj];exact e)).elim
 .by_cases h:t∈l
  .have:=a.2 h;simp[c_,h,this]
  .have:¬0<=y:=λg=>h (a.1 g)
   simp[c_,h,this]
theorem alq (w:WT) (s:SY) (a:w.2.2.1.length<=1000) (cd:∀c∈w.2.2.1,0<=c.2/\c.2<w.2.1.length) (e1:s.1.length=w.2.1.length) (e2:s.2.2.1.length=w.2.2.2.1.length) (e3:s.2.2.2.length=w.2.2.2.2.1.length):kF (w,s)=M J:=by
 refine cf ?_;unfold kF ul aY bi bx dG bw jk bC aX cQ aD cJ;refine aV (λx=>x=(af,w)) ?_ ?_
 .refine ca (λh=>(h (by dsimp only[ak];omega)).elim) λ_=>ca (λh=>(h (by dsimp only[ak];omega)).elim) λ_=>aj ?_
  dsimp only[ak];rw[e3];simp
 rintro x rfl;refine dF (jE w.2.2.1.length (by omega) (λi x=>x=((i:Int),w)) ?_ ?_ rfl)
 .rintro i x hi rfl;refine dh ?_;refine b7 (aT (aS (O_ _ _) (ca (λh=>(h ?_).elim) λ_=>aj ?_)))
  .exact cd _ (bN (T:=Vc) (xs:=w.2.2.1) (j:=(i:Int)) (by omega) (by omega))
  .dsimp only;rw[gw (by omega)]
 .rintro x rfl;exact di (aj rfl)
theorem afm (w:WT) (k o:Int) (h:NM w k o):mC (w,k,o)=M J:=by
 refine cf ?_;obtain⟨k1,k2,ce,lk,cn,th,fu,no,mu,rw_⟩:=h;unfold mC aY bi bx cI bg bC aX aD;rcases @JU k with rfl|rfl|rfl|rfl|rfl|rfl|rfl|rfl|rfl|rfl|rfl|rfl|rfl|rfl|rfl|rfl|rfl|rfl|rfl|rfl|rfl|rfl|rfl|⟨hk,a⟩
 case inr.inr.inr.inr.inr.inr.inr.inr.inr.inr.inr.inr.inr.inr.inr.inr.inr.inr.inr.inr.inr.inr.inr=>omega
 all_goals simp only[aU,bp,tX,O_]
 all_goals with_reducible repeat' first|(refine OS.ok ?_;constructor)|refine IM.mk λ_=>?_
 all_goals try simp only[ak,rG] at*
 all_goals first|omega|exact rw_ ⟨by decide,by decide⟩|(simp only[*,Bool.not_false,cV];done)
theorem am3 {n:Nat} (w:WT) (s:SY) (hs:SB n s) (hn:n<=1000) (t k o:Int) (he:EN w s t k o) (hr:XX w s t k o):pe (w,s,t,k,o)=M J:=by
 refine cf ?_;obtain⟨nm,t0,t1,cd,e1,e2,e3⟩:=id he;obtain⟨_,_,ce,lk,cn,th,fu,no,mu,rw_⟩:=nm;obtain⟨_,_,_,aq,wr,ra,rl,rr,xb,xe,ab,ae,nt,sp,jo,se,ge⟩:=hr;have hm:16<=k/\k<=19->0<=(aJ (T:=Vc) w.2.2.1 o).2/\(aJ (T:=Vc) w.2.2.1 o).2<w.2.1.length:=λh=>cd _ (bN (cn h).1 (cn h).2)
 have A:6<=k/\k<=11->kU ((aJ (T:=Bj) s.1 o).2,t)=M ((aJ (T:=Bj) s.1 o).2.contains t):=λh=>U8 _ _ (by
  have:=hs.rd _ (bN (T:=Bj) (lk h).1 (by have:=(lk h).2;omega));omega)
 have lk1:6<=k/\k<=11->0<=o/\o<(s.1.length:Int):=λh=>by have:=lk h;omega
 have z:t<(s.2.2.2.length:Int):=by omega
 have fu1:k=22\/k=23->0<=o/\o<(s.2.2.1.length:Int):=λh=>by have:=fu h;omega
 have th1:k=20\/k=21->0<=o/\o<(s.2.2.2.length:Int):=λh=>by have:=th h;omega
 have a:∀{p:Prop} [Decidable p],p->decide p=J:=λh=>aP h
 unfold pe aY bi bx dG cY bg jk bC aX aD;refine aK (λh=>?_) λn6=>?_
 .have h:k=6:=h;exact aR (lk1 (by omega)).1 (lk1 (by omega)).2 (aT (aj (a (aq (.inl h)))))
 refine aK (λh=>?_) λL=>?_
 .have h:k=10:=h;refine gJ (aR (lk1 (by omega)).1 (lk1 (by omega)).2 (aT (aK (λ_=>?_) λg=>(g (aq (.inr (.inr h)))).elim)));refine aR (lk1 (by omega)).1 (lk1 (by omega)).2 (aT (aj (aj (a ?_))));have:=wr h;dsimp only[ak]at this ⊢;omega
 refine aK (λh=>?_) λZ=>?_
 .have h:k=8:=h;refine gJ (aR (lk1 (by omega)).1 (lk1 (by omega)).2 (aT (aK (λ_=>?_) λg=>(g (aq (.inr (.inl h)))).elim)));refine aR (lk1 (by omega)).1 (lk1 (by omega)).2 (aT (aS (A (by omega)) (aj (aj ?_))));rw[ra h];rfl
 refine aV (λx=>x.2=(w,s)/\(x.1=J↔k=7\/k=11)) (aK (λh=>aj ⟨rfl,λ_=>.inl h,λ_=>a h⟩) λh=>aj ⟨rfl,λh2=>.inr (ba h2),λh2=>a (h2.resolve_left h)⟩) ?_;rintro⟨b,x⟩ ⟨e,hb⟩;dsimp only at e hb;subst e;refine aN (λh=>?_) λ_=>?_
 .have h:=hb.1 h;exact aR (lk1 (by omega)).1 (lk1 (by omega)).2 (aT (aj (a (rl h))))
 refine aK (λh=>?_) λU=>?_
 .have h:k=9:=h;refine aR (lk1 (by omega)).1 (lk1 (by omega)).2 (aT (aS (A (by omega)) (aj (rr h))))
 refine aK (λh=>aj (a (xb h))) λ_=>aK (λh=>aj (a (xe h))) λ_=>?_
 refine aK (λh=>aR t0 z (aT (aj (by have:=ab h;dsimp only at this ⊢;rw[this];rfl)))) λ_=>aK (λh=>aR t0 z (aT (aj (ae h)))) λ_=>?_
 refine aV (λx=>x.2=(w,s)/\(x.1=J->k=16\/k=18\/k=19)) (aK (λh=>aj ⟨rfl,λ_=>.inl h⟩) λ_=>aK (λh=>aj ⟨rfl,λ_=>.inr (.inl h)⟩) λ_=>aj ⟨rfl,λh=>.inr (.inr (ba h))⟩) ?_;rintro⟨c,x⟩ ⟨e,hc⟩;dsimp only at e hc;subst e;refine aN (λh=>?_) λ_=>?_
 .have h:=hc h;have hq:=hm (by omega);exact aR (cn (by omega)).1 (cn (by omega)).2 (aT (aR hq.1 (by rw[e1];exact hq.2) (aT (aj (a (nt h))))))
 refine aK (λh=>?_) λ_=>?_
 .have h:k=20:=h;exact gJ (ca (λ_=>aR (th1 (.inl h)).1 (th1 (.inl h)).2 (aT (aj (aj (a (sp h).2))))) λg=>((sp h).1 g).elim)
 refine aK (λh=>?_) λ_=>?_
 .have h:k=21:=h;exact gJ (ca (λ_=>aR (th1 (.inr h)).1 (th1 (.inr h)).2 (aT (aj (aj (a (jo h).2))))) λg=>((jo h).1 g).elim)
 refine aK (λh=>aR (fu1 (.inl h)).1 (fu1 (.inl h)).2 (aT (aj (by have:=se h;dsimp only at this ⊢;rw[this];rfl)))) λ_=>aK (λh=>aR (fu1 (.inr h)).1 (fu1 (.inr h)).2 (aT (aj (ge h)))) λ_=>aj rfl
theorem E4 {n:Nat} (w:WT) (s:SY) (hs:SB n s) (hn:n<=1000) (L:w.2.2.1.length<=1000) (t k o:Int) (he:EN w s t k o) (hr:XX w s t k o):jv (w,s,t,k,o)=M J:=by
 refine cf ?_;obtain⟨nm,t0,t1,cd,e1,e2,e3⟩:=id he;have hrd:=am3 w s hs hn t k o he hr;have A:t<(s.2.2.2.length:Int):=by omega
 unfold jv aY bi bx bP dG cY bg bC aX aD;refine aV (λx=>x=(af,w,s)) ?_ ?_
 .refine aS (alq w s L cd e1 e2 e3) (gf rfl (aS (O_ _ _) ?_));refine ca (λh=>(h ⟨t0,t1⟩).elim) λ_=>aS (afm w k o nm) (aj rfl)
 rintro x rfl;refine dF (aR t0 A (aT ?_));refine aK (λh=>aj (aP (hr.b h))) λn1=>?_
 refine aK (λh=>?_) λn17=>?_
 .have h:k=17:=h;obtain⟨a1,a2,a3⟩:=hr.wk h;obtain⟨z,a⟩:=nm.cd (by omega);have hq:=cd _ (bN (T:=Vc) (xs:=w.2.2.1) (j:=o) z a);refine gJ (aK (λ_=>aK (λ_=>?_) λg=>(g a2).elim) λg=>(g a1).elim);exact aR z a (aT (aR hq.1 (by rw[e1];exact hq.2) (aT (aj (aj (aP a3))))))
 refine gJ (aK (λ_=>aS hrd (aj (aj rfl))) λg=>(g (hr.r n1 n17)).elim)
theorem ahn (w:WT) (e:ET) (h1:e.2.1=1\/e.2.1=2->e.2.2.2.2.1= -1) (h2:¬(e.2.1=1\/e.2.1=2)->0<=e.2.2.2.2.1/\e.2.2.2.2.1<w.2.2.2.2.2.length/\(aJ (T:=yP) w.2.2.2.2.2 e.2.2.2.2.1).1=e.1):jQ (w,e)=M J:=by
 refine cf ?_;unfold jQ aY dY cY bg bw iZ bC aX aD;refine aV (λx=>x.2=(w,e)/\(x.1=J↔e.2.1=1\/e.2.1=2)) (aK (λh=>aj ⟨rfl,λ_=>.inl h,λ_=>rfl⟩) λh=>aj ⟨rfl,λh2=>.inr (ba h2),λh2=>aP (h2.resolve_left h)⟩) ?_;rintro⟨b,x⟩ ⟨e1,hb⟩;dsimp only at e1 hb;subst e1;refine aN (λh=>aj (aP (h1 (hb.1 h)))) λh=>?_
 obtain⟨a1,a2,a3⟩:=h2 λg=>by rw[hb.2 g]at h;cases h
 exact gJ (fc (λ_=>dh (aR a1 a2 (aT (aj (aj (aP a3)))))) λg=>(by dsimp only at g;omega))
theorem afk {l:η} (h:Iw l) (i:Nat) (hi:i<l.length):∀z∈l.drop (i+1),l.getD i 0<z:=by
 induction l generalizing i with
 |nil=>cases hi
 |cons a l s=>
  cases i with
  |zero=>exact λz A=>h.1 z (by simpa using A)
  |succ i=>exact s h.2 i (by simpa using hi)
theorem Tt (w:WT) (s:SN) (e:ET) (ce:e.2.1=3\/e.2.1=4->0<=e.2.2.1/\e.2.2.1<w.1.length) (de:0<e.2.2.2.2.2.1.length->e.2.1=5\/(e.2.1=3\/e.2.1=4)/\¬(aJ (T:=Pd) w.1 e.2.2.1).2.2.1=0) (fr:0<e.2.2.2.2.2.2.length->e.2.1=4\/e.2.1=22) (t0:0<=e.1) (t1:e.1<s.2.2.2.length) (nd:AN (aJ (T:=.int .i64) s.2.2.2 e.1) e.2.2.2.2.2.1) (nf:AN (aJ (T:=.int .i64) s.2.2.2 e.1) e.2.2.2.2.2.2) (ld:e.2.2.2.2.2.1.length<=1000000) (lf:e.2.2.2.2.2.2.length<=1000000):fd (w,s,e)=M J:=by
 refine cf ?_;unfold fd jH aY bi bx cI bP dG fG bg bw iZ bB bC aX cQ aD cJ;refine aV (λx=>x.2=(s,e)/\((e.2.1=3\/e.2.1=4)/\¬(aJ (T:=Pd) w.1 e.2.2.1).2.2.1=0->x.1=J)) ?_ ?_
 .refine aK (λh=>?_) λn3=>aK (λh=>?_) λn4=>?_
  .exact aR (ce (.inl h)).1 (ce (.inl h)).2 (aT (aj ⟨rfl,λg=>by simpa using g.2⟩))
  .exact aR (ce (.inr h)).1 (ce (.inr h)).2 (aT (aj ⟨rfl,λg=>by simpa using g.2⟩))
  .exact aj ⟨rfl,λg=>(g.1.elim n3 n4).elim⟩
 rintro⟨b,x⟩ ⟨e1,hb⟩;dsimp only at e1 hb;subst e1;refine aV (λx=>x.1=s/\x.2.1=e/\(0<e.2.2.2.2.2.1.length->x.2.2.1=J)/\(0<e.2.2.2.2.2.2.length->x.2.2.2=J)) ?_ ?_
 .refine aK (λh5=>aK (λA=>aj ⟨rfl,rfl,λ_=>rfl,λ_=>rfl⟩) λA=>aj ⟨rfl,rfl,λ_=>rfl,λg=>?_⟩) λh5=>aK (λA=>aj ⟨rfl,rfl,λg=>?_,λ_=>rfl⟩) λA=>aj ⟨rfl,rfl,λg=>?_,λg=>?_⟩
  .exact aP ((fr g).resolve_left A)
  .exact hb ((de g).resolve_left h5)
  .exact hb ((de g).resolve_left h5)
  .exact aP ((fr g).resolve_left A)
 rintro⟨s',e',a,b'⟩ ⟨e1,e2,h1,h2⟩;dsimp only at e1 e2 h1 h2;subst e1;subst e2;have key:∀(r:η),r.length<=1000000->AN (aJ (T:=.int .i64) s'.2.2.2 e'.1) r->∀j:Nat,j<r.length->∀z∈r.drop (j+1),aJ (T:=.int .i64) r (j:Int)<z:=λr _ h j hj z Z=>afk h.a j hj z Z
 refine jE 2 (by omega) (λi x=>x=((i:Int),s',e',a,b')) ?_ ?_ rfl
 .rintro i x hi rfl;refine dh ?_;refine dc (dI (by dsimp only;omega) (AX (by dsimp only;omega) (aT ?_)));have hr:∃r:η,aJ (T:=.sl (.int .i64)) [e'.2.2.2.2.2.1,e'.2.2.2.2.2.2] (i:Int)=r/\AN (aJ (T:=.int .i64) s'.2.2.2 e'.1) r/\r.length<=1000000/\(0<r.length->aJ (T:=.bool) [a,b'] (i:Int)=J):=by
   match i,hi with
   |0,_=>exact⟨_,rfl,nd,ld,h1⟩
   |1,_=>exact⟨_,rfl,nf,lf,h2⟩
  obtain⟨r,er,hA,hl,hb'⟩:=hr;have er':aJ (T:=.sl aL) [e'.2.2.2.2.2.1,e'.2.2.2.2.2.2] (i:Int)=r:=er;dsimp only at er' ⊢;rw[er'];refine aV (λx=>x=(af,s',e',a,b')) ?_ ?_
  .refine bJ (λg=>?_) λ_=>aj rfl
   have g':0<r.length:=by dsimp only[ak]at g;omega
   refine dc (dI (by omega) (AX (by omega) (b7 (aT (aj ?_)))));rw[hb' g'];rfl
  rintro x rfl;refine dF ?_;refine jE r.length (by omega) (λj x=>x.1.2=(j:Int)/\x.2=(s',e',a,b')/\∀z∈r.drop j,x.1.1<z) ?_ ?_ ⟨rfl,rfl,λz Z=>?_⟩
  .rintro j ⟨⟨la,ix⟩,x⟩ hj ⟨U,L,g3⟩;dsimp only at U L g3;subst U;subst L;have m:aJ (T:=.int .i64) r (j:Int)∈r:=bN (T:=.int .i64) (xs:=r) (by omega) (by omega);have m2:aJ (T:=.int .i64) r (j:Int)∈r.drop j:=by
    have:aJ (T:=.int .i64) r (j:Int)=r[j]:=by
     show r.getD j 0=_;rw[av,ay hj];rfl
    rw[this,List.drop_eq_getElem_cons hj];exact c9
   refine dh ?_;refine b7 (aT (aV (λx=>x=(af,s',e',a,b')) ?_ ?_))
   .refine fc (λg=>?_) λ_=>aR t0 t1 (aT (aj ?_))
    .have q1:=g3 _ m2;exact b8 q1 (by dsimp only at g;exact λq=>b8 (Int.lt_of_lt_of_le q g) (Int.lt_irrefl _))
    .have:=(hA.m _ m).2;rw[mE.2 (show aJ (T:=.int .i64) r (j:Int)<aJ (T:=.int .i64) s'.2.2.2 e'.1 from this)]
   rintro x rfl;exact dF (aj ⟨gw (by omega),rfl,key r hl hA j hj⟩)
  .rintro⟨⟨la,ix⟩,x⟩ ⟨U,L,_⟩;dsimp only at U L;subst U;subst L;exact di (aj (hP (·,s',e',a,b') (gw (by omega))))
  .have:=(hA.m z (by simpa using Z)).1;dsimp only;omega
 .rintro x rfl;exact di (aj rfl)
theorem aq2 (w:WT) (s:SN) (a:w.2.2.1.length<=1000) (t k o:Int) (he:EN w s.1 t k o) (hf:F16 w s):lB (w,s)=M J:=by
 obtain⟨_,_,_,cd,e1,e2,e3⟩:=he;obtain⟨A,z,f3⟩:=hf;refine cf ?_;unfold lB aY bi bx dG bg aX aD;refine gJ (aS (alq w s.1 a cd e1 e2 e3) (uH (aK (λ_=>aK (λ_=>aj (aj (aP ?_))) λg=>(g ?_).elim) λg=>(g ?_).elim)));all_goals dsimp only[ak];omega
theorem IE (th:Y (Int×Int×Bool)) (c:Int) (i:Nat):wl th c (i+1)=if Jc c (aJ (T:=jP) th (i:Int)) then wl th c i++[(i:Int)] else wl th c i:=rfl
theorem ah3 {n:Nat} (w:WT) (s:SN) (hs:SB n s.1) (e:ET) (hf:F16 w s) (he:EN w s.1 e.1 e.2.1 e.2.2.1) (va:VA w s.1 s.2.1 s.2.2.1 e.1 e.2.1 e.2.2.1 e.2.2.2.1):gK (s,e)=M J:=by
 refine cf ?_;obtain⟨t,k,o,v,si,de,fr⟩:=e;obtain⟨s1,s2,s3,s4⟩:=s;obtain⟨nm,t0,t1,cd,e1,e2,e3⟩:=he;obtain⟨_,_,ce,lk,cn,th,fu,_,_,_⟩:=nm;obtain⟨f1,f2,f3⟩:=hf;have hth:=hs.th;obtain⟨v3,U,v5,vel⟩:=va;dsimp only at*
 unfold gK mn aY bi bx cI bP bg bw bC aX cQ aD cJ;refine aK (λh=>?_) λn3=>?_
 .have h:k=3:=h;obtain⟨c0,c1⟩:=ce (.inl h);exact aR c0 (by rw[f1];exact c1) (aT (aj (aP (v3 h))))
 refine aK (λh=>?_) λZ=>?_
 .have h:k=23:=h;obtain⟨c0,c1⟩:=fu (.inr h);exact aR c0 (by rw[f2];exact c1) (aT (aj (aP (U h))))
 refine aK (λh=>?_) λn5=>?_
 .have h:k=5:=h;exact gJ (aK (λ_=>aj (aj rfl)) λg=>aj (aj (aP ((v5 h).resolve_left g))))
 refine aV (λx=>x.2=((s1,s2,s3,s4),t,k,o,v,si,de,fr)/\(x.1=af->¬k=4/\¬k=22)) (aK (λh=>aj ⟨rfl,λh2=>(by rw[aP h]at h2;cases h2)⟩) λh=>aj ⟨rfl,λh2=>⟨h,Cj h2⟩⟩) ?_;rintro⟨b,x⟩ ⟨e,hb⟩;dsimp only at e hb;subst e;refine aN (λh=>aj rfl) λh=>?_
 obtain⟨n4,n22⟩:=hb h;have vel:=vel n3 Z n5 n4 n22;have hWl:=wv s1.2.2.2 o s1.2.2.2.length;refine aK (λh=>?_) λn18=>?_
 .have h:k=18:=h;subst h;rw[Gj]at vel;refine jE s1.2.2.2.length (by omega) (λi x=>x.1.2.2=(i:Int)/\x.2=(t,18,o,v,si,de,fr)/\x.1.1=((wl s1.2.2.2 o i).length:Int)/\(x.1.2.1=J↔v∈wl s1.2.2.2 o i)) ?_ ?_ ⟨rfl,rfl,rfl,by simp[wl]⟩
  .rintro i ⟨⟨c,hit,ix⟩,x⟩ hi ⟨z,a,A,L⟩;dsimp only at z a A L;subst z;subst a;subst A;have hl:=wv s1.2.2.2 o i;refine dh ?_;refine aV (λx=>x.2=(t,18,o,v,si,de,fr)/\x.1.1=((wl s1.2.2.2 o (i+1)).length:Int)/\(x.1.2=J↔v∈wl s1.2.2.2 o (i+1))) ?_ ?_
   .refine b7 (aT (aV (λx=>x=(Jc o (aJ (T:=jP) s1.2.2.2 (i:Int)),t,18,o,v,si,de,fr)) ?_ ?_))
    .unfold Jc;refine aK (λh=>aj ?_) λh=>aj ?_
     .dsimp only at h ⊢;rw[h];rfl
     .dsimp only at h ⊢;rw[bt h];rfl
    rintro x rfl;rw[IE];dsimp only;cases hw:Jc o (aJ (T:=jP) s1.2.2.2 (i:Int)) with
    |true=>
     refine uH (aN (λh=>aj ⟨rfl,?_,?_⟩) λh=>aj ⟨rfl,?_,?_⟩)
     .dsimp only;rw[gw (by omega)];simp
     .simp[L.1 h]
     .dsimp only;rw[gw (by omega)];simp
     .have:¬v∈wl s1.2.2.2 o i:=λg=>by rw[L.2 g]at h;cases h
      simp[this]
    |false=>exact dF (aj ⟨rfl,rfl,L⟩)
   rintro⟨⟨c,hit'⟩,x⟩ ⟨z,a,A⟩;dsimp only at z a A;subst z;subst a;exact aj ⟨gw (by omega),rfl,rfl,A⟩
  .rintro⟨⟨c,hit,ix⟩,x⟩ ⟨z,a,A,L⟩;dsimp only at z a A L;subst z;subst a;subst A;refine di (ax (P:=λy=>y=J) (gJ (aN (λ_=>aj (aj rfl)) λh=>?_)) λy hy=>aj hy);have hn:¬v∈wl s1.2.2.2 o s1.2.2.2.length:=λg=>by rw[L.2 g]at h;cases h
   by_cases h0:(wl s1.2.2.2 o s1.2.2.2.length).length=0
   .rw[aC h0]at vel;refine aK (λ_=>aj (aj (aP vel))) λg=>(g (by dsimp only;omega)).elim
   .rw[aw h0]at vel;have vel:v=Ca (wl s1.2.2.2 o s1.2.2.2.length) v:=vel;exact (hn (vel▸I4 v h0)).elim
 refine aK (λh=>?_) λn19=>?_
 .have h:k=19:=h;subst h;rw[amw]at vel;refine jE s1.2.2.2.length (by omega) (λi x=>x.1.2=(i:Int)/\x.2=(t,19,o,v,si,de,fr)/\x.1.1=((wl s1.2.2.2 o i).length:Int)) ?_ ?_ ⟨rfl,rfl,rfl⟩
  .rintro i ⟨⟨c,ix⟩,x⟩ hi ⟨z,a,A⟩;dsimp only at z a A;subst z;subst a;subst A;have hl:=wv s1.2.2.2 o i;refine dh ?_;refine aV (λx=>x.2=(t,19,o,v,si,de,fr)/\x.1=((wl s1.2.2.2 o (i+1)).length:Int)) ?_ ?_
   .refine b7 (aT (aV (λx=>x=(Jc o (aJ (T:=jP) s1.2.2.2 (i:Int)),t,19,o,v,si,de,fr)) ?_ ?_))
    .unfold Jc;refine aK (λh=>aj ?_) λh=>aj ?_
     .dsimp only at h ⊢;rw[h];rfl
     .dsimp only at h ⊢;rw[bt h];rfl
    rintro x rfl;rw[IE];dsimp only;cases hw:Jc o (aJ (T:=jP) s1.2.2.2 (i:Int)) with
    |true=>
     refine uH (aj ⟨rfl,?_⟩);dsimp only;rw[gw (by omega)];simp
    |false=>exact dF (aj ⟨rfl,rfl⟩)
   rintro⟨c,x⟩ ⟨z,a⟩;dsimp only at z a;subst z;subst a;exact aj ⟨gw (by omega),rfl,rfl⟩
  .rintro⟨⟨c,ix⟩,x⟩ ⟨z,a,A⟩;dsimp only at z a A;subst z;subst a;subst A;exact di (aj (aP vel))
 exact aj (aP (by rw[al7 _ _ _ _ _ _ n18 n19]at vel;exact vel))
theorem acm (x:Int×Int×Bool) (c:Int):mP (x,c)=M (Jc c x):=by
 refine cf ?_;unfold mP Jc bg aD;refine gJ (aK (λh=>aj (aj ?_)) λh=>aj (aj ?_))
 .have h:x.1=3:=h;rw[h];rfl
 .have h:¬x.1=3:=h;rw[bt h];rfl
theorem af6 {n:Nat} (s:SY) (hs:SB n s):kT s=M (s.2.1,s.1,s.2.2.1,s.2.2.2):=by
 refine cf ?_;obtain⟨s1,s2,z,a⟩:=s;have hn:=hs.n1;have hlk:=hs.lk;have hdn:=hs.dn;have hth:=hs.th;have hrd:=hs.rd;dsimp only at hlk hdn hth hrd;unfold kT sQ aY bP ck bw bB bC aX cQ cJ;dsimp only[ak];refine dc (dc (dI (by omega) (dI (by omega) (be (by simp;omega) (by omega) ?_))));refine jE s1.length (by omega) (λi x=>∃c d,x=((i:Int),(s1,s2,z,a),c,d)/\d.length=s1.length/\∀j,j<i->d.getD j (0,[])=s1.getD j (0,[])) ?_ ?_ ⟨_,_,rfl,by simp,λj hj=>by omega⟩
 .rintro i x hi ⟨c,d,rfl,hd,he⟩;have hr:=hrd _ (bN (T:=Bj) (xs:=s1) (j:=(i:Int)) (by omega) (by omega));refine dh ?_;refine b7 (aT (aS (x:=(aJ (T:=Bj) s1 (i:Int)).2) (cf ?_) ?_))
  .exact be (by dsimp only;omega) (by omega) (aj rfl)
  refine b7 (b7 (aj ⟨c,d.set i (aJ (T:=Bj) s1 (i:Int)),?_,by simp[hd],λj hj=>?_⟩))
  .dsimp only;rw[gw (by omega)];rfl
  .by_cases e:i=j
   .subst e;rw[av,List.getElem?_set_self (by omega)];rfl
   .rw[av,List.getElem?_set_ne e,<-av];exact he j (by omega)
 .rintro x ⟨c,d,rfl,hd,he⟩;have:d=s1:=by
   refine dl hd λj U A=>?_
   have:=he j A;rw[av,av,ay U,ay A]at this;exact this
  subst this;refine di (ax (P:=λy=>y=(s2,d,z,a)) ?_ λy L=>aj L);refine aS (x:=z) (cf (be (by dsimp only;omega) (by omega) (aj rfl))) (aS (x:=a) (cf (be (by dsimp only;omega) (by omega) (aj rfl))) (aj rfl))
theorem Y8 (l:η) (i u:Int):Ca (l++[i]) u=if l.length=0 then i else if i=u then i else Ca l u:=by
 unfold Ca;cases l with
 |nil=>
  by_cases h:u=i
  .subst h;simp
  .simp[h];rfl
 |cons a r=>
  have e1:¬(a::r++[i]).length=0:=by simp
  have e2:¬(a::r).length=0:=by simp
  simp only[aw e1,aw e2];by_cases h:i=u
  .subst h;simp
  .have h':¬u=i:=λg=>h g.symm
   rw[aw h];have:(a::r++[i]).contains u=(a::r).contains u:=by simp[h']
   rw[this];rfl
theorem QR {th:Y (Int×Int×Bool)} {c u:Int} {i:Nat} (h:¬(wl th c i).length=0):0<=Ca (wl th c i) u/\Ca (wl th c i) u<i:=by
 have:=rP.1 (I4 u h);exact⟨this.1,this.2.1⟩
theorem LK {l:η} {u:Int} (h:l.length=0):Ca l u= -1:=by unfold Ca;rw[aC h]
theorem ahs (s:SY) (o u:Int) (hs:s.2.2.2.length<=1000):jV ((s.2.1,o,u),s.1,s.2.2.1,s.2.2.2)=M (Ca (wl s.2.2.2 o s.2.2.2.length) u,s.1,s.2.2.1,if (wl s.2.2.2 o s.2.2.2.length).length=0 then s.2.2.2 else yQ s.2.2.2 (Ca (wl s.2.2.2 o s.2.2.2.length) u) 4):=by
 refine cf ?_;obtain⟨s1,s2,z,a⟩:=s;dsimp only at hs ⊢;unfold jV rk aY bi bP ck bw iZ kZ aX cQ aD cJ;dsimp only[ak];refine jE a.length (by omega) (λi x=>x=((Ca (wl a o i) u,(i:Int)),s1,z,a,s2)) ?_ ?_ rfl
 .rintro i x hi rfl;refine dh ?_;refine aV (λx=>x=(Ca (wl a o (i+1)) u,s1,z,a,s2)) ?_ ?_
  .refine b7 (b7 (aT ?_));refine aV (λx=>x=(decide (Jc o (aJ (T:=jP) a (i:Int))=J/\((wl a o i).length=0\/(i:Int)=u)),s1,z,a,s2)) ?_ ?_
   .refine aS (acm _ _) (aN (λh=>?_) λh=>aj ?_)
    .have h:Jc o (aJ (T:=jP) a (i:Int))=J:=h;refine bJ (λg=>aj ?_) λg=>aj ?_
     .have:(wl a o i).length=0:=wu λq=>by have:=(QR (u:=u) q).1;dsimp only at g;omega
      simp[h,this]
     .have:¬(wl a o i).length=0:=λq=>by have:=LK (u:=u) q;dsimp only at g;omega
      simp[h,this]
    .have h:Jc o (aJ (T:=jP) a (i:Int))=af:=h;simp[h]
   rintro x rfl;rw[IE];refine aK (λh=>aj ?_) λh=>aj ?_
   .rw[aC h.1,Y8];rcases h.2 with g|g
    .rw[aC g]
    .rw[aC g];simp
   .by_cases g:Jc o (aJ (T:=jP) a (i:Int))=J
    .rw[aC g,Y8,aw λq=>h ⟨g,.inl q⟩,aw λq=>h ⟨g,.inr q⟩]
    .rw[aw g]
  rintro x rfl;exact aj (by dsimp only;rw[gw (by omega)])
 .rintro x rfl;refine di (ax (P:=λy=>y=(Ca (wl a o a.length) u,s1,z,if (wl a o a.length).length=0 then a else yQ a (Ca (wl a o a.length) u) 4)) ?_ λy A=>aj A);refine aV (λx=>x=(s1,z,if (wl a o a.length).length=0 then a else yQ a (Ca (wl a o a.length) u) 4)) ?_ ?_
  .refine fc (λg=>?_) λg=>aj ?_
   .have h0:¬(wl a o a.length).length=0:=λq=>by have:=LK (u:=u) q;dsimp only at g;omega
    have hp:=QR (u:=u) h0;refine aR hp.1 hp.2 (aR hp.1 hp.2 (aj ?_));rw[aw h0];rfl
   .have:(wl a o a.length).length=0:=wu λq=>by have:=(QR (u:=u) q).1;dsimp only at g;omega
    rw[aC this]
  rintro x rfl;exact aj rfl
theorem ahw (th:Y (Int×Int×Bool)) (l:η) (i:Int):Dz th (l++[i])=yQ (Dz th l) i 4:=by unfold Dz;rw[dz];rfl
theorem ahv (l:η):∀(th:Y (Int×Int×Bool)) (j:Int),0<=j->(∀z∈l,0<=z/\z<th.length/\¬z=j)->aJ (T:=jP) (Dz th l) j=aJ (T:=jP) th j:=by
 induction l with
 |nil=>intro th j _ _;rfl
 |cons x r s=>
  intro th j hj h;have a:=h x (by simp);refine (s (yQ th x 4) j hj λz A=>?_).trans ?_
  .have:=h z (by simp[A]);unfold yQ;rw[bY];exact this
  .unfold yQ;rw[sr (T:=jP) th x j _ a.1 a.2.1 hj,aw λq=>a.2.2 q.symm]
theorem VU (s:SY) (o:Int) (hs:s.2.2.2.length<=1000):h_ ((s.2.1,o),s.1,s.2.2.1,s.2.2.2)=M (((wl s.2.2.2 o s.2.2.2.length).length:Int),s.1,s.2.2.1,Dz s.2.2.2 (wl s.2.2.2 o s.2.2.2.length)):=by
 refine cf ?_;obtain⟨s1,s2,A,a⟩:=s;dsimp only at hs ⊢;unfold h_ mZ aY bi bP dG ck bw kZ aX cQ aD cJ;dsimp only[ak];refine jE a.length (by omega) (λi x=>x=((((wl a o i).length:Int),(i:Int)),s1,A,Dz a (wl a o i),s2)) ?_ ?_ rfl
 .rintro i x hi rfl;have hl:=wv a o i;have hg:aJ (T:=jP) (Dz a (wl a o i)) (i:Int)=aJ (T:=jP) a (i:Int):=ahv _ _ _ (by omega) λz L=>by have:=rP.1 L;exact⟨this.1,by omega,by omega⟩
  have hq:=IP (wl a o i) a;refine dh ?_;refine aV (λx=>x=(((wl a o (i+1)).length:Int),s1,A,Dz a (wl a o (i+1)),s2)) ?_ ?_
  .refine b7 (b7 (aT (aS (acm _ _) ?_)));rw[IE];refine aN (λh=>?_) λh=>aj ?_
   .have h:Jc o (aJ (T:=jP) a (i:Int))=J:=hg▸h;refine b7 (b7 (aj ?_));rw[aC h,ahw];dsimp only;rw[gw (by omega)];simp only[bf,cg,gE];rfl
   .have h:Jc o (aJ (T:=jP) a (i:Int))=af:=hg▸h;rw[h];rfl
  rintro x rfl;exact aj (by dsimp only;rw[gw (by omega)])
 .rintro x rfl;exact di (aj rfl)
theorem ak9 {n:Nat} (w:WT) (s:SY) (hs:SB n s) (hn:n<=1000) (L:w.2.2.1.length<=1000) (t k o u:Int) (he:EN w s t k o) (hr:XX w s t k o) (z:¬k=8) (a:¬k=9):ia (w,s,t,k,o,u)=M ((rK w s t k o u).1,(rK w s t k o u).2,J):=by
 refine cf ?_;unfold ia aY bi bx cI dY bP dG cY fG kA ck bg bB bC kZ aD;refine aS (E4 w s hs hn L t k o he hr) (gf rfl (aS (af6 s hs) ?_));suffices hmain:Ok _ _ from aV (λx=>((x.2.2.2.1,x.2.1,x.2.2.2.2),x.1)=rK w s t k o u) hmain λx A=>aj (by rw[<- A])
 obtain⟨nm,t0,t1,cd,e1,e2,e3⟩:=id he;obtain⟨_,_,ce,lk,cn,th,fu⟩:=nm;have hm:16<=k/\k<=19->0<=(aJ (T:=Vc) w.2.2.1 o).2/\(aJ (T:=Vc) w.2.2.1 o).2<w.2.1.length:=λh=>cd _ (bN (cn h).1 (cn h).2)
 rcases @JU k with rfl|rfl|rfl|rfl|rfl|rfl|rfl|rfl|rfl|rfl|rfl|rfl|rfl|rfl|rfl|rfl|rfl|rfl|rfl|rfl|rfl|rfl|rfl|⟨hk,U⟩
 case inr.inr.inr.inr.inr.inr.inr.inr.inr.inr.inr.inr.inr.inr.inr.inr.inr.inr.inr.inr.inr.inr.inr=>omega
 all_goals first|exact (z rfl).elim|exact (a rfl).elim|skip
 all_goals simp only[aU,bp,tX]
 all_goals with_reducible repeat' first|(refine OS.ok ?_;constructor)|refine IM.mk λ_=>?_
 all_goals try simp only[ak,rG] at*
 all_goals try rw[bY]
 all_goals first|omega|exact (hm ⟨by decide,by decide⟩).1|exact e1▸(hm ⟨by decide,by decide⟩).2|exact rfl|skip
 .refine aS (ahs s o u hs.th) (bh ?_ (aj ?_))
  .have:ai (if (wl s.2.2.2 o s.2.2.2.length).length=0 then s.2.2.2 else yQ s.2.2.2 (Ca (wl s.2.2.2 o s.2.2.2.length) u) 4)=s.2.2.2.length:=by
    split
    .rfl
    .exact bY ..
   dsimp only;rw[this];simp
  .rw[Gj];by_cases h:(wl s.2.2.2 o s.2.2.2.length).length=0
   .rw[aC h,aC h,LK h]
   .rw[aw h,aw h]
 .refine aS (VU s o hs.th) (bh ?_ (aj rfl));dsimp only;rw[IP];simp
def BD:Nat->Y η
 |0=>[[]]
 |m+1=>BD m++(BD m).map ((3-(m:Int))::·)
theorem NI:∀m,[]∈BD m
 |0=>by simp[BD]
 |m+1=>by simp[BD,NI m]
theorem Fc:∀(m:Nat) (l:η),Iw l->(∀z∈l,4-(m:Int)<=z/\z<4)->l∈BD m
 |m,[],_,_=>NI m
 |0,a::r,_,h=>by have:=h a (by simp);omega
 |m+1,a::r,hA,h=>by
  have A:=h a (by simp);rw[BD,bG];by_cases e:a=3-(m:Int)
  .refine .inr (du.2 ⟨r,Fc m r hA.2 λz s=>?_,by rw[e]⟩);have:=h z (by simp[s]);have:=hA.1 z s;omega
  .refine .inl (Fc m (a::r) hA λz s=>?_);have:=h z s;rcases bm.1 s with rfl|s
   .omega
   .have:=hA.1 z s;omega
theorem ake {l:η} (h:Iw l) (h2:∀z∈l,0<=z/\z<4):l∈BD 4:=Fc 4 l h λz a=>by have:=h2 z a;omega
def in4:η:=[0,1,2,3]
theorem YL {t:Int} (h0:0<=t) (h1:t<4):t∈in4:=by
 have:t=0\/t=1\/t=2\/t=3:=by omega
 rcases this with rfl|rfl|rfl|rfl<;>simp[in4]
def apj (l:η) (t:Int):Bool:=l.contains t||((xh (l++[t])==M (xT l [t]))&&(mm (xT l [t])==M (xT l [t]))&&aB (xT l [t]).length (l++[t]).length)
def aqf (l:η) (t:Int):Bool:= !l.contains t||(jw (l,t)==M (t,wo l t))
theorem aha:((BD 4).all λl=>in4.all λt=>apj l t)=J:=by kernel_rfl
theorem ail:((BD 4).all λl=>in4.all λt=>aqf l t)=J:=by kernel_rfl
theorem srt8 {l:η} {t:Int} (h:Iw l) (h2:∀z∈l,0<=z/\z<4) (h0:0<=t) (h1:t<4) (hn:¬t∈l):xh (l++[t])=M (xT l [t])/\mm (xT l [t])=M (xT l [t])/\(xT l [t]).length=(l++[t]).length:=by
 have:=gI.1 (gI.1 aha l (ake h h2)) t (YL h0 h1);unfold apj at this;have hc:l.contains t=af:=by simp[hn]
 rw[hc,Bool.false_or,al,al]at this;exact⟨eq_of_beq this.1.1,eq_of_beq this.1.2,ar this.2⟩
theorem del8 {l:η} {t:Int} (h:Iw l) (h2:∀z∈l,0<=z/\z<4) (h0:0<=t) (h1:t<4) (hn:l.contains t=J):jw (l,t)=M (t,wo l t):=by
 have:=gI.1 (gI.1 ail l (ake h h2)) t (YL h0 h1);unfold aqf at this;rw[hn,Bool.not_true,Bool.false_or]at this;exact eq_of_beq this
theorem aiy (a0 a1 a2:Int) (r0 r1 r2:η) (h:Int) (d:θ) (th:Y (Int×Int×Bool)) (h0:r0.length<=1000) (h1:r1.length<=1000) (h2:r2.length<=1000) (hd:d.length<=1000) (ht:th.length<=1000):nW ([(a0,r0),(a1,r1),(a2,r2)],h,d,th)=M ((h,d,th),(a0,a1,a2),r0,r1,r2):=by
 refine cf ?_;have a:∀l:η,l.length<=1000->py l=M l:=λl hl=>cf (be (by omega) (by omega) (aj rfl))
 unfold nW aY bP bw bB bC aX aD;refine bh rfl (aV (λx=>x=(([(a0,r0),(a1,r1),(a2,r2)],h,d,th),0,(a0,a1,a2),r0,r1,r2)) ?_ ?_)
 .exact fX rfl (bh rfl (aT (aS (a _ h0) (fX rfl (bh rfl (aT (aS (a _ h1) (fX rfl (bh rfl (aT (aS (a _ h2) (gf rfl (aj rfl)))))))))))))
 rintro x rfl;refine aS (x:=d) (cf (be (by dsimp only;omega) (by omega) (aj rfl))) (aS (x:=th) (cf (be (by dsimp only;omega) (by omega) (aj rfl))) (aj rfl))
theorem aka {n:Nat} (w:WT) (s:SY) (hs:SB n s) (hn:n<=1000) (a:w.2.2.1.length<=1000) (t k o u:Int) (he:EN w s t k o) (hr:XX w s t k o) (hk:k=8\/k=9):ia (w,s,t,k,o,u)=D:=by
 have h1:=E4 w s hs hn a t k o he hr;have h2:=af6 s hs;rcases hk with rfl|rfl
 .unfold ia aY bi bx cI dY bP dG cY fG kA ck bg bB bC kZ aD;simp only[h1,h2,aU,bp,tX];cases e9 o (ai s.1)<;>rfl
 .unfold ia aY bi bx cI dY bP dG cY fG kA ck bg bB bC kZ aD;simp only[h1,h2,aU,bp,tX];cases e9 o (ai s.1)<;>rfl
theorem ak8 {n:Nat} (w:WT) (s:SY) (hs:SB n s) (hn:n<=900) (Z:w.2.2.1.length<=1000) (t k u:Int) (he:EN w s t k 2) (hr:XX w s t k 2) (hk:k=8\/k=9) (h3:s.1.length=3) (hA:Iw (aJ (T:=Bj) s.1 2).2) (a:∀z∈(aJ (T:=Bj) s.1 2).2,0<=z/\z<4) (L:t<4):lH (w,s,t,k,2,u)=M ((rK w s t k 2 u).1,(rK w s t k 2 u).2,J):=by
 have h1:=E4 w s hs (by omega) Z t k 2 he hr;have t0:=he.t0;have ra:=hr.ra;have rr:=hr.rr;have hrd:=hs.rd;have hdn:=hs.dn;have hth:=hs.th;obtain⟨s1,h,d,th⟩:=s
 match s1,h3 with
 |[(a0,r0),(a1,r1),(a2,r2)],_=>
  have g0:r0.length<=n:=hrd (a0,r0) (by simp);have g1:r1.length<=n:=hrd (a1,r1) (by simp);have g2:r2.length<=n:=hrd (a2,r2) (by simp);have hA:Iw r2:=hA;have a:∀z∈r2,0<=z/\z<4:=a;dsimp only at hdn hth;have hc:=aiy a0 a1 a2 r0 r1 r2 h d th (by omega) (by omega) (by omega) hdn hth;refine cf ?_;unfold lH aY bi bx cI dY lh dG cY fG qH bg wQ bB aD;rcases hk with rfl|rfl
  .have ra:r2.contains t=af:=ra rfl;obtain⟨A,U,q3⟩:=srt8 hA a t0 L (by simpa using ra);simp only[h1,hc,aU,bp,tX];refine aV (λx=>x=(0,(h,d,th),0,(((a0,r0),(a1,r1),a2)),J,xT r2 [t])) ?_ ?_
   .refine be (by simp;omega) (by omega) (aS A (bh ?_ (aS U (bh ?_ (aj ?_)))))
    .rw[q3];simp
    .simp
    .rfl
   rintro x rfl;exact aj rfl
  .have rr:r2.contains t=J:=rr rfl;have A:=del8 hA a t0 L rr;simp only[h1,hc,aU,bp,tX];refine aV (λx=>x=(0,(h,d,th),0,(((a0,r0),(a1,r1),a2)),af,wo r2 t)) ?_ ?_
   .exact aS A (bh (by simp) (aj rfl))
   rintro x rfl;exact aj rfl
theorem aox {n:Nat} (w:WT) (s:SY) (hs:SB n s) (hn:n<=900) (a:w.2.2.1.length<=1000) (t k o u:Int) (he:EN w s t k o) (hr:XX w s t k o) (h2:k=8\/k=9->o=2) (L:s.1.length=3) (hA:∀l∈s.1,Iw l.2/\∀z∈l.2,0<=z/\z<4) (A:t<4):sJ (w,s,t,k,o,u)=M ((rK w s t k o u).1,(rK w s t k o u).2,J):=by
 unfold sJ;by_cases hk:k=8\/k=9
 .have:=h2 hk;subst this;have hg:=hA _ (bN (T:=Bj) (xs:=s.1) (j:=2) (by omega) (by omega));rw[aka w s hs (by omega) a t k 2 u he hr hk,ak8 w s hs hn a t k u he hr hk L hg.1 hg.2 A];rfl
 .rw[ak9 w s hs (by omega) a t k o u he hr (λh=>hk (.inl h)) λh=>hk (.inr h)];rfl
theorem Y7 (l:η) (h:l.length<=100000):zY l=M l:=cf (be (by omega) (by omega) (aj rfl))
theorem aiz (l:η) (h:l.length<=100000):py l=M l:=cf (be (by omega) (by omega) (aj rfl))
theorem ar6 {n:Nat} (w:WT) (s:SN) (e:ET) (hs:NB n s) (hn:n<=900) (U:w.2.2.1.length<=1000) (Z:F16 w s) (A:EN w s.1 e.1 e.2.1 e.2.2.1) (hS:S16 w s e) (ld:e.2.2.2.2.2.1.length<=1000000) (lf:e.2.2.2.2.2.2.length<=1000000) (h2:e.2.1=8\/e.2.1=9->e.2.2.1=2) (h3:s.1.1.length=3) (hA:∀l∈s.1.1,Iw l.2/\∀z∈l.2,0<=z/\z<4) (t4:e.1<4):gd (w,s,e)=M (nxP w s e,J):=by
 refine cf ?_;obtain⟨rd,q1,q2,de,fr,nd,nf,va⟩:=id hS;obtain⟨nm,t0,t1,cd,e1,e2,e3⟩:=id A;obtain⟨k1,k2,ce,lk,cn,th,fu,_,_,_⟩:=nm;obtain⟨f1,f2,f3⟩:=id Z;have hsc:=hs.c;have hsf:=hs.f;have hsk:=hs.k;unfold gd aY bi bx bP dG cY ck bg bw iZ kZ aX aD cJ;refine aV (λx=>x=(af,w,s,e,0)) ?_ ?_
 .refine aS (aq2 w s U _ _ _ A Z) (gf rfl (di (fc (λg=>(by dsimp only[ak]at g;omega)) λ_=>di (aj ?_))));rw[gB.2 (show e.2.1<=23 by omega)]
 rintro x rfl;refine dF (aV (λx=>x=(af,w,s,e,0)) ?_ ?_)
 .exact aS (E4 w s.1 hs.sb (by omega) U _ _ _ A rd) (gf rfl (aS (ahn w e q1 q2) (gf rfl (aS (Tt w s e (λh=>ce h) de fr t0 (by rw[f3];exact t1) nd nf ld lf) (gf rfl (aS (ah3 w s hs.sb e Z A va) (aj rfl)))))))
 rintro x rfl;refine dF (aV (λx=>x.2=(w,s,e,0)/\rK w s.1 e.1 e.2.1 e.2.2.1 x.1=rK w s.1 e.1 e.2.1 e.2.2.1 e.2.2.2.1) ?_ ?_)
 .exact aK (λ_=>aj ⟨rfl,rfl⟩) λh=>aj ⟨rfl,Zh _ _ _ _ _ _ _ h⟩
 rintro⟨u,x⟩ ⟨hx,hu⟩;dsimp only at hx hu;subst hx;refine aS (aox w s.1 hs.sb hn U _ _ _ u A rd h2 h3 hA t4) (gf rfl (aS (Y7 _ (by dsimp only;omega)) (aS (Y7 _ (by dsimp only;omega)) (aS (aiz _ (by dsimp only;omega)) ?_))));rw[hu];refine aV (λx=>x.1=e/\x.2.2.1=(rK w s.1 e.1 e.2.1 e.2.2.1 e.2.2.2.1).1/\x.2.2.2.1=ceP s.2.1 e/\x.2.2.2.2.1=fuP s.2.2.1 e/\x.2.2.2.2.2=s.2.2.2) ?_ ?_
 .unfold ceP fuP;refine aK (λh=>?_) λh=>aK (λh'=>?_) λh'=>aj ⟨rfl,rfl,(aw h).symm,(aw h').symm,rfl⟩
  .have h:e.2.1=4:=h;have a:=ce (.inr h);exact aR a.1 (by rw[f1];exact a.2) (aR a.1 (by rw[f1];exact a.2) (aj ⟨rfl,rfl,(aC h).symm,(aw (by omega)).symm,rfl⟩))
  .have h:e.2.1=22:=h';have a:=fu (.inl h);exact aR a.1 (by rw[f2];exact a.2) (aR a.1 (by rw[f2];exact a.2) (aj ⟨rfl,rfl,(aw (by omega)).symm,(aC h).symm,rfl⟩))
 rintro⟨x1,x2,x3,x4,x5,x6⟩ ⟨h1,h2,h4,h5,h6⟩;simp only at h1 h2 h4 h5 h6;subst h1;subst h2;subst h4;subst h5;subst h6;have L:x1.1<(s.2.2.2.length:Int):=by rw[f3];exact t1
 exact aR t0 L (aR t0 L (aT (aR t0 L (aR t0 L (aj rfl)))))
theorem ab0 (r:θ) (e:ET) (h1:∀y∈e.2.2.2.2.2.1,0<=y/\r.getD y.toNat af=J) (h2:∀y∈e.2.2.2.2.2.2,0<=y/\r.getD y.toNat af=J) (ld:e.2.2.2.2.2.1.length<=1000000) (a:e.2.2.2.2.2.2.length<=1000000):cu (r,e)=M J:=by
 refine cf ?_;unfold cu kM dY kA bw iZ bB bC aX cQ aD cJ;refine jE 2 (by omega) (λi x=>x=(i:Int)) ?_ ?_ rfl
 .rintro i x hi rfl;refine bJ (λ_=>?_) λg=>(by omega)
  refine dc (dI (by omega) (AX (by omega) (aT ?_)));have hr:∃l:η,aJ (T:=.sl (.int .i64)) [e.2.2.2.2.2.1,e.2.2.2.2.2.2] (i:Int)=l/\(∀y∈l,0<=y/\r.getD y.toNat af=J)/\l.length<=1000000:=by
   match i,hi with
   |0,_=>exact⟨_,rfl,h1,ld⟩
   |1,_=>exact⟨_,rfl,h2,a⟩
  obtain⟨l,s,hA,hl⟩:=hr;have er':aJ (T:=.sl aL) [e.2.2.2.2.2.1,e.2.2.2.2.2.2] (i:Int)=l:=s;dsimp only at er' ⊢;rw[er'];refine jE l.length (by omega) (λj x=>x=(j:Int)) ?_ ?_ rfl
  .rintro j x hj rfl;refine dh ?_;have m:=hA _ (bN (T:=.int .i64) (xs:=l) (j:=(j:Int)) (by omega) (by omega));refine b7 (aT (aV (λx=>x=af) ?_ ?_))
   .revert m;generalize aJ (T:=.int .i64) l (j:Int)=z;intro m;have A:z.toNat<r.length:=by
     rcases ci z.toNat r.length with g|g
     .exact g
     .have:=m.2;rw[av,bF g]at this;cases this
    refine bJ (λg=>(by have:=m.1;omega)) λ_=>fc (λg=>(by have:=m.1;dsimp only[ak]at g;omega)) λ_=>aR m.1 (by have:=m.1;omega) (aT (aj ?_))
    have:aJ (T:=.bool) r z=J:=m.2;show (!aJ (T:=.bool) r z)=af;rw[this];rfl
   rintro x rfl;exact dF (aj (gw (by omega)))
  .rintro x rfl;exact di (aj (gw (by omega)))
 .rintro x rfl;exact bJ (λg=>(by omega)) λ_=>aj rfl
abbrev W8 (n:Nat) (s:Y π):WT:=(C0,HV,NC,UX,wS.take n,s)
theorem WX.w8 {w:WT} (L:WX w):∃n,(n=1\/n=2\/n=3\/n=4)/\w=W8 n w.2.2.2.2.2:=by
 obtain⟨h1,h2,A,z,⟨n,n1,U,a⟩,_,_⟩:=L;obtain⟨c,l,d,f,t,s⟩:=w;dsimp only at h1 h2 A z a;subst h1;subst h2;subst A;subst z;subst a;exact⟨n,by omega,rfl⟩
abbrev sn8 (w:WT):SN:=(Rk w,ce0 w,fu0 w,aA w.2.2.2.2.1.length 0)
theorem Jl (s:Y π):dC (W8 1 s)=M (sn8 (W8 1 s)):=by kernel_rfl
theorem st2 (s:Y π):dC (W8 2 s)=M (sn8 (W8 2 s)):=by kernel_rfl
theorem st3 (s:Y π):dC (W8 3 s)=M (sn8 (W8 3 s)):=by kernel_rfl
theorem st4 (s:Y π):dC (W8 4 s)=M (sn8 (W8 4 s)):=by kernel_rfl
theorem C4 {w:WT} (a:WX w):dC w=M (sn8 w):=by
 obtain⟨n,hn,e⟩:=a.w8;rw[e];rcases hn with rfl|rfl|rfl|rfl
 .exact Jl _
 .exact st2 _
 .exact st3 _
 .exact st4 _
abbrev VN4:Y ζ:=[[120],[121],[118],[113]]
theorem vc8:ii C0=M (VN4,J):=by kernel_rfl
theorem vn1 (s:Y π):dV (W8 1 s,VN4)=M J:=by kernel_rfl
theorem vn2 (s:Y π):dV (W8 2 s,VN4)=M J:=by kernel_rfl
theorem vn3 (s:Y π):dV (W8 3 s,VN4)=M J:=by kernel_rfl
theorem vn4 (s:Y π):dV (W8 4 s,VN4)=M J:=by kernel_rfl
theorem vs8 {w:WT} (U:WX w) (hb:VL w):gj w=M J:=by
 have hv:=U.v;have hs:=U.s;have ht:=hb.t0;unfold SV0 at hv;refine cf ?_;unfold gj lw aY bi cI cY bw jk bC aX cQ aD cJ;refine jE w.2.2.2.2.2.length (by omega) (λi x=>∃t n:Int,x=((t,n,(i:Int)),w)/\Ml w.2.2.2.2.1.length (w.2.2.2.2.2.take i)=M (t,n)/\0<=t/\t<w.2.2.2.2.1.length/\0<=n/\n<=i) ?_ ?_ ⟨0,0,rfl,rfl,by omega,by omega,by omega,by omega⟩
 .rintro i x hi ⟨t,n,rfl,h1,t0,t1,n0,n1⟩;refine dh ?_;refine b7 (aT ?_);have h2:=Yj hv (i+1);have A:Ml w.2.2.2.2.1.length (w.2.2.2.2.2.take (i+1))=Ve w.2.2.2.2.1.length (M (t,n)) (aJ (T:=yP) w.2.2.2.2.2 (i:Int)):=by rw[Jm hi,h1]
  rw[A]at h2;dsimp only;revert h2 A;change _->_->Ok _ _;generalize aJ (T:=yP) w.2.2.2.2.2 (i:Int)=z;intro h2 A;obtain⟨(a:Int),(b:Int),(c:Int)⟩:=z;have h5:(a=t/\b=n)\/(t<a/\a<w.2.2.2.2.1.length/\b=0):=by
   simp only[Ve]at h2;split at h2
   .rename_i h;exact .inl h
   .split at h2
    .rename_i h;exact .inr h
    .exact (h2 rfl).elim
  refine aV (λx=>x=(af,w,a,b,c)) ?_ ?_
  .refine di (aj ?_);dsimp only;rw[mE.2 (by dsimp only[ak];omega)]
  rintro x rfl;refine dF ?_;rcases h5 with ⟨rfl,rfl⟩|⟨Z,L,rfl⟩
  .refine aV (λx=>x=((a,b),w,a,b,c)) (di (aj rfl)) ?_;rintro x rfl;refine ca (λg=>(g rfl).elim) λ_=>aj ⟨a,b+1,?_,?_,t0,t1,by omega,by omega⟩
   .dsimp only;rw[iw (n:=b+1) (by omega) (by omega),gw (by omega)]
   .rw[A];simp[Ve]
  .refine aV (λx=>x=((a,0),w,a,0,c)) (dh (aj rfl)) ?_;rintro x rfl;refine ca (λg=>(g rfl).elim) λ_=>aj ⟨a,1,?_,?_,by omega,L,by omega,by omega⟩
   .dsimp only;rw[iw (n:=0+1) (by omega) (by omega),gw (by omega)];rfl
   .rw[A];show (if a=t/\(0:Int)=n then M (t,n+1) else if t<a/\a<_/\(0:Int)=0 then M (a,1) else D)=M (a,1);rw[aw (by omega),aC ⟨Z,L,rfl⟩]
 .rintro x ⟨t,n,rfl,_⟩;exact di (aj rfl)
theorem VW8 {w:WT} (z:WX w) (hb:VL w):dW w=M J:=by
 have hs:=vs8 z hb;have hvn:dV (w,VN4)=M J:=by
  obtain⟨n,hn,e⟩:=z.w8;rw[e];rcases hn with rfl|rfl|rfl|rfl
  .exact vn1 _
  .exact vn2 _
  .exact vn3 _
  .exact vn4 _
 have hc:=z.c;have hd:=z.d;have hl:=z.l;obtain⟨w1,w2,w3,A,s,a⟩:=w;obtain⟨b1,b2,b3,Z,b0,U,L⟩:=hb;dsimp only at hc hd hl b1 b2 b3 Z U L b0;subst hc;subst hd;subst hl;refine cf ?_;unfold dW lx aY bi cI cY bw bC aX cQ aD cJ;have f:∀n m:Nat,n<=m->fP (m:Int) (aM n)=af:=λn m h=>gB.2 (by dsimp only[ak];omega)
 refine aV (λx=>x=(af,C0,HV,NC,A,s,a)) ?_ ?_
 .refine gf rfl (gf rfl (gf rfl (gf (f _ 2 Z) (aj ?_))));rw[show fP 60 (aM (ai a))=af from f _ 60 L]
 rintro x rfl;refine dF (aV (λx=>x=(af,C0,HV,NC,A,s,a)) ?_ ?_)
 .refine gf (gB.2 (by dsimp only[ak];omega)) (aj ?_);rw[show fP 4 (aM (ai s))=af from f _ 4 U]
 rintro x rfl;refine dF (aS vc8 (aV (λx=>x=(af,C0,HV,NC,A,s,a)) ?_ ?_))
 .exact dF (aS hvn (aj rfl))
 rintro x rfl;refine dF (jE 1 (by omega) (λi x=>x=((i:Int),C0,HV,NC,A,s,a)) ?_ ?_ rfl)
 .rintro i x hi rfl;have:i=0:=by omega
  subst this;refine fX rfl (bh rfl (aT (aS (x:=J) ?_ (dF (aj rfl)))));rfl
 .rintro x rfl;exact gf rfl (aS (x:=J) (by rw[hs];rfl) (aj rfl))
abbrev eN (l:Y ET) (i:Nat):ET:=aJ (T:=tE) l (i:Int)
theorem KJ {l:Y ET} {i:Nat} (h:i<l.length):eN l i∈l:=bN (T:=tE) (by omega) (by omega)
theorem amj {l:Y ET} {e:ET} {i:Nat} (h:i<l.length):eN (l++[e]) i=eN l i:=by
 unfold eN;rw[Ag,Ag,av,av,bU h]
theorem aik (l:Y ET) (e:ET):eN (l++[e]) l.length=e:=by
 unfold eN;rw[Ag,av,cj (bT _),IA];rfl
def OX (w:WT) (l:Y ET):SY×η×η:=l.foldl (λs e=>((rK w s.1 e.1 e.2.1 e.2.2.1 e.2.2.2.1).1,ceP s.2.1 e,fuP s.2.2 e)) (Rk w,ce0 w,fu0 w)
theorem UF (w:WT) {l:Y ET} {i:Nat} (h:i<l.length):OX w (l.take (i+1))=((rK w (OX w (l.take i)).1 (eN l i).1 (eN l i).2.1 (eN l i).2.2.1 (eN l i).2.2.2.1).1,ceP (OX w (l.take i)).2.1 (eN l i),fuP (OX w (l.take i)).2.2 (eN l i)):=by
 rw[nu (T:=tE) h];unfold OX;rw[dz];rfl
theorem Acw.all {w:WT} {l:Y ET} {sy:SY} {ce fu:η} (h:Acw w l sy ce fu):OX w l=(sy,ce,fu)/\∀i,i<l.length->SCx w (l.take i) (OX w (l.take i)).1 (OX w (l.take i)).2.1 (OX w (l.take i)).2.2 (eN l i):=by
 induction h with
 |nil=>exact⟨rfl,λi hi=>b8 hi (xP _)⟩
 |snoc h hs a=>
  rename_i l sy ce fu e;obtain⟨h1,h2⟩:=a;refine ⟨by unfold OX at h1 ⊢;rw[dz,h1];rfl,λi hi=>?_⟩;rw[bf,cX]at hi;rcases ci i l.length with g|g
  .rw[lQ (by omega),amj g];exact h2 i g
  .have:i=l.length:=by omega
   subst this;rw[lQ (bT _),cO,aik,h1];exact hs
theorem TR.sc {w:WT} {l:Y ET} (a:TR (w,l)) {i:Nat} (h:i<l.length):SCx w (l.take i) (OX w (l.take i)).1 (OX w (l.take i)).2.1 (OX w (l.take i)).2.2 (eN l i):=by
 obtain⟨sy,ce,fu,ac⟩:=a.ac;exact ac.all.2 i h
def E9 (w:WT) (l:Y ET):HS:=l.foldl (λh e=>(Rw w h (evP e)).1) (HS.zero w)
def bR (l:Y ET) (i:Nat):EV:=evP (eN l i)
def kr (w:WT) (l:Y ET) (i:Nat):η:=Ga w (E9 w (l.take i)) (bR l i)
theorem Ac (w:WT) {l:Y ET} {i:Nat} (h:i<l.length):E9 w (l.take (i+1))=j8 w (E9 w (l.take i)) (bR l i) (kr w l i):=by
 rw[nu (T:=tE) h];unfold E9;rw[dz];rfl
theorem Ad {w:WT} {l:Y ET} (a:TR (w,l)):∀i:Nat,i<=l.length->Vf (i:Int) (E9 w (l.take i))/\Fit w (E9 w (l.take i))
 |0,_=>by
  have wb:=a.wb;dsimp only at wb;exact⟨HS.zero_ok (by have:=wb.c;omega) (by have:=wb.l;omega) (by have:=wb.f;omega) (by have:=wb.t;omega),Fit.zero w⟩
 |i+1,h=>by
  obtain⟨o,s⟩:=Ad a i (by omega);have hl:=a.len;dsimp only at hl;have ok:=aev (a.ev _ (KJ (l:=l) (i:=i) (by omega))) a.wb s;rw[Ac w (by omega)];exact⟨acu (w:=w) (e:=bR l i) o (by omega) ok.th4,s.step (bR l i)⟩
theorem sw {w:WT} {l:Y ET} (a:TR (w,l)) {i:Nat} (h:i<l.length):EOK w (E9 w (l.take i)) (bR l i):=aev (a.ev _ (KJ h)) a.wb (Ad a i (by omega)).2
theorem k9 {w:WT} {l:Y ET} (a:TR (w,l)) {i:Nat} (h:i<l.length):EvT (bR l i) (eN l i):=aq6 (a.ev _ (KJ h))
theorem Gb {w:WT} {l:Y ET} (a:TR (w,l)) {i:Nat} (h:i<l.length):En ((i:Int)+1) (kr w l i):=QO (Ad a i (by omega)).1 (sw a h).th4
def LE (a b:η):Prop:=a.length<=b.length/\∀k,a.getD k 0<=b.getD k 0
theorem LE.refl (a:η):LE a a:=⟨bT _,λ_=>dx _⟩
theorem LE.trans {a b c:η} (h:LE a b) (g:LE b c):LE a c:=⟨dy h.1 g.1,λk=>Int.le_trans (h.2 k) (g.2 k)⟩
theorem LE.jl {a b:η} (h:LE a b):jl a b=b:=xk (by rw[qx];have:=h.1;omega) λi=>by rw[wC,rc];have:=h.2 i;omega
theorem aru (a b:η):LE a (jl a b):=⟨by rw[qx];omega,λk=>by rw[wC,rc];omega⟩
theorem LE_r (a b:η):LE b (jl a b):=⟨by rw[qx];omega,λk=>by rw[wC,rc];omega⟩
theorem alo (a:η) (t:Nat):LE a (tk a t):=⟨by rw[NH];omega,λk=>by rw[Jh];split<;>(try subst k)<;>omega⟩
theorem Re:∀(l:Y η) (c:η),LE c (l.foldl jl c)
 |[],c=>LE.refl c
 |x::r,c=>(aru c x).trans (Re r _)
theorem aky (w:vG) (h:HS) (e:EV):LE (h.T.getD e.th []) (Ga w h e):=(Re _ _).trans (alo _ _)
theorem pl {α:Type} (l:Y α) (i j:Nat) (x d:α):(l.set i x).getD j d=if i=j/\i<l.length then x else l.getD j d:=by
 rw[av,kc];by_cases e:i=j
 .subst e;by_cases g:i<l.length
  .rw[aC rfl,aC g,aC ⟨rfl,g⟩];rfl
  .rw[aC rfl,aw g,aw λq=>g q.2,av,bF (by omega)]
 .rw[aw e,aw λq=>e q.1,av]
structure oM (P:η->Prop) (h:HS):Prop where
 T:∀u,P (h.T.getD u [])
 S:∀u,P (h.S.getD u [])
 L:∀u,P (h.L.getD u [])
 R:∀u,P (h.R.getD u [])
 C:∀u,P (h.C.getD u [])
 F:∀u,P (h.F.getD u [])
 X:P h.X
 N:∀u,P (h.N.getD u [])
theorem oM.mono {P Q:η->Prop} {h:HS} (a:oM P h) (g:∀x,P x->Q x):oM Q h:=⟨λu=>g _ (a.T u),λu=>g _ (a.S u),λu=>g _ (a.L u),λu=>g _ (a.R u),λu=>g _ (a.C u),λu=>g _ (a.F u),g _ a.X,λu=>g _ (a.N u)⟩
theorem oM.set {P:η->Prop} {l:Y η} {c:η} (h:∀u,P (l.getD u [])) (hc:P c) (i:Nat):∀u,P ((l.set i c).getD u []):=λu=>by
 rw[pl];split
 .exact hc
 .exact h u
theorem oM.repl {P:η->Prop} (h:P []) (n:Nat):∀u,P ((aA n []).getD u []):=λu=>by
 rw[av,jD];split<;>exact h
theorem oM.zero {P:η->Prop} (h:P []) (w:vG):oM P (HS.zero w):=⟨oM.repl h _,oM.repl h _,oM.repl h _,oM.repl h _,oM.repl h _,oM.repl h _,h,oM.repl h _⟩
theorem oM.step {P:η->Prop} (hj:∀a b,P a->P b->P (jl a b)) {w:vG} {h:HS} (a:oM P h) (e:EV) {c:η} (hc:P c):oM P (j8 w h e c):=by
 have b:oM P {h with T:=h.T.set e.th c}:={a with T:=oM.set a.T hc _}
 unfold j8;simp only[];repeat' split
 .exact {b with S:=oM.set a.S hc _}
 .exact {b with L:=oM.set a.L (hj _ _ (a.L _) hc) _}
 .exact {b with R:=oM.set a.R (hj _ _ (a.R _) hc) _}
 .exact {b with L:=oM.set a.L (hj _ _ (a.L _) hc) _}
 .exact {b with C:=oM.set a.C (hj _ _ (a.C _) hc) _}
 .exact b
 .exact {b with F:=oM.set a.F (hj _ _ (a.F _) hc) _}
 .exact {b with X:=hj _ _ a.X hc}
 .exact {b with N:=oM.set a.N hc _}
 .exact b
 .refine {b with N:=λu=>?_};have:=a.N u;simp only[Df];rw[av]at this ⊢;rw[E7];cases s:h.N[u]? with
  |none=>rw[s]at this;exact this
  |some x=>
   rw[s]at this;simp only[ct,vL];split
   .exact hc
   .exact this
 .exact b
theorem oM.src {P:η->Prop} {w:vG} {h:HS} (a:oM P h) (e:EV):∀x∈ub w h e,P x:=by
 intro c hc;unfold ub at hc;repeat' (split at hc)
 all_goals simp only[bm,cF,gu]at hc
 .subst hc;exact a.S _
 .subst hc;exact a.T _
 .rcases hc with rfl|rfl
  .exact a.L _
  .exact a.R _
 .subst hc;exact a.L _
 .rcases hc with rfl|rfl|rfl
  .exact a.L _
  .exact a.R _
  .exact a.N _
 .subst hc;exact a.C _
 .subst hc;exact a.F _
 .subst hc;exact a.X
theorem aeq {P:η->Prop} (hj:∀a b,P a->P b->P (jl a b)):∀(l:Y η) (c:η),P c->(∀x∈l,P x)->P (l.foldl jl c)
 |[],_,hc,_=>hc
 |x::r,_,hc,h=>aeq hj r _ (hj _ _ hc (h x (c9 ..))) λy s=>h y (cC _ s)
theorem aey (w:vG) (h:HS) (e:EV) (c:η):(j8 w h e c).T=h.T.set e.th c:=by
 unfold j8;simp only[];repeat' split
 all_goals rfl
def zC (l:Y ET) (u:Nat):Nat->Nat
 |0=>0
 |i+1=>if (bR l i).th=u then zC l u i+1 else zC l u i
theorem Uq (l:Y ET) (u i:Nat):∀j,zC l u i<=zC l u (i+j)
 |0=>bT _
 |j+1=>by
  have:=Uq l u i j;show zC l u i<=zC l u (i+j+1);rw[zC];split<;>omega
theorem Xr (l:Y ET) (u:Nat) {i j:Nat} (h:i<=j):zC l u i<=zC l u j:=by
 obtain⟨k,rfl⟩:∃k,j=i+k:=⟨j-i,by omega⟩
 exact Uq l u i k
theorem I2 (l:Y ET) (i:Nat):zC l (bR l i).th (i+1)=zC l (bR l i).th i+1:=by rw[zC,aC rfl]
structure Gd (w:WT) (l:List ET) (i:Nat) (x:η):Prop where
 le:∀u,x.getD u 0<=(zC l u i:Int)
 dn:∀k,k<i->(zC l (bR l k).th k:Int)+1<=x.getD (bR l k).th 0->LE (kr w l k) x
theorem Gd.nil (w:WT) (l:Y ET) (i:Nat):Gd w l i []:=⟨λu=>by simp,λk _ h=>by simp at h;omega⟩
theorem Gd.jl {w:WT} {l:Y ET} {i:Nat} (a b:η) (s:Gd w l i a) (hb:Gd w l i b):Gd w l i (jl a b):=by
 refine ⟨λu=>?_,λk hk h=>?_⟩
 .rw[wC,rc];have:=s.le u;have:=hb.le u;omega
 .rw[wC,rc]at h;by_cases g:(zC l (bR l k).th k:Int)+1<=a.getD (bR l k).th 0
  .exact (s.dn k hk g).trans (aru _ _)
  .exact (hb.dn k hk (by omega)).trans (LE_r _ _)
theorem Gd.succ {w:WT} {l:Y ET} {i:Nat} {x:η} (h:Gd w l i x):Gd w l (i+1) x:=by
 refine ⟨λu=>?_,λk hk g=>?_⟩
 .have:=h.le u;have:=Xr l u (show i<=i+1 by omega);omega
 .by_cases e:k=i
  .subst e;have:=h.le (bR l k).th;omega
  .exact h.dn k (by omega) g
structure GS1 (w:WT) (l:List ET) (i:Nat) (h:HS):Prop where
 a:oM (Gd w l i) h
 t:∀u,(h.T.getD u []).getD u 0=(zC l u i:Int)
theorem QQ {w:WT} {l:Y ET} {i:Nat} (g:GS1 w l i (E9 w (l.take i))):Gd w l (i+1) (kr w l i)/\(kr w l i).getD (bR l i).th 0=(zC l (bR l i).th i:Int)+1:=by
 have z:Gd w l i ((ub w (E9 w (l.take i)) (bR l i)).foldl AI.jl ((E9 w (l.take i)).T.getD (bR l i).th [])):=aeq Gd.jl _ _ (g.a.T _) (g.a.src (w:=w) _);have A:=g.t (bR l i).th;have hL:=Re (ub w (E9 w (l.take i)) (bR l i)) ((E9 w (l.take i)).T.getD (bR l i).th []);have L:=(g.a.T (bR l i).th).dn;have s:=aky w (E9 w (l.take i)) (bR l i);have e:(kr w l i).getD (bR l i).th 0=(zC l (bR l i).th i:Int)+1:=by
  unfold kr Ga;rw[Jh,aC rfl];have:=hL.2 (bR l i).th;have:=z.le (bR l i).th;omega
 refine ⟨⟨λu=>?_,λk hk h=>?_⟩,e⟩
 .by_cases hu:(bR l i).th=u
  .subst hu;rw[e,I2];omega
  .have:=z.le u;unfold kr Ga;rw[Jh,aw λq=>hu q.symm,zC,aw hu];exact this
 .by_cases hki:k=i
  .subst hki;exact LE.refl _
  have hk:k<i:=by omega
  by_cases hu:(bR l k).th=(bR l i).th
  .refine (L k hk ?_).trans s;rw[hu,A];have:=Xr l (bR l k).th (show k+1<=i from hk);rw[I2,hu]at this;omega
  .refine (z.dn k hk ?_).trans (alo _ _);unfold kr Ga at h;rw[Jh,aw hu]at h;exact h
theorem J0 {w:WT} {l:Y ET} (s:TR (w,l)):∀i:Nat,i<=l.length->GS1 w l i (E9 w (l.take i))
 |0,_=>⟨oM.zero (Gd.nil w l 0) w,λu=>by have:=oM.repl (P:=λx=>x.getD u 0=0) (by simp) w.2.2.2.2.1.length u;exact this⟩
 |i+1,h=>by
  have g:=J0 s i (by omega);obtain⟨A,z⟩:=QQ g;have ht:=(sw s (show i<l.length by omega)).th;rw[Ac w (by omega)];refine ⟨oM.step Gd.jl (g.a.mono λx h=>h.succ) _ A,λu=>?_⟩;rw[aey,pl];by_cases hu:(bR l i).th=u
  .subst hu;rw[aC ⟨rfl,ht⟩,z,I2];omega
  .rw[aw λq=>hu q.1,g.t u,zC,aw hu]
theorem I3 {w:WT} {l:Y ET} (a:TR (w,l)) {i:Nat} (h:i<l.length):(kr w l i).getD (bR l i).th 0=(zC l (bR l i).th i:Int)+1:=(QQ (J0 a i (by omega))).2
theorem af7 {w:WT} {l:Y ET} (a:TR (w,l)) {i:Nat} (h:i<l.length):Gd w l (i+1) (kr w l i):=(QQ (J0 a i (by omega))).1
def Da (w:WT) (l:Y ET) (k j:Nat):Prop:=(zC l (bR l k).th k:Int)+1<=(kr w l j).getD (bR l k).th 0
theorem Da.le {w:WT} {l:Y ET} (a:TR (w,l)) {k j:Nat} (hk:k<=j) (hj:j<l.length) (h:Da w l k j):LE (kr w l k) (kr w l j):=(af7 a hj).dn k (by omega) h
theorem Da.of {w:WT} {l:Y ET} (a:TR (w,l)) {k j:Nat} (hk:k<l.length) (h:LE (kr w l k) (kr w l j)):Da w l k j:=by
 have:=h.2 (bR l k).th;rw[I3 a hk]at this;exact this
theorem Da.own {w:WT} {l:Y ET} (a:TR (w,l)) {k j:Nat} (hk:k<j) (hj:j<l.length) (h:(bR l k).th=(bR l j).th):Da w l k j:=by
 unfold Da;rw[h,I3 a hj];have:=Xr l (bR l k).th (show k+1<=j from hk);rw[I2,h]at this;omega
theorem Da.trans {w:WT} {l:Y ET} (a:TR (w,l)) {i j k:Nat} (hi:i<=j) (hj:j<=k) (hk:k<l.length) (h:Da w l i j) (g:Da w l j k):Da w l i k:=Da.of a (by omega) ((h.le a hi (by omega)).trans (g.le a hj hk))
def Q8 (r:η):Prop:=Iw r/\∀z∈r,0<=z/\z<4
def P8 (s:Y (Int×η)):Prop:=∀x∈s,Q8 x.2
theorem P8.get {s:Y (Int×η)} (h:P8 s) (o:Int):Q8 (aJ (T:=Bj) s o).2:=by
 unfold aJ;rw[av];cases e:s[o.toNat]? with
 |none=>exact⟨trivial,λz a=>by cases a⟩
 |some x=>exact h x (aZ e)
theorem P8.set {s:Y (Int×η)} (h:P8 s) (o a:Int) {r:η} (hr:Q8 r):P8 (cL s o (a,r)):=λx z=>by
 rcases Dm z with z|rfl
 .exact h x z
 .exact hr
theorem CZ (p:Int->Bool):∀{l:η},Iw l->Iw (l.filter p)
 |[],_=>trivial
 |x::r,h=>by
  rw[List.filter_cons];split
  .exact⟨λy a=>h.1 y ((xQ.1 a).1),CZ p h.2⟩
  .exact CZ p h.2
theorem P8.ite {c:Prop} [Decidable c] {a b:SY×Int} (s:P8 a.1.1) (hb:P8 b.1.1):P8 (if c then a else b).1.1:=by by_cases h:c<;>simp[h,s,hb]
theorem P8.ap {w:WT} {s:SY} (h:P8 s.1) {t:Int} (k o v:Int) (t0:0<=t) (L:t<4):P8 (rK w s t k o v).1.1:=by
 have ow:∀a b,P8 (owP s.1 a b):=λa b=>h.set a b (h.get a)
 have un:P8 (rdP s.1 o (xT (aJ (T:=Bj) s.1 o).2 [t])):=h.set _ _ ⟨Rt _ _,λz A=>by
  rcases Jg.1 A with A|A
  .exact (h.get o).2 z A
  .rw[aI]at A;subst A;exact⟨t0,L⟩⟩
 have wt:P8 (rdP s.1 o (wo (aJ (T:=Bj) s.1 o).2 t)):=h.set _ _ ⟨CZ _ (h.get o).1,λz A=>(h.get o).2 z (xQ.1 A).1⟩;unfold rK;exact P8.ite h (P8.ite h (P8.ite (ow _ _) (P8.ite (ow _ _) (P8.ite un (P8.ite wt (P8.ite h (P8.ite h (P8.ite h (P8.ite h (P8.ite (ow _ _) (P8.ite (ow _ _) (P8.ite (P8.ite h h) (P8.ite h (P8.ite h (P8.ite h h)))))))))))))))
def iO (w:WT) (l:Y ET):SN:=l.foldl (nxP w) (sn8 w)
theorem NK (w:WT) {l:Y ET} {i:Nat} (h:i<l.length):iO w (l.take (i+1))=nxP w (iO w (l.take i)) (eN l i):=by
 rw[nu (T:=tE) h];unfold iO;rw[dz];rfl
structure K8 (w:WT) (l:List ET) (i:Nat) (s:SN):Prop where
 a:(s.1,s.2.1,s.2.2.1)=OX w (l.take i)
 r:P8 s.1.1
 c:s.2.1.length=w.1.length
 f:s.2.2.1.length=w.2.2.2.1.length
 k:s.2.2.2.length=w.2.2.2.2.1.length
 n:CN (l.take i) s.2.2.2
theorem Yg {w:WT} {l:Y ET} (s:TR (w,l)):∀i:Nat,i<=l.length->K8 w l i (iO w (l.take i))
 |0,_=>⟨rfl,λx L=>by rw[qg L];exact⟨trivial,λz A=>by cases A⟩,by simp[iO,ce0],by simp[iO,fu0],by simp[iO],λt t0 t1=>by
   have:(aA w.2.2.2.2.1.length (0:Int)).getD t.toNat 0=0:=by rw[av,jD];split<;>rfl
   exact this⟩
 |i+1,h=>by
  obtain⟨a,r,c,f,k,n⟩:=Yg s i (by omega);have sc:=s.sc (i:=i) (by omega);have hl:=s.len;have ht:=s.wb.t;dsimp only at hl ht;have en:=sc.en;have e1:=en.t1;have htk:=qI i l;rw[NK w (by omega)];refine ⟨?_,r.ap _ _ _ en.t0 (by omega),?_,?_,?_,?_⟩
  .rw[UF w (by omega),<-a];rfl
  .unfold nxP ceP;dsimp only;split
   .rw[bY];exact c
   .exact c
  .unfold nxP fuP;dsimp only;split
   .rw[bY];exact f
   .exact f
  .unfold nxP;rw[bY];exact k
  .have:=n.next (eN l i) en.t0 (by rw[k];exact e1) (by omega);rw[nu (T:=tE) (show i<l.length by omega)];exact this
theorem Pj {w:WT} {l:Y ET} (z:TR (w,l)) {i:Nat} (hi:i<l.length):gd (w,iO w (l.take i),eN l i)=M (iO w (l.take (i+1)),J):=by
 obtain⟨a,r,c,f,k,n⟩:=Yg z i (by omega);have sc:=z.sc hi;have A:=z.wx;have ht:=z.wb.t;have hls:=z.ls _ (KJ hi);dsimp only at A ht hls;rw[NK w hi];rw[<- a]at sc;generalize iO w (l.take i)=s at*
 generalize eN l i=e at*
 have en:=sc.en;have e1:=en.t1;have l3:w.2.1.length=3:=by rw[A.l];rfl
 have L:=n e.1 en.t0 (by rw[k];exact e1);have b1:=z.wb.c;have b4:=z.wb.f;have b3:=z.wb.d;dsimp only at b1 b4 b3;have q1:=en.e1;have Z:=en.e2;have q3:=en.e3;dsimp only at q1 Z q3;refine ar6 (n:=4) w s e ⟨⟨by omega,by omega,λx U=>?_,by omega,by omega⟩,by omega,by omega,by omega⟩ (by omega) (by omega) ⟨c,f,k⟩ en ⟨sc.rd,sc.s1,sc.s2,sc.de,sc.fr,by rw[L];exact sc.nd,by rw[L];exact sc.nf,sc.va⟩ hls.1 hls.2 (λh=>?_) (by omega) r (by omega)
 .have:=Q1 x.2 0 4 (r x U).1 (r x U).2;omega
 .have o1:=en.nm.lk (by omega);have o2:=en.nm.rw (by omega);generalize e.2.2.1=o at o1 o2;rw[A.l]at o1 o2;have:o=0\/o=1\/o=2:=by have:HV.length=3:=rfl;omega
  rcases this with rfl|rfl|rfl
  .cases o2
  .cases o2
  .rfl
abbrev fN (l:Y ET) (i:Nat) (t:Int):θ:=fl (l.take i) t
theorem Qj {l:Y ET} {i:Nat} (h:i<l.length) {t:Int} (e:(eN l i).1=t):fN l (i+1) t=fN l i t++[ue (eN l i)]:=by
 unfold fN;rw[nu (T:=tE) h,vk,Ak e]
theorem Qk {l:Y ET} {i:Nat} (h:i<l.length) {t:Int} (e:¬(eN l i).1=t):fN l (i+1) t=fN l i t:=by
 unfold fN;rw[nu (T:=tE) h,vk,xr e,ik]
theorem IJ {w:WT} {l:Y ET} (a:TR (w,l)) {i:Nat} (hi:i<l.length) {t:Int} (e:(eN l i).1=t):cu (fN l i t,eN l i)=M J:=by
 have sc:=a.sc hi;have hls:=a.ls _ (KJ hi);subst e;exact ab0 _ _ sc.rd1 sc.rd2 hls.1 hls.2
theorem Ql (l:Y ET) (i:Nat) (t:Int):(fN l i t).length<=l.length:=dy (YS _ _) (List.length_take_le' ..)
theorem ago {w:WT} {l:Y ET} (a:TR (w,l)) (hn:w.2.2.2.2.1.length=4):eE (w,l)=M (0,0):=by
 have hl:=a.len;dsimp only at hl;refine cf ?_;unfold eE jY aY bi bx cI dY lh bP fG kA qH bg bw bB bC aX cQ aD cJ;refine gf (gB.2 (by dsimp only[ak];omega)) (aS (VW8 a.wx a.vl) (dF (aS (C4 a.wx) (bh (by show (c_ 0 (aM w.2.2.2.2.1.length)&&c_ (aM w.2.2.2.2.1.length) (aM w.2.2.2.2.1.length)&&a8 (aQ (aM w.2.2.2.2.1.length)) 24&&decide ((aM w.2.2.2.2.1.length:Int)=4))=J;rw[hn];rfl) ?_))));refine jE l.length (by omega) (λi x=>x=((i:Int),(w,l),iO w (l.take i),fN l i 0,fN l i 1,fN l i 2,fN l i 3)) ?_ ?_ rfl
 .rintro i x hi rfl;have e1:=(a.sc hi).en.t1;have e0:=(a.sc hi).en.t0;have st:=Pj a hi;have fa:=λt=>Ql l i t
  have rd:=λt=>IJ a hi (t:=t)
  have own:=λt=>Qj hi (t:=t)
  have oth:=λt=>Qk hi (t:=t)
  refine dh ?_;refine b7 (aT ?_);have ht:(eN l i).1=0\/(eN l i).1=1\/(eN l i).1=2\/(eN l i).1=3:=by omega
  have hg:aJ (T:=tE) l (i:Int)=eN l i:=rfl;dsimp only;rw[hg];generalize eN l i=e at*
  refine aS st ?_;obtain⟨(t:Int),e⟩:=e;dsimp only at ht;rcases ht with rfl|rfl|rfl|rfl
  .refine aV (λx=>x=(af,(w,l),iO w (l.take i),(0,e),iO w (l.take (i+1)),fN l i 0,fN l i 1,fN l i 2,fN l i 3)) ?_ ?_
   .simp only[aU,bp,tX];exact aS (rd 0 rfl) (aj rfl)
   rintro x rfl;refine dF (aV (λx=>x=((w,l),iO w (l.take i),iO w (l.take (i+1)),fN l (i+1) 0,fN l (i+1) 1,fN l (i+1) 2,fN l (i+1) 3)) ?_ ?_)
   .simp only[aU,bp,tX];rw[own 0 rfl,oth 1 (by show ¬(0:Int)=1;decide),oth 2 (by show ¬(0:Int)=2;decide),oth 3 (by show ¬(0:Int)=3;decide)];have:=fa 0;refine aK (λh=>be (by simp;omega) (by omega) (aj ?_)) λh=>be (by simp;omega) (by omega) (aj ?_)
    .have:ue (0,e)=J:=by unfold ue;rw[aP h];rfl
     rw[this]
    .have:ue (0,e)=decide (e.1=23):=by unfold ue;rw[bt h];rfl
     rw[this]
   rintro x rfl;exact aj (by rw[gw (by omega)])
  .refine aV (λx=>x=(af,(w,l),iO w (l.take i),(1,e),iO w (l.take (i+1)),fN l i 0,fN l i 1,fN l i 2,fN l i 3)) ?_ ?_
   .simp only[aU,bp,tX];exact aS (rd 1 rfl) (aj rfl)
   rintro x rfl;refine dF (aV (λx=>x=((w,l),iO w (l.take i),iO w (l.take (i+1)),fN l (i+1) 0,fN l (i+1) 1,fN l (i+1) 2,fN l (i+1) 3)) ?_ ?_)
   .simp only[aU,bp,tX];rw[own 1 rfl,oth 0 (by show ¬(1:Int)=0;decide),oth 2 (by show ¬(1:Int)=2;decide),oth 3 (by show ¬(1:Int)=3;decide)];have:=fa 1;refine aK (λh=>be (by simp;omega) (by omega) (aj ?_)) λh=>be (by simp;omega) (by omega) (aj ?_)
    .have:ue (1,e)=J:=by unfold ue;rw[aP h];rfl
     rw[this]
    .have:ue (1,e)=decide (e.1=23):=by unfold ue;rw[bt h];rfl
     rw[this]
   rintro x rfl;exact aj (by rw[gw (by omega)])
  .refine aV (λx=>x=(af,(w,l),iO w (l.take i),(2,e),iO w (l.take (i+1)),fN l i 0,fN l i 1,fN l i 2,fN l i 3)) ?_ ?_
   .simp only[aU,bp,tX];exact aS (rd 2 rfl) (aj rfl)
   rintro x rfl;refine dF (aV (λx=>x=((w,l),iO w (l.take i),iO w (l.take (i+1)),fN l (i+1) 0,fN l (i+1) 1,fN l (i+1) 2,fN l (i+1) 3)) ?_ ?_)
   .simp only[aU,bp,tX];rw[own 2 rfl,oth 0 (by show ¬(2:Int)=0;decide),oth 1 (by show ¬(2:Int)=1;decide),oth 3 (by show ¬(2:Int)=3;decide)];have:=fa 2;refine aK (λh=>be (by simp;omega) (by omega) (aj ?_)) λh=>be (by simp;omega) (by omega) (aj ?_)
    .have:ue (2,e)=J:=by unfold ue;rw[aP h];rfl
     rw[this]
    .have:ue (2,e)=decide (e.1=23):=by unfold ue;rw[bt h];rfl
     rw[this]
   rintro x rfl;exact aj (by rw[gw (by omega)])
  .refine aV (λx=>x=(af,(w,l),iO w (l.take i),(3,e),iO w (l.take (i+1)),fN l i 0,fN l i 1,fN l i 2,fN l i 3)) ?_ ?_
   .simp only[aU,bp,tX];exact aS (rd 3 rfl) (aj rfl)
   rintro x rfl;refine dF (aV (λx=>x=((w,l),iO w (l.take i),iO w (l.take (i+1)),fN l (i+1) 0,fN l (i+1) 1,fN l (i+1) 2,fN l (i+1) 3)) ?_ ?_)
   .simp only[aU,bp,tX];rw[own 3 rfl,oth 0 (by show ¬(3:Int)=0;decide),oth 1 (by show ¬(3:Int)=1;decide),oth 2 (by show ¬(3:Int)=2;decide)];have:=fa 3;refine aK (λh=>be (by simp;omega) (by omega) (aj ?_)) λh=>be (by simp;omega) (by omega) (aj ?_)
    .have:ue (3,e)=J:=by unfold ue;rw[aP h];rfl
     rw[this]
    .have:ue (3,e)=decide (e.1=23):=by unfold ue;rw[bt h];rfl
     rw[this]
   rintro x rfl;exact aj (by rw[gw (by omega)])
 .rintro x rfl;exact di (aj rfl)
theorem Gu {w:WT} {l:Y ET} (a:TR (w,l)) (hn:¬w.2.2.2.2.1.length=4):eE (w,l)=D:=by
 have hl:=a.len;dsimp only at hl;unfold eE jY aY bi bx cI dY lh bP fG kA qH bg bw bB bC aX cQ aD cJ;rw[show fP 400 (aM (ai (w,l).2))=af from gB.2 (by dsimp only[ak];omega)];simp only[aU,bp,tX];rw[VW8 a.wx a.vl];simp only[aU,bp,tX];rw[C4 a.wx];simp only[aU,bp,tX];rw[show decide ((aM w.2.2.2.2.1.length:Int)=4)=af from bt (by dsimp only[ak];omega),Mh];rfl
theorem agp {w:WT} {l:Y ET} (a:TR (w,l)) (hn:w.2.2.2.2.1.length=3):dT (w,l)=M (0,0):=by
 have hl:=a.len;dsimp only at hl;refine cf ?_;unfold dT jZ aY bi bx cI dY bP cY fG kA bg bw bB bC aX cQ aD cJ;refine gf (gB.2 (by dsimp only[ak];omega)) (aS (VW8 a.wx a.vl) (dF (aS (C4 a.wx) (bh (by show (c_ 0 (aM w.2.2.2.2.1.length)&&c_ (aM w.2.2.2.2.1.length) (aM w.2.2.2.2.1.length)&&a8 (aQ (aM w.2.2.2.2.1.length)) 24&&decide ((aM w.2.2.2.2.1.length:Int)=3))=J;rw[hn];rfl) ?_))));refine jE l.length (by omega) (λi x=>x=((i:Int),(w,l),iO w (l.take i),fN l i 0,fN l i 1,fN l i 2)) ?_ ?_ rfl
 .rintro i x hi rfl;have e1:=(a.sc hi).en.t1;have e0:=(a.sc hi).en.t0;have st:=Pj a hi;have fa:=λt=>Ql l i t
  have rd:=λt=>IJ a hi (t:=t)
  have own:=λt=>Qj hi (t:=t)
  have oth:=λt=>Qk hi (t:=t)
  refine dh ?_;refine b7 (aT ?_);have ht:(eN l i).1=0\/(eN l i).1=1\/(eN l i).1=2:=by omega
  have hg:aJ (T:=tE) l (i:Int)=eN l i:=rfl;dsimp only;rw[hg];generalize eN l i=e at*
  refine aS st ?_;obtain⟨(t:Int),e⟩:=e;dsimp only at ht;rcases ht with rfl|rfl|rfl
  .refine aV (λx=>x=(af,(w,l),iO w (l.take i),(0,e),iO w (l.take (i+1)),fN l i 0,fN l i 1,fN l i 2)) ?_ ?_
   .simp only[aU,bp,tX];exact aS (rd 0 rfl) (aj rfl)
   rintro x rfl;refine dF (aV (λx=>x=((w,l),iO w (l.take i),iO w (l.take (i+1)),fN l (i+1) 0,fN l (i+1) 1,fN l (i+1) 2)) ?_ ?_)
   .simp only[aU,bp,tX];rw[own 0 rfl,oth 1 (by show ¬(0:Int)=1;decide),oth 2 (by show ¬(0:Int)=2;decide)];have:=fa 0;refine aK (λh=>be (by simp;omega) (by omega) (aj ?_)) λh=>be (by simp;omega) (by omega) (aj ?_)
    .have:ue (0,e)=J:=by unfold ue;rw[aP h];rfl
     rw[this]
    .have:ue (0,e)=decide (e.1=23):=by unfold ue;rw[bt h];rfl
     rw[this]
   rintro x rfl;exact aj (by rw[gw (by omega)])
  .refine aV (λx=>x=(af,(w,l),iO w (l.take i),(1,e),iO w (l.take (i+1)),fN l i 0,fN l i 1,fN l i 2)) ?_ ?_
   .simp only[aU,bp,tX];exact aS (rd 1 rfl) (aj rfl)
   rintro x rfl;refine dF (aV (λx=>x=((w,l),iO w (l.take i),iO w (l.take (i+1)),fN l (i+1) 0,fN l (i+1) 1,fN l (i+1) 2)) ?_ ?_)
   .simp only[aU,bp,tX];rw[own 1 rfl,oth 0 (by show ¬(1:Int)=0;decide),oth 2 (by show ¬(1:Int)=2;decide)];have:=fa 1;refine aK (λh=>be (by simp;omega) (by omega) (aj ?_)) λh=>be (by simp;omega) (by omega) (aj ?_)
    .have:ue (1,e)=J:=by unfold ue;rw[aP h];rfl
     rw[this]
    .have:ue (1,e)=decide (e.1=23):=by unfold ue;rw[bt h];rfl
     rw[this]
   rintro x rfl;exact aj (by rw[gw (by omega)])
  .refine aV (λx=>x=(af,(w,l),iO w (l.take i),(2,e),iO w (l.take (i+1)),fN l i 0,fN l i 1,fN l i 2)) ?_ ?_
   .simp only[aU,bp,tX];exact aS (rd 2 rfl) (aj rfl)
   rintro x rfl;refine dF (aV (λx=>x=((w,l),iO w (l.take i),iO w (l.take (i+1)),fN l (i+1) 0,fN l (i+1) 1,fN l (i+1) 2)) ?_ ?_)
   .simp only[aU,bp,tX];rw[own 2 rfl,oth 0 (by show ¬(2:Int)=0;decide),oth 1 (by show ¬(2:Int)=1;decide)];have:=fa 2;refine aK (λh=>be (by simp;omega) (by omega) (aj ?_)) λh=>be (by simp;omega) (by omega) (aj ?_)
    .have:ue (2,e)=J:=by unfold ue;rw[aP h];rfl
     rw[this]
    .have:ue (2,e)=decide (e.1=23):=by unfold ue;rw[bt h];rfl
     rw[this]
   rintro x rfl;exact aj (by rw[gw (by omega)])
 .rintro x rfl;exact di (aj rfl)
theorem O4 {w:WT} {l:Y ET} (a:TR (w,l)) (hn:¬w.2.2.2.2.1.length=3):dT (w,l)=D:=by
 have hl:=a.len;dsimp only at hl;unfold dT jZ aY bi bx cI dY bP cY fG kA bg bw bB bC aX cQ aD cJ;rw[show fP 400 (aM (ai (w,l).2))=af from gB.2 (by dsimp only[ak];omega)];simp only[aU,bp,tX];rw[VW8 a.wx a.vl];simp only[aU,bp,tX];rw[C4 a.wx];simp only[aU,bp,tX];rw[show decide ((aM w.2.2.2.2.1.length:Int)=3)=af from bt (by dsimp only[ak];omega),Mh];rfl
theorem agq {w:WT} {l:Y ET} (a:TR (w,l)) (hn:w.2.2.2.2.1.length=2):dD (w,l)=M (0,0):=by
 have hl:=a.len;dsimp only at hl;refine cf ?_;unfold dD j6 aY bi bx cI bP dG fG bg bw bB bC aX cQ aD cJ;refine gf (gB.2 (by dsimp only[ak];omega)) (aS (VW8 a.wx a.vl) (dF (aS (C4 a.wx) (bh (by show (c_ 0 (aM w.2.2.2.2.1.length)&&c_ (aM w.2.2.2.2.1.length) (aM w.2.2.2.2.1.length)&&a8 (aQ (aM w.2.2.2.2.1.length)) 24&&decide ((aM w.2.2.2.2.1.length:Int)=2))=J;rw[hn];rfl) ?_))));refine jE l.length (by omega) (λi x=>x=((i:Int),(w,l),iO w (l.take i),fN l i 0,fN l i 1)) ?_ ?_ rfl
 .rintro i x hi rfl;have e1:=(a.sc hi).en.t1;have e0:=(a.sc hi).en.t0;have st:=Pj a hi;have fa:=λt=>Ql l i t
  have rd:=λt=>IJ a hi (t:=t)
  have own:=λt=>Qj hi (t:=t)
  have oth:=λt=>Qk hi (t:=t)
  refine dh ?_;refine b7 (aT ?_);have ht:(eN l i).1=0\/(eN l i).1=1:=by omega
  have hg:aJ (T:=tE) l (i:Int)=eN l i:=rfl;dsimp only;rw[hg];generalize eN l i=e at*
  refine aS st ?_;obtain⟨(t:Int),e⟩:=e;dsimp only at ht;rcases ht with rfl|rfl
  .refine aV (λx=>x=(af,(w,l),iO w (l.take i),(0,e),iO w (l.take (i+1)),fN l i 0,fN l i 1)) ?_ ?_
   .simp only[aU,bp,tX];exact aS (rd 0 rfl) (aj rfl)
   rintro x rfl;refine dF (aV (λx=>x=((w,l),iO w (l.take i),iO w (l.take (i+1)),fN l (i+1) 0,fN l (i+1) 1)) ?_ ?_)
   .simp only[aU,bp,tX];rw[own 0 rfl,oth 1 (by show ¬(0:Int)=1;decide)];have:=fa 0;refine aK (λh=>be (by simp;omega) (by omega) (aj ?_)) λh=>be (by simp;omega) (by omega) (aj ?_)
    .have:ue (0,e)=J:=by unfold ue;rw[aP h];rfl
     rw[this]
    .have:ue (0,e)=decide (e.1=23):=by unfold ue;rw[bt h];rfl
     rw[this]
   rintro x rfl;exact aj (by rw[gw (by omega)])
  .refine aV (λx=>x=(af,(w,l),iO w (l.take i),(1,e),iO w (l.take (i+1)),fN l i 0,fN l i 1)) ?_ ?_
   .simp only[aU,bp,tX];exact aS (rd 1 rfl) (aj rfl)
   rintro x rfl;refine dF (aV (λx=>x=((w,l),iO w (l.take i),iO w (l.take (i+1)),fN l (i+1) 0,fN l (i+1) 1)) ?_ ?_)
   .simp only[aU,bp,tX];rw[own 1 rfl,oth 0 (by show ¬(1:Int)=0;decide)];have:=fa 1;refine aK (λh=>be (by simp;omega) (by omega) (aj ?_)) λh=>be (by simp;omega) (by omega) (aj ?_)
    .have:ue (1,e)=J:=by unfold ue;rw[aP h];rfl
     rw[this]
    .have:ue (1,e)=decide (e.1=23):=by unfold ue;rw[bt h];rfl
     rw[this]
   rintro x rfl;exact aj (by rw[gw (by omega)])
 .rintro x rfl;exact di (aj rfl)
theorem ac8 {w:WT} {l:Y ET} (a:TR (w,l)) (hn:¬w.2.2.2.2.1.length=2):dD (w,l)=D:=by
 have hl:=a.len;dsimp only at hl;unfold dD j6 aY bi bx cI bP dG fG bg bw bB bC aX cQ aD cJ;rw[show fP 400 (aM (ai (w,l).2))=af from gB.2 (by dsimp only[ak];omega)];simp only[aU,bp,tX];rw[VW8 a.wx a.vl];simp only[aU,bp,tX];rw[C4 a.wx];simp only[aU,bp,tX];rw[show decide ((aM w.2.2.2.2.1.length:Int)=2)=af from bt (by dsimp only[ak];omega),Mh];rfl
theorem agr {w:WT} {l:Y ET} (a:TR (w,l)) (hn:w.2.2.2.2.1.length=1):eH (w,l)=M (0,0):=by
 have hl:=a.len;dsimp only at hl;refine cf ?_;unfold eH mo aY bi bx bP cY bg bw bB bC aX cQ aD cJ;refine gf (gB.2 (by dsimp only[ak];omega)) (aS (VW8 a.wx a.vl) (dF (aS (C4 a.wx) (bh (by show (c_ 0 (aM w.2.2.2.2.1.length)&&c_ (aM w.2.2.2.2.1.length) (aM w.2.2.2.2.1.length)&&a8 (aQ (aM w.2.2.2.2.1.length)) 24&&decide ((aM w.2.2.2.2.1.length:Int)=1))=J;rw[hn];rfl) ?_))));refine jE l.length (by omega) (λi x=>x=((i:Int),(w,l),iO w (l.take i),fN l i 0)) ?_ ?_ rfl
 .rintro i x hi rfl;have e1:=(a.sc hi).en.t1;have e0:=(a.sc hi).en.t0;have st:=Pj a hi;have fa:=λt=>Ql l i t
  have rd:=λt=>IJ a hi (t:=t)
  have own:=λt=>Qj hi (t:=t)
  have oth:=λt=>Qk hi (t:=t)
  refine dh ?_;refine b7 (aT ?_);have ht:(eN l i).1=0:=by omega
  have hg:aJ (T:=tE) l (i:Int)=eN l i:=rfl;dsimp only;rw[hg];generalize eN l i=e at*
  refine aS st ?_;obtain⟨(t:Int),e⟩:=e;dsimp only at ht;subst ht
  .refine aV (λx=>x=(af,(w,l),iO w (l.take i),(0,e),iO w (l.take (i+1)),fN l i 0)) ?_ ?_
   .simp only[aU,bp,tX];exact aS (rd 0 rfl) (aj rfl)
   rintro x rfl;refine dF (aV (λx=>x=((w,l),iO w (l.take i),iO w (l.take (i+1)),fN l (i+1) 0)) ?_ ?_)
   .simp only[aU,bp,tX];rw[own 0 rfl];have:=fa 0;refine aK (λh=>be (by simp;omega) (by omega) (aj ?_)) λh=>be (by simp;omega) (by omega) (aj ?_)
    .have:ue (0,e)=J:=by unfold ue;rw[aP h];rfl
     rw[this]
    .have:ue (0,e)=decide (e.1=23):=by unfold ue;rw[bt h];rfl
     rw[this]
   rintro x rfl;exact aj (by rw[gw (by omega)])
 .rintro x rfl;exact di (aj rfl)
theorem aow {w:WT} {l:Y ET} (a:TR (w,l)):mW (w,l)=M (0,0):=by
 have h1:=a.vl.t0;have s:=a.vl.t;dsimp only at h1 s;unfold mW;have:w.2.2.2.2.1.length=4\/w.2.2.2.2.1.length=3\/w.2.2.2.2.1.length=2\/w.2.2.2.2.1.length=1:=by omega
 rcases this with h|h|h|h
 .rw[ago a h];rfl
 .rw[Gu a (by omega),agp a h];rfl
 .rw[Gu a (by omega),O4 a (by omega),agq a h];rfl
 .rw[Gu a (by omega),O4 a (by omega),ac8 a (by omega),agr a h];rfl
theorem acv {w:WT} {l:Y ET} (a:TR (w,l)):qu w=M (HS.zero w).t:=by
 have wb:=a.wb;dsimp only at wb;exact ag1 w (by have:=wb.c;unfold wR;omega) (by have:=wb.l;unfold wR;omega) (by have:=wb.f;unfold wR;omega) (by have:=wb.t;unfold wR;omega)
theorem ah8 {w:WT} {l:Y ET} (a:TR (w,l)) {i:Nat} (hi:i<l.length):s9 (w,(E9 w (l.take i)).t,eN l i)=M ((E9 w (l.take (i+1))).t,kr w l i):=by
 have hl:=a.len;dsimp only at hl;have:=ajk (Ad a i (by omega)).1 (by omega) (sw a hi) (k9 a hi);rw[Ac w hi];exact this
def tA {α:Type} (n:Nat) (f:Nat->α) (z:α) (i:Nat):Y α:=(cq n).map λk=>if k<i then f k else z
theorem xU {α:Type} (n:Nat) (f:Nat->α) (z:α) (i:Nat):(tA n f z i).length=n:=by simp[tA]
theorem Ji {α:Type} {n:Nat} {f:Nat->α} {z:α} {i:Nat} (h:i<n):(tA n f z i).set i (f i)=tA n f z (i+1):=by
 unfold tA;apply dl
 .simp
 intro k h1 h2;simp only[ij,bQ,eK]at h1;rw[nk];simp only[kW,jy];by_cases e:i=k
 .subst e;rw[aC rfl,aC (by omega)]
 .rw[aw e];by_cases g:k<i
  .rw[aC g,aC (by omega)]
  .rw[aw g,aw (by omega)]
theorem IG {α:Type} (n:Nat) (f:Nat->α) (z:α):tA n f z 0=aA n z:=by unfold tA;simp[List.map_const']
theorem Pe {α:Type} (n:Nat) (f:Nat->α) (z:α):tA n f z n=(cq n).map f:=iL λk hk=>by rw[aC (lU.1 hk)]
abbrev csN (w:WT) (l:Y ET):Y η:=(cq l.length).map (kr w l)
theorem aip {w:WT} {l:Y ET} {i:Nat} (h:i<l.length):(csN w l).getD i []=kr w l i:=by
 rw[av,bd,wN h];rfl
theorem Lt {w:WT} {l:Y ET} {i:Nat} (h:i<l.length):aJ (T:=.sl (.int .i64)) (csN w l) (i:Int)=kr w l i:=by rw[rm];exact aip h
theorem ac7 {w:WT} {l:Y ET} (a:TR (w,l)):p_ (w,l)=M (csN w l,0):=by
 have hl:=a.len;dsimp only at hl;refine cf ?_;unfold p_ yl aY bP ck bw jk bB bC aX cQ aD cJ;refine aS (aow a) (dF (aS (acv a) (dc (dc (dI (by dsimp only[ak];omega) (dI (by omega) (be (by simp;omega) (by omega) ?_)))))));refine jE l.length (by omega) (λi x=>x=((i:Int),(w,l),(E9 w (l.take i)).t,tA l.length (kr w l) [] i)) ?_ ?_ ?_
 .rintro i x hi rfl;refine dh ?_;refine b7 (aT ?_);refine aS (ah8 a hi) ?_;refine aR (by dsimp only;omega) (by dsimp only;rw[xU];omega) (aR (by dsimp only;omega) (by dsimp only;rw[xU];omega) (aj ?_));dsimp only;rw[gw (by omega),dR,Ji hi]
 .rintro x rfl;refine di (aj ?_);dsimp only;rw[Pe]
 .show _=_;rw[IG];rfl
def lZ (x:Int×Int×Int×Int×Int×(η)×η):I (Bool):=
 (jn (bg x.2.1 3 (aD J) (aD (decide ((x.2.1:Int)=4)))) λa=>(M a))
def mI (x:fk×Int×Int×Int×Int×Int×(η)×η):I (Bool):=
 (jn (au (lZ x.2) λs=>(aF s (iZ 0 x.p3 (bw x.p3 (aX x.1.1) (bC k_ x.1.1 x.p3 λa=>(aD a.2.2.2.1)) (aD af)) (aD af)) (aD af))) λz=>(M z))
def pa (x:ja×Int×Int×Int×Int×Int×(η)×η):I (Bool):=
 (jn (au (lZ x.1) λs=>(aF s (au (lZ x.2) λa=>(aF a (jk x.1.1 x.2.1 (bg x.1.p2 x.p3 (bg x.1.2.1 4 (aD J) (aD (decide ((x.p2:Int)=4)))) (aD af)) (aD af)) (aD af))) (aD af))) λz=>(M z))
def mJ (x:(Y ja)×Int):I (Int):=
 (iter (σ:=Int) (λa=>(iZ 0 a (bC gH x.1 a λz=>(bC gH x.1 x.2 λs=>(bg z.1 s.1 (aD a) (cQ (bl .i64 (a-1)))))) (aD (-1)))) (bl .i64 (x.2-1)))
def sY (x:(Y ja)×Int):I (Int):=
 (iter (σ:=ν) (λa=>(bw a.2 x.2 (jn (bC gH x.1 a.2 λz=>(bC gH x.1 x.2 λs=>(bg z.1 s.1 (aD (cJ a.1)) (aD a.1)))) λA=>(cQ (A,(cJ a.2)))) (aD a.1))) (0,0))
def uK (x:(Y ja)×Int):I (Int):=
 (au (mJ x) λs=>(jn (bw s 0 (aD J) (bC gH x.1 s λz3=>(aD (!decide ((z3.2.1:Int)=16))))) λx2=>(aF x2 (M (-1)) (iter (σ:=Int) (λa=>(bw a x.2 (jn (bC gH x.1 a λz6=>(bg z6.2.1 18 (bC gH x.1 a λz7=>(bC gH x.1 x.2 λz8=>(bg z7.2.2.2.1 z8.1 (aD J) (bC gH x.1 a λz9=>(bg z9.2.1 19 (bC gH x.1 a λZ=>(bC gH x.1 s λU=>(aD (decide ((Z.2.2.1:Int)=U.2.2.1))))) (aD af)))))) (bC gH x.1 a λL=>(bg L.2.1 19 (bC gH x.1 a λA=>(bC gH x.1 s λz=>(aD (decide ((A.2.2.1:Int)=z.2.2.1))))) (aD af))))) λx5=>(aF x5 (aD a) (cQ (cJ a)))) (aD (-1)))) (cJ s)))))
def wZ (x:fk×(Y ja)×Int):I η:=
 (bC gH x.2.1 x.2.2 λz1=>(iter (σ:=Int×fk×(η)×Int×Int×Int×Int×Int×(η)×η) (λa=>(bw a.1 x.2.2 (bC gH x.2.1 a.1 λZ=>(jn (α:=fk×(η)×Int×Int×Int×Int×Int×(η)×η) (jn (bg a.p4 1 (bg Z.2.1 20 (aD ((decide ((Z.p2:Int)=a.p3)),a.2.1,a.p2,a.q3,Z)) (aD (af,a.2.1,a.p2,a.q3,Z))) (aD (af,a.2.1,a.p2,a.q3,Z))) λA=>(aF A.1 (bB (a8 (ai A.p2+ai ([a.1])) 8) (aD (A.2.1,(A.p2++([a.1])),A.p3))) (jn (bg A.p3.2.1 21 (aD ((decide ((A.p4:Int)=A.p3.p2)),A.2)) (aD (af,A.2))) λz=>(aF z.1 (bB (a8 (ai z.p2+ai ([a.1])) 8) (aD (z.2.1,(z.p2++([a.1])),z.p3))) (jn (bg z.p3.2.1 3 (au (mI (z.2.1,z.p3)) λy8=>(aF y8 (bg z.p5 4 (aD ((decide ((z.p6:Int)=z.p3.p2)),z.2)) (aD (af,z.2))) (aD (af,z.2)))) (aD (af,z.2))) λs=>(aF s.1 (bB (a8 (ai s.p2+ai ([a.1])) 8) (aD (s.2.1,(s.p2++([a.1])),s.p3))) (jn (bg s.p3.2.1 23 (bg s.p5 22 (aD ((decide ((s.p6:Int)=s.p3.p2)),s.2.1,s.p2,s.p3)) (aD (af,s.2.1,s.p2,s.p3))) (aD (af,s.2.1,s.p2,s.p3))) λU=>(aF U.1 (bB (a8 (ai U.p2+ai ([a.1])) 8) (aD (U.2.1,(U.p2++([a.1])),U.q3))) (aD U.2))))))))) λx4=>(cQ ((cJ a.1),x4)))) (au (jn (α:=η) (bg a.p4 17 (au (uK x.2) λL=>(iZ 0 L (bB (a8 (ai a.p2+ai ([L])) 8) (aD (a.p2++([L])))) (aD a.p2))) (aD a.p2)) λx10=>(M x10)) λr=>M (bS r)))) (0,x.1,([]:η),z1)))
def wX (x:fk×(Y ja)×Int):I η:=
 (bC gH x.2.1 x.2.2 λz1=>(au (pd (x.1,z1)) λZ=>(iter (σ:=Int×fk×η) (λa=>(bw a.1 x.2.2 (jn (α:=fk×η) (bC gH x.2.1 a.1 λz5=>(au (o_ (a.2.1,z5)) λy6=>(jn (iZ 0 Z.1 (bg y6.1 Z.1 (aF Z.2 (aF (!y6.2) (aD (J,a.2)) (bC gH x.2.1 x.2.2 λz8=>(bg z8.2.1 12 (bC gH x.2.1 a.1 λz9=>(aD ((decide ((z9.2.1:Int)=13)),a.2))) (aD (af,a.2))))) (aD (J,a.2))) (bC gH x.2.1 x.2.2 λU=>(bg U.2.1 12 (bC gH x.2.1 a.1 λL=>(aD ((decide ((L.2.1:Int)=13)),a.2))) (aD (af,a.2))))) (bC gH x.2.1 x.2.2 λA=>(bg A.2.1 12 (bC gH x.2.1 a.1 λz=>(aD ((decide ((z.2.1:Int)=13)),a.2))) (aD (af,a.2))))) λs=>(aF s.1 (bB (a8 (ai s.2.2+ai ([a.1])) 8) (aD (s.2.1,(s.2.2++([a.1]))))) (aD s.2))))) λx4=>(cQ ((cJ a.1),x4))) (aD a.2.2))) (0,x.1,([]:η)))))
def sZ (x:fk×Y ja):I (Y η):=
 (iter (σ:=Int×(fk×Y ja)×Y η) (λs=>(bw s.1 (aX x.2) (jn (α:=(η)×(fk×Y ja)×Y η) (au (mJ (s.2.1.2,s.1)) λy3=>(iZ 0 y3 (kZ (.sl aL) s.2.2 y3 λz4=>(aD (z4,s.2))) (aD (([]:η),s.2)))) λU=>(au (wZ (U.2.1.1,U.2.1.2,s.1)) λy5=>(iter (σ:=gY×(fk×Y ja)×Y η) (λz=>(bw z.1.2 (aX y5) (bC aL y5 z.1.2 λz7=>(kZ (.sl aL) z.2.2 z7 λz8=>(au (qm (z.1.1,z8)) λy9=>(cQ ((y9,(cJ z.1.2)),z.2))))) (au (au (wX (z.2.1.1,z.2.1.2,s.1)) λL=>(iter (σ:=gY×(fk×Y ja)×Y η) (λa=>(bw a.1.2 (aX L) (bC aL L a.1.2 λz12=>(kZ (.sl aL) a.2.2 z12 λz13=>(au (qm (a.1.1,z13)) λy14=>(cQ ((y14,(cJ a.1.2)),a.2))))) (au (bC gH a.2.1.2 s.1 λZ=>(au (ql (a.1.1,Z.1)) λA=>(bB (a8 (ai a.2.2+ai ([A])) 24) (cQ ((cJ s.1),a.2.1,(a.2.2++([A]))))))) λr=>M (bS r)))) ((z.1.1,0),z.2))) λr=>M (bS r)))) ((U.1,0),U.2)))) (aD s.2.2))) (0,x,([]:Y η)))
def vR (x:η×Int×Int):I (Bool):=
 (au (yd (x.1,x.2.2)) λa=>(M (c_ x.2.1 a)))
def qR (x:(Y ja)×Int):I ν:=
 (au (sY x) λs=>(bC gH x.1 x.2 λa=>(M ((bl .i64 (1+s)),a.1))))
def nE (x:(fk×Y ja)×Y η):I Yd5:=
 (iter (σ:=Int×(fk×Y ja)×Y ν) (λs=>(bw s.1 (aX x.1.2) (iter (σ:=Int×(fk×Y ja)×Y ν) (λa=>(bw a.1 s.1 (jn (α:=(fk×Y ja)×Y ν) (jn (bC gH a.2.1.2 a.1 λz5=>(bC gH a.2.1.2 s.1 λz6=>(au (pa (z5,z6)) λy7=>(aF y7 (bC gH a.2.1.2 s.1 λZ=>(au (mI (a.2.1.1,Z)) λy9=>(aF (!y9) (bC (.sl aL) x.2 s.1 λA=>(au (qR (a.2.1.2,a.1)) λU=>(au (vR (A,U)) λL=>(aD ((!L),a.2))))) (aD (af,a.2))))) (aD (af,a.2)))))) λz=>(aF z.1 (bB (a8 (ai z.2.2+ai ([(a.1,s.1)])) 16) (aD (z.2.1,(z.2.2++([(a.1,s.1)]))))) (aD z.2))) λx3=>(cQ ((cJ a.1),x3))) (aD (oh ((cJ s.1),a.2))))) (0,s.2)) (aD s.2.2))) (0,x.1,([]:Y ν)))
def epN (l:Y ET) (i:Nat):ν:=((zC l (bR l i).th i:Int)+1,((bR l i).th:Int))
theorem LH (l:Y ET) (u:Nat):∀i,zC l u i<=i
 |0=>bT _
 |i+1=>by have:=LH l u i;rw[zC];split<;>omega
theorem Mb (c:η) (a:Int) (u:Nat):eT (c,a,(u:Int))=M (decide (a<=c.getD u 0)):=by
 unfold eT;dsimp only;rw[yN];rfl
theorem UO (w:vG) (o:Nat) (h:o<w.2.2.1.length) (h0:0<=(w.2.2.1.getD o ([],0)).2):rT (w,(o:Int))=M ((Py w.2.2.1 o:Nat):Int):=by
 have e1:(w.2.2.1.getD o ([],0)).2=((Py w.2.2.1 o:Nat):Int):=by unfold Py;omega
 unfold rT aY bi bx cY bw wQ aX aD;simp only[];rw[xo (by omega)];simp only[c7,jB];rw[Ob (by simp;omega)];simp only[c7];rw[cE (c4 h),Qd,e1]
def C1 (w:vG) (e:EV):Int×Bool:=if e.k=6\/e.k=10 then ((e.ob:Int),af) else if e.k=8 then ((e.ob:Int),J) else if e.k=17 then ((Py w.2.2.1 e.ob:Nat),af) else (-1,af)
def Bl (w:vG) (e:EV):Int×Bool:=if e.k=7\/e.k=11 then ((e.ob:Int),af) else if e.k=9 then ((e.ob:Int),J) else if e.k=16 then ((Py w.2.2.1 e.ob:Nat),af) else (-1,af)
theorem aoy {w:vG} {h:HS} {e:EV} (ok:EOK w h e) {x:ETp} (hx:EvT e x):pd (w,x)=M (C1 w e):=by
 obtain⟨x1,x2,x3,x4,x5,x6,x7⟩:=x;obtain⟨w1,Z,U,L,A,z⟩:=w;obtain⟨th,k,ob,va⟩:=e;obtain⟨s,a,q3,q4⟩:=hx;simp only at s a q3 q4;subst s q4;unfold pd aY bi bx cI dY cY kA bg aD;rcases IQ a ok.k1 ok.k2 with ⟨e,e'⟩|⟨e,e'⟩|⟨e,e'⟩|⟨e,e'⟩|⟨e,e'⟩|⟨e,e'⟩|⟨e,e'⟩|⟨e,e'⟩|⟨e,e'⟩|⟨e,e'⟩|⟨e,e'⟩|⟨e,e'⟩|⟨e,e'⟩|⟨e,e'⟩|⟨e,e'⟩|⟨e,e'⟩|⟨e,e'⟩|⟨e,e'⟩|⟨e,e'⟩|⟨e,e'⟩|⟨e,e'⟩|⟨e,e'⟩|⟨e,e'⟩<;>clear a<;>subst e<;>subst e'
 case inr.inr.inr.inr.inr.inl=>
  obtain rfl:=q3 (by decide);simp only[aU,cK,cV,c6,c7,jB,cZ];rfl
 case inr.inr.inr.inr.inr.inr.inr.inr.inr.inl=>
  obtain rfl:=q3 (by decide);simp only[aU,cK,cV,c6,c7,jB,cZ];rfl
 case inr.inr.inr.inr.inr.inr.inr.inl=>
  obtain rfl:=q3 (by decide);simp only[aU,cK,cV,c6,c7,jB,cZ];rfl
 case inr.inr.inr.inr.inr.inr.inr.inr.inr.inr.inr.inr.inr.inr.inr.inr.inl=>
  obtain rfl:=q3 (by decide);obtain⟨d1,d2,d3⟩:=ok.cd (.inr rfl);have mu:=UO (w1,Z,U,L,A,z) ob d1 d2;simp only[aU,cK,cV,c6,c7,jB,cZ,mu];rfl
 all_goals
  simp only[aU,cK,cV,c6,c7,jB,cZ];rfl
theorem anh {w:vG} {h:HS} {e:EV} (ok:EOK w h e) {x:ETp} (hx:EvT e x):o_ (w,x)=M (Bl w e):=by
 obtain⟨x1,x2,x3,x4,x5,x6,x7⟩:=x;obtain⟨w1,Z,U,L,A,z⟩:=w;obtain⟨th,k,ob,va⟩:=e;obtain⟨s,a,q3,q4⟩:=hx;simp only at s a q3 q4;subst s q4;unfold o_ aY bi bx cI dY cY kA bg aD;rcases IQ a ok.k1 ok.k2 with ⟨e,e'⟩|⟨e,e'⟩|⟨e,e'⟩|⟨e,e'⟩|⟨e,e'⟩|⟨e,e'⟩|⟨e,e'⟩|⟨e,e'⟩|⟨e,e'⟩|⟨e,e'⟩|⟨e,e'⟩|⟨e,e'⟩|⟨e,e'⟩|⟨e,e'⟩|⟨e,e'⟩|⟨e,e'⟩|⟨e,e'⟩|⟨e,e'⟩|⟨e,e'⟩|⟨e,e'⟩|⟨e,e'⟩|⟨e,e'⟩|⟨e,e'⟩<;>clear a<;>subst e<;>subst e'
 case inr.inr.inr.inr.inr.inr.inl=>
  obtain rfl:=q3 (by decide);simp only[aU,cK,cV,c6,c7,jB,cZ];rfl
 case inr.inr.inr.inr.inr.inr.inr.inr.inr.inr.inl=>
  obtain rfl:=q3 (by decide);simp only[aU,cK,cV,c6,c7,jB,cZ];rfl
 case inr.inr.inr.inr.inr.inr.inr.inr.inl=>
  obtain rfl:=q3 (by decide);simp only[aU,cK,cV,c6,c7,jB,cZ];rfl
 case inr.inr.inr.inr.inr.inr.inr.inr.inr.inr.inr.inr.inr.inr.inr.inl=>
  obtain rfl:=q3 (by decide);obtain⟨d1,d2,d3⟩:=ok.cd (.inl rfl);have mu:=UO (w1,Z,U,L,A,z) ob d1 d2;simp only[aU,cK,cV,c6,c7,jB,cZ,mu];rfl
 all_goals
  simp only[aU,cK,cV,c6,c7,jB,cZ];rfl
theorem YJ (a b:η):jl a b=jl b a:=xk (by simp only[qx];omega) λi=>by simp only[wC,rc];omega
def JC (c:Nat->η) (p:Nat->Bool):Nat->η
 |0=>[]
 |i+1=>if p i=J then jl (JC c p i) (c i) else JC c p i
theorem X1 (c:Nat->η) (p:Nat->Bool):∀i,(∀k,k<i->p k=af)->JC c p i=[]
 |0,_=>rfl
 |i+1,h=>by rw[JC,h i (by omega),aw (by simp)];exact X1 c p i λk hk=>h k (by omega)
theorem Rf {c:Nat->η} {p:Nat->Bool} {i:Nat} (h:p i=J):JC c p (i+1)=jl (JC c p i) (c i):=by rw[JC,aC h]
theorem E3 {c:Nat->η} {p:Nat->Bool} {i:Nat} (h:p i=af):JC c p (i+1)=JC c p i:=by rw[JC,aw (by rw[h];simp)]
theorem aq9 (w:vG) (h:HS) (e:EV) (c:η):(j8 w h e c).S=if e.k=20 then h.S.set e.ob c else h.S:=by
 unfold j8;simp only[];repeat' split
 all_goals first|rfl|omega
theorem aqc (w:vG) (h:HS) (e:EV) (c:η):(j8 w h e c).L=if (e.k=7\/e.k=11) then jat h.L e.ob c else if e.k=16 then jat h.L (Py w.2.2.1 e.ob) c else h.L:=by
 unfold j8;simp only[];repeat' split
 all_goals first|rfl|omega
theorem aqa (w:vG) (h:HS) (e:EV) (c:η):(j8 w h e c).R=if e.k=9 then jat h.R e.ob c else h.R:=by
 unfold j8;simp only[];repeat' split
 all_goals first|rfl|omega
theorem aqe (w:vG) (h:HS) (e:EV) (c:η):(j8 w h e c).C=if e.k=4/\rQ w.1 e.ob=J then jat h.C e.ob c else h.C:=by
 unfold j8;simp only[];repeat' split
 all_goals first|rfl|omega|(rename_i h1 h2;exact b8 ⟨by assumption,by assumption⟩ h2)|(rename_i h1 h2;exact b8 h2.2 h1)|(rename_i h1;exact b8 h1.1 (by assumption))
theorem aqd (w:vG) (h:HS) (e:EV) (c:η):(j8 w h e c).F=if e.k=22 then jat h.F e.ob c else h.F:=by
 unfold j8;simp only[];repeat' split
 all_goals first|rfl|omega
theorem aq7 (w:vG) (h:HS) (e:EV) (c:η):(j8 w h e c).X=if e.k=13 then jl h.X c else h.X:=by
 unfold j8;simp only[];repeat' split
 all_goals first|rfl|omega
theorem DK (l:Y η) (i:Nat) (c:η) (o:Nat) (h:i<l.length):(jat l i c).getD o []=if i=o then jl (l.getD o []) c else l.getD o []:=by
 unfold jat;rw[pl];by_cases e:i=o
 .subst e;rw[aC ⟨rfl,h⟩,aC rfl]
 .rw[aw λq=>e q.1,aw e]
abbrev pT (l:Y ET) (u k:Nat):Bool:=decide ((bR l k).th=u)
abbrev pS (l:Y ET) (u k:Nat):Bool:=decide ((bR l k).k=20/\(bR l k).ob=u)
abbrev pL (w:WT) (l:Y ET) (x:Int×Bool) (k:Nat):Bool:=decide (Bl w (bR l k)=x)
abbrev pC (w:WT) (l:Y ET) (o k:Nat):Bool:=decide ((bR l k).k=4/\(bR l k).ob=o/\rQ w.1 o=J)
abbrev pF (l:Y ET) (o k:Nat):Bool:=decide ((bR l k).k=22/\(bR l k).ob=o)
abbrev pX (l:Y ET) (k:Nat):Bool:=decide ((bR l k).k=13)
structure IN (w:WT) (l:List ET) (i:Nat) (h:HS):Prop where
 T:∀u,h.T.getD u []=JC (kr w l) (pT l u) i
 S:∀u,h.S.getD u []=JC (kr w l) (pS l u) i
 L:∀o:Nat,h.L.getD o []=JC (kr w l) (pL w l ((o:Int),af)) i
 R:∀o:Nat,h.R.getD o []=JC (kr w l) (pL w l ((o:Int),J)) i
 C:∀o,h.C.getD o []=JC (kr w l) (pC w l o) i
 F:∀o,h.F.getD o []=JC (kr w l) (pF l o) i
 X:h.X=JC (kr w l) (pX l) i
theorem ad2 {w:vG} {e:EV} (h:e.k=7\/e.k=11):Bl w e=((e.ob:Int),af):=by unfold Bl;rw[aC h]
theorem VB {w:vG} {e:EV} (h:e.k=9):Bl w e=((e.ob:Int),J):=by unfold Bl;rw[aw (by omega),aC h]
theorem Yp {w:vG} {e:EV} (h:e.k=16):Bl w e=((Py w.2.2.1 e.ob:Int),af):=by unfold Bl;rw[aw (by omega),aw (by omega),aC h]
theorem am2 {w:vG} {e:EV} (h:¬(e.k=7\/e.k=11)) (h1:¬e.k=9) (h2:¬e.k=16):Bl w e=(-1,af):=by unfold Bl;rw[aw h,aw h1,aw h2]
theorem IN.zero (w:WT) (l:Y ET):IN w l 0 (HS.zero w):=
 have r:∀n:Nat,∀u,(aA n ([]:η)).getD u []=[]:=λn=>oM.repl (P:=λx=>x=[]) rfl n
 ⟨r _,r _,λ_=>r _ _,λ_=>r _ _,r _,r _,rfl⟩
theorem IN.step {w:WT} {l:Y ET} {i:Nat} {h:HS} (a:IN w l i h) (n:Int) (o:Vf n h) (hh:h=E9 w (l.take i)) (hi:i<l.length) (ok:EOK w h (bR l i)) (z:(bR l i).k=20->∀k,k<i->pS l (bR l i).ob k=af):IN w l (i+1) (j8 w h (bR l i) (kr w l i)):=by
 have hcT:LE (h.T.getD (bR l i).th []) (kr w l i):=by rw[hh];exact aky w _ _
 have hc:En (n+1) (kr w l i):=by unfold kr;rw[<- hh];exact QO o ok.th4
 refine ⟨λu=>?_,λu=>?_,λx=>?_,λx=>?_,λx=>?_,λx=>?_,?_⟩
 .rw[aey,pl];by_cases e:(bR l i).th=u
  .rw[aC ⟨e,ok.th⟩,Rf (by simpa using e),<-a.T u,LE.jl (by rw[<- e];exact hcT)]
  .rw[aw λq=>e q.1,E3 (by simpa using e)];exact a.T u
 .rw[aq9];by_cases k:(bR l i).k=20
  .rw[aC k,pl];by_cases e:(bR l i).ob=u
   .rw[aC ⟨e,by rw[o.lS];exact ok.sp (.inl k)⟩,Rf (by simp[k,e]),X1 _ _ i (by rw[<- e];exact z k),am8 hc]
   .rw[aw λq=>e q.1,E3 (by simp[e])];exact a.S u
  .rw[aw k,E3 (by simp[k])];exact a.S u
 .rw[aqc];by_cases k:(bR l i).k=7\/(bR l i).k=11
  .rw[aC k,DK _ _ _ _ (ok.lk (by omega))];by_cases e:(bR l i).ob=x
   .rw[aC e,Rf (by simp[ad2 k,e]),<-a.L x]
   .rw[aw e,E3 (by simp[ad2 k];omega)];exact a.L x
  rw[aw k];by_cases k2:(bR l i).k=16
  .rw[aC k2,DK _ _ _ _ (ok.cd (.inl k2)).2.2];by_cases e:Py w.2.2.1 (bR l i).ob=x
   .rw[aC e,Rf (by simp[Yp k2,e]),<-a.L x]
   .rw[aw e,E3 (by simp[Yp k2];omega)];exact a.L x
  rw[aw k2,E3]
  .exact a.L x
  .by_cases s:(bR l i).k=9
   .simp[VB s]
   .simp[am2 k s k2]
 .rw[aqa];by_cases k:(bR l i).k=9
  .rw[aC k,DK _ _ _ _ (by rw[o.lR];exact ok.lk (by omega))];by_cases e:(bR l i).ob=x
   .rw[aC e,Rf (by simp[VB k,e]),<-a.R x]
   .rw[aw e,E3 (by simp[VB k];omega)];exact a.R x
  rw[aw k,E3]
  .exact a.R x
  .unfold pL Bl;repeat' split
   all_goals first|omega|simp
 .rw[aqe];by_cases k:(bR l i).k=4/\rQ w.1 (bR l i).ob=J
  .rw[aC k,DK _ _ _ _ (ok.ce (.inr k.1)).1];by_cases e:(bR l i).ob=x
   .rw[aC e,Rf (by simp[k.1,e];rw[<- e];exact k.2),<-a.C x]
   .rw[aw e,E3 (by simp[e])];exact a.C x
  .rw[aw k,E3]
   .exact a.C x
   .refine bt λq=>k ⟨q.1,by rw[q.2.1];exact q.2.2⟩
 .rw[aqd];by_cases k:(bR l i).k=22
  .rw[aC k,DK _ _ _ _ (ok.fu (.inl k))];by_cases e:(bR l i).ob=x
   .rw[aC e,Rf (by simp[k,e]),<-a.F x]
   .rw[aw e,E3 (by simp[e])];exact a.F x
  .rw[aw k,E3 (by simp[k])];exact a.F x
 .rw[aq7];by_cases k:(bR l i).k=13
  .rw[aC k,Rf (by simp[k]),<-a.X]
  .rw[aw k,E3 (by simp[k])];exact a.X
abbrev gT (th:Y (Int×Int×Bool)) (u:Int):Int×Int×Bool:=aJ (T:=jP) th u
theorem FM {T:Ty} (xs:Y T.den) (j k:Int) (x:T.den) (hj:0<=j) (hk:0<=k) (h2:k<xs.length):aJ (cL xs j x) k=if k=j then x else aJ xs k:=by
 by_cases h:j<xs.length
 .exact sr xs j k x hj h hk
 .rw[aw (by omega)];unfold aJ cL;rw[av,av,kc,aw (by omega)]
theorem xV {th:Y (Int×Int×Bool)} {t u:Int} (s:Int) (t0:0<=t) (z:0<=u) (a:u<th.length):gT (yQ th t s) u=if u=t then (s,(gT th u).2) else gT th u:=by
 unfold yQ gT;rw[FM _ _ _ _ t0 z a];split
 .rename_i h;subst h;rfl
 .rfl
theorem Y_ {th:Y (Int×Int×Bool)} {t u:Int} (s:Int) (t0:0<=t) (z:0<=u) (a:u<th.length):gT (cdP th t s) u=if u=t then ((gT th u).1,s,(gT th u).2.2) else gT th u:=by
 unfold cdP gT;rw[FM _ _ _ _ t0 z a];split
 .rename_i h;subst h;rfl
 .rfl
theorem Zc {th:Y (Int×Int×Bool)} {t u:Int} (s:Bool) (t0:0<=t) (z:0<=u) (a:u<th.length):gT (atP th t s) u=if u=t then ((gT th u).1,(gT th u).2.1,s) else gT th u:=by
 unfold atP gT;rw[FM _ _ _ _ t0 z a];split
 .rename_i h;subst h;rfl
 .rfl
theorem apt {u:Int} (s:0<=u):∀(l:η) (th:Y (Int×Int×Bool)),(∀x∈l,0<=x)->u<th.length->gT (Dz th l) u=if u∈l then (4,(gT th u).2) else gT th u
 |[],th,_,_=>by simp[Dz]
 |x::r,th,h,h2=>by
  have e:Dz th (x::r)=Dz (yQ th x 4) r:=rfl;rw[e,apt s r _ (λy z=>h y (cC _ z)) (by unfold yQ;rw[bY];exact h2),xV 4 (h x (c9 ..)) s h2];by_cases a:u=x
  .subst a;simp
  .simp[a]
structure TH1 (k o v t u:Int) (g g':Int×Int×Bool):Prop where
 a:u=t->g.1≠0/\g.1≠3/\(k=16->g'.1=3/\g'.2.1=o)/\(k≠16->g'.1≠0/\g'.1≠3/\g'.1≠4)/\(k≠1->k≠17->g.1=2)
 b:u≠t->k=18->v=u->g.1=3/\g.2.1=o/\g'.1=4/\g'.2.1=o
 c:u≠t->k=19->g.1=3->g.2.1=o->g'.1=4/\g'.2.1=o
 d:u≠t->¬(k=18/\v=u)->¬(k=19/\g.1=3/\g.2.1=o)->g'.2.1=g.2.1/\(g'.1=g.1\/k=20/\o=u/\g.1=0/\g'.1=1)
 e:k=20->o=u->g'.1≠0
theorem TH1.same {k o v t u:Int} {g g':Int×Int×Bool} (h2:k≠1->k≠17->u=t->g.1=2) (e1:g'.1=g.1) (e2:g'.2.1=g.2.1) (n1:k≠1) (L:k≠17) (Z:k≠16) (s:k≠20) (A:k=18->v=u->u=t) (z:k=19->g.1=3->g.2.1=o->u=t):TH1 k o v t u g g':=
 ⟨λh=>(by have:=h2 n1 L h;rw[e1];omega),λh h1 a=>(h (A h1 a)).elim,λh h1 a U=>(h (z h1 a U)).elim,λ_ _ _=>⟨e2,.inl e1⟩,λh=>(s h).elim⟩
theorem amu (w:WT) (s:SY) (t k o v:Int) (en:EN w s t k o) (rd:XX w s t k o) (va:k=18->v=(rK w s t k o v).2) (u:Int) (z:0<=u) (a:u<s.2.2.2.length):TH1 k o v t u (gT s.2.2.2 u) (gT (rK w s t k o v).1.2.2.2 u):=by
 have t0:=en.t0;have r2:k≠1->k≠17->u=t->(gT s.2.2.2 u).1=2:=λh1 h2 U=>by subst U;exact rd.r h1 h2
 have nm:=en.nm;have k1:=nm.k1;have k2:=nm.k2;obtain⟨s1,s2,A,th⟩:=s;dsimp only at a r2;change TH1 k o v t u (gT th u) (gT (rK w (s1,s2,A,th) t k o v).1.2.2.2 u);by_cases a1:k=1
 .subst a1;have e:gT (rK w (s1,s2,A,th) t 1 o v).1.2.2.2 u=if u=t then (2,(gT th u).2) else gT th u:=xV 2 t0 z a
  rw[e];refine ⟨λh=>?_,λ_ h=>by omega,λ_ h=>by omega,λh _ _=>by rw[aw h];exact⟨rfl,.inl rfl⟩,λh=>by omega⟩;have b:=rd.b rfl;rw[aC h];subst h;have b:(gT th u).1=1:=b;dsimp only;omega
 by_cases a2:k=2
 .subst a2;have e:gT (rK w (s1,s2,A,th) t 2 o v).1.2.2.2 u=if u=t then (5,(gT th u).2) else gT th u:=xV 5 t0 z a
  rw[e];refine ⟨λh=>?_,λ_ h=>by omega,λ_ h=>by omega,λh _ _=>by rw[aw h];exact⟨rfl,.inl rfl⟩,λh=>by omega⟩;have:=r2 (by omega) (by omega) h;rw[aC h];dsimp only;omega
 by_cases a14:k=14\/k=15
 .have e:∃b,gT (rK w (s1,s2,A,th) t k o v).1.2.2.2 u=if u=t then ((gT th u).1,(gT th u).2.1,b) else gT th u:=by
   rcases a14 with rfl|rfl
   .exact⟨J,Zc J t0 z a⟩
   .exact⟨af,Zc af t0 z a⟩
  obtain⟨b,e⟩:=e;rw[e];refine TH1.same r2 (by split<;>rfl) (by split<;>rfl) a1 (by omega) (by omega) (by omega) (λh=>by omega) λh=>by omega
 by_cases a16:k=16
 .subst a16;have e:gT (rK w (s1,s2,A,th) t 16 o v).1.2.2.2 u=if u=t then (3,o,(gT th u).2.2) else gT th u:=by
   have:gT (cdP (yQ th t 3) t o) u=_:=Y_ o t0 z (by unfold yQ;rw[bY];exact a);refine Eq.trans this ?_;rw[xV 3 t0 z a];split<;>rfl
  rw[e];refine ⟨λh=>?_,λ_ h=>by omega,λ_ h=>by omega,λh _ _=>by rw[aw h];exact⟨rfl,.inl rfl⟩,λh=>by omega⟩;have:=r2 (by omega) (by omega) h;rw[aC h];exact⟨by omega,by omega,λ_=>⟨rfl,rfl⟩,λh=>(h rfl).elim,λ_ _=>this⟩
 by_cases a17:k=17
 .subst a17;have e:gT (rK w (s1,s2,A,th) t 17 o v).1.2.2.2 u=if u=t then (2,0,(gT th u).2.2) else gT th u:=by
   have:gT (cdP (yQ th t 2) t 0) u=_:=Y_ 0 t0 z (by unfold yQ;rw[bY];exact a);refine Eq.trans this ?_;rw[xV 2 t0 z a];split<;>rfl
  rw[e];refine ⟨λh=>?_,λ_ h=>by omega,λ_ h=>by omega,λh _ _=>by rw[aw h];exact⟨rfl,.inl rfl⟩,λh=>by omega⟩;have b:=(rd.wk rfl).1;rw[aC h];subst h;have b:(gT th u).1=4:=b;dsimp only;omega
 by_cases a18:k=18
 .subst a18;have va:=va rfl;rw[Gj]at va ⊢;dsimp only at va ⊢;by_cases hl:(wl th o th.length).length=0
  .rw[aC hl]at va ⊢;dsimp only at va ⊢;exact TH1.same r2 rfl rfl a1 (by omega) (by omega) (by omega) (λ_ h=>by omega) λh=>by omega
  .rw[aw hl]at va ⊢;dsimp only at va ⊢;have hv:v∈wl th o th.length:=by
    unfold Ca at va;rw[aw hl]at va;split at va
    .rename_i h;simpa using h
    .rw[va];exact bN (T:=.int .i64) (by omega) (by omega)
   rw[<- va];obtain⟨v0,v1,L⟩:=rP.1 hv;unfold Jc at L;simp only[al,bc]at L;rw[xV 4 v0 z a];refine ⟨λh=>?_,λh _ h2=>?_,λ_ h=>by omega,λh h2 _=>?_,λh=>by omega⟩
   .have:=r2 (by omega) (by omega) h;rw[aw (λq=>by rw[q]at this;exact b8 (this.symm.trans L.1) (by decide))];omega
   .subst h2;rw[aC rfl];exact⟨L.1,L.2,rfl,L.2⟩
   .rw[aw λq=>h2 ⟨rfl,q.symm⟩];exact⟨rfl,.inl rfl⟩
 by_cases a19:k=19
 .subst a19;have e:gT (rK w (s1,s2,A,th) t 19 o v).1.2.2.2 u=if u∈wl th o th.length then (4,(gT th u).2) else gT th u:=apt z _ th (λx hx=>(rP.1 hx).1) a
  rw[e];have hm:u∈wl th o th.length↔(gT th u).1=3/\(gT th u).2.1=o:=by
   rw[rP];unfold Jc;simp only[al,bc];exact⟨λh=>h.2.2,λh=>⟨z,a,h⟩⟩
  refine ⟨λh=>?_,λ_ h=>by omega,λh _ U h4=>?_,λh _ U=>?_,λh=>by omega⟩
  .have:=r2 (by omega) (by omega) h;rw[aw (λq=>by have:=(hm.1 q).1;omega)];omega
  .rw[aC (hm.2 ⟨U,h4⟩)];exact⟨rfl,h4⟩
  .rw[aw λq=>U ⟨rfl,hm.1 q⟩];exact⟨rfl,.inl rfl⟩
 by_cases Z:k=20
 .subst Z;have sp:=rd.sp rfl;have o0:=(nm.th (.inl rfl)).1;have e:gT (rK w (s1,s2,A,th) t 20 o v).1.2.2.2 u=if u=o then (1,(gT th u).2) else gT th u:=xV 1 o0 z a
  rw[e];refine ⟨λh=>?_,λ_ h=>by omega,λ_ h=>by omega,λh _ _=>?_,λ_ h=>?_⟩
  .have:=r2 (by omega) (by omega) h;rw[aw (λq=>sp.1 (by omega))];omega
  .by_cases q:u=o
   .subst q;rw[aC rfl];exact⟨rfl,.inr ⟨rfl,rfl,sp.2,rfl⟩⟩
   .rw[aw q];exact⟨rfl,.inl rfl⟩
  .rw[aC h.symm];show (1:Int)≠0;omega
 have e:(rK w (s1,s2,A,th) t k o v).1.2.2.2=th:=by
  unfold rK;rw[aw a1,aw a2];repeat' split
  all_goals first|rfl|omega
 rw[e];exact TH1.same r2 rfl rfl a1 a17 a16 Z (λh=>(a18 h).elim) λh=>(a19 h).elim
def uF (l:Y ET) (u:Nat):Nat->Int
 |0=> -1
 |i+1=>if (bR l i).th=u then (i:Int) else uF l u i
def mtN (l:Y ET) (u i:Nat) (p:Int):Prop:=0<=p/\(bR l p.toNat).k=16/\((bR l i).k=18/\(bR l i).va=u\/(bR l i).k=19/\(bR l i).ob=(bR l p.toNat).ob)
def De (l:Y ET) (u:Nat):Nat->Int
 |0=> -1
 |i+1=>if (bR l i).th=u then -1 else if 0<=De l u i then De l u i else @ite _ (mtN l u i (uF l u i)) (mc _) (i:Int) (-1)
theorem X9 {l:Y ET} {u i:Nat} (h:(bR l i).th=u):De l u (i+1)= -1:=by rw[De,aC h]
theorem X_ {l:Y ET} {u i:Nat} (h:¬(bR l i).th=u) (g:0<=De l u i):De l u (i+1)=De l u i:=by rw[De,aw h,aC g]
theorem Ya {l:Y ET} {u i:Nat} (h:¬(bR l i).th=u) (g:De l u i= -1) (m:mtN l u i (uF l u i)):De l u (i+1)=i:=by rw[De,aw h,aw (by omega),aC m]
theorem X' {l:Y ET} {u i:Nat} (h:¬(bR l i).th=u) (g:De l u i= -1) (m:¬mtN l u i (uF l u i)):De l u (i+1)= -1:=by rw[De,aw h,aw (by omega),aw m]
theorem G4 {α:Type} (l:Y α) (f:Nat->α->α) (u:Nat) (d:α) (h:u<l.length):(l.mapIdx f).getD u d=f u (l.getD u d):=by
 rw[av,E7,ay h,av,ay h];rfl
theorem aq8 (w:vG) (h:HS) (e:EV) (c:η) (u:Nat) (hu:u<h.W.length) (A:h.N.length=h.W.length):(j8 w h e c).W.getD u 0=if e.k=16/\e.th=u then (e.ob:Int) else if e.k=18/\e.va=u\/e.k=19/\h.W.getD u 0=e.ob then -1 else h.W.getD u 0:=by
 obtain⟨th,k,ob,va⟩:=e;dsimp only;by_cases a:k=16
 .subst a;have e:(j8 w h ⟨th,16,ob,va⟩ c).W=h.W.set th ob:=rfl;rw[e,pl];by_cases q:th=u
  .rw[aC ⟨q,by omega⟩,aC ⟨rfl,q⟩]
  .rw[aw λx=>q x.1,aw λx=>q x.2,aw (by omega)]
 rw[aw λx=>a x.1];by_cases z:k=18
 .subst z;have e:j8 w h ⟨th,18,ob,va⟩ c=if 0<=va/\va<h.N.length then {h with T:=h.T.set th c,N:=h.N.set va.toNat c,W:=h.W.set va.toNat (-1)} else {h with T:=h.T.set th c}:=rfl
  rw[e];split
  .show (h.W.set va.toNat (-1)).getD u 0=_;rw[pl];by_cases q:va=u
   .rw[aC ⟨by omega,by omega⟩,aC (.inl ⟨rfl,q⟩)]
   .rw[aw (by omega),aw (by omega)]
  .rw[aw (by omega)]
 by_cases s:k=19
 .subst s;have e:(j8 w h ⟨th,19,ob,va⟩ c).W=h.W.mapIdx λu x=>if decide (h.W.getD u 0=(ob:Int))=J then -1 else x:=rfl
  rw[e,G4 _ _ _ _ hu];by_cases q:h.W.getD u 0=ob
  .rw[aC (aP q),aC (.inr ⟨rfl,q⟩)]
  .rw[aw (by simpa using q),aw (by omega)]
 rw[aw (by omega)];have e:(j8 w h ⟨th,k,ob,va⟩ c).W=h.W:=by
  unfold j8;simp only[];repeat' split
  all_goals first|rfl|omega
 rw[e]
theorem aqb (w:vG) (h:HS) (e:EV) (c:η) (u:Nat) (hu:u<h.N.length):(j8 w h e c).N.getD u []=if e.k=18/\e.va=u\/e.k=19/\h.W.getD u 0=e.ob then c else h.N.getD u []:=by
 obtain⟨th,k,ob,va⟩:=e;dsimp only;by_cases s:k=18
 .subst s;have e:j8 w h ⟨th,18,ob,va⟩ c=if 0<=va/\va<h.N.length then {h with T:=h.T.set th c,N:=h.N.set va.toNat c,W:=h.W.set va.toNat (-1)} else {h with T:=h.T.set th c}:=rfl
  rw[e];split
  .show (h.N.set va.toNat c).getD u []=_;rw[pl];by_cases q:va=u
   .rw[aC ⟨by omega,by omega⟩,aC (.inl ⟨rfl,q⟩)]
   .rw[aw (by omega),aw (by omega)]
  .rw[aw (by omega)]
 by_cases a:k=19
 .subst a;have e:(j8 w h ⟨th,19,ob,va⟩ c).N=h.N.mapIdx λu x=>if decide (h.W.getD u 0=(ob:Int))=J then c else x:=rfl
  rw[e,G4 _ _ _ _ hu];by_cases q:h.W.getD u 0=ob
  .rw[aC (aP q),aC (.inr ⟨rfl,q⟩)]
  .rw[aw (by simpa using q),aw (by omega)]
 rw[aw (by omega)];have e:(j8 w h ⟨th,k,ob,va⟩ c).N=h.N:=by
  unfold j8;simp only[];repeat' split
  all_goals first|rfl|omega
 rw[e]
abbrev gN9 (w:WT) (l:Y ET) (i u:Nat):Int×Int×Bool:=gT (OX w (l.take i)).1.2.2.2 (u:Int)
structure WI (w:WT) (l:List ET) (i:Nat) (h:HS) (u:Nat) (g:Int×Int×Bool):Prop where
 W:h.W.getD u 0=if g.1=3 then g.2.1 else -1
 p:g.1=3\/g.1=4->0<=uF l u i/\(bR l (uF l u i).toNat).k=16/\((bR l (uF l u i).toNat).ob:Int)=g.2.1
 a:g.1=3->De l u i= -1
 n:g.1=4->0<=De l u i/\h.N.getD u []=kr w l (De l u i).toNat
 s:g.1=0->∀k,k<i->pS l u k=af
theorem aly:∀n,∀x∈Zu n,x.1=0\/x.1=1
 |0,x,h=>by cases h
 |n+1,x,h=>by
  rcases bm.1 h with rfl|h
  .exact .inr rfl
  .rw[qg h];exact .inl rfl
theorem WI.zero (w:WT) (l:Y ET) (u:Nat) (hu:u<w.2.2.2.2.1.length):WI w l 0 (HS.zero w) u (gN9 w l 0 u):=by
 have h1:(gN9 w l 0 u).1=0\/(gN9 w l 0 u).1=1:=aly _ _ (bN (T:=jP) (xs:=Zu w.2.2.2.2.1.length) (j:=(u:Int)) (by omega) (by rw[IF];omega));have hW:(HS.zero w).W.getD u 0= -1:=by
  have:(aA w.2.2.2.2.1.length (-1:Int)).getD u 0= -1:=by rw[av,jD,aC hu];rfl
  exact this
 exact⟨by rw[hW,aw (by omega)],λh=>by omega,λh=>by omega,λh=>by omega,λ_ k hk=>by omega⟩
theorem WI.step {w:WT} {l:Y ET} {i:Nat} {h:HS} {u:Nat} (a:WI w l i h u (gN9 w l i u)) (hi:i<l.length) (sc:SCx w (l.take i) (OX w (l.take i)).1 (OX w (l.take i)).2.1 (OX w (l.take i)).2.2 (eN l i)) (et:EvT (bR l i) (eN l i)) (hu:u<w.2.2.2.2.1.length) (h1:h.W.length=w.2.2.2.2.1.length) (h2:h.N.length=w.2.2.2.2.1.length):WI w l (i+1) (j8 w h (bR l i) (kr w l i)) u (gN9 w l (i+1) u):=by
 have en:=sc.en;have eg:gN9 w l (i+1) u=gT (rK w (OX w (l.take i)).1 (eN l i).1 (eN l i).2.1 (eN l i).2.2.1 (eN l i).2.2.2.1).1.2.2.2 (u:Int):=by unfold gN9;rw[UF w hi]
 have T1:TH1 (eN l i).2.1 (eN l i).2.2.1 (eN l i).2.2.2.1 (eN l i).1 (u:Int) (gN9 w l i u) (gN9 w l (i+1) u):=by
  rw[eg];exact amu w (OX w (l.take i)).1 (eN l i).1 (eN l i).2.1 (eN l i).2.2.1 (eN l i).2.2.2.1 en sc.rd (λh=>sc.va.el (by omega) (by omega) (by omega) (by omega) (by omega)) (u:Int) (by omega) (by rw[en.e3];omega)
 clear eg;have eW:=aq8 w h (bR l i) (kr w l i) u (by omega) (by omega);have eN9:=aqb w h (bR l i) (kr w l i) u (by omega);have qt:=et.th;have qk:=et.k;have qv:=et.va;have Z:(bR l i).k=16\/(bR l i).k=19\/(bR l i).k=20->(eN l i).2.2.1=((bR l i).ob:Int):=λh=>et.ob (by rcases h with h|h|h<;>rw[h]<;>decide)
 have pv':uF l u (i+1)=if (bR l i).th=u then (i:Int) else uF l u i:=rfl
 have ps:pS l u i=decide ((bR l i).k=20/\(bR l i).ob=u):=rfl;clear en sc;obtain⟨aW,ap,aa,an,as'⟩:=a;obtain⟨ta,tb,tc,td,te⟩:=T1;generalize gN9 w l (i+1) u=g' at*
 generalize gN9 w l i u=g at*
 by_cases s:(bR l i).th=u
 .obtain⟨b1,b2,b3,b4,_⟩:=ta (by rw[qt,s]);have w0:De l u (i+1)= -1:=X9 s;have hW':h.W.getD u 0= -1:=by rw[aW,aw b2]
  by_cases z:(bR l i).k=16
  .obtain⟨c1,c2⟩:=b3 (by rw[qk,z];rfl);refine ⟨by rw[eW,aC ⟨z,s⟩,aC c1,c2,Z (.inl z)],λ_=>?_,λ_=>w0,λh=>by omega,λh=>by omega⟩;rw[pv',aC s,bO];exact⟨by omega,z,by rw[c2,Z (.inl z)]⟩
  .obtain⟨c1,c2,c3⟩:=b4 (by rw[qk];omega);refine ⟨?_,λh=>by omega,λh=>by omega,λh=>by omega,λh=>by omega⟩;rw[eW,aw (λx=>z x.1),aw c2,hW'];split<;>rfl
 have hut:(u:Int)≠(eN l i).1:=by rw[qt];omega
 rw[aw s]at pv';rw[aw (λx=>s x.2)]at eW;by_cases A:(bR l i).k=18/\(bR l i).va=u\/(bR l i).k=19/\h.W.getD u 0=(bR l i).ob
 .have B:g.1=3/\g'.1=4/\g'.2.1=g.2.1/\((bR l i).k=19->g.2.1=(bR l i).ob):=by
   rcases A with ⟨k,v⟩|⟨k,v⟩
   .obtain⟨U,L,d3,d4⟩:=tb hut (by rw[qk,k];rfl) (by rw[qv,v]);exact⟨U,d3,by rw[L,d4],λq=>by omega⟩
   .have g3:g.1=3:=by
     rw[aW]at v;split at v
     .assumption
     .omega
    rw[aW,aC g3]at v;obtain⟨U,L⟩:=tc hut (by rw[qk,k];rfl) g3 (by rw[v,Z (.inr (.inl k))]);exact⟨g3,U,by rw[L,v,Z (.inr (.inl k))],λ_=>v⟩
  obtain⟨U,L,d3,d4⟩:=B;obtain⟨p1,p2,p3⟩:=ap (.inl U);have hw:=Ya s (aa U) ⟨p1,p2,by
   rcases A with A|⟨k,_⟩
   .exact .inl A
   .exact .inr ⟨k,by have:=d4 k;omega⟩⟩
  rw[aC A]at eW eN9;refine ⟨by rw[eW,aw (by omega)],λ_=>by rw[pv',d3];exact⟨p1,p2,p3⟩,λh=>by omega,λ_=>by rw[hw,bO];exact⟨by omega,eN9⟩,λh=>by omega⟩
 rw[aw A]at eW eN9;have nv:¬((eN l i).2.1=18/\(eN l i).2.2.2.1=(u:Int)):=λq=>A (.inl ⟨by omega,by rw[<- qv];exact q.2⟩)
 have nw:¬((eN l i).2.1=19/\g.1=3/\g.2.1=(eN l i).2.2.1):=λq=>A (.inr ⟨by omega,by rw[aW,aC q.2.1,q.2.2,Z (.inr (.inl (by omega)))]⟩)
 obtain⟨U,L⟩:=td hut nv nw;have nm:g.1=3->¬mtN l u i (uF l u i):=λq ⟨_,_,m⟩=>by
  obtain⟨_,_,p3⟩:=ap (.inl q);rcases m with m|⟨k,m⟩
  .exact A (.inl m)
  .exact nw ⟨by omega,q,by rw[Z (.inr (.inl k)),m,p3]⟩
 refine ⟨?_,λq=>?_,λq=>?_,λq=>?_,λq k hk=>?_⟩
 .rw[eW,aW,U];rcases L with L|L
  .rw[L]
  .rw[aw (by omega),aw (by omega)]
 .rw[pv',U];exact ap (by omega)
 .have q:g.1=3:=by omega
  exact X' s (aa q) (nm q)
 .have q:g.1=4:=by omega
  obtain⟨n1,n2⟩:=an q;rw[X_ s n1,eN9];exact⟨n1,n2⟩
 .have q0:g.1=0:=by omega
  by_cases e:k=i
  .subst e;rw[ps];exact bt λr=>te (by rw[qk,r.1];rfl) (by rw[Z (.inr (.inr r.1)),r.2]) q
  .exact as' q0 k (by omega)
theorem V8 {w:WT} {l:Y ET} (z:TR (w,l)):∀i:Nat,i<=l.length->IN w l i (E9 w (l.take i))/\∀u,u<w.2.2.2.2.1.length->WI w l i (E9 w (l.take i)) u (gN9 w l i u)
 |0,_=>⟨IN.zero w l,λu hu=>WI.zero w l u hu⟩
 |i+1,h=>by
  obtain⟨a,b⟩:=V8 z i (by omega);obtain⟨o,A⟩:=Ad z i (by omega);have hi:i<l.length:=by omega
  have sc:=z.sc hi;have et:=k9 z hi;have ok:=sw z hi;rw[Ac w hi];refine ⟨a.step _ o rfl hi ok λk=>?_,λu hu=>(b u hu).step hi sc et hu (o.lW.trans A.T) (o.lN.trans A.T)⟩;have sp:=(sc.rd.sp (by rw[et.k,k];rfl)).2;rw[et.ob (by rw[k];decide)]at sp;exact (b _ (by rw[<- A.T];exact ok.sp (.inl k))).s sp
theorem aqo {w:WT} {l:Y ET} (a:TR (w,l)) (u:Nat):∀i:Nat,i<=l.length->(E9 w (l.take i)).T.getD u []=if 0<=uF l u i then kr w l (uF l u i).toNat else []
 |0,_=>oM.repl (P:=λx=>x=[]) rfl _ _
 |i+1,h=>by
  have s:=aqo a u i (by omega);rw[Ac w (by omega),aey,pl,uF];by_cases e:(bR l i).th=u
  .rw[aC ⟨e,(sw a (by omega)).th⟩,aC e,aC (by omega),bO]
  .rw[aw λq=>e q.1,aw e];exact s
theorem vy {c:Nat->η} {p q:Nat->Bool}:∀i,(∀k,k<i->p k=q k)->JC c p i=JC c q i
 |0,_=>rfl
 |i+1,h=>by rw[JC,JC,h i (by omega),vy i λk hk=>h k (by omega)]
theorem alp {c:Nat->η} {p q r:Nat->Bool}:∀i,(∀k,k<i->(r k=J↔p k=J\/q k=J)/\¬(p k=J/\q k=J))->JC c r i=jl (JC c p i) (JC c q i)
 |0,_=>rfl
 |i+1,h=>by
  have s:=alp (c:=c) i λk hk=>h k (by omega)
  obtain⟨h1,h2⟩:=h i (by omega);rw[JC,JC,JC];by_cases a:p i=J
  .have b:¬q i=J:=λb=>h2 ⟨a,b⟩
   rw[aC (h1.2 (.inl a)),aC a,aw b,s,qZ,qZ,YJ (JC c q i)]
  .by_cases b:q i=J
   .rw[aC (h1.2 (.inr b)),aw a,aC b,s,qZ]
   .rw[aw λq=>(h1.1 q).elim a b,aw a,aw b,s]
def IV (w:WT) (l:Y ET) (j i:Nat):Prop:=((bR l j).k=1/\(bR l i).k=20/\(bR l i).ob=(bR l j).th)\/((bR l j).k=21/\(bR l i).th=(bR l j).ob)\/((bR l j).k=3/\rQ w.1 (bR l j).ob=J/\(bR l i).k=4/\(bR l i).ob=(bR l j).ob)\/((bR l j).k=23/\(bR l i).k=22/\(bR l i).ob=(bR l j).ob)
def Rj (w:WT) (l:Y ET) (j i:Nat):Prop:=(0<=(C1 w (bR l j)).1/\(Bl w (bR l i)).1=(C1 w (bR l j)).1/\¬((C1 w (bR l j)).2=J/\(Bl w (bR l i)).2=J))\/((bR l j).k=12/\(bR l i).k=13)
def dB (p:Nat->Prop) (k:Nat):Bool:= @decide (p k) (mc _)
theorem aim {p:Nat->Prop} {k:Nat}:dB p k=J↔p k:=by unfold dB;exact @decide_eq_true_iff (p k) (mc _)
theorem ain {p:Nat->Prop} {k:Nat}:dB p k=af↔¬p k:=by unfold dB;exact @decide_eq_false_iff_not (p k) (mc _)
theorem OQ {p:Nat->Prop} {q:Bool} {k:Nat} (h:p k↔q=J):q=dB p k:=by
 cases q with
 |true=>exact (aim.2 (h.2 rfl)).symm
 |false=>exact (ain.2 λx=>by have:=h.1 x;cases this).symm
def wkC (w:WT) (l:Y ET) (j:Nat):η:=if (bR l j).k=17 then kr w l (De l (bR l j).th j).toNat else []
theorem amo {w:WT} {l:Y ET} (tr:TR (w,l)) {j:Nat} (hj:j<l.length):kr w l j=tk (jl (jl (jl (if 0<=uF l (bR l j).th j then kr w l (uF l (bR l j).th j).toNat else []) (JC (kr w l) (dB (IV w l j)) j)) (wkC w l j)) (JC (kr w l) (dB (Rj w l j)) j)) (bR l j).th:=by
 obtain⟨a,b⟩:=V8 tr j (by omega);have o:=(Ad tr j (by omega)).1;have ft:=(Ad tr j (by omega)).2;have ok:=sw tr hj;have sc:=tr.sc hj;have et:=k9 tr hj;rw[<- aqo tr _ j (by omega)];have nH:∀{p:Nat->Prop},(∀k,¬p k)->JC (kr w l) (dB p) j=[]:=λh=>X1 _ _ _ λk _=>ain.2 (h k)
 have oT:=o.T (bR l j).th;have z:=En.nil o.n0;have e0:jl (jl ((E9 w (l.take j)).T.getD (bR l j).th []) []) []=(E9 w (l.take j)).T.getD (bR l j).th []:=by rw[mT oT,mT oT]
 have sN:¬(bR l j).k=6->¬(bR l j).k=10->¬(bR l j).k=8->¬(bR l j).k=17->¬(bR l j).k=12->∀k,¬Rj w l j k:=λh1 h2 h3 h4 h5 k q=>by
  unfold Rj C1 at q;rw[aw (by omega),aw h3,aw h4]at q;rcases q with ⟨q,_⟩|⟨q,_⟩
  .dsimp only at q;omega
  .exact h5 q
 unfold wkC;show Ga w (E9 w (l.take j)) (bR l j)=_;unfold Ga;congr 1;by_cases k1:(bR l j).k=1
 .rw[aw (by omega),nH (sN (by omega) (by omega) (by omega) (by omega) (by omega))];unfold ub;rw[aC k1,vy (q:=pS l (bR l j).th) j λk _=>(OQ (by unfold IV pS;rw[bc];omega)).symm,<-a.S];rw[mT (oT.jl (o.S _)),mT (oT.jl (o.S _))];rfl
 by_cases s:(bR l j).k=21
 .rw[aw (by omega),nH (sN (by omega) (by omega) (by omega) (by omega) (by omega))];unfold ub;rw[aw k1,aC s,vy (q:=pT l (bR l j).ob) j λk _=>(OQ (by unfold IV pT;rw[bc];omega)).symm,<-a.T];rw[mT (oT.jl (o.T _)),mT (oT.jl (o.T _))];rfl
 by_cases k3:(bR l j).k=3
 .rw[aw (by omega),nH (sN (by omega) (by omega) (by omega) (by omega) (by omega))];unfold ub;rw[aw k1,aw s,aw (by omega),aw (by omega),aw (by omega),aC k3,vy (q:=pC w l (bR l j).ob) j λk _=>(OQ ?_).symm,<-a.C]
  .rw[mT (oT.jl (o.C _)),mT (oT.jl (o.C _))];rfl
  .unfold IV pC;rw[bc];constructor
   .rintro (h|h|h|h)
    .omega
    .omega
    .exact⟨h.2.2.1,h.2.2.2,h.2.1⟩
    .omega
   .intro h;exact .inr (.inr (.inl ⟨k3,h.2.2,h.1,h.2.1⟩))
 by_cases k23:(bR l j).k=23
 .rw[aw (by omega),nH (sN (by omega) (by omega) (by omega) (by omega) (by omega))];unfold ub;rw[aw k1,aw s,aw (by omega),aw (by omega),aw (by omega),aw k3,aC k23,vy (q:=pF l (bR l j).ob) j λk _=>(OQ (by unfold IV pF;rw[bc];omega)).symm,<-a.F];rw[mT (oT.jl (o.F _)),mT (oT.jl (o.F _))];rfl
 have hN:∀k,¬IV w l j k:=λk q=>by unfold IV at q;omega
 rw[nH hN,mT oT];by_cases Z:(bR l j).k=12
 .rw[aw (by omega),mT oT];unfold ub;rw[aw k1,aw s,aw (by omega),aw (by omega),aw (by omega),aw k3,aw k23,aC Z,vy (q:=pX l) j λk _=>(OQ ?_).symm,<-a.X]
  .rfl
  .unfold Rj pX C1;rw[bc,aw (by omega),aw (by omega),aw (by omega)];dsimp only;constructor
   .rintro (h|h)
    .omega
    .exact h.2
   .intro h;exact .inr ⟨Z,h⟩
 have hor:∀m:Nat,(C1 w (bR l j)).1=(m:Int)->(C1 w (bR l j)).2=af->JC (kr w l) (dB (Rj w l j)) j=jl ((E9 w (l.take j)).L.getD m []) ((E9 w (l.take j)).R.getD m []):=λm h1 h2=>by
  rw[a.L,a.R];refine alp j λk _=>?_
  rw[aim,bc,bc];unfold Rj;rw[h1,h2];generalize Bl w (bR l k)=x;obtain⟨x1,x2⟩:=x;simp only[aE];constructor
  .constructor
   .rintro (h|h)
    .cases x2 with
     |true=>exact .inr ⟨h.2.1,rfl⟩
     |false=>exact .inl ⟨h.2.1,rfl⟩
    .omega
   .rintro (h|h)<;>exact .inl ⟨by omega,h.1,λq=>by cases q.1⟩
  .rintro⟨⟨_,h⟩,⟨_,h'⟩⟩;rw[h]at h';cases h'
 by_cases U:(bR l j).k=6\/(bR l j).k=10
 .rw[aw (by omega),mT oT,hor (bR l j).ob (by unfold C1;rw[aC U]) (by unfold C1;rw[aC U])];unfold ub;rw[aw k1,aw s,aC U,<-qZ];rfl
 by_cases k8:(bR l j).k=8
 .have ha:C1 w (bR l j)=(((bR l j).ob:Int),J):=by unfold C1;rw[aw U,aC k8]
  rw[aw (by omega),mT oT];unfold ub;rw[aw k1,aw s,aw U,aC k8,vy (q:=pL w l (((bR l j).ob:Int),af)) j λk _=>(OQ ?_).symm,<-a.L]
  .rfl
  .unfold Rj pL;rw[ha,bc];generalize Bl w (bR l k)=x;obtain⟨x1,x2⟩:=x;simp only[aE];constructor
   .rintro (h|h)
    .exact⟨h.2.1,by simpa using h.2.2⟩
    .omega
   .intro h;exact .inl ⟨by omega,h.1,by simp[h.2]⟩
 by_cases A:(bR l j).k=17
 .have wk:=sc.rd.wk (by rw[et.k,A];rfl);have hth:(bR l j).th<w.2.2.2.2.1.length:=by rw[<- ft.T];exact ok.th
  have hn:=(b _ hth).n (by have:=wk.1;rw[et.th]at this;exact this);rw[aC A,hor (Py w.2.2.1 (bR l j).ob) (by unfold C1;rw[aw U,aw k8,aC A]) (by unfold C1;rw[aw U,aw k8,aC A]),<-hn.2];unfold ub;rw[aw k1,aw s,aw U,aw k8,aC A];simp only[xR,List.foldl_nil];rw[qZ,qZ,qZ,<-qZ _ _ ((E9 w (l.take j)).N.getD _ []),YJ ((E9 w (l.take j)).N.getD _ [])]
 .rw[aw A,nH (sN (by omega) (by omega) k8 A Z),mT oT,mT oT];unfold ub;rw[aw k1,aw s,aw U,aw k8,aw A,aw k3,aw k23,aw Z];rfl
theorem YR {n:Int} {c:Nat->η} {p:Nat->Bool} {a:η} (s:En n a):∀i,((cq i).filter p).foldl (λx k=>jl x (c k)) a=jl a (JC c p i)
 |0=>(mT s).symm
 |i+1=>by
  rw[Gw,yO,dz,YR s i];by_cases h:p i=J
  .rw[Rf h,List.filter_cons_of_pos h,<-qZ];rfl
  .rw[E3 (by simpa using h),List.filter_cons_of_neg h];rfl
theorem Cl {w:WT} {l:Y ET} (s:TR (w,l)) {a b:Nat} (z:a<l.length) (hb:b<l.length):(eN l a).1=(eN l b).1↔(bR l a).th=(bR l b).th:=by
 have:=(k9 s z).th;have:=(k9 s hb).th;omega
theorem VK (l:Y ET) (u:Nat):∀i:Nat,-1<=uF l u i/\uF l u i<i
 |0=>⟨dx _,by show (-1:Int)<0;omega⟩
 |i+1=>by have:=VK l u i;rw[uF];split<;>omega
theorem Pq {l:Y ET} {u:Nat}:∀(j k:Nat),uF l u j<k->k<j->¬(bR l k).th=u
 |j+1,k,h,hk=>by
  rw[uF]at h;by_cases q:(bR l j).th=u
  .rw[aC q]at h;omega
  .rw[aw q]at h;by_cases e:k=j
   .subst e;exact q
   .exact Pq j k h (by omega)
theorem Yr {l:Y ET} {u:Nat}:∀j:Nat,0<=uF l u j->(bR l (uF l u j).toNat).th=u
 |0,h=>b8 h (by show ¬(0:Int)<= -1;omega)
 |j+1,h=>by
  rw[uF]at h ⊢;by_cases q:(bR l j).th=u
  .rw[aC q];exact q
  .rw[aw q]at h ⊢;exact Yr j h
theorem RO {l:Y ET} {u:Nat}:∀(j k:Nat),uF l u j<k->k<=j->uF l u k=uF l u j
 |0,k,_,hk=>by rw[show k=0 by omega]
 |j+1,k,h,hk=>by
  by_cases e:k=j+1
  .rw[e]
  .have q:¬(bR l j).th=u:=Pq (j+1) j (by omega) (by omega);rw[uF,aw q]at h ⊢;exact RO j k h (by omega)
theorem HU {w:WT} {l:Y ET} (a:TR (w,l)) {j:Nat} (hj:j<l.length):mJ (l,(j:Int))=M (uF l (bR l j).th j):=by
 have hl:=a.len;dsimp only at hl;refine cf ?_;unfold mJ bg iZ bC cQ aD;refine bZ j (λi x=>x=((j:Int)-1-i)/\uF l (bR l j).th (j-i)=uF l (bR l j).th j) ?_ ?_ ⟨?_,by rw[Nat.sub_zero]⟩
 .rintro i x hi ⟨rfl,e⟩;refine fc (λ_=>?_) λg=>by omega
  rw[show (j:Int)-1-i=((j-i-1:Nat):Int) by omega];refine b7 (aT (b7 (aT (aK (λg=>aj ?_) λg=>aj ?_))))
  .have g:=(Cl a (show j-i-1<l.length by omega) hj).1 g;dsimp only;rw[<- e,show j-i=j-i-1+1 by omega,uF,Nat.add_sub_cancel,aC g]
  .have g:¬_:=λq=>g ((Cl a (show j-i-1<l.length by omega) hj).2 q)
   dsimp only;refine ⟨by rw[iw (by omega) (by omega)];omega,?_⟩;rw[<- e,show j-i=j-(i+1)+1 by omega,uF,show j-(i+1)=j-i-1 by omega,aw g]
 .rintro x ⟨rfl,e⟩;refine fc (λg=>by omega) λ_=>aj ?_
  rw[IA]at e;exact e
 .dsimp only;rw[iw (by omega) (by omega)];omega
theorem acb (x:ET):lZ x=M (decide (x.2.1=3\/x.2.1=4)):=by
 refine cf ?_;unfold lZ bg aD;refine gJ (aK (λh=>aj (aj ?_)) λh=>aj (aj ?_))
 .exact (aP (.inl h)).symm
 .by_cases q:x.2.1=4<;>simp[h,q]
def UG (e:EV):Bool:=decide (e.k=3\/e.k=4)
theorem Md {w:WT} {l:Y ET} (a:TR (w,l)) {j:Nat} (hj:j<l.length):lZ (eN l j)=M (UG (bR l j)):=by
 rw[acb,(k9 a hj).k];unfold UG;congr 1;rw[decide_eq_decide];omega
theorem HR {w:WT} {l:Y ET} (a:TR (w,l)) {j:Nat} (hj:j<l.length):mI (w,eN l j)=M (UG (bR l j)&&rQ w.1 (bR l j).ob):=by
 refine cf ?_;unfold mI bi bw iZ bC aX aD;refine gJ (aS (Md a hj) (aN (λh=>?_) λh=>aj (aj ?_)))
 .have hk:=ba h;have ce:=((sw a hj).ce hk).2;have ob:(eN l j).2.2.1=((bR l j).ob:Int):=(k9 a hj).ob (by rcases hk with h|h<;>rw[h]<;>decide);rw[ob];refine fc (λ_=>dh (b7 (aT (aj (aj ?_))))) λg=>(by omega)
  rw[h,Qc];rfl
 .rw[h];rfl
def fL (p:Nat->Bool) (i:Nat):η:=((cq i).filter p).map aM
theorem aq4 {p:Nat->Bool} {i:Nat} (h:p i=J):fL p (i+1)=fL p i++[(i:Int)]:=by
 unfold fL;rw[Gw,yO,cM,List.filter_cons_of_pos h];rfl
theorem aq5 {p:Nat->Bool} {i:Nat} (h:p i=af):fL p (i+1)=fL p i:=by
 unfold fL;rw[Gw,yO,cM,List.filter_cons_of_neg (by rw[h];decide)];simp
theorem Kx (p:Nat->Bool) (i:Nat):(fL p i).length<=i:=by
 unfold fL;rw[bQ];exact dy (Ch p _) (Nat.le_of_eq eK)
theorem Kw {p:Nat->Bool} {i:Nat} {z:Int} (h:z∈fL p i):0<=z/\z<i:=by
 obtain⟨k,hk,rfl⟩:=du.1 h;have:=lU.1 (xQ.1 hk).1;exact⟨dZ k,Int.ofNat_lt.2 this⟩
theorem ajl {w:WT} {l:Y ET} (z:TR (w,l)) {j:Nat} (hj:j<l.length):wX (w,l,(j:Int))=M (fL (dB (Rj w l j)) j):=by
 have hl:=z.len;dsimp only at hl;refine cf ?_;unfold wX bg bw iZ bB bC cQ aD cJ;refine b7 (aT (aS (aoy (sw z hj) (k9 z hj)) ?_));have Z:=(k9 z hj).k;refine bZ j (λi x=>x=((i:Int),w,fL (dB (Rj w l j)) i)) ?_ ?_ rfl
 .rintro i x hi rfl;have L:i<l.length:=by omega
  have ki:=(k9 z L).k;refine dh ?_;refine aV (λx=>x=(w,fL (dB (Rj w l j)) (i+1))) ?_ ?_
  .refine b7 (aT (aS (anh (sw z L) (k9 z L)) ?_));refine aV (λx=>x.2=(w,fL (dB (Rj w l j)) i)/\(x.1=J↔Rj w l j i)) ?_ ?_
   .unfold Rj;generalize C1 w (bR l j)=A;generalize Bl w (bR l i)=R;obtain⟨A,a⟩:=A;obtain⟨R,r⟩:=R;refine fc (λU=>aK (λhr=>aN (λhb=>em (λhs=>aj ⟨rfl,λ_=>.inl ⟨U,hr,λq=>by dsimp only at q hs;rw[hs]at q;cases q.2⟩,λ_=>rfl⟩) λhs=>?_) λhb=>aj ⟨rfl,λ_=>.inl ⟨U,hr,λq=>by dsimp only at q hb;rw[hb]at q;cases q.1⟩,λ_=>rfl⟩) λhr=>?_) λU=>?_
    all_goals refine b7 (aT (aK (λs=>b7 (aT (aj ⟨rfl,?_⟩))) λs=>aj ⟨rfl,?_⟩))
    all_goals dsimp only at s U ⊢
    all_goals rw[Z]at s
    all_goals try rw[bc,ki]
    all_goals try change ((bR l i).k:Int)=13↔_
    all_goals first|(have s:((bR l j).k:Int)=12:=s)|(have s:¬((bR l j).k:Int)=12:=s)
    all_goals
     have hn:¬(0<=A/\R=A/\¬(a=J/\r=J)):=λq=>by first|exact q.2.2 ⟨hb,hs⟩|exact hr q.2.1|exact b8 q.1 (by omega)
     rw[or_iff_right hn];first|exact⟨λq=>(by cases q),λq=>by omega⟩|omega
   rintro⟨x,y⟩ ⟨e,h⟩;dsimp only at e h;subst e;refine aN (λhb=>?_) λhb=>aj ?_
   .have hn:=Kx (dB (Rj w l j)) i;refine be (by dsimp only[cX];omega) (by omega) (aj ?_);dsimp only;rw[aq4 (aim.2 (h.1 hb))]
   .dsimp only;rw[aq5 (ain.2 λq=>b8 (h.2 q) (by rw[show x=af from hb];decide))]
  rintro x rfl;refine aj ?_;dsimp only;rw[gw (by omega)]
 .rintro x rfl;exact di (aj rfl)
theorem Rs {l:Y ET} {u k:Nat} (h:0<=De l u k):∀m:Nat,(∀n,k<=n->n<k+m->¬(bR l n).th=u)->De l u (k+m)=De l u k
 |0,_=>rfl
 |m+1,hn=>by
  have a:=Rs h m λn h1 h2=>hn n h1 (by omega)
  rw[<- qf,X_ (hn (k+m) (by omega) (by omega)) (by rw[a];exact h)];exact a
theorem afw {w:WT} {l:Y ET} (s:TR (w,l)) {j:Nat} (hj:j<l.length) (h0:0<=uF l (bR l j).th j) (a:(bR l (uF l (bR l j).th j).toNat).k=16) (hw:0<=De l (bR l j).th j):uK (l,(j:Int))=M (De l (bR l j).th j):=by
 have hl:=s.len;dsimp only at hl;have hlt:=(VK l (bR l j).th j).2;have hown:=Yr j h0;have hnot:=λk=>Pq (l:=l) (u:=(bR l j).th) j k
 have hsame:=λk=>RO (l:=l) (u:=(bR l j).th) j k
 refine cf ?_;unfold uK bg bw bC cQ aD cJ;refine aS (HU s hj) ?_;generalize uF l (bR l j).th j=p at*
 obtain⟨p,rfl⟩:∃k:Nat,p=k:=⟨p.toNat,by omega⟩
 rw[bO]at a hown;have hp:p<l.length:=by omega
 have Z:=k9 s hp;have ej:=k9 s hj;have op:(eN l p).2.2.1=((bR l p).ob:Int):=Z.ob (by rw[a];decide);refine aV (λx=>x=af) (bJ (λg=>by omega) λ_=>b7 (aT (aj ?_))) ?_
 .show (!decide ((eN l p).2.1=16))=af;rw[Z.k,a];rfl
 rintro x rfl;refine dF ?_;rw[gw (show p<9223372036854775807 by omega)];refine bZ (j-(p+1)) (λi x=>x=((p+1+i:Nat):Int)/\De l (bR l j).th (p+1+i)= -1) ?_ ?_ ⟨rfl,X9 hown⟩
 .rintro i x hi ⟨rfl,e⟩;have hk:p+1+i<l.length:=by omega
  have hu:=hnot (p+1+i) (by omega) (by omega);have hs:=hsame (p+1+i) (by omega) (by omega);have L:=k9 s hk;refine dh ?_;generalize hkk:p+1+i=k at*
  have ok':(bR l k).k=19->(eN l k).2.2.1=((bR l k).ob:Int):=λh=>L.ob (by rw[h];decide)
  have ekk:=L.k;have ekv:=L.va;have ejt:=ej.th;refine aV (λx=>x=J↔(bR l k).k=18/\(bR l k).va=(bR l j).th\/(bR l k).k=19/\(bR l k).ob=(bR l p).ob) ?_ ?_
  .have A:∀{R:Type} {Q:R⊕Bool->Prop},¬((bR l k).k=18/\(bR l k).va=(bR l j).th)->(∀x,(x=J↔(bR l k).k=18/\(bR l k).va=(bR l j).th\/(bR l k).k=19/\(bR l k).ob=(bR l p).ob)->Q (.inr x))->Ok (chk (e9 (k:Int) (ai l)) λ_=>lt (aJ (T:=tE) l (k:Int)) λz=>aF (decide ((z.2.1:Int)=19)) (chk (e9 (k:Int) (ai l)) λ_=>lt (aJ (T:=tE) l (k:Int)) λz=>chk (e9 (p:Int) (ai l)) λ_=>lt (aJ (T:=tE) l (p:Int)) λy=>M (bS (decide ((z.2.2.1:Int)=y.2.2.1)))) (M (bS af))) Q:=λhn U=>by
    refine b7 (aT (aK (λh=>?_) λh=>aj (U _ ?_)))
    .have h:(eN l k).2.1=19:=h;refine b7 (aT (b7 (aT (aj (U _ ?_)))));have o2:=ok' (by omega);change decide ((eN l k).2.2.1=(eN l p).2.2.1)=J↔_;rw[o2,op,bc,or_iff_right hn];omega
    .have h:¬(eN l k).2.1=19:=h;rw[or_iff_right hn];exact⟨λq=>(by cases q),λq=>by omega⟩
   refine b7 (aT (aK (λh=>?_) λh=>?_))
   .have h:(eN l k).2.1=18:=h;refine b7 (aT (b7 (aT (aK (λg=>aj ?_) λg=>?_))))
    .have g:(eN l k).2.2.2.1=(eN l j).1:=g;exact⟨λ_=>.inl ⟨by omega,by omega⟩,λ_=>rfl⟩
    .have g:¬(eN l k).2.2.2.1=(eN l j).1:=g;exact A (λq=>g (by omega)) λx h=>h
   .have h:¬(eN l k).2.1=18:=h;exact A (λq=>h (by omega)) λx h=>h
  rintro x hx;have hm:mtN l (bR l j).th k (uF l (bR l j).th k)↔x=J:=by
   rw[hx,hs];unfold mtN;rw[bO];exact⟨λq=>q.2.2,λq=>⟨by omega,a,q⟩⟩
  refine aN (λhb=>aj ?_) λhb=>aj ?_
  .have e2:=Ya hu e (hm.2 hb);have e3:=Rs (k:=k+1) (by omega) (j-(k+1)) λn h1 h2=>hnot n (by omega) (by omega)
   rw[show k+1+(j-(k+1))=j by omega,e2]at e3;exact e3.symm
  .have e2:=X' hu e λq=>by rw[hm.1 q]at hb;cases hb
   exact⟨by rw[gw (by omega)];omega,by rw[<- e2];congr 1;omega⟩
 .rintro x ⟨rfl,e⟩;rw[show p+1+(j-(p+1))=j by omega]at e;omega
def Z3 (w:WT) (l:Y ET) (j:Nat):η:=fL (dB (IV w l j)) j++if (bR l j).k=17 then [De l (bR l j).th j] else []
theorem acj {w:WT} {l:Y ET} (a:TR (w,l)) {j:Nat} (hj:j<l.length) (h:(bR l j).k=17):0<=uF l (bR l j).th j/\(bR l (uF l (bR l j).th j).toNat).k=16/\0<=De l (bR l j).th j:=by
 have b:=(V8 a j (by omega)).2 (bR l j).th (by rw[<- (Ad a j (by omega)).2.T];exact (sw a hj).th);have wk:=((a.sc hj).rd.wk (by rw[(k9 a hj).k,h];rfl)).1;rw[(k9 a hj).th]at wk;have g:=b.p (.inr wk);exact⟨g.1,g.2.1,(b.n wk).1⟩
theorem ak4 {w:WT} {l:Y ET} (s:TR (w,l)) {j:Nat} (hj:j<l.length):wZ (w,l,(j:Int))=M (Z3 w l j):=by
 have hl:=s.len;dsimp only at hl;refine cf ?_;unfold wZ aY bi bx cI dY bP bg bw iZ bB bC cQ aD cJ;refine b7 (aT ?_);have L:=k9 s hj;have kj:(eN l j).2.1=(bR l j).k:=L.k;refine bZ j (λi x=>x=((i:Int),w,fL (dB (IV w l j)) i,eN l j)) ?_ ?_ rfl
 .rintro i x hi rfl;have hi':i<l.length:=by omega
  have U:=k9 s hi';have ki:(eN l i).2.1=(bR l i).k:=U.k;have hn:=Kx (dB (IV w l j)) i;have Z:∀{R:Type} {Q:(R⊕(WT×η×ET))->Prop},IV w l j i->Q (.inr (w,fL (dB (IV w l j)) (i+1),eN l j))->Ok (chk (a8 ((fL (dB (IV w l j)) i).length+[(i:Int)].length) 8) λ_=>M (bS (w,fL (dB (IV w l j)) i++[(i:Int)],eN l j))) Q:=λh q=>by
   refine be (by rw[cX];omega) (by omega) (aj ?_);rw[<- aq4 (aim.2 h)];exact q
  refine dh ?_;refine b7 (aT ?_);refine aV (λx=>x=(w,fL (dB (IV w l j)) (i+1),eN l j)) ?_ ?_
  .refine aV (λx=>x.2=(w,fL (dB (IV w l j)) i,eN l j,eN l i)/\(x.1=J↔(bR l j).k=1/\(bR l i).k=20/\(bR l i).ob=(bR l j).th)) ?_ ?_
   .refine aK (λh=>aK (λg=>aj ⟨rfl,?_⟩) λg=>aj ⟨rfl,?_⟩) λh=>aj ⟨rfl,?_⟩
    .have h:(eN l j).2.1=1:=h;have g:(eN l i).2.1=20:=g;have o:(eN l i).2.2.1=(bR l i).ob:=U.ob (by rw[show (bR l i).k=20 by omega];decide);have t:(eN l j).1=(bR l j).th:=L.th;change decide ((eN l i).2.2.1=(eN l j).1)=J↔_;rw[bc];omega
    .have g:¬(eN l i).2.1=20:=g;exact⟨λq=>(by cases q),λq=>by omega⟩
    .have h:¬(eN l j).2.1=1:=h;exact⟨λq=>(by cases q),λq=>by omega⟩
   rintro⟨x,y⟩ ⟨e,h1⟩;dsimp only at e h1;subst e;refine aN (λhb=>Z (.inl (h1.1 hb)) rfl) λa=>?_
   have h1:¬_:=λq=>b8 (h1.2 q) (by rw[show x=af from a];decide)
   clear a;refine aV (λx=>x.2=(w,fL (dB (IV w l j)) i,eN l j,eN l i)/\(x.1=J↔(bR l j).k=21/\(bR l i).th=(bR l j).ob)) ?_ ?_
   .refine aK (λh=>aj ⟨rfl,?_⟩) λh=>aj ⟨rfl,?_⟩
    .have h:(eN l j).2.1=21:=h;have o:(eN l j).2.2.1=(bR l j).ob:=L.ob (by rw[show (bR l j).k=21 by omega];decide);have t:(eN l i).1=(bR l i).th:=U.th;change decide ((eN l i).1=(eN l j).2.2.1)=J↔_;rw[bc];omega
    .have h:¬(eN l j).2.1=21:=h;exact⟨λq=>(by cases q),λq=>by omega⟩
   rintro⟨x,y⟩ ⟨e,h2⟩;dsimp only at e h2;subst e;refine aN (λhb=>Z (.inr (.inl (h2.1 hb))) rfl) λa=>?_
   have h2:¬_:=λq=>b8 (h2.2 q) (by rw[show x=af from a];decide)
   clear a;refine aV (λx=>x.2=(w,fL (dB (IV w l j)) i,eN l j,eN l i)/\(x.1=J↔(bR l j).k=3/\rQ w.1 (bR l j).ob=J/\(bR l i).k=4/\(bR l i).ob=(bR l j).ob)) ?_ ?_
   .refine aK (λh=>?_) λh=>aj ⟨rfl,?_⟩
    .have h:(eN l j).2.1=3:=h;have h:(bR l j).k=3:=by omega
     have o:(eN l j).2.2.1=(bR l j).ob:=L.ob (by rw[h];decide);refine aS (HR s hj) (aN (λhv=>aK (λg=>aj ⟨rfl,?_⟩) λg=>aj ⟨rfl,?_⟩) λhv=>aj ⟨rfl,?_⟩)
     .have hv:=(pu.1 hv).2;have g:(eN l i).2.1=4:=g;have o':(eN l i).2.2.1=(bR l i).ob:=U.ob (by rw[show (bR l i).k=4 by omega];decide);change decide ((eN l i).2.2.1=(eN l j).2.2.1)=J↔_;rw[bc];exact⟨λq=>⟨h,hv,by omega,by omega⟩,λq=>by omega⟩
     .have g:¬(eN l i).2.1=4:=g;exact⟨λq=>(by cases q),λq=>by omega⟩
     .refine ⟨λq=>(by cases q),λq=>?_⟩;rw[q.2.1]at hv;unfold UG at hv;rw[aP (.inl h)]at hv;cases hv
    .have h:¬(eN l j).2.1=3:=h;exact⟨λq=>(by cases q),λq=>by omega⟩
   rintro⟨x,y⟩ ⟨e,A⟩;dsimp only at e A;subst e;refine aN (λhb=>Z (.inr (.inr (.inl (A.1 hb)))) rfl) λa=>?_
   have A:¬_:=λq=>b8 (A.2 q) (by rw[show x=af from a];decide)
   clear a;refine aV (λx=>x.2=(w,fL (dB (IV w l j)) i,eN l j)/\(x.1=J↔(bR l j).k=23/\(bR l i).k=22/\(bR l i).ob=(bR l j).ob)) ?_ ?_
   .refine aK (λh=>aK (λg=>aj ⟨rfl,?_⟩) λg=>aj ⟨rfl,?_⟩) λh=>aj ⟨rfl,?_⟩
    .have h:(eN l j).2.1=23:=h;have g:(eN l i).2.1=22:=g;have o:(eN l i).2.2.1=(bR l i).ob:=U.ob (by rw[show (bR l i).k=22 by omega];decide);have o':(eN l j).2.2.1=(bR l j).ob:=L.ob (by rw[show (bR l j).k=23 by omega];decide);change decide ((eN l i).2.2.1=(eN l j).2.2.1)=J↔_;rw[bc];omega
    .have g:¬(eN l i).2.1=22:=g;exact⟨λq=>(by cases q),λq=>by omega⟩
    .have h:¬(eN l j).2.1=23:=h;exact⟨λq=>(by cases q),λq=>by omega⟩
   rintro⟨x,y⟩ ⟨e,z⟩;dsimp only at e z;subst e;refine aN (λhb=>Z (.inr (.inr (.inr (z.1 hb)))) rfl) λa=>?_
   have z:¬_:=λq=>b8 (z.2 q) (by rw[show x=af from a];decide)
   refine aj ?_;dsimp only;rw[aq5 (ain.2 λq=>q.elim h1 λq=>q.elim h2 λq=>q.elim A z)]
  rintro x rfl;refine aj ?_;dsimp only;rw[gw (by omega)]
 .rintro x rfl;refine di ?_;have hn:=Kx (dB (IV w l j)) j;refine ax (P:=λy=>y=Z3 w l j) (aV (λx=>x=Z3 w l j) ?_ λx hx=>aj hx) λx hx=>aj hx
  unfold Z3;refine aK (λh=>?_) λh=>aj ?_
  .have h:(eN l j).2.1=17:=h;have h:(bR l j).k=17:=by omega
   obtain⟨h0,h1,h2⟩:=acj s hj h;refine aS (afw s hj h0 h1 h2) (fc (λ_=>be (by dsimp only[cX];omega) (by omega) (aj ?_)) λg=>(by omega));dsimp only;rw[aC h]
  .have h:¬(eN l j).2.1=17:=h;dsimp only;rw[aw (by omega),ik]
theorem fD {φ:PM} {O:Nat->Prop} {w:World} {v u:Value} (h:cS φ O w (.f (.raw v)) u):u=v:=by
 cases h with
 |f h=>cases h;rfl
theorem uD (h:HF) (nw:HF):eZ h [] nw=h:=by funext t;simp[eZ]
theorem HN:∀{l:ξ},LL l=J->∀v∈l,v.oneCell'=J
 |[],_,v,hv=>by cases hv
 |x::r,h,v,hv=>by
  simp only[LL,al]at h;rcases bm.1 hv with rfl|hv
  .exact h.1
  .exact HN h.2 v hv
theorem Xo {φ:PM} {O:Nat->Prop} {w:World} (v:Value):cS φ O w (F9 v) v:=by
 unfold F9;split
 .rename_i vs;split
  .rename_i h1;refine cS.agg (vs:=vs.toList) (by simp) (λx a=>?_) (λj x v a hv=>?_)
   .obtain⟨u,hu,rfl⟩:=du.1 a;exact HN h1 u hu
   .rw[bd,hv]at a;simp only[ct,ah]at a;subst a;exact .f (.raw _)
  .exact .f (.raw _)
 .exact .f (.raw _)
theorem uo {φ:PM} {E:Nat->Prop} {h':HF} {w:World} {e:AJ} {a:Act} {xs:Array Operand} (hrep:rL φ E h' w) (h:∀t,.tmp t∈xs->∀y,e.get t=M y->cS φ (tot E φ h') w y (a.tmps.getD t undef)) {x:Operand} {y:AV} (z:x∈xs) (s:nl e x=M y):cS φ (tot E φ h') w y (a.eval x):=by
 cases x with
 |tmp t=>exact h t z y s
 |const v=>simp only[nl,ah]at s;subst s;exact Xo v
 |func g=>
  simp only[nl,ah]at s;subst s;exact cS.clo (vs:=[]) (g:=g) (cells:=[]) rfl (by intro j x v z;simp at z)
 |global g=>
  simp only[nl]at s;cases hg:G g with
  |none=>rw[hg]at s;cases s
  |some cells=>rw[hg]at s;simp only[ah]at s;subst s;exact .f (hrep.gl g cells hg)
abbrev XW (φ:PM) (E:Nat->Prop) (h':HF) (w:World) (a:Act) (e:AJ) (o:Oper):Prop:=∀x y,x∈o.op.operands->nl e x=M y->cS φ (tot E φ h') w y (a.eval x)
theorem gZ.reads {P:Program} {o:Oper} {e:AJ} {h:HF} {val:AV} {rd:ι} {nw:HF}
 (hv:∀(φ:PM) (E:Nat->Prop) (h':HF) (w:World) (a:Act),(∀i∈rd,h' i=h i)->XW φ E h' w a e o->rL φ E h' w->
   ∃v,(execOp a.eval o).run P w= .ok (.value v) w/\cS φ (tot E φ h') w val v):gZ P o e.get h ⟨val,rd,[],nw,[]⟩:=by
 intro φ E h' w a h1 h2 L s U;obtain⟨v,r,rel⟩:=hv φ E h' w a h1 (λx y A z=>uo s L A z) s;unfold Iz;rw[r];refine ⟨v,φ,rfl,?_,λ_ _ h=>.inl h,?_,?_⟩<;>rw[uD]
 .exact jt.refl _ _ _
 .exact s
 .exact rel
theorem dJ {x:AV} {R:C5} (h:rv x=M R):R=⟨x,[],[],[],[]⟩:=by simp only[rv,ah]at h;exact h.symm
section pure
variable {P:Program} {o:Oper} {e:AJ} {h:oL} {nx:Nat} {R:C5}
theorem aqs {x:Operand} (s:o.op= .move x\/o.op= .assign x) (z:eP (.mv x) e h nx=M R):gZ P o e.get h.get R.eff:=by
 simp only[eP]at z;split at z
 .rename_i v hv;rw[dJ z];exact gZ.reads λφ E h' w a _ hop _=>⟨a.eval x,by unfold execOp;rcases s with s|s<;>rw[s]<;>rfl,hop x v (by rcases s with s|s<;>rw[s]<;>simp[Op.operands]) hv⟩
 .cases z
theorem an4 {c x y:Operand} (z:o.op= .pick c x y) (s:eP (.pick c x y) e h nx=M R):gZ P o e.get h.get R.eff:=by
 simp only[eP]at s;split at s
 .rename_i t hc;split at s
  .rename_i v hv;rw[dJ s];refine gZ.reads λφ E h' w a _ hop _=>?_
   have hcv:=fD (hop c _ (by rw[z];simp[Op.operands]) hc);refine ⟨a.eval (if t then x else y),?_,hop _ v (by rw[z];cases t<;>simp[Op.operands]) hv⟩;unfold execOp;rw[z];simp only[hcv];cases t<;>rfl
  .cases s
 .cases s
theorem an5 {x:Operand} (s:o.op= .nilCheck x) (A:eP (.nilc x) e h nx=M R):gZ P o e.get h.get R.eff:=by
 simp only[eP]at A;split at A
 .rename_i id off U;rw[dJ A];refine gZ.reads λφ E h' w a _ hop _=>?_
  have h1:=hop x _ (by rw[s];simp[Op.operands]) U;generalize L:a.eval x=z at h1;cases h1 with
  |ptr hφ=>exact⟨_,by unfold execOp;rw[s];simp only[L];rfl,.ptr hφ⟩
 .rename_i cells off U;rw[dJ A];refine gZ.reads λφ E h' w a _ hop _=>?_
  have h1:=hop x _ (by rw[s];simp[Op.operands]) U;generalize L:a.eval x=z at h1;cases h1 with
  |f h1=>
   have h2:=h1;cases h2 with
   |ptr _ _ b base us hO hb hcl hu hr=>exact⟨_,by unfold execOp;rw[s];simp only[L];rfl,.f h1⟩
 .rename_i g cap U;rw[dJ A];refine gZ.reads λφ E h' w a _ hop _=>?_
  have h1:=hop x _ (by rw[s];simp[Op.operands]) U;generalize L:a.eval x=z at h1;cases h1 with
  |clo hl hr=>exact⟨_,by unfold execOp;rw[s];simp only[L];rfl,.clo hl hr⟩
 .cases A
theorem aqq {x:Operand} {t:TypeId} (z:o.op= .unOp .not t x) (s:eP (.not x) e h nx=M R):gZ P o e.get h.get R.eff:=by
 simp only[eP]at s;split at s
 .rename_i b A;rw[dJ s];refine gZ.reads λφ E h' w a _ hop _=>?_
  have h1:=fD (hop x _ (by rw[z];simp[Op.operands]) A);exact⟨_,by unfold execOp;rw[z];simp only[h1];rfl,.f (.raw _)⟩
 .cases s
theorem zI (k:IntKind) (n:Int):bl k n=k.wrap n:=by
 rw[ID];unfold ND;split
 .split
  .rename_i h;simp only[c_,al,bc]at h;have:pt .i64 n=if n%18446744073709551616≥9223372036854775808 then n%18446744073709551616-18446744073709551616 else n%18446744073709551616:=by
    simp[pt,IntKind.bits,IntKind.signed]
   rw[this];split<;>omega
  .rfl
 .split
  .rename_i h;simp only[c_,al,bc]at h;have:pt .u8 n=n%256:=by
    simp[pt,IntKind.bits,IntKind.signed]
   rw[this];omega
  .rfl
 .rfl
theorem and {x:Operand} {s d:TypeId} {k k':IntKind} (A:o.op= .convert s d x) (hs:P.underlying s=M (.int k')) (hd:P.underlying d=M (.int k)) (z:eP (.conv k x) e h nx=M R):gZ P o e.get h.get R.eff:=by
 simp only[eP]at z;split at z
 .rename_i U n L;rw[dJ z];refine gZ.reads λφ E h' w a _ hop _=>?_
  have h1:=fD (hop x _ (by rw[A];simp[Op.operands]) L);refine ⟨_,?_,.f (.raw _)⟩;unfold execOp;rw[A];simp[h1,convert,run_underlying hs,run_underlying hd,Conv.intToInt,zI]
 .cases z
theorem QZ (a:ByteArray):a.toList=a.data.toList:=by
 first|exact ByteArray.toList_eq a|simp[ByteArray.toList]|rfl
theorem ad0 {op:BinOp} {t:TypeId} {u v r:Value} (hr:uq op u v=M r) (x y:Operand) (w:World):
 (do eqGuard op t x y u v;binOp op t u v:Sem Value).run P w= .ok r w:=by
 unfold uq at hr;split at hr
 .rename_i k a k' b;split at hr
  .rename_i hk;have s:k=k':=by simpa using hk
   subst s;split at hr<;>first|(simp only[ah]at hr;subst hr;simp[eqGuard,binOp,Op.intCmp,Op.intArith,zI,c_,fP];done)|(split at hr<;>first|(cases hr;done)|(rename_i hb;simp only[ah]at hr;subst hr;simp[eqGuard,binOp,Op.intDiv,zI,show b≠0 from by simpa using hb];done))|(cases hr;done)
  .cases hr
 .rename_i a b;split at hr<;>first|(simp only[ah]at hr;subst hr;simp[eqGuard,binOp,Op.stringOp,sT,QZ];done)|(cases hr;done)
 .cases hr
theorem aki {s:Sem Value} {r:Value} {w w':World} (hs:s.run P w= .ok r w'):(do let x<-s;pure (Next.value x):Sem Next).run P w= .ok (.value r) w':=by
 simp[hs]
theorem alc {op:BinOp} {x y:Operand} {t t':TypeId} (z:o.op= .binOp op t x y t') (s:eP (.bin op x y) e h nx=M R):gZ P o e.get h.get R.eff:=by
 simp only[eP]at s;split at s
 .rename_i u v L A;split at s
  .rename_i r hr;rw[dJ s];refine gZ.reads λφ E h' w a _ hop _=>?_
   have h1:=fD (hop x _ (by rw[z];simp[Op.operands]) L);have h2:=fD (hop y _ (by rw[z];simp[Op.operands]) A);refine ⟨r,?_,.f (.raw _)⟩;unfold execOp;rw[z];simp only[h1,h2];exact aki (ad0 (P:=P) (t:=t) hr x y w)
  .cases s
 .cases s
theorem WJ {t:TypeId} (hu:P.underlying t=M .bool) (u v:Bool) (w:World):(Op.equal t (.bool u) (.bool v)).run P w= .ok (u==v) w:=by
 have key:∀d,(Op.equalIn (d+1) t (.bool u) (.bool v)).run P w= .ok (u==v) w:=λd=>by simp[Op.equalIn,run_underlying hu]
 exact key 9999
theorem Th {t el:TypeId} (hu:P.underlying t=M (.slice el)) (A:I Addr) (n c:Nat) (w:World):(Op.equal t (.slice A n c) (.slice D 0 0)).run P w= .ok A.isNone w:=by
 have key:∀d,(Op.equalIn (d+1) t (.slice A n c) (.slice D 0 0)).run P w= .ok A.isNone w:=λd=>by cases A<;>simp[Op.equalIn,run_underlying hu]
 exact key 9999
theorem alb {neg:Bool} {op:BinOp} {x y:Operand} {t t':TypeId} (z:o.op= .binOp op t x y t') (hop:op=if neg then .neq else .eql) (hu:P.underlying t=M .bool) (s:eP (.eqb neg x y) e h nx=M R):gZ P o e.get h.get R.eff:=by
 simp only[eP]at s;split at s
 .rename_i u v L A;rw[dJ s];refine gZ.reads λφ E h' w a _ hp _=>?_
  have h1:=fD (hp x _ (by rw[z];simp[Op.operands]) L);have h2:=fD (hp y _ (by rw[z];simp[Op.operands]) A);refine ⟨_,?_,.f (.raw _)⟩;unfold execOp;rw[z];simp only[h1,h2];subst hop;cases neg<;>simp[eqGuard,binOp,WJ hu]
 .cases s
theorem Zk {neg:Bool} {op:BinOp} {x y:Operand} {t t' el:TypeId} (Z:o.op= .binOp op t x y t') (hop:op=if neg then .neq else .eql) (hy:y= .const (.slice D 0 0)) (hu:P.underlying t=M (.slice el)) (L:eP (.isnil neg x) e h nx=M R):gZ P o e.get h.get R.eff:=by
 have key:∀(v:Value) (w:World) (ρ:Operand->Value) (A:I Addr) (n c:Nat),ρ x= .slice A n c->ρ y= .slice D 0 0->(execOp ρ o).run P w= .ok (.value (.bool (A.isNone !=neg))) w:=by
  intro v w ρ A n c h1 h2;unfold execOp;rw[Z];simp only[h1,h2];subst hop;cases neg<;>simp[eqGuard,binOp,Th hu]
 have hyv:∀a:Act,a.eval y= .slice D 0 0:=λa=>by rw[hy];rfl
 simp only[eP]at L;split at L
 .rename_i id sz n s;rw[dJ L];refine gZ.reads λφ E h' w a _ hp _=>?_
  have h1:=hp x _ (by rw[Z];simp[Op.operands]) s;generalize U:a.eval x=z at h1;cases h1 with
  |row hφ hn hc hs=>exact⟨_,key (.bool J) w a.eval _ _ _ U (hyv a),by simpa[raw] using cS.f (.raw _)⟩
 .rename_i id off n s;rw[dJ L];refine gZ.reads λφ E h' w a _ hp _=>?_
  have h1:=hp x _ (by rw[Z];simp[Op.operands]) s;generalize U:a.eval x=z at h1;cases h1 with
  |sl hφ hn hc=>exact⟨_,key (.bool J) w a.eval _ _ _ U (hyv a),by simpa[raw] using cS.f (.raw _)⟩
 .rename_i cells n s;rw[dJ L];refine gZ.reads λφ E h' w a _ hp _=>?_
  have h1:=hp x _ (by rw[Z];simp[Op.operands]) s;generalize U:a.eval x=z at h1;cases h1 with
  |f h1=>
   cases h1 with
   |sl=>exact⟨_,key (.bool J) w a.eval _ _ _ U (hyv a),by simpa[raw] using cS.f (.raw _)⟩
 .rename_i cells s;rw[dJ L];refine gZ.reads λφ E h' w a _ hp _=>?_
  have h1:=hp x _ (by rw[Z];simp[Op.operands]) s;generalize U:a.eval x=z at h1;cases h1 with
  |f h1=>
   cases h1 with
   |nil=>exact⟨_,key (.bool J) w a.eval _ _ _ U (hyv a),.anyb⟩
   |sl=>exact⟨_,key (.bool J) w a.eval _ _ _ U (hyv a),.anyb⟩
 .rename_i s;rw[dJ L];refine gZ.reads λφ E h' w a _ hp _=>?_
  have h1:=hp x _ (by rw[Z];simp[Op.operands]) s;generalize U:a.eval x=z at h1;cases h1 with
  |emp=>exact⟨_,key (.bool J) w a.eval _ _ _ U (hyv a),.anyb⟩
 .rename_i v s;split at L
  .rename_i hv;rw[dJ L];refine gZ.reads λφ E h' w a _ hp _=>?_
   have h1:=fD (hp x _ (by rw[Z];simp[Op.operands]) s);unfold uk at hv;split at hv
   .exact⟨_,key (.bool J) w a.eval _ _ _ h1 (hyv a),by simpa[raw] using cS.f (.raw _)⟩
   .cases hv
  .cases L
 .cases L
theorem gM {t:TypeId} {sz:Nat} (hs:fI P t=M sz) (w:World):(sizeOf t).run P w= .ok sz w:=by
 unfold fI at hs;cases hi:P.info? t with
 |none=>rw[hi]at hs;cases hs
 |some i=>rw[hi]at hs;simp at hs;simp[sizeOf,typeInfo,program,hi,kz,hs]
theorem RI {t:TypeId} {ag:Bool} (hs:EU P t=M ag) (w:World):(isAgg t).run P w= .ok ag w:=by
 unfold EU at hs;cases hi:P.underlying t with
 |none=>rw[hi]at hs;cases hs
 |some d=>
  rw[hi]at hs;simp only[ct,ah]at hs;rw[<- hs];simp only[isAgg,eQ,run_underlying hi,cU];cases d<;>rfl
theorem lO (b off i:Nat):(⟨b,off,D⟩:Addr).add i=⟨b,off+i,D⟩:=by
 unfold Addr.add;split<;>simp_all
theorem RH {s:TypeId} {fs:Array Field} {k:Nat} {f:Field} {sz:Nat} (hu:P.underlying s=M (.struct fs)) (hf:fs[k]? =M f) (hs:fI P f.type=M sz) (h0:sz≠0) (w:World) (b i:Nat):
 (Instr.fieldAt s (.pointer (M ⟨b,i,D⟩)) k).run P w= .ok (.pointer (M ⟨b,i+f.offset,D⟩)) w:=by
 have h1:=gM hs w;simp[Instr.fieldAt,run_underlying hu,hf,Instr.sureAddr,fieldPlace,h1,h0,lO]
theorem ar0 {s:TypeId} {fs:Array Field} {k:Nat} {f:Field} {sz:Nat} {x:Operand} (Z:o.op= .fieldAddr s x k) (hu:P.underlying s=M (.struct fs)) (hf:fs[k]? =M f) (hs:fI P f.type=M sz) (h0:sz≠0) (A:eP (.fad f.offset x) e h nx=M R):gZ P o e.get h.get R.eff:=by
 have key:∀(w:World) (ρ:Operand->Value) (b i:Nat),ρ x= .pointer (M ⟨b,i,D⟩)->(execOp ρ o).run P w= .ok (.value (.pointer (M ⟨b,i+f.offset,D⟩))) w:=by
  intro w ρ b i h1;unfold execOp;rw[Z];simp only[h1];exact aki (RH hu hf hs h0 w b i)
 simp only[eP]at A;split at A
 .rename_i id off U;rw[dJ A];refine gZ.reads λφ E h' w a _ hp _=>?_
  have h1:=hp x _ (by rw[Z];simp[Op.operands]) U;generalize L:a.eval x=z at h1;cases h1 with
  |ptr hφ=>exact⟨_,key w a.eval _ _ L,.ptr hφ⟩
 .rename_i cells off U;rw[dJ A];refine gZ.reads λφ E h' w a _ hp _=>?_
  have h1:=hp x _ (by rw[Z];simp[Op.operands]) U;generalize L:a.eval x=z at h1;cases h1 with
  |f h1=>
   cases h1 with
   |ptr _ _ b base us hO hb hcl hu hr=>
    refine ⟨_,key w a.eval _ _ L,.f ?_⟩;rw[qf];exact .ptr cells _ b base us hO hb hcl hu hr
 .cases A
theorem Ky {t el:TypeId} {x y:Operand} {sz b off n c:Nat} {k:IntKind} {i:Int} {ρ:Operand->Value} {w:World} (z:o.op= .indexAddr t x y) (hu:P.underlying t=M (.slice el)) (hs:fI P el=M sz) (s:ρ x= .slice (M ⟨b,off,D⟩) n c) (a:ρ y= .int k i) (h0:0<=i) (h1:i<n):
 (execOp ρ o).run P w= .ok (.value (.pointer (M ⟨b,off+i.toNat*sz,D⟩))) w:=by
 have h2:=gM hs w;unfold execOp;rw[z];simp[s,a,Instr.indexAt,asIntOf,run_underlying hu,h2,h0,h1,lO]
theorem aqy {t el:TypeId} {x y:Operand} {sz:Nat} (A:o.op= .indexAddr t x y) (hu:P.underlying t=M (.slice el)) (hs:fI P el=M sz) (s:eP (.iad sz x y) e h nx=M R):gZ P o e.get h.get R.eff:=by
 simp only[eP]at s;split at s
 .rename_i v k j Z hy;have hyv:∀{φ:PM} {E:Nat->Prop} {h':HF} {w:World} {a:Act},XW φ E h' w a e o->a.eval y= .int k j:=λhp=>fD (hp y _ (by rw[A];simp[Op.operands]) hy)
  split at s
  .split at s
   .rename_i id sz' n hc;simp only[c_,fP,al,bc,c8]at hc;obtain⟨⟨rfl,h0⟩,h1⟩:=hc;rw[dJ s];refine gZ.reads λφ E h' w a _ hp _=>?_
    have hr:=hp x _ (by rw[A];simp[Op.operands]) Z;generalize L:a.eval x=z at hr;cases hr with
    |row hφ hn U hsh=>
     refine ⟨_,Ky A hu hs L (hyv hp) h0 h1,?_⟩;rw[bK];exact .ptr hφ
   .cases s
  .split at s
   .rename_i id off n hc;simp only[c_,fP,al,bc]at hc;obtain⟨h0,h1⟩:=hc;rw[dJ s];refine gZ.reads λφ E h' w a _ hp _=>?_
    have hr:=hp x _ (by rw[A];simp[Op.operands]) Z;generalize L:a.eval x=z at hr;cases hr with
    |sl hφ hn U=>exact⟨_,Ky A hu hs L (hyv hp) h0 h1,.ptr hφ⟩
   .cases s
  .split at s
   .rename_i cells n hc;simp only[c_,fP,al,bc]at hc;obtain⟨h0,h1⟩:=hc;rw[dJ s];refine gZ.reads λφ E h' w a _ hp _=>?_
    have hr:=hp x _ (by rw[A];simp[Op.operands]) Z;generalize L:a.eval x=z at hr;cases hr with
    |f hr=>
     cases hr with
     |nil=>omega
     |sl _ _ c b base us hn U hO hb hcl hu' hr'=>exact⟨_,Ky A hu hs L (hyv hp) h0 h1,.f (.ptr cells _ b base us hO hb hcl hu' hr')⟩
   .cases s
  .cases s
 .cases s
theorem anb {t el:TypeId} {x y:Operand} {n sz:Nat} (A:o.op= .indexAddr t x y) (hu:P.underlying t=M (.array n el)) (hs:fI P el=M sz) (s:eP (.iada n sz x y) e h nx=M R):gZ P o e.get h.get R.eff:=by
 have key:∀(w:World) (ρ:Operand->Value) (b off:Nat) (k:IntKind) (i:Int),ρ x= .pointer (M ⟨b,off,D⟩)->ρ y= .int k i->0<=i->i<n->(execOp ρ o).run P w= .ok (.value (.pointer (M ⟨b,off+i.toNat*sz,D⟩))) w:=by
  intro w ρ b off k i h1 h2 h3 h4;have h5:=gM hs w;unfold execOp;rw[A];simp[h1,h2,Instr.indexAt,asIntOf,run_underlying hu,h5,h3,h4,lO,Instr.sureAddr]
 simp only[eP]at s;split at s
 .rename_i v k j hx hy;split at s
  .rename_i hc;simp only[c_,fP,al,bc]at hc;obtain⟨h0,h1⟩:=hc;split at s
   .rw[dJ s];refine gZ.reads λφ E h' w a _ hp _=>?_
    have hr:=hp x _ (by rw[A];simp[Op.operands]) hx;have hyv:=fD (hp y _ (by rw[A];simp[Op.operands]) hy);generalize L:a.eval x=z at hr;cases hr with
    |ptr hφ=>exact⟨_,key w a.eval _ _ k j L hyv h0 h1,.ptr hφ⟩
   .rw[dJ s];refine gZ.reads λφ E h' w a _ hp _=>?_
    have hr:=hp x _ (by rw[A];simp[Op.operands]) hx;have hyv:=fD (hp y _ (by rw[A];simp[Op.operands]) hy);generalize L:a.eval x=z at hr;cases hr with
    |f hr=>
     cases hr with
     |ptr _ _ b base us hO hb hcl U Z=>
      refine ⟨_,key w a.eval _ _ k j L hyv h0 h1,.f ?_⟩;rw[qf];exact .ptr _ _ b base us hO hb hcl U Z
   .cases s
  .cases s
 .cases s
theorem ar1 {x:Operand} {i:Nat} (A:o.op= .extract x i) (s:eP (.ext x i) e h nx=M R):gZ P o e.get h.get R.eff:=by
 simp only[eP]at s;split at s
 .rename_i l U;split at s
  .rename_i v hv;rw[dJ s];refine gZ.reads λφ E h' w a _ hp _=>?_
   have hr:=hp x _ (by rw[A];simp[Op.operands]) U;generalize L:a.eval x=z at hr;cases hr with
   |@tup _ vs hl hrr=>
    have hlt:i<vs.length:=by
     rw[hl];exact (bn.1 hv).1
    refine ⟨vs[i],?_,hrr i v _ hv (ay hlt)⟩;unfold execOp;rw[A];simp[L,Instr.extract,hlt]
  .cases s
 .cases s
theorem aqw {x y:Operand} {A:Array TypeId} (z:o.op= .call {callee:=.builtin .max,args:=#[x,y],argTypes:=A}) (s:eP (.max x y) e h nx=M R):gZ P o e.get h.get R.eff:=by
 simp only[eP]at s;split at s
 .rename_i k a b k' U L;rw[dJ s];refine gZ.reads λφ E h' w a _ hp _=>?_
  have h1:=fD (hp x _ (by rw[z];simp[Op.operands,eY]) U);have h2:=fD (hp y _ (by rw[z];simp[Op.operands,eY]) L);refine ⟨_,?_,.f (.raw _)⟩;unfold execOp;rw[z];simp[resolve,invoke,builtin,Builtin.max_,Builtin.max2,h1,h2,fP]
 .cases s
theorem aqv {x y:Operand} {A:Array TypeId} (z:o.op= .call {callee:=.builtin .min,args:=#[x,y],argTypes:=A}) (s:eP (.min x y) e h nx=M R):gZ P o e.get h.get R.eff:=by
 simp only[eP]at s;split at s
 .rename_i k a b k' U L;rw[dJ s];refine gZ.reads λφ E h' w a _ hp _=>?_
  have h1:=fD (hp x _ (by rw[z];simp[Op.operands,eY]) U);have h2:=fD (hp y _ (by rw[z];simp[Op.operands,eY]) L);refine ⟨_,?_,.f (.raw _)⟩;unfold execOp;rw[z];simp[resolve,invoke,builtin,Builtin.min_,Builtin.min2,h1,h2,fP]
 .cases s
theorem aqr {x:Operand} {t:TypeId} {k:IntKind} (z:o.op= .unOp .neg t x) (s:eP (.bin .sub (.const (.int k 0)) x) e h nx=M R):gZ P o e.get h.get R.eff:=by
 simp only[eP,nl,F9]at s;split at s
 .rename_i u v hu A;cases hu;split at s
  .rename_i r hb;rw[dJ s];refine gZ.reads λφ E h' w a _ hop _=>?_
   have h1:=fD (hop x _ (by rw[z];simp[Op.operands]) A);refine ⟨r,?_,.f (.raw _)⟩;unfold execOp;rw[z];cases v<;>simp only[uq]at hb<;>try (cases hb;done)
   split at hb
   .rename_i hk;have hk:=eq_of_beq hk;subst hk;simp only[ah]at hb;subst hb;simp[h1,Op.unary,Op.intArith,zI]
   .cases hb
  .cases s
 .cases s
theorem an3 {x i:Operand} {t:TypeId} (A:o.op= .index t x i) (hu:P.underlying t=M .string) (z:eP (.sidx x i) e h nx=M R):gZ P o e.get h.get R.eff:=by
 simp only[eP]at z;split at z
 .rename_i s k j L hi;split at z
  .rename_i h0;simp only[c_,bc]at h0;split at z
   .rename_i b hb;rw[dJ z];refine gZ.reads λφ E h' w a _ hop _=>?_
    have h1:=fD (hop x _ (by rw[A];simp[Op.operands]) L);have h2:=fD (hop i _ (by rw[A];simp[Op.operands]) hi);refine ⟨_,?_,.f (.raw _)⟩;have hs:s[j.toNat]? =M b:=by
     rw[cD]at hb;obtain⟨hl,he⟩:=cH.1 hb;exact getElem?_pos s j.toNat hl▸hP M he
    unfold execOp;rw[A];simp[Instr.index,run_underlying hu,h1,h2,asIntOf,h0,hs]
   .cases z
  .cases z
 .cases z
theorem aqu {f:FuncId} {caps:Array Operand} (Z:o.op= .makeFunc (.func f) #[] caps) (L:eP (.mkf f caps.toList) e h nx=M R):gZ P o e.get h.get R.eff:=by
 simp only[eP]at L;split at L
 .rename_i l hl;rw[dJ L];refine gZ.reads λφ E h' w a _ hp _=>?_
  refine ⟨_,by unfold execOp;rw[Z];rfl,?_⟩;have key:∀(xs:Y Operand) (s:Y AV),(∀x∈xs,x∈o.op.operands)->YY e xs=M s->s.length=xs.length/\∀(j:Nat) x v,s[j]? =M x->(xs.map a.eval)[j]? =M v->cS φ (tot E φ h') w x v:=by
   intro xs;induction xs with
   |nil=>intro s _ h;simp only[YY,ah]at h;subst h;exact⟨rfl,λj x v A=>by simp at A⟩
   |cons x xs ih=>
    intro s hm h;simp only[YY]at h;split at h
    .rename_i y hy;split at h
     .rename_i ys' hys;simp only[ah]at h;subst h;obtain⟨h1,h2⟩:=ih ys' (λx A=>hm x (cC _ A)) hys;refine ⟨by simp[h1],λj z v U hv=>?_⟩;cases j with
      |zero=>simp at U hv;subst U;subst hv;exact hp x _ (hm x (c9 ..)) hy
      |succ j=>exact h2 j z v (by simpa using U) (by simpa using hv)
     .cases h
    .cases h
  obtain⟨h1,h2⟩:=key caps.toList l (λx A=>by rw[Z];simpa[Op.operands] using A) hl;have h3:(caps.map a.eval)=(caps.toList.map a.eval).toArray:=by
   apply Mi;simp
  have h4:(#[]:Array Operand).map a.eval=#[]:=by simp
  rw[h4,h3];exact .clo (by simp[h1]) h2
 .cases L
end pure
section
variable {P:Program} {o:Oper} {e:AJ} {h:oL} {nx:Nat} {R:C5}
theorem Ye {α:Type} {l cs:Y α} {off sz:Nat} (h:off+sz<=l.length) (he:(l.drop off).take sz=cs):cs.length=sz/\∀(j:Nat) x,cs[j]? =M x->l[off+j]? =M x:=by
 subst he;constructor
 .simp;omega
 .intro j x a;rw[cW]at a;split at a
  .rw[ig]at a;exact a
  .cases a
theorem yn (f:Nat->Value) (n j:Nat) (v:Value) (h:((cq n).map f)[j]? =M v):v=f j/\j<n:=by
 rw[bd]at h;rcases ci j n with hj|hj
 .rw[wN hj]at h;simp at h;exact⟨h.symm,hj⟩
 .rw[bF (by simpa using hj)]at h;cases h
def yM (φ:PM) (O:Nat->Prop) (w:World) (c:BC) (f:Nat->I Value):Prop:=∀j x,c.get j=M x->x.isCell=J/\∃v,f j=M v/\cS φ O w x v
theorem Yd {φ:PM} {O:Nat->Prop} {w:World} {c:BC} {off sz:Nat} {ag:Bool} {val:AV} (hs:c.sub? off sz ag=M val) {f:Nat->I Value} (hc:yM φ O w c f):
 ∃cs:ξ,cs.length=sz/\(∀(j:Nat) v,cs[j]? =M v->f (off+j)=M v)/\(ag=af->sz=1)/\cS φ O w val (if ag then .agg cs.toArray else cs.getD 0 undef):=by
 cases ag with
 |false=>
  simp only[BC.sub?]at hs;split at hs
  .obtain⟨h0,v,h1,h2⟩:=hc off val hs;exact⟨[v],rfl,λj u hu=>by cases j with|zero=>simp at hu;subst hu;exact h1|succ j=>simp at hu,λ_=>rfl,by simpa using h2⟩
  .cases hs
 |true=>
  have fin:∀(g:Nat->I AV),(∀j,j<sz->∃x,g j=M x/\c.get (off+j)=M x)->
   ∃cs:ξ,cs.length=sz/\(∀(j:Nat) v,cs[j]? =M v->f (off+j)=M v)/\∀(j:Nat) x v,g j=M x->cs[j]? =M v->cS φ O w x v:=by
   intro g hg;refine ⟨(cq sz).map λj=>(f (off+j)).getD undef,by simp,λj v hv=>?_,λj x v a hv=>?_⟩
   .obtain⟨rfl,hj⟩:=yn _ _ _ _ hv;obtain⟨x,_,h2⟩:=hg j hj;obtain⟨_,v,s,_⟩:=hc _ _ h2;rw[s];rfl
   .obtain⟨rfl,hj⟩:=yn _ _ _ _ hv;obtain⟨A,h1,h2⟩:=hg j hj;rw[a]at h1;cases h1;obtain⟨_,v,s,z⟩:=hc _ _ h2;rw[s];exact z
  simp only[BC.sub?]at hs;split at hs
  .rename_i l;split at hs
   .rename_i hle;simp only[ah]at hs;subst hs;obtain⟨hl,hg⟩:=Ye (a_ hle) (rfl:(l.drop off).take sz=_);obtain⟨cs,h1,h2,s⟩:=fin (λj=>(((l.drop off).take sz)[j]?).map AV.f) (λj hj=>by
     have hlt:j<((l.drop off).take sz).length:=by rw[hl];exact hj
     refine ⟨.f ((l.drop off).take sz)[j],by simp only[ay hlt,ct],?_⟩;simp only[BC.get,hg j _ (ay hlt),ct])
    refine ⟨cs,h1,h2,(λh=>by cases h),.f (.agg _ _ (by rw[h1,hl]) ?_ ?_)⟩
    .intro x a;obtain⟨j,hj⟩:=fw a;exact (hc (off+j) (.f x) (by simp only[BC.get,hg j x hj,ct])).1
    .intro j x v a hv;have:=s j (.f x) v (by simp only[a,ct]) hv;cases this with
     |f h=>exact h
   .cases hs
  .rename_i l;split at hs
   .rename_i hle;simp only[ah]at hs;subst hs;obtain⟨hl,hg⟩:=Ye (a_ hle) (rfl:(l.drop off).take sz=_);obtain⟨cs,h1,h2,s⟩:=fin (λj=>(((l.drop off).take sz)[j]?)) (λj hj=>by
     have hlt:j<((l.drop off).take sz).length:=by rw[hl];exact hj
     exact⟨_,ay hlt,hg j _ (ay hlt)⟩)
    refine ⟨cs,h1,h2,(λh=>by cases h),.agg (by rw[h1,hl]) ?_ ?_⟩
    .intro x a;obtain⟨j,hj⟩:=fw a;exact (hc (off+j) x (hg j x hj)).1
    .intro j x v a hv;exact s j x v a hv
   .cases hs
  .cases hs
theorem Po {t:TypeId} {sz:Nat} {ag:Bool} (hs:fI P t=M sz) (a:EU P t=M ag) (w:World) (b off:Nat) (cs:ξ) (hl:cs.length=sz) (hc:∀(j:Nat) v,cs[j]? =M v->w.cell? ⟨b,off+j,D⟩=M v) (h1:ag=af->sz=1):
 (loadVar t ⟨b,off,D⟩).run P w= .ok (if ag then .agg cs.toArray else cs.getD 0 undef) w:=by
 unfold loadVar;simp only[eQ,RI a w,cU];cases ag with
 |true=>
  simp only[bI,eQ,gM hs w,cU];rw[<- hl,run_loadCells_list (P:=P) w ⟨b,off,D⟩ cs (λj v hv=>by rw[lO];exact hc j v hv)];rfl
 |false=>
  have h1:=h1 rfl;cases cs with
  |nil=>simp at hl;omega
  |cons v r=>
   have:=hc 0 v rfl;simp only[dt]at this;simp[load,kz,this]
theorem JQ {φ:PM} {O:Nat->Prop} {w:World} {t:TypeId} {sz:Nat} {ag:Bool} (hs:fI P t=M sz) (a:EU P t=M ag) {c:BC} {b base off:Nat} {val:AV} (hv:c.sub? off sz ag=M val)
 (hc:yM φ O w c λj=>w.cell? ⟨b,base+j,D⟩):∃v,(loadVar t ⟨b,base+off,D⟩).run P w= .ok v w/\cS φ O w val v:=by
 obtain⟨cs,h1,h2,z,s⟩:=Yd hv hc;exact⟨_,Po hs a w b (base+off) cs h1 (λj v hj=>by rw[qf];exact h2 j v hj) z,s⟩
theorem Uu {φ:PM} {E:Nat->Prop} {h':HF} {w:World} (hrep:rL φ E h' w) {id k:Nat} {b:wK} (hb:h' id=M b) (hk:φ id=M k) (hc:b.c.isCells=J):yM φ (tot E φ h') w b.c λj=>w.cell? ⟨k,0+j,D⟩:=by
 obtain⟨k',h1,_,h2⟩:=hrep.at_ id b hb;rw[hk]at h1;cases h1;obtain⟨arr,z,Z,s⟩:=h2.cells hc;intro j x a;obtain⟨U,v,L,A⟩:=s j x a;exact⟨U,v,by simp[O5,z,L],A⟩
theorem XA {φ:PM} {O:Nat->Prop} {w:World} {cells:Y FV} {b base:Nat} {us:Nat->Value} (hcl:∀x∈cells,x.isCell=J) (hu:∀j,j<cells.length->w.cell? ⟨b,base+j,D⟩=M (us j)) (hr:∀(j:Nat) x,cells[j]? =M x->oe O w x (us j)):
 yM φ O w (.fz cells) λj=>w.cell? ⟨b,base+j,D⟩:=by
 intro j y a;simp only[BC.get]at a;cases hc:cells[j]? with
 |none=>rw[hc]at a;cases a
 |some q=>
  rw[hc]at a;simp at a;subst a;have hj:j<cells.length:=(bn.1 hc).1;exact⟨hcl q (aZ hc),us j,hu j hj,.f (hr j q hc)⟩
theorem Rv {c:BC} {off sz:Nat} {ag:Bool} {v:AV} (h:c.sub? off sz ag=M v):c.isCells=J:=by
 cases c with
 |fz=>rfl
 |mx=>rfl
 |mp es=>cases ag<;>simp only[BC.sub?,BC.get]at h<;>(try split at h)<;>cases h
 |it s p=>cases ag<;>simp only[BC.sub?,BC.get]at h<;>(try split at h)<;>cases h
theorem UD {t:TypeId} {sz:Nat} {ag:Bool} (hs:fI P t=M sz) (hag:EU P t=M ag) {p:AV} (a:ES h sz ag p=M R):
 R.wr=[]/\R.nw=[]/\R.N=[]/\∀(φ:PM) (E:Nat->Prop) (h':HF) (w:World) (pv:Value),(∀i∈R.rd,h' i=h.get i)->rL φ E h' w->cS φ (tot E φ h') w p pv->
  ∃s v,pv= .pointer (M s)/\(loadVar t s).run P w= .ok v w/\cS φ (tot E φ h') w R.val v:=by
 unfold ES at a;split at a
 .rename_i id off;split at a
  .rename_i b hb;split at a
   .rename_i v hv;simp only[ah]at a;subst a;refine ⟨rfl,rfl,rfl,λφ E h' w pv hrd hrep hr=>?_⟩;have hh:h' id=M b:=by rw[hrd id (by simp)];exact hb
    cases hr with
    |@ptr _ _ k hφ=>
     obtain⟨u,h1,h2⟩:=JQ hs hag (w:=w) (b:=k) (base:=0) hv (Uu hrep hh hφ (Rv hv));rw[bK]at h1;exact⟨_,u,rfl,h1,h2⟩
   .cases a
  .cases a
 .rename_i cells off;split at a
  .rename_i v hv;rw[dJ a];refine ⟨rfl,rfl,rfl,λφ E h' w pv hrd hrep hr=>?_⟩;cases hr with
   |f hr=>
    cases hr with
    |ptr _ _ b base us hO hb hcl hu hr=>
     obtain⟨u,h1,h2⟩:=JQ (φ:=φ) (O:=tot E φ h') hs hag (w:=w) (b:=b) (base:=base) hv (XA hcl hu hr);exact⟨_,u,rfl,h1,h2⟩
  .cases a
 .cases a
theorem an7 {t:TypeId} {x:Operand} {sz:Nat} {ag:Bool} (z:o.op= .load t x) (hs:fI P t=M sz) (hag:EU P t=M ag) (s:eP (.load sz ag x) e h nx=M R):gZ P o e.get h.get R.eff:=by
 simp only[eP]at s;split at s
 .rename_i p U;obtain⟨h1,h2,L,A⟩:=UD hs hag s;obtain⟨val,rd,wr,nw,N⟩:=R;simp only at h1 h2 L A;subst h1;subst h2;subst L;refine gZ.reads λφ E h' w a hrd hp hrep=>?_
  obtain⟨ad,v,h5,h6,Z⟩:=A φ E h' w _ hrd hrep (hp x _ (by rw[z];simp[Op.operands]) U);refine ⟨v,?_,Z⟩;unfold execOp;rw[z];simp[Instr.loadAt,h5,Instr.sureAddr,h6]
 .cases s
theorem Yu {φ:PM} {O:Nat->Prop} {w:World} {t:TypeId} {sz:Nat} {ag:Bool} (hs:fI P t=M sz) (hag:EU P t=M ag) {c:BC} {off:Nat} {val:AV} (hv:c.sub? off sz ag=M val) {vs:ξ}
 (hc:yM φ O w c λj=>vs[j]?):∃v,(part t vs.toArray off).run P w= .ok v w/\cS φ O w val v:=by
 obtain⟨cs,h1,h2,s,a⟩:=Yd hv hc;refine ⟨_,?_,a⟩;unfold part;simp only[eQ,RI hag w,cU];cases ag with
 |true=>
  simp only[bI,eQ,gM hs w,cU];have:vs.toArray.extract off (off+sz)=cs.toArray:=by
   apply Mi;simp only[Array.toList_extract,List.extract_eq_take_drop];apply List.ext_getElem?;intro j;rw[show off+sz-off=sz from by omega,cW,ig];rcases ci j sz with hj|hj
   .rw[aC hj];have:=h2 j _ (ay (by omega:j<cs.length));rw[this,ay (by omega:j<cs.length)]
   .rw[aw (by omega),bF (by omega)]
  rw[this];rfl
 |false=>
  have z:=s rfl;cases cs with
  |nil=>simp at h1;omega
  |cons v r=>
   have:=h2 0 v rfl;simp only[dt]at this;simp[this]
theorem Uv {φ:PM} {O:Nat->Prop} {w:World} {l:Y AV} {vs:ξ} (hl:vs.length=l.length) (hcl:∀x∈l,x.isCell=J) (hr:∀(j:Nat) x v,l[j]? =M x->vs[j]? =M v->cS φ O w x v):yM φ O w (.mx l) λj=>vs[j]? :=by
 intro j x a;simp only[BC.get]at a;have hj:j<vs.length:=by rw[hl];exact (bn.1 a).1
 exact⟨hcl x (aZ a),vs[j],ay hj,hr j x _ a (ay hj)⟩
theorem QW {φ:PM} {O:Nat->Prop} {w:World} {l:Y FV} {vs:ξ} (hl:vs.length=l.length) (hcl:∀x∈l,x.isCell=J) (hr:∀(j:Nat) x v,l[j]? =M x->vs[j]? =M v->oe O w x v):yM φ O w (.fz l) λj=>vs[j]? :=by
 intro j x a;simp only[BC.get]at a;cases hc:l[j]? with
 |none=>rw[hc]at a;cases a
 |some q=>
  rw[hc]at a;simp at a;subst a;have hj:j<vs.length:=by rw[hl];exact (bn.1 hc).1
  exact⟨hcl q (aZ hc),vs[j],ay hj,.f (hr j q _ hc (ay hj))⟩
theorem LX {φ:PM} {O:Nat->Prop} {w:World} {t:TypeId} {sz:Nat} {ag:Bool} (hs:fI P t=M sz) (hag:EU P t=M ag) {x:AV} {z:Value} (hr:cS φ O w x z) {off:Nat} {val:AV}
 (hv:(∃l,x= .agg l/\(BC.mx l).sub? off sz ag=M val)\/(∃l,x= .f (.agg l)/\(BC.fz l).sub? off sz ag=M val)):∃cs v,z= .agg cs/\(part t cs off).run P w= .ok v w/\cS φ O w val v:=by
 rcases hv with ⟨l,rfl,hv⟩|⟨l,rfl,hv⟩
 .cases hr with
  |agg hl hcl hr=>
   obtain⟨v,h1,h2⟩:=Yu hs hag hv (Uv hl hcl hr);exact⟨_,v,rfl,h1,h2⟩
 .cases hr with
  |f hr=>
   cases hr with
   |agg _ vs hl hcl hr=>
    obtain⟨v,h1,h2⟩:=Yu (φ:=φ) hs hag hv (QW hl hcl hr);exact⟨_,v,rfl,h1,h2⟩
theorem aqz {s:TypeId} {fs:Array Field} {k:Nat} {f:Field} {sz:Nat} {ag:Bool} {x:Operand} (L:o.op= .field s x k) (hu:P.underlying s=M (.struct fs)) (hf:fs[k]? =M f) (hs:fI P f.type=M sz) (hag:EU P f.type=M ag) (z:eP (.fld f.offset sz ag x) e h nx=M R):gZ P o e.get h.get R.eff:=by
 have fin:∀(y:AV) (val:AV),nl e x=M y->((∃l,y= .agg l/\(BC.mx l).sub? f.offset sz ag=M val)\/(∃l,y= .f (.agg l)/\(BC.fz l).sub? f.offset sz ag=M val))->rv val=M R->gZ P o e.get h.get R.eff:=by
  intro y val A hv U;rw[dJ U];refine gZ.reads λφ E h' w a _ hp _=>?_
  obtain⟨cs,v,h1,h2,Z⟩:=LX hs hag (hp x _ (by rw[L];simp[Op.operands]) A) hv;refine ⟨v,?_,Z⟩;unfold execOp;rw[L];simp[Instr.field,run_underlying hu,hf,h1,asAgg,h2]
 simp only[eP]at z;split at z
 .rename_i l A;split at z
  .rename_i v hv;exact fin _ v A (.inl ⟨l,rfl,hv⟩) z
  .cases z
 .rename_i l A;split at z
  .rename_i v hv;exact fin _ v A (.inr ⟨l,rfl,hv⟩) z
  .cases z
 .cases z
theorem aqx {t el:TypeId} {n sz:Nat} {ag:Bool} {x y:Operand} (z:o.op= .index t x y) (hu:P.underlying t=M (.array n el)) (hs:fI P el=M sz) (hag:EU P el=M ag) (s:eP (.idx n sz ag x y) e h nx=M R):gZ P o e.get h.get R.eff:=by
 simp only[eP]at s;split at s
 .rename_i v0 k j L A;split at s
  .rename_i hc;simp only[c_,fP,al,bc]at hc;obtain⟨h0,h1⟩:=hc;have fin:∀(val:AV),((∃l,v0= .agg l/\(BC.mx l).sub? (j.toNat*sz) sz ag=M val)\/(∃l,v0= .f (.agg l)/\(BC.fz l).sub? (j.toNat*sz) sz ag=M val))->rv val=M R->gZ P o e.get h.get R.eff:=by
    intro val hv U;rw[dJ U];refine gZ.reads λφ E h' w a _ hp _=>?_
    have hyv:=fD (hp y _ (by rw[z];simp[Op.operands]) A);obtain⟨cs,v,h3,h4,h5⟩:=LX hs hag (hp x _ (by rw[z];simp[Op.operands]) L) hv;refine ⟨v,?_,h5⟩;have Z:=gM hs w;unfold execOp;rw[z];simp[Instr.index,run_underlying hu,hyv,asIntOf,h3,h0,h1,Z,h4]
   split at s
   .rename_i l;split at s
    .rename_i v hv;exact fin v (.inl ⟨l,rfl,hv⟩) s
    .cases s
   .rename_i l;split at s
    .rename_i v hv;exact fin v (.inr ⟨l,rfl,hv⟩) s
    .cases s
   .cases s
  .cases s
 .cases s
theorem ana {t el:TypeId} {x:Operand} (U:o.op= .call {callee:=.builtin .len,args:=#[x],argTypes:=#[t]}) (hu:P.underlying t=M (.slice el)) (s:eP (.len x) e h nx=M R):gZ P o e.get h.get R.eff:=by
 simp only[eP]at s;split at s
 .rename_i y Z;split at s
  .rename_i n hn;rw[dJ s];refine gZ.reads λφ E h' w a _ hp _=>?_
   have hr:=hp x _ (by rw[U];simp[Op.operands,eY]) Z;refine ⟨_,?_,.f (.raw _)⟩;have L:∃A c,a.eval x= .slice A n c:=by
    generalize a.eval x=z at hr;unfold AV.slen at hn;split at hn<;>try (simp only[ah]at hn;subst hn)
    .cases hr with
     |f hr=>cases hr with
      |nil=>exact⟨_,_,rfl⟩
      |sl=>exact⟨_,_,rfl⟩
    .cases fD hr;exact⟨_,_,rfl⟩
    .cases hr;exact⟨_,_,rfl⟩
    .cases hr;exact⟨_,_,rfl⟩
    .cases hr;exact⟨_,_,rfl⟩
    .cases hn
   obtain⟨A,c,L⟩:=L;unfold execOp;rw[U];simp[resolve,invoke,builtin,Builtin.len_,run_underlying hu,L,goInt]
  .cases s
 .cases s
theorem an9 {t:TypeId} {x:Operand} (A:o.op= .call {callee:=.builtin .len,args:=#[x],argTypes:=#[t]}) (hu:P.underlying t=M .string) (z:eP (.lens x) e h nx=M R):gZ P o e.get h.get R.eff:=by
 simp only[eP]at z;split at z
 .rename_i s L;rw[dJ z];refine gZ.reads λφ E h' w a _ hp _=>?_
  have hr:=fD (hp x _ (by rw[A];simp[Op.operands,eY]) L);refine ⟨_,?_,.f (.raw _)⟩;unfold execOp;rw[A];simp[resolve,invoke,builtin,Builtin.len_,run_underlying hu,hr,goInt]
 .cases z
theorem an8 {t k v:TypeId} {x:Operand} (L:o.op= .call {callee:=.builtin .len,args:=#[x],argTypes:=#[t]}) (hu:P.underlying t=M (.map k v)) (s:eP (.lenm x) e h nx=M R):gZ P o e.get h.get R.eff:=by
 simp only[eP]at s;split at s
 .rename_i id Z;split at s
  .rename_i es hid;simp only[ah]at s;subst s;refine gZ.reads λφ E h' w a hrd hp hrep=>?_
   have hr:=hp x _ (by rw[L];simp[Op.operands,eY]) Z;have hh:h' id=M ⟨0,.mp es⟩:=by rw[hrd id (by simp)];exact hid
   generalize U:a.eval x=z at hr;cases hr with
   |@mp _ b hφ=>
    obtain⟨b',h1,_,ob,h2,h3⟩:=hrep.at_ id _ hh;rw[hφ]at h1;cases h1;obtain⟨ents,clock,rfl,A,_⟩:=h3;have h5:ents.size=es.length:=by have A:ents.toList.map (·.key)=es.map (·.1):=A;have:=hP ai A;simpa using this
    refine ⟨_,?_,.f (.raw _)⟩;unfold execOp;rw[L];simp[resolve,invoke,builtin,Builtin.len_,run_underlying hu,U,goInt,getObj,kz,h2,h5]
  .cases s
 .cases s
end
end
end Go.Proofs.YtloaobgmjdjhhaaGreatDoor.AI
