/-
  Texts of the proof, part 3 of 5: what is used to prove the statement. No condition.
-/
import Derived.Test.YthehadcddfilhaaGreatDoorHBPartialQ1
import Derived.KernelRfl
import Derived.WalkSpells
import Derived.Laws.CopyRow
import Derived.Deep.AppendSrc
import Derived.Laws.AppendOwn
namespace Go.Proofs.YthehadcddfilhaaGreatDoor.AI
open Go.RowKit
set_option maxRecDepth 100000
set_option maxHeartbeats 4000000
set_option linter.unusedVariables false
set_option linter.unusedSimpArgs false
open _root_.Array renaming length_toList→ib,range→xg
open _root_.Bool renaming true→ah,false→ai
open Call renaming operands→eD
open _root_.Int renaming ofNat_eq_natCast→ar,ofNat→aN,toNat→aS,reduceEq→aV,reduceNeg→bi,toNat_natCast→gq
open IntKind renaming wrap→ol
open _root_.List renaming length→ak,replicate→aF,length_cons→bV,take→dE,range→eT,cons_append→fX,length_singleton→gf,length_nil→jE,nil_append→ll,foldl_cons→D8
open _root_.Nat renaming beq→aA,add_zero→c8
open Oper renaming wp→FU
open _root_.Option renaming some→aa,none→af,bind_some→aE,map_some→b7,getD_some→tO
open _root_.Prod renaming p2→aU,p3→bk,p4→bt,q3→bI,p5→ct,q5→cQ,q4→dh,p6→em,q6→eU,p7→ka,q7→lY,q8→pg,p8→yz
open Result renaming andThen_ok→cD
open Sem renaming run_bind→eh,run→mU,run_pure→og
open _root_.Sum renaming inr→bS,inl→lX
open World renaming shape?→qJ,cell?→LK
noncomputable section
def NE (op:Int):Prop:=op=1\/op=2\/op=3\/op=14
def ZE (e:Xp):Prop:=GE 4 e\/e= .mk 0 0 [] []
structure NO (nT:Nat) (s:Sx):Prop where
 o0:1<=s.op
 o1:s.op<=15
 vr:s.op=1->s.index=[]->s.name∈NV
 lk:s.op=4->s.name=[109]\/s.name=[110]
 rw:s.op=5\/s.op=6->s.name=[114]
 cn:s.op=9\/s.op=10\/s.op=11->s.name=[99]
 sp:s.op=12\/s.op=13->s.name∈uJ.take nT
 se:s.op=14->s.name=[102]
 ge:s.op=15->s.name=[97]/\s.arg=[102]
 el:¬s.op=2->s.els=[]
 bo:s.op=1\/9<=s.op->s.body=[]
variable {nT:Nat}
def GS (nT:Nat):Nat->Sx->Prop
 |0,_=>False
 |d+1,s=>(s.index≠[]->s.name=[113])/\s.index.length<=1/\(∀ e∈s.index,GE 4 e)/\(NE s.op->GE 4 s.expr)/\ZE s.expr/\s.body.length<=8/\s.els.length<=8/\(∀ x∈s.body,GS nT d x)/\(∀ x∈s.els,GS nT d x)/\NO nT s
theorem GS.mono:∀ {d:Nat} {s:Sx},GS nT d s->GS nT (d+1) s
 |0,_,h=>h.elim
 |_+1,_,⟨a,b,c,e,f,g,i,j,k,l⟩=>⟨a,b,c,e,f,g,i,λx I=>(j x I).mono,λx I=>(k x I).mono,l⟩
theorem GS.le {d k:Nat} {s:Sx} (h:GS nT d s) (hk:d<=k):GS nT k s:=by
 induction hk with
 |refl=>exact h
 |step _ I=>exact I.mono
theorem NO.asg {s a:List UInt8} {e:Xp} {i:List Xp} (hs:i=[]->s∈NV):NO nT (.mk 1 0 s a i e [] []):=by
 constructor<;>simp[Sx.op,Sx.name,Sx.index,Sx.els,Sx.body];exact λh=>by simpa using hs h
theorem GS.asg {d:Nat} {s:List UInt8} (hs:s∈NV) {e:Xp} (h:GE 4 e):GS nT (d+1) (.mk 1 0 s [] [] e [] []):=
 ⟨λh=>(h rfl).elim,by simp[Sx.index],λe he=>(by cases he),λ_=>h,.inl h,by simp[Sx.body],by simp[Sx.els],λx I=>(by cases I),λx I=>(by cases I),NO.asg λ_=>hs⟩
theorem GS.aix {d:Nat} {i e:Xp} (hi:GE 4 i) (h:GE 4 e):GS nT (d+1) (.mk 1 0 [113] [] [i] e [] []):=
 ⟨λ_=>rfl,by simp[Sx.index],λe he=>(by simp only[Sx.index,aK] at he;rw[he];exact hi),λ_=>h,.inl h,by simp[Sx.body],by simp[Sx.els],λx I=>(by cases I),λx I=>(by cases I),NO.asg λh=>(by cases h)⟩
theorem GS.we {d:Nat} {op:Int} {s a:List UInt8} {e:Xp} {b l:List Sx} (h:GE 4 e) (hb:b.length<=8) (hl:l.length<=8) (I:∀ x∈b,GS nT d x) (gl:∀ x∈l,GS nT d x) (hn:NO nT (.mk op 0 s a [] e b l)):GS nT (d+1) (.mk op 0 s a [] e b l):=
 ⟨λh=>(h rfl).elim,by simp[Sx.index],λe he=>(by cases he),λ_=>h,.inl h,hb,hl,I,gl,hn⟩
theorem GS.wo {d:Nat} {op ln:Int} {s a:List UInt8} {b:List Sx} (M:4<=op/\op≠14) (hb:b.length<=8) (J:∀ x∈b,GS nT d x) (hn:NO nT (.mk op ln s a [] (.mk 0 0 [] []) b [])):GS nT (d+1) (.mk op ln s a [] (.mk 0 0 [] []) b []):=
 ⟨λh=>(h rfl).elim,by simp[Sx.index],λe he=>(by cases he),λh=>(by have h:op=1\/op=2\/op=3\/op=14:=h;omega),.inr rfl,hb,by simp[Sx.els],J,λx I=>(by cases I),hn⟩
def QS (nT:Nat) (d:Nat) (n:Int) (t:Nh) (h:HD) (y:MK×Nh×HD×List Sx):Prop:=(y.2.2.2.length:Int)<=max 0 n/\(∀ s∈y.2.2.2,GS nT (d+1) s)/\tM t y.2.1/\y.2.2.1.2=h.2
def QT (nT:Nat) (d:Nat) (t:Nh) (h:HD) (y:Sx×MK×Nh×HD):Prop:=GS nT (d+1) y.1/\tM t y.2.2.1/\y.2.2.2.2=h.2
def QB (nT:Nat) (d:Nat) (t:Nh) (h:HD) (y:List Sx×MK×Nh×HD):Prop:=y.1.length<=2/\(∀ s∈y.1,GS nT (d+1) s)/\tM t y.2.2.1/\y.2.2.2.2=h.2
abbrev RS:Type:=((Int×Int)×MK×Nh×HD)->Option (MK×Nh×HD×List Sx)
abbrev RT:Type:=(Int×MK×Nh×HD)->Option (Sx×MK×Nh×HD)
abbrev RBk:Type:=((List UInt8×Int)×MK×Nh×HD)->Option (List Sx×MK×Nh×HD)
def SpS (nT:Nat) (rs:RS) (d:Nat):Prop:=∀ (n:Int) (m:MK) (t:Nh) (h:HD),n<=3->TP t->h.2.length+d<=100->Ok (rs (((d:Int),n),m,t,h)) (QS nT d n t h)
def SpT (nT:Nat) (I:RT) (d:Nat):Prop:=∀ (m:MK) (t:Nh) (h:HD),TP t->h.2.length+d<=100->Ok (I ((d:Int),m,t,h)) (QT nT d t h)
def SpB (nT:Nat) (I:RBk) (d:Nat):Prop:=∀ (s:List UInt8) (m:MK) (t:Nh) (h:HD),TP t->h.2.length+1+d<=100->Ok (I ((s,(d:Int)),m,t,h)) (QB nT d t h)
theorem VK (rs:RS) (M:RT) (rb:RBk) (d:Nat) (ht:SpT nT M d):SpS nT (l_ rs M rb) d:=by
 intro n m t h hn hp hh;unfold l_ aU bk bt bI dh cQ bc bu bD cK aD cz dS;refine pl (λx=>(n-x.1).toNat) (λx=>0<=x.1/\(x.1<=n\/x.1=0)/\tM t x.2.2.1/\(x.2.2.2.1.length:Int)<=x.1/\(∀ s∈x.2.2.2.1,GS nT (d+1) s)/\x.2.2.2.2.2=h.2) ?_ ⟨eP _,.inr rfl,tM.refl hp,by simp,λs hs=>(by cases hs),rfl⟩;rintro⟨(i:Int),m',t',l,h'⟩ ⟨i0,i1,e1,e2,e3,J⟩;dsimp only at i0 i1 e1 e2 e3 J;refine aX (λx=>x.2=(m',t',l,h')/\(x.1=ah->i<n)) ?_ ?_
 .refine bA (λg=>aI (λ_=>al ⟨rfl,λ_=>g⟩) λ_=>al ⟨rfl,λ_=>g⟩) λ_=>al ⟨rfl,λh=>(by cases h)⟩
 rintro⟨b,x⟩ ⟨Z,Y⟩;dsimp only at Z Y;subst Z;refine aO (λhb=>?_) λ_=>al ⟨by dsimp only;omega,e3,e1,J⟩
 have g:=Y hb;refine aw (ht m' t' h' e1.p (by rw[J];exact hh)) λy hy=>?_
 obtain⟨s,m2,t2,h2⟩:=y;obtain⟨k1,k2,U⟩:=hy;dsimp only at k1 k2 U;refine ba (by simp) (bf (by simp;omega) (by omega) (al ?_));dsimp only;rw[eS,xr,ie (n:=i+1) (by omega) (by omega)];refine ⟨⟨by omega,by omega,e1.trans k2,by simp;omega,λx I=>?_,U.trans J⟩,by omega⟩;rcases bR.1 I with I|I
 .exact e3 x I
 .rw[aK] at I;subst I;exact k1
theorem VO (rs:RS) (rt:RT) (rb:RBk) (d:Nat) (hs:SpS nT rs d):SpB nT (ma rs rt rb) d:=by
 intro s m t h hp hh;unfold ma aU bk bI dh bD aW;refine bf (by simp;omega) (by omega) ?_;refine aw (fU 2 t hp) λy M=>?_
 obtain⟨k,t1⟩:=y;obtain⟨J,Z,I,_⟩:=M;have I:=I (by decide);dsimp only at J Z I;have ew:bg .i64 (1+k)=1+k:=ie (by omega) (by omega);dsimp only;rw[ew];refine aw (hs (1+k) m t1 (h.1,h.2++[s]) (by omega) J.p (by simp;omega)) λy M=>?_
 obtain⟨m2,t2,h2,l⟩:=y;obtain⟨k1,k2,Y,U⟩:=M;dsimp only at k1 k2 Y U;refine ba (by simp) ?_;dsimp only;rw[U];have el:bg .i64 ((aN (h.2++[s]).length)-1)=(h.2.length:Int):=by
  rw[bn,gf,ie (by simp<;>omega) (by simp<;>omega)];simp<;>omega
 rw[el];refine db (ey (by omega) (yG (by simp;omega) (al ?_)));refine ⟨by dsimp only;omega,k2,J.trans Y,?_⟩;show dE (aS (h.2.length:Int)) (h.2++[s])=h.2;simp
theorem BL (s:List UInt8) (m:MK) (t:Nh) (h:HD) (hh:h.2.length<=100):Ok (eA (s,m,t,h)) λy=>y.2=(m,t,h):=by
 unfold eA dh;exact aw (xd h.2 s (by omega)) λy _=>al rfl
theorem Ym (rs:RS) (rt:RT) (rb:RBk) (d:Nat) (hd:d<=5) (h0:1<=d->SpS nT rs 0) (hS:1<=d->SpS nT rs (d-1)) (hB:1<=d->SpB nT rb (d-1)):SpT nT (nk rs rt rb) d:=by
 intro m t h hp hh;unfold nk aU bk bt bI dh cQ bc bu bD kK aD dS;refine aw (fU 18 t hp) λy J=>?_
 obtain⟨k,t1⟩:=y;obtain⟨s1,k0,k1,_⟩:=J;have k1:=k1 (by decide);dsimp only at s1 k0 k1;have hE:∀ (j:Nat) (m':MK) (t':Nh) (h':HD),j<=1->TP t'->Ok (eQ ((j:Int),m',t',h')) λy=>GE 4 y.1/\y.2.1=m'/\tM t' y.2.2.1/\y.2.2.2=h':=λj m' t' h' hj ht'=>(XW j (by omega) m' t' h' ht').mono λy J=>⟨J.1.le (by omega),J.2⟩
 have ed:bg .i64 ((d:Int)-1)=(d:Int)-1:=ie (by omega) (by omega);have ed1:1<=d->(d:Int)-1=((d-1:Nat):Int):=λ_=>by omega
 refine aX (λx=>x.2=((m.1,bg .i64 (m.2.1-1),m.2.2),t1,(0,0,[],[],0,0,[]),h)/\(x.1=ah->1<=d)) ?_ ?_
 .refine bA (λg=>aR (bA (λ_=>al ⟨rfl,λ_=>?_⟩) λ_=>al ⟨rfl,λh=>(by cases h)⟩)) λ_=>al ⟨rfl,λh=>(by cases h)⟩
  dsimp only at g;omega
 generalize ((m.1,bg .i64 (m.2.1-1),m.2.2):MK)=m0;rintro⟨nest,x⟩ ⟨e,hn⟩;dsimp only at e hn;subst e;refine bA (λ_=>?_) λg4=>?_
 .refine aQ k0 (by dsimp only[ak];omega) (aQ k0 (by dsimp only[ak];omega) (aR ?_));refine aw (hE 1 m0 t1 h (by omega) s1.p) λy J=>?_
  obtain⟨e,m2,t2,h2⟩:=y;obtain⟨v1,v2,v3,v4⟩:=J;dsimp only at v1 v2 v3 v4;subst v2;subst v4;refine ba (by simp) (aT (sH _ _) (al ?_));dsimp only;rw[eS,xr];have hnv:∀ z∈([[120],[121],[120],[118]]:List (List UInt8)),z∈NV:=by decide
  exact⟨GS.asg (hnv _ (bH (T:=.str) k0 (by dsimp only[ak];omega))) v1,s1.trans v3,rfl⟩
 dsimp only at g4;refine aI (λ_=>?_) λg5=>?_
 .refine aw (fU 2 t1 s1.p) λy J=>?_
  obtain⟨u1,u2,u3,_⟩:=J;have u3:=u3 (by decide);refine aQ u2 u3 (aQ u2 u3 (aR ?_));refine aw (hE 1 m0 y.2 h (by omega) u1.p) λz U=>?_
  obtain⟨e,m2,t2,h2⟩:=z;obtain⟨v1,v2,v3,v4⟩:=U;dsimp only at v1 v2 v3 v4;subst v2;subst v4;refine ba (by simp) (aT (sH _ _) (al ?_));dsimp only;rw[eS,xr];have hnv:∀ z∈([[97],[98]]:List (List UInt8)),z∈NV:=by decide
  exact⟨GS.asg (hnv _ (bH (T:=.str) u2 u3)) v1,s1.trans (u1.trans v3),rfl⟩
 dsimp only at g5;refine aI (λ_=>?_) λg6=>?_
 .refine aw (hE 0 m0 t1 h (by omega) s1.p) λz U=>?_
  obtain⟨e,m2,t2,h2⟩:=z;obtain⟨v1,v2,v3,v4⟩:=U;dsimp only at v1 v2 v3 v4;subst v2;subst v4;refine ba (by simp) ?_;refine aw (hE 1 m2 t2 h2 (by omega) v3.p) λz U=>?_
  obtain⟨e',m3,t3,h3⟩:=z;obtain⟨w1,Z,w3,w4⟩:=U;dsimp only at w1 Z w3 w4;subst Z;subst w4;refine ba (by simp) (al ?_);dsimp only;rw[eS,eS];exact⟨GS.aix v1 w1,s1.trans (v3.trans w3),rfl⟩
 dsimp only at g6;have U:∀ (c:Prop),c->c:=λ_ h=>h
 have dd:1<=d->d-1+1=d:=λ_=>by omega
 have w8:8<=k->bg .i64 (k-8)=k-8:=λ_=>ie (by omega) (by omega)
 refine aX (λx=>x.2=(m0,t1,(0,0,[],[],0,0,[]),h)/\(x.1=ah->1<=d)) ?_ ?_
 .refine aI (λ_=>al ⟨rfl,λg=>?_⟩) λ_=>al ⟨rfl,λh=>(by cases h)⟩
  dsimp only at g;rw[sg] at g;omega
 rintro⟨b,x⟩ ⟨e,hb⟩;dsimp only at e hb;subst e;refine aO (λI=>?_) λ_=>?_
 .have M:=hb I;refine aw (hE 1 m0 t1 h (by omega) s1.p) λz U=>?_
  obtain⟨e,m2,t2,h2⟩:=z;obtain⟨v1,v2,v3,v4⟩:=U;dsimp only at v1 v2 v3 v4;subst v2;subst v4;refine ba (by simp) ?_;dsimp only;rw[ed,ed1 M];refine aw (hS M 1 m2 t2 h2 (by omega) v3.p (by omega)) λz U=>?_
  obtain⟨m3,t3,h3,l⟩:=z;obtain⟨w1,Z,w3,w4⟩:=U;dsimp only at w1 Z w3 w4;rw[dd M] at Z;refine ba (by simp) ?_;refine aX (λx=>x.2.2.2.1=(2,0,[],[],e.op,e.n,e.name,e.l)/\tM t1 x.2.1/\x.2.2.2.2.1.2=h2.2/\x.2.2.2.2.2.1=l/\x.2.2.2.2.2.2.length<=8/\∀ s∈x.2.2.2.2.2.2,GS nT d s) ?_ ?_
  .refine aw (fU 2 t3 w3.p) λy J=>?_
   refine aI (λ_=>?_) λ_=>al ⟨rfl,v3.trans (w3.trans J.1),w4,rfl,by simp,λs hs=>(by cases hs)⟩
   dsimp only;refine aw (hS M 1 m3 y.2 h3 (by omega) J.1.p (by rw[w4];omega)) λz U=>?_
   obtain⟨m4,t4,h4,l2⟩:=z;obtain⟨x1,x2,x3,x4⟩:=U;dsimp only at x1 x2 x3 x4;rw[dd M] at x2;exact ba (by simp) (al ⟨rfl,v3.trans (w3.trans (J.1.trans x3)),x4.trans w4,rfl,by dsimp only;omega,x2⟩)
  rintro⟨m5,t5,z5,e5,h5,l5,l6⟩ ⟨x1,x2,x3,x4,x5,x6⟩;dsimp only at x1 x2 x3 x4 x5 x6;subst x1;subst x4;refine al ?_;dsimp only;rw[eS];exact⟨GS.we v1 (by first|omega|(dsimp only;omega)) x5 Z x6 (by constructor<;>simp[Sx.op,Sx.name,Sx.index,Sx.arg,Sx.els,Sx.body]),s1.trans x2,x3⟩
 refine aX (λx=>x.2=(m0,t1,(0,0,[],[],0,0,[]),h)/\(x.1=ah->1<=d)) ?_ ?_
 .refine aI (λ_=>al ⟨rfl,λg=>?_⟩) λ_=>al ⟨rfl,λh=>(by cases h)⟩
  dsimp only at g;rw[sg] at g;omega
 rintro⟨b,x⟩ ⟨e,hb⟩;dsimp only at e hb;subst e;refine aO (λI=>?_) λ_=>?_
 .have M:=hb I;refine aT (F3 _) (aT (L8 _) (aT (DS _ _ _) ?_));dsimp only;rw[ed,ed1 M];refine aw (hS M 1 _ t1 h (by omega) s1.p (by omega)) λz U=>?_
  obtain⟨m3,t3,h3,l⟩:=z;obtain⟨w1,Z,w3,w4⟩:=U;dsimp only at w1 Z w3 w4;rw[dd M] at Z;refine ba (by simp) ?_;refine aT (F3 _) (aT (L8 _) (aT (DS _ _ _) (aT (sH _ _) ?_)));refine bf (by simp;omega) (by omega) (al ?_);dsimp only;rw[eS,eS,xr];refine ⟨GS.we (GE.bin (by omega) (GE.nm (by decide) 2) (GE.num _ 2)) (by simp;omega) (by simp) (λx Y=>?_) (λx Y=>(by cases Y)) (by constructor<;>simp[Sx.op,Sx.name,Sx.index,Sx.arg,Sx.els,Sx.body]),s1.trans w3,w4⟩;rcases bR.1 Y with Y|Y
  .exact Z x Y
  .rw[aK] at Y;subst Y;rw[<- dd M];exact GS.asg (by decide) (GE.bin (by omega) (GE.nm (by decide) 2) (GE.num _ 2))
 refine aX (λx=>x.2=(m0,t1,(0,0,[],[],0,0,[]),h)/\(x.1=ah->nest=ah/\(k=8\/k=9))) ?_ ?_
 .refine aI (λg=>aO (λgn=>?_) λ_=>al ⟨rfl,λh=>(by cases h)⟩) λ_=>aI (λg=>aO (λgn=>?_) λ_=>al ⟨rfl,λh=>(by cases h)⟩) λ_=>al ⟨rfl,λh=>(by cases h)⟩
  all_goals
   dsimp only at g ⊢;rw[w8 (by omega)];refine aQ (by omega) (by simp;omega) (aQ (by omega) (by simp;omega) (aR ?_));refine aw (BL _ m0 t1 h (by omega)) λy J=>?_
   obtain⟨yb,y2⟩:=y;dsimp only at J;subst J;exact ba (by simp) (al ⟨rfl,λ_=>⟨gn,by omega⟩⟩)
 rintro⟨b,x⟩ ⟨e,hb⟩;dsimp only at e hb;subst e;refine aO (λI=>?_) λ_=>?_
 .obtain⟨q1,q2⟩:=hb I;have M:=hn q1;have hnm:aH (T:=.str) [[109],[110]] (k-8)=[109]\/aH (T:=.str) [[109],[110]] (k-8)=[110]:=by rcases q2 with rfl|rfl<;>simp[aH]
  dsimp only;rw[w8 (by omega),ed,ed1 M];refine aQ (by omega) (by simp;omega) (aQ (by omega) (by simp;omega) (aR ?_));refine aw (hB M _ m0 t1 h s1.p (by omega)) λz U=>?_
  obtain⟨l,m3,t3,h3⟩:=z;obtain⟨w1,Z,w3,w4⟩:=U;dsimp only at w1 Z w3 w4;rw[dd M] at Z;exact ba (by simp) (al ⟨GS.wo (by omega) (by first|omega|(dsimp only;omega)) Z (by constructor<;>simp[Sx.op,Sx.name,Sx.index,Sx.arg,Sx.els,Sx.body];exact hnm),s1.trans w3,w4⟩)
 refine aX (λx=>x.2=(m0,t1,(0,0,[],[],0,0,[]),h)/\(x.1=ah->nest=ah/\(k=10\/k=11))) ?_ ?_
 .refine aI (λg=>aO (λgn=>?_) λ_=>al ⟨rfl,λh=>(by cases h)⟩) λ_=>aI (λg=>aO (λgn=>?_) λ_=>al ⟨rfl,λh=>(by cases h)⟩) λ_=>al ⟨rfl,λh=>(by cases h)⟩
  all_goals
   dsimp only at g ⊢;refine aw (BL _ m0 t1 h (by omega)) λy J=>?_
   obtain⟨yb,y2⟩:=y;dsimp only at J;subst J;exact ba (by simp) (al ⟨rfl,λ_=>⟨gn,by omega⟩⟩)
 rintro⟨b,x⟩ ⟨e,hb⟩;dsimp only at e hb;subst e;refine aO (λI=>?_) λ_=>?_
 .obtain⟨q1,q2⟩:=hb I;have M:=hn q1;dsimp only;rw[ed,ed1 M,ie (n:=k-10) (by omega) (by omega),ie (n:=k-10+5) (by omega) (by omega)];refine aw (hB M _ m0 t1 h s1.p (by omega)) λz U=>?_
  obtain⟨l,m3,t3,h3⟩:=z;obtain⟨w1,Z,w3,w4⟩:=U;dsimp only at w1 Z w3 w4;rw[dd M] at Z;exact ba (by simp) (al ⟨GS.wo (by omega) (by first|omega|(dsimp only;omega)) Z (by constructor<;>simp[Sx.op,Sx.name,Sx.index,Sx.arg,Sx.els,Sx.body]<;>omega),s1.trans w3,w4⟩)
 refine aX (λx=>x.2=(m0,t1,(0,0,[],[],0,0,[]),h)/\(x.1=ah->nest=ah)) ?_ ?_
 .exact aI (λ_=>al ⟨rfl,λg=>g⟩) λ_=>al ⟨rfl,λh=>(by cases h)⟩
 rintro⟨b,x⟩ ⟨e,hb⟩;dsimp only at e hb;subst e;refine aO (λI=>?_) λ_=>?_
 .have M:=hn (hb I);refine aw (fU 2 t1 s1.p) λy J=>?_
  obtain⟨u1,u2,u3,_⟩:=J;have u3:=u3 (by decide);dsimp only;rw[ie (n:=1+y.1) (by omega) (by omega)];refine aw (h0 M (1+y.1) _ y.2 h (by omega) u1.p (by omega)) λz U=>?_
  obtain⟨m3,t3,h3,l⟩:=z;obtain⟨w1,Z,w3,w4⟩:=U;dsimp only at w1 Z w3 w4;exact ba (by simp) (al ⟨GS.wo (by omega) (by first|omega|(dsimp only;omega)) (λx Y=>(Z x Y).le (by omega)) (by constructor<;>simp[Sx.op,Sx.name,Sx.index,Sx.arg,Sx.els,Sx.body]),s1.trans (u1.trans w3),w4⟩)
 refine aX (λx=>x.2=(m0,t1,(0,0,[],[],0,0,[]),h)/\(x.1=ah->nest=ah)) ?_ ?_
 .exact aI (λ_=>aO (λgn=>al ⟨rfl,λ_=>gn⟩) λ_=>al ⟨rfl,λh=>(by cases h)⟩) λ_=>al ⟨rfl,λh=>(by cases h)⟩
 rintro⟨b,x⟩ ⟨e,hb⟩;dsimp only at e hb;subst e;refine aO (λI=>?_) λ_=>?_
 .have M:=hn (hb I);dsimp only;rw[ed,ed1 M];refine aw (hS M 2 _ t1 h (by omega) s1.p (by omega)) λz U=>?_
  obtain⟨m3,t3,h3,l⟩:=z;obtain⟨w1,Z,w3,w4⟩:=U;dsimp only at w1 Z w3 w4;rw[dd M] at Z;exact ba (by simp) (al ⟨GS.wo (by omega) (by first|omega|(dsimp only;omega)) Z (by constructor<;>simp[Sx.op,Sx.name,Sx.index,Sx.arg,Sx.els,Sx.body]),s1.trans w3,w4⟩)
 refine aX (λx=>x.2=(m0,t1,(0,0,[],[],0,0,[]),h)/\(x.1=ah->nest=ah)) ?_ ?_
 .refine aI (λ_=>aO (λgn=>aO (λ_=>?_) λ_=>al ⟨rfl,λh=>(by cases h)⟩) λ_=>al ⟨rfl,λh=>(by cases h)⟩) λ_=>al ⟨rfl,λh=>(by cases h)⟩
  refine aw (BL _ m0 t1 h (by omega)) λy J=>?_
  obtain⟨yb,y2⟩:=y;dsimp only at J;subst J;exact ba (by simp) (al ⟨rfl,λ_=>gn⟩)
 rintro⟨b,x⟩ ⟨e,hb⟩;dsimp only at e hb;subst e;refine aO (λI=>?_) λ_=>?_
 .have M:=hn (hb I);refine aT (F3 _) (aT (sH _ _) (al ?_));dsimp only;rw[eS,xr];refine ⟨GS.wo (by omega) (by simp) (λx Y=>?_) (by constructor<;>simp[Sx.op,Sx.name,Sx.index,Sx.arg,Sx.els,Sx.body]),s1,rfl⟩;simp only[bh,cj,fM] at Y;rw[<- dd M];rcases Y with rfl|rfl
  .exact GS.wo (by omega) (by simp) (λx Y=>(by cases Y)) (by constructor<;>simp[Sx.op,Sx.name,Sx.index,Sx.arg,Sx.els,Sx.body])
  .exact GS.asg (by decide) (GE.nm (by decide) 3)
 refine aX (λx=>x.2=(m0,t1,(0,0,[],[],0,0,[]),h)/\(x.1=ah->nest=ah)) ?_ ?_
 .refine aI (λ_=>aO (λgn=>?_) λ_=>al ⟨rfl,λh=>(by cases h)⟩) λ_=>al ⟨rfl,λh=>(by cases h)⟩
  refine aw (BL _ m0 t1 h (by omega)) λy J=>?_
  obtain⟨yb,y2⟩:=y;dsimp only at J;subst J;exact ba (by simp) (al ⟨rfl,λ_=>gn⟩)
 rintro⟨b,x⟩ ⟨e,hb⟩;dsimp only at e hb;subst e;refine aO (λI=>?_) λ_=>?_
 .have M:=hn (hb I);refine aw (fU 2 t1 s1.p) λy J=>al ?_
  obtain⟨u1,u2,u3,_⟩:=J;have u3:=u3 (by decide);dsimp only;rw[ie (n:=10+y.1) (by omega) (by omega)];refine ⟨GS.wo (by omega) (by simp) (λx Y=>?_) (by constructor<;>simp[Sx.op,Sx.name,Sx.index,Sx.arg,Sx.els,Sx.body]),s1.trans u1,rfl⟩;simp only[bh,cj,fM] at Y;rw[Y,<-dd M];exact GS.wo (by omega) (by simp) (λx Y=>(by cases Y)) (by constructor<;>simp[Sx.op,Sx.name,Sx.index,Sx.arg,Sx.els,Sx.body]<;>omega)
 refine aX (λx=>x.2=(m0,t1,(0,0,[],[],0,0,[]),h)) ?_ ?_
 .exact aI (λ_=>aO (λ_=>aO (λ_=>al rfl) λ_=>al rfl) λ_=>al rfl) λ_=>al rfl
 rintro⟨b,x⟩ e;dsimp only at e;subst e;refine aO (λI=>?_) λ_=>?_
 .refine aw (hE 1 _ t1 h (by omega) s1.p) λz U=>?_
  obtain⟨e,m2,t2,h2⟩:=z;obtain⟨v1,v2,v3,v4⟩:=U;dsimp only at v1 v2 v3 v4;subst v2;subst v4;refine ba (by simp) (al ?_);dsimp only;rw[eS];exact⟨GS.we v1 (by simp) (by simp) (λx Y=>(by cases Y)) (λx Y=>(by cases Y)) (by constructor<;>simp[Sx.op,Sx.name,Sx.index,Sx.arg,Sx.els,Sx.body]),s1.trans v3,rfl⟩
 refine aX (λx=>x.2.1=m0/\tM t1 x.2.2.1/\x.2.2.2.2=h) ?_ ?_
 .refine aI (λ_=>aO (λ_=>?_) λ_=>al ⟨rfl,tM.refl s1.p,rfl⟩) λ_=>al ⟨rfl,tM.refl s1.p,rfl⟩
  exact aw (fU 2 t1 s1.p) λy J=>al ⟨rfl,J.1,rfl⟩
 rintro⟨b,m9,t9,z9,h9⟩ ⟨e1,e2,e3⟩;dsimp only at e1 e2 e3;subst e1;subst e3;refine aO (λI=>?_) λ_=>?_
 .exact al ⟨GS.wo (by omega) (by simp) (λx Y=>(by cases Y)) (by constructor<;>simp[Sx.op,Sx.name,Sx.index,Sx.arg,Sx.els,Sx.body]),s1.trans e2,rfl⟩
 refine aw (hE 1 _ t9 h9 (by omega) e2.p) λz U=>?_
 obtain⟨e,m2,t2,h2⟩:=z;obtain⟨v1,v2,v3,v4⟩:=U;dsimp only at v1 v2 v3 v4;subst v2;subst v4;refine ba (by simp) (aT (sH _ _) (al ?_));dsimp only;rw[eS,xr];exact⟨GS.asg (by decide) v1,s1.trans (e2.trans v3),rfl⟩
theorem K9:∀ (n:Nat),(∀ d:Nat,d<=5->3*d+1<=n->SpT nT (ec n) d)/\(∀ d:Nat,d<=5->3*d+2<=n->SpS nT (dx n) d)/\(∀ d:Nat,d<=5->3*d+3<=n->SpB nT (dM n) d)
 |0=>⟨λd _ h=>by omega,λd _ h=>by omega,λd _ h=>by omega⟩
 |n+1=>by
  obtain⟨J,I,M⟩:=K9 n;refine ⟨λd h1 h2=>?_,λd h1 h2=>?_,λd h1 h2=>?_⟩
  .exact Ym (dx n) (ec n) (dM n) d h1 (λh=>I 0 (by omega) (by omega)) (λh=>I (d-1) (by omega) (by omega)) (λh=>M (d-1) (by omega) (by omega))
  .exact VK (dx n) (ec n) (dM n) d (J d h1 (by omega))
  .exact VO (dx n) (ec n) (dM n) d (I d h1 (by omega))
theorem Vj (d:Nat) (hd:d<=5):SpS nT pC d:=(K9 fuel).2.1 d hd (by rw[jA];omega)
def GX:Nat->Xp->Prop
 |0,_=>False
 |d+1,e=>e.l.length<=2/\∀ x∈e.l,GX d x
theorem GE.x:∀ {d:Nat} {e:Xp},GE d e->GX d e
 |0,_,h=>h.elim
 |_+1,_,h=>⟨h.2.2.1,λx I=>(h.2.2.2.1 x I).x⟩
theorem ZE.x {e:Xp} (h:ZE e):GX 4 e:=by
 rcases h with h|rfl
 .exact h.x
 .exact⟨by simp[Xp.l],λx I=>(by cases I)⟩
def GT:Nat->Sx->Prop
 |0,_=>False
 |d+1,s=>s.index.length<=1/\(∀ e∈s.index,GX 4 e)/\GX 4 s.expr/\s.body.length<=8/\s.els.length<=8/\(∀ x∈s.body,GT d x)/\(∀ x∈s.els,GT d x)
theorem GS.t {nT:Nat}:∀ {d:Nat} {s:Sx},GS nT d s->GT d s
 |0,_,h=>h.elim
 |_+1,_,⟨_,b,c,_,f,g,i,j,k,_⟩=>⟨b,λe he=>(c e he).x,f.x,g,i,λx I=>(j x I).t,λx I=>(k x I).t⟩
theorem wK (s:Sx):m_ (Sx.op s,Sx.line s,Sx.name s,Sx.arg s,Sx.index s,dP (Xp.op (Sx.expr s),Xp.n (Sx.expr s),Xp.name (Sx.expr s),Xp.l (Sx.expr s)),Sx.body s,Sx.els s)=s:=by
 rw[eS,xr]
theorem Qx (k:Int):Ok (lM k) λ_=>True:=by
 unfold lM bc jg aD;with_reducible repeat' first|(refine OS.ok ?_;constructor)|refine IM.mk λ_=>?_
 all_goals trivial
theorem pQ (e:Xp):Ok (oK e) λ_=>True:=by
 unfold oK bc aD;with_reducible repeat' first|(refine OS.ok ?_;constructor)|refine IM.mk λ_=>?_
 all_goals trivial
theorem xS:∀ (n d:Nat) (e:Xp),d<n->GX d e->Ok (gR n e) λ_=>True
 |0,_,_,h,_=>by omega
 |n+1,0,_,_,h=>h.elim
 |n+1,d+1,e,hn,h=>by
  obtain⟨h1,h2⟩:=h;rw[rm];unfold lA bc bu iO bF cK aD cz;refine aX (λx=>x.2=e) (aI (λ_=>al (eS e)) λ_=>al (eS e)) ?_;rintro⟨b,x⟩ J;dsimp only at J;subst J;refine aX (λy=>y.2=x) ?_ ?_
  .refine aw (Qx _) λ_ _=>?_
   with_reducible repeat' first|refine bZ (λ_=>?_) λ_=>?_|refine bA (λ_=>?_) λ_=>?_|refine dW (λ_=>?_) λ_=>?_|refine aO (λ_=>?_) λ_=>?_|exact al (eS x)|refine aw (ia _) λ_ _=>?_
  rintro⟨M,y⟩ I;dsimp only at I;subst I;refine aO (λ_=>al trivial) λ_=>?_
  refine cf y.l.length (λi x=>x.1=(i:Int)/\x.2=y) ?_ ?_ ⟨rfl,eS y⟩
  .rintro i ⟨a,z⟩ hi ⟨e1,e2⟩;dsimp only at e1 e2;subst e1;subst e2;refine dl ?_;refine cw (aR ?_);refine aw (xS n d _ (by omega) (h2 _ (bH (T:=.ex) (xs:=z.l) (j:=(i:Int)) (by omega) (by omega)))) λ_ _=>?_
   refine dW (λ_=>al trivial) λ_=>al ?_
   dsimp only;exact⟨gK (by omega),eS z⟩
  .rintro⟨a,z⟩ ⟨e1,e2⟩;dsimp only at e1 e2;subst e1;subst e2;exact dc (al trivial)
theorem fQ (e:Xp) (h:GX 4 e):Ok (iL e) λ_=>True:=xS fuel 4 e (by rw[jA];omega) h
theorem JA (d:Int×Int×List UInt8×Int×Int×List UInt8):Ok (jJ d) λ_=>True:=by
 unfold jJ aU bk ct eU bc bu iO aD;refine aX (λ_=>True) ?_ λx _=>aO (λ_=>al trivial) λ_=>?_
 .with_reducible repeat' first|refine bZ (λ_=>?_) λ_=>?_|refine bA (λ_=>?_) λ_=>?_|refine dW (λ_=>?_) λ_=>?_|exact al trivial|refine aw (ia _) λ_ _=>?_
 refine aX (λ_=>True) ?_ λx _=>aO (λ_=>al trivial) λ_=>?_
 .with_reducible repeat' first|refine bZ (λ_=>?_) λ_=>?_|refine aI (λ_=>?_) λ_=>?_|refine dW (λ_=>?_) λ_=>?_|exact al trivial|refine aw (ia _) λ_ _=>?_
 with_reducible repeat' first|(refine OS.ok ?_;constructor)|refine IM.mk λ_=>?_
 all_goals trivial
theorem Fw (I:Sx->Option Bool) (rs:List Sx->Option Bool) (l:List Sx) (hl:l.length<=1000) (h:∀ s∈l,Ok (I s) λ_=>True):Ok (jd I rs l) λ_=>True:=by
 unfold jd bu vO aW cK aD cz;refine cf l.length (λi x=>x=(i:Int)) ?_ ?_ rfl
 .rintro i x hi rfl;refine dl ?_;refine cw ?_;refine aw (h _ (bH (T:=.sm) (xs:=l) (j:=(i:Int)) (by omega) (by omega))) λ_ _=>?_
  exact dW (λ_=>al trivial) λ_=>al (gK (by omega))
 .rintro x rfl;exact dc (al trivial)
theorem HJ (J:Sx->Option Bool) (rs:List Sx->Option Bool) (s:Sx) (h1:∀ e∈s.index,GX 4 e) (h2:GX 4 s.expr) (hb:Ok (rs s.body) λ_=>True) (he:Ok (rs s.els) λ_=>True):Ok (jL J rs s) λ_=>True:=by
 unfold jL bc bu jg iO bF aD dS;refine aX (λx=>x.2=s) ?_ ?_
 .with_reducible repeat' first|refine bZ (λ_=>?_) λ_=>?_|refine aI (λ_=>?_) λ_=>?_|refine bA (λ_=>?_) λ_=>?_|refine e_ (λ_=>?_) λ_=>?_|refine dW (λ_=>?_) λ_=>?_|refine aO (λ_=>?_) λ_=>?_|exact al (wK _)|refine aw (ia _) λ_ _=>?_|refine aw (pQ _) λ_ _=>?_|refine aw (fQ _ h2x) λ_ _=>?_
 rintro⟨b,x⟩ I;dsimp only at I;have I:=I.symm;subst I;refine aO (λ_=>al trivial) λ_=>?_
 refine aX (λx=>x.2=s) ?_ ?_
 .with_reducible repeat' first|refine bZ (λ_=>?_) λ_=>?_|refine aI (λ_=>?_) λ_=>?_|refine bA (λ_=>?_) λ_=>?_|refine e_ (λ_=>?_) λ_=>?_|refine dW (λ_=>?_) λ_=>?_|refine aO (λ_=>?_) λ_=>?_|exact al (wK _)|refine aw (ia _) λ_ _=>?_|refine aw (pQ _) λ_ _=>?_|refine aw (fQ _ h2x) λ_ _=>?_
 rintro⟨b,x⟩ I;dsimp only at I;have I:=I.symm;subst I;refine aX (λx=>x.2=s) ?_ ?_
 .with_reducible repeat' first|refine bZ (λ_=>?_) λ_=>?_|refine aI (λ_=>?_) λ_=>?_|refine bA (λ_=>?_) λ_=>?_|refine e_ (λ_=>?_) λ_=>?_|refine dW (λ_=>?_) λ_=>?_|refine aO (λ_=>?_) λ_=>?_|exact al (wK _)|refine aw (ia _) λ_ _=>?_|refine aw (pQ _) λ_ _=>?_|refine aw (fQ _ h2x) λ_ _=>?_
 rintro⟨b,x⟩ I;dsimp only at I;have I:=I.symm;subst I;refine aO (λ_=>al trivial) λ_=>?_
 refine aX (λx=>x.2=s) ?_ ?_
 .with_reducible repeat' first|refine bZ (λ_=>?_) λ_=>?_|refine aI (λ_=>?_) λ_=>?_|refine bA (λ_=>?_) λ_=>?_|refine e_ (λ_=>?_) λ_=>?_|refine dW (λ_=>?_) λ_=>?_|refine aO (λ_=>?_) λ_=>?_|exact al (wK _)|refine aw (ia _) λ_ _=>?_|refine aw (pQ _) λ_ _=>?_|refine aw (fQ _ h2x) λ_ _=>?_
 rintro⟨b,x⟩ I;dsimp only at I;have I:=I.symm;subst I;refine aO (λ_=>al trivial) λ_=>?_
 refine aX (λx=>x.2=s) ?_ ?_
 .with_reducible repeat' first|refine bZ (λ_=>?_) λ_=>?_|refine aI (λ_=>?_) λ_=>?_|refine bA (λ_=>?_) λ_=>?_|refine e_ (λ_=>?_) λ_=>?_|refine dW (λ_=>?_) λ_=>?_|refine aO (λ_=>?_) λ_=>?_|exact al (wK _)|refine aw (ia _) λ_ _=>?_|refine aw (pQ _) λ_ _=>?_|refine aw (fQ _ h2x) λ_ _=>?_
  all_goals
   rename_i g;dsimp only[ar] at g;refine cw (aR ?_);refine aw (fQ _ (h1 _ (bH (T:=.ex) (xs:=Sx.index _) (j:=0) (by omega) (by omega)))) λ_ _=>al (wK _)
 rintro⟨b,x⟩ I;dsimp only at I;have I:=I.symm;subst I;refine aO (λ_=>al trivial) λ_=>?_
 refine aX (λx=>x.2=s) ?_ ?_
 .with_reducible repeat' first|refine bZ (λ_=>?_) λ_=>?_|refine aI (λ_=>?_) λ_=>?_|refine bA (λ_=>?_) λ_=>?_|refine e_ (λ_=>?_) λ_=>?_|refine dW (λ_=>?_) λ_=>?_|refine aO (λ_=>?_) λ_=>?_|exact al (wK _)|refine aw (ia _) λ_ _=>?_|refine aw (pQ _) λ_ _=>?_|refine aw (fQ _ h2x) λ_ _=>?_
 rintro⟨b,x⟩ I;dsimp only at I;have I:=I.symm;subst I;refine aX (λx=>x.2=s) ?_ ?_
 .have h2x:GX 4 (dP (Xp.op (Sx.expr s),Xp.n (Sx.expr s),Xp.name (Sx.expr s),Xp.l (Sx.expr s))):=by rw[eS];exact h2
  with_reducible repeat' first|refine bZ (λ_=>?_) λ_=>?_|refine aI (λ_=>?_) λ_=>?_|refine bA (λ_=>?_) λ_=>?_|refine e_ (λ_=>?_) λ_=>?_|refine dW (λ_=>?_) λ_=>?_|refine aO (λ_=>?_) λ_=>?_|exact al (wK _)|refine aw (ia _) λ_ _=>?_|refine aw (pQ _) λ_ _=>?_|refine aw (fQ _ h2x) λ_ _=>?_
 rintro⟨b,x⟩ I;dsimp only at I;have I:=I.symm;subst I;refine aO (λ_=>al trivial) λ_=>?_
 refine aX (λx=>x.2=s) ?_ ?_
 .with_reducible repeat' first|refine bZ (λ_=>?_) λ_=>?_|refine aI (λ_=>?_) λ_=>?_|refine bA (λ_=>?_) λ_=>?_|refine e_ (λ_=>?_) λ_=>?_|refine dW (λ_=>?_) λ_=>?_|refine aO (λ_=>?_) λ_=>?_|exact al (wK _)|refine aw (ia _) λ_ _=>?_|refine aw (pQ _) λ_ _=>?_|refine aw (fQ _ h2x) λ_ _=>?_
 rintro⟨b,x⟩ I;dsimp only at I;have I:=I.symm;subst I;refine aX (λx=>x.2=s) ?_ ?_
 .with_reducible repeat' first|refine bZ (λ_=>?_) λ_=>?_|refine aI (λ_=>?_) λ_=>?_|refine bA (λ_=>?_) λ_=>?_|refine e_ (λ_=>?_) λ_=>?_|refine dW (λ_=>?_) λ_=>?_|refine aO (λ_=>?_) λ_=>?_|exact al (wK _)|refine aw (ia _) λ_ _=>?_|refine aw (pQ _) λ_ _=>?_|refine aw (fQ _ h2x) λ_ _=>?_
 rintro⟨b,x⟩ I;dsimp only at I;have I:=I.symm;subst I;refine aO (λ_=>al trivial) λ_=>?_
 refine aX (λ_=>True) ?_ λ_ _=>al trivial
 refine aw hb λ_ _=>aO (λ_=>aw he λ_ _=>al trivial) λ_=>al trivial
theorem HP:∀ (n:Nat),(∀ (d:Nat) (s:Sx),2*d<n->GT d s->Ok (dY n s) λ_=>True)/\(∀ (d:Nat) (l:List Sx),2*d+1<n->l.length<=1000->(∀ s∈l,GT d s)->Ok (du n l) λ_=>True)
 |0=>⟨λd _ h=>by omega,λd _ h=>by omega⟩
 |n+1=>by
  obtain⟨J,I⟩:=HP n;refine ⟨λd s hd h=>?_,λd l hd hl h=>?_⟩
  .cases d with
   |zero=>exact h.elim
   |succ d=>
    obtain⟨_,Z,Y,g4,g5,U,M⟩:=h;exact HJ (dY n) (du n) s Z Y (I d _ (by omega) (by omega) U) (I d _ (by omega) (by omega) M)
  .exact Fw (dY n) (du n) l hl λs hs=>J d s (by omega) (h s hs)
theorem Je (d:Nat) (hd:d<=100) (l:List Sx) (hl:l.length<=1000) (h:∀ s∈l,GT d s):Ok (m7 l) λ_=>True:=(HP fuel).2 d l (by rw[jA];omega) hl h
abbrev DT:Type:=Int×Int×List UInt8×Int×Int×List UInt8
abbrev HT:Type:=List UInt8×Int×List (List UInt8)×List Sx
abbrev PG:Type:=List DT×List HT
structure PX (p:PG):Prop where
 d:p.1.length<=100
 t:p.2.length<=8
 l:∀ t∈p.2,t.2.2.1.length<=100
 b:∀ t∈p.2,t.2.2.2.length<=100
 s:∀ t∈p.2,∀ s∈t.2.2.2,GT 5 s
theorem WA (p:PG) (h:PX p):Ok (oZ p) λ_=>True:=by
 obtain⟨hd,ht,hl,hb,hs⟩:=h;unfold oZ aU bt cQ bu bF aW cK aD cz;refine cf p.1.length (λi x=>x.1=(i:Int)/\x.2=p) ?_ ?_ ⟨rfl,rfl⟩
 .rintro i ⟨a,x⟩ hi ⟨e1,e2⟩;dsimp only at e1 e2;subst e1;subst e2;refine dl ?_;refine cw (aR ?_);refine aw (JA _) λ_ _=>?_
  exact dW (λ_=>al trivial) λ_=>al ⟨gK (by omega),rfl⟩
 rintro⟨a,x⟩ ⟨e1,e2⟩;dsimp only at e1 e2;subst e1;subst e2;refine dc ?_;refine aw (P:=λ_=>True) ?_ λ_ _=>al trivial
 refine cf x.2.length (λi y=>y.1=(i:Int)/\y.2=x) ?_ ?_ ⟨rfl,rfl⟩
 .rintro i ⟨a,x⟩ hi ⟨e1,e2⟩;dsimp only at e1 e2;subst e1;have e2:=e2.symm;subst e2;refine dl ?_;refine cw (aR ?_);have hm:=bH (T:=xp) (xs:=x.2) (j:=(i:Int)) (by omega) (by omega);have h1:=hl _ hm;have h2:=hb _ hm;have M:=hs _ hm;revert h1 h2 M;generalize (aH (T:=xp) x.2 (i:Int))=t;intro h1 h2 M;refine cf t.2.2.1.length (λk y=>y.1=(k:Int)/\y.2=(x,t)) ?_ ?_ ⟨rfl,rfl⟩
  .rintro k ⟨a,z⟩ hk ⟨J,I⟩;dsimp only at J I;subst J;subst I;refine dl ?_;refine cw (aR ?_);refine aw (ia _) λ_ _=>?_
   exact dW (λ_=>al trivial) λ_=>al ⟨gK (by omega),rfl⟩
  .rintro⟨a,z⟩ ⟨J,I⟩;dsimp only at J I;subst J;subst I;refine dc ?_;refine aw (P:=λr=>match r with|.inl y=>y.1=((i+1:Nat):Int)/\y.2=x|.inr _=>True) ?_ ?_
   .refine aX (λy=>y.2=x) ?_ ?_
    .refine aw (ia _) λ_ _=>dW (λ_=>al rfl) λ_=>?_
     exact aw (Je 5 (by omega) _ (by dsimp only;omega) M) λ_ _=>al rfl
    rintro⟨b,y⟩ e;dsimp only at e;subst e;exact aO (λ_=>al trivial) λ_=>al ⟨gK (by omega),rfl⟩
   .rintro (y|y) U
    .exact al U
    .exact al trivial
 .rintro⟨a,y⟩ ⟨e1,e2⟩;dsimp only at e1 e2;subst e1;subst e2;exact dc (al trivial)
theorem vG (l:List DT) (s:List UInt8) (hl:l.length<=1000):Ok (gQ (l,s)) λr=> -1<=r/\r<(l.length:Int):=by
 unfold gQ bu bF aW cK aD cz;refine cf l.length (λi x=>x=(i:Int)) ?_ ?_ rfl
 .rintro i x hi rfl;refine dl ?_;refine cw (aR ?_);exact aI (λ_=>al ⟨by omega,by omega⟩) λ_=>al (gK (by omega))
 .rintro x rfl;exact dc (al ⟨by omega,by omega⟩)
theorem ry (l:List HT) (s:List UInt8) (hl:l.length<=1000):Ok (gC (l,s)) λr=> -1<=r/\r<(l.length:Int):=by
 unfold gC bu bF aW cK aD cz;refine cf l.length (λi x=>x=(i:Int)) ?_ ?_ rfl
 .rintro i x hi rfl;refine dl ?_;refine cw (aR ?_);exact aI (λ_=>al ⟨by omega,by omega⟩) λ_=>al (gK (by omega))
 .rintro x rfl;exact dc (al ⟨by omega,by omega⟩)
def DD (p:PG) (s:List UInt8):Prop:=∃ v,gQ (p.1,s)=aa v/\0<=v/\v<(p.1.length:Int)
theorem WO (p:PG) (h:PX p) (t:Int) (s:List UInt8):Ok (oY (p,t,s)) λk=>k≠0->k≠7->k≠8->DD p s:=by
 have hd:=h.d;have ht:=h.t;unfold oY bc bu jg iO vO bF aW aD;refine aX (λx=>x.2=p) ?_ ?_
 .refine e_ (λU=>bA (λM=>?_) λ_=>al rfl) λ_=>al rfl
  dsimp only[ar] at U M;refine aQ U M (aR ?_);have hm:=h.l _ (bH (T:=xp) (xs:=p.2) (j:=t) U M);exact aw (xd _ s (c7 hm (by omega))) λ_ _=>al rfl
 rintro⟨b,x⟩ e;dsimp only at e;have e:=e.symm;subst e;refine aO (λ_=>al λ_ _ h=>(h rfl).elim) λ_=>?_
 obtain⟨v,hv,v0,J⟩:=vG p.1 s (by omega);refine aT hv ?_;refine bA (λ_=>?_) λg=>?_
 .exact aw (ry p.2 s (by omega)) λ_ _=>e_ (λ_=>al λ_ h=>(h rfl).elim) λ_=>al λh=>(h rfl).elim
 have I:DD p s:=⟨v,hv,g,J⟩
 refine aQ g J (aR ?_);refine aI (λ_=>?_) λ_=>?_
 .exact aQ g J (aR (bZ (λ_=>al λ_ _ _=>I) λ_=>al λ_ _ _=>I))
 refine aI (λ_=>al λ_ _ _=>I) λ_=>?_
 refine aX (λx=>x.2=p) (aI (λ_=>al rfl) λ_=>aI (λ_=>al rfl) λ_=>aI (λ_=>al rfl) λ_=>al rfl) ?_;rintro⟨b,x⟩ e;dsimp only at e;have e:=e.symm;subst e;exact aO (λ_=>aQ g J (aR (al λ_ _ _=>I))) λ_=>al λ_ _ _=>I
theorem om (p:PG) (h:PX p) (t:Int) (s:List UInt8) (a b:Int):Ok (gj (p,t,s,a,b)) λr=>r=0->(a≠7/\a≠8)->(b≠7/\b≠8)->DD p s:=by
 unfold gj aU bk dh bc iO aD;refine aw (WO p h t s) λk hk=>?_
 refine aI (λ_=>al λh=>(by cases h)) λg=>?_
 refine aX (λx=>x=ai->k=a\/k=b) ?_ ?_
 .refine bZ (λ_=>al λh=>?_) λh=>al λ_=>.inl h
  simp at h;exact .inr h
 rintro x I;refine aO (λ_=>al λh=>(by cases h)) λh=>al λ_ h1 h2=>hk g ?_ ?_
 .rcases I h with h|h<;>omega
 .rcases I h with h|h<;>omega
theorem K_:∀ (n d:Nat) (e:Xp),d<n->GX d e->Ok (mK n e) λ_=>True
 |0,_,_,h,_=>by omega
 |n+1,0,_,_,h=>h.elim
 |n+1,d+1,e,hn,h=>by
  obtain⟨h1,h2⟩:=h;rw[wR];unfold s8 bu bF cK aD cz;refine cf e.l.length (λi x=>x.1.2.2=(i:Int)/\x.2=e) ?_ ?_ ⟨rfl,eS e⟩
  .rintro i ⟨⟨a,b,c⟩,z⟩ hi ⟨e1,e2⟩;dsimp only at e1 e2;subst e1;subst e2;refine dl ?_;refine cw (aR ?_);refine aw (K_ n d _ (by omega) (h2 _ (bH (T:=.ex) (xs:=z.l) (j:=(i:Int)) (by omega) (by omega)))) λ_ _=>al ?_
   exact⟨gK (by omega),eS z⟩
  .rintro⟨⟨a,b,c⟩,z⟩ ⟨e1,e2⟩;dsimp only at e1 e2;subst e1;subst e2;exact dc (al trivial)
theorem Ep (p:PG) (hp:PX p) (t:Int):∀ (n d:Nat) (e:Xp),d<n->GX d e->Ok (mJ n (p,t,e)) λ_=>True
 |0,_,_,h,_=>by omega
 |n+1,0,_,_,h=>h.elim
 |n+1,d+1,e,hn,h=>by
  obtain⟨h1,h2⟩:=h;rw[wQ];unfold s7 bc bu bF cK aD cz;refine aX (λx=>x.2.1=p/\x.2.2=e) ?_ ?_
  .refine aI (λ_=>aw (om p hp t _ _ _) λ_ _=>al ⟨rfl,eS e⟩) λ_=>aI (λ_=>aw (om p hp t _ _ _) λ_ _=>al ⟨rfl,eS e⟩) λ_=>al ⟨rfl,eS e⟩
  rintro⟨r,M,e'⟩ ⟨J,I⟩;dsimp only at J I;have J:=J.symm;subst J;have I:=I.symm;subst I;refine pl (λx=>((e.l.length:Int)-x.1.2).toNat) (λx=>0<=x.1.2/\x.2.1=p/\x.2.2=e) ?_ ⟨eP _,rfl,eS e⟩;rintro⟨⟨a,(b:Int)⟩,M,e'⟩ ⟨b0,J,I⟩;dsimp only at b0 J I;have J:=J.symm;subst J;have I:=I.symm;subst I;refine aX (λx=>x.2.1=p/\x.2.2=e/\(x.1=ah->b<(e.l.length:Int))) ?_ ?_
  .exact bA (λg=>al ⟨rfl,eS e,λ_=>g⟩) λ_=>al ⟨rfl,eS e,λh=>(by cases h)⟩
  rintro⟨c,M,e'⟩ ⟨J,I,U⟩;dsimp only at J I U;have J:=J.symm;subst J;have I:=I.symm;subst I;refine aO (λhc=>?_) λ_=>al trivial
  have g:=U hc;refine aQ b0 g (aR ?_);refine aw (Ep p hp t n d _ (by omega) (h2 _ (bH (T:=.ex) (xs:=e.l) (j:=b) b0 g))) λ_ _=>al ?_
  dsimp only;rw[ie (n:=b+1) (by omega) (by omega)];exact⟨⟨by omega,rfl,eS e⟩,by omega⟩
theorem vF (p:PG) (hp:PX p) (t:Int) (e:Xp) (h:GX 4 e):Ok (lK (p,t,e)) λ_=>True:=by
 unfold lK bu aD;have M:GX 4 (dP (Xp.op e,Xp.n e,Xp.name e,Xp.l e)):=by rw[eS];exact h
 refine aw (fQ _ M) λ_ _=>dW (λ_=>al trivial) λ_=>?_
 refine aw (K_ fuel 4 _ (by rw[jA];omega) M) λ_ _=>?_
 refine aX (λx=>x.2.1=p/\x.2.2=e) (bA (λ_=>al ⟨rfl,eS e⟩) λ_=>al ⟨rfl,eS e⟩) ?_;rintro⟨r,U,e'⟩ ⟨J,I⟩;dsimp only at J I;have J:=J.symm;subst J;have I:=I.symm;subst I;exact aO (λ_=>al trivial) λ_=>aw (Ep p hp t fuel 4 _ (by rw[jA];omega) M) λ_ _=>al trivial
theorem fc (b:Bool):Ok (cS b) λ_=>True:=by
 unfold cS;exact aO (λ_=>al trivial) λ_=>al trivial
theorem sL (x:Int×Int):Ok (iG x) λr=>r=0->x.1=0/\x.2=0:=by
 unfold iG iO;exact bZ (λh=>al λh2=>(h h2).elim) λh=>al λh2=>⟨h,h2⟩
abbrev WK:Type:=(List DT×List HT×Int)×(Bool×List Sx)×List (List UInt8)×List (List UInt8)
theorem Vp (a b:Int) (s:List UInt8) (w:WK) (h:w.2.1.2.length<=100):Ok (dJ ((a,b,s),w)) λy=>y.2=w:=by
 unfold dJ aU bc bu kK aW cK aD cz;refine cf w.2.1.2.length (λi x=>x.1=(i:Int)/\x.2=w) ?_ ?_ ⟨rfl,rfl⟩
 .rintro i ⟨c,x⟩ hi ⟨e1,e2⟩;dsimp only at e1 e2;subst e1;have e2:=e2.symm;subst e2;refine dl ?_;refine cw (cw (aR ?_));refine aX (λx=>x.2=w) ?_ ?_
  .refine aI (λ_=>aI (λ_=>al rfl) λ_=>al rfl) λ_=>aI (λ_=>aI (λ_=>al rfl) λ_=>al rfl) λ_=>al rfl
  rintro⟨c,x⟩ e;dsimp only at e;have e:=e.symm;subst e;exact aO (λ_=>al rfl) λ_=>al ⟨gK (by omega),rfl⟩
 .rintro⟨c,x⟩ ⟨e1,e2⟩;dsimp only at e1 e2;subst e1;have e2:=e2.symm;subst e2;exact dc (al rfl)
def Nu:Nat->Sx->Nat
 |0,_=>0
 |d+1,s=>1+(s.body.map (Nu d)).sum+(s.els.map (Nu d)).sum
def mT (d:Nat) (l:List Sx):Nat:=(l.map (Nu d)).sum
def KS:Nat->Nat
 |0=>0
 |d+1=>1+16*KS d
theorem LV {α:Type} {f:α->Nat} {k:Nat}:∀ {l:List α},(∀ x∈l,f x<=k)->(l.map f).sum<=l.length*k
 |[],_=>by simp
 |x::r,h=>by
  have:=LV (l:=r) λy I=>h y (cO _ I)
  have:=h x (dG ..);rw[fV,List.sum_cons,bV,iB];omega
theorem S1:∀ {d:Nat} {s:Sx},GT d s->Nu d s<=KS d
 |0,_,h=>h.elim
 |d+1,s,⟨_,_,_,Y,U,M,J⟩=>by
  have a:=LV (f:=Nu d) (l:=s.body) λx I=>S1 (M x I)
  have b:=LV (f:=Nu d) (l:=s.els) λx I=>S1 (J x I)
  have c:=cA (KS d) Y;have e:=cA (KS d) U;show 1+_+_<=1+16*KS d;omega
theorem M1:∀ {d:Nat} {s:Sx},GT d s->Nu (d+1) s=Nu d s
 |0,_,h=>h.elim
 |d+1,s,⟨_,_,_,_,_,M,J⟩=>by
  show 1+(s.body.map (Nu (d+1))).sum+(s.els.map (Nu (d+1))).sum=1+(s.body.map (Nu d)).sum+(s.els.map (Nu d)).sum;rw[ph λx I=>M1 (M x I),ph λx I=>M1 (J x I)]
theorem YD {d:Nat} {l:List Sx} (h:∀ s∈l,GT d s):mT d l<=l.length*KS d:=LV λx I=>S1 (h x I)
theorem vy {d:Nat} {l:List Sx} {i:Nat} (hi:i<l.length):mT d (l.take (i+1))=mT d (l.take i)+Nu d (aH (T:=.sm) l (i:Int)):=by
 unfold mT;rw[nB (T:=.sm) hi,cI,D6];simp
theorem M2 {d:Nat} (l:List Sx) (i:Nat):mT d (l.take i)<=mT d l:=by
 conv=>rhs;rw[<- zY i l]
 unfold mT;rw[cI,D6];omega
theorem Dy:∀ (n d:Nat) (l:List Sx),d<n->l.length<=1000->(∀ s∈l,GT d s)->KS d<=100000->mL n l=aa ((mT d l:Nat):Int)
 |0,_,_,h,_,_,_=>by omega
 |n+1,d,l,hn,hl,h,J=>by
  refine cE ?_;rw[wS];unfold s9 bu vO aW cK aD cz;have hb:=YD h;have I:=Nat.mul_le_mul hl J;refine cf l.length (λi x=>x.2=(i:Int)/\x.1=(l.length:Int)-i+(mT d (l.take i):Nat)) ?_ ?_ ⟨rfl,by simp[mT]⟩
  .rintro i ⟨a,b⟩ hi ⟨e1,e2⟩;dsimp only at e1 e2;subst e1;subst e2;have hp:=M2 (d:=d) l (i+1);rw[vy hi] at hp;refine dl ?_;refine cw (aR ?_);rw[vy hi];have hm:=h _ (bH (T:=.sm) (xs:=l) (j:=(i:Int)) (by omega) (by omega));revert hm hp;generalize (aH (T:=.sm) l (i:Int))=s;intro hp hm;cases d with
   |zero=>exact hm.elim
   |succ d=>
    obtain⟨_,_,_,Z,Y,U,M⟩:=hm;have hk:KS (d+1)=1+16*KS d:=rfl;have hc:Nu (d+1) s=1+mT d s.body+mT d s.els:=rfl;rw[hc] at hp ⊢;refine aT (Dy n d _ (by omega) (by omega) U (by omega)) ?_;refine cw (aR ?_);refine aT (Dy n d _ (by omega) (by omega) M (by omega)) (al ⟨gK (by omega),?_⟩);dsimp only;rw[ie (n:=(l.length:Int)-i+(mT (d+1) (l.take i):Nat)+(mT d s.body:Nat)) (by omega) (by omega),ie (by omega) (by omega)];omega
  .rintro⟨a,b⟩ ⟨e1,e2⟩;dsimp only at e1 e2;subst e1;subst e2;rw[cL];exact dc (al (by dsimp only;omega))
theorem Sg (l:List DT) (hl:l.length<=100):Ok (qp l) λ_=>True:=by
 unfold qp aU bk bt bI dh eU bc bu jg iO bD bF aW cK aD cz;refine cf l.length (λi x=>x.2.2.2.2=(i:Int)) ?_ ?_ rfl
 .rintro i ⟨a,b,c,d,e⟩ hi e1;dsimp only at e1;subst e1;refine dl ?_;refine aX (λ_=>True) ?_ λx _=>al (gK (by omega))
  refine cw (aR ?_);have htk:(dE (aS (i:Int)) l).length<=100:=by rw[bC];omega
  refine db (ey (by dsimp only;omega) (ey (by dsimp only;omega) ?_));refine aw (vG _ _ (c7 htk (by omega))) λv hv=>?_
  refine e_ (λ_=>al trivial) λ_=>bA (λ_=>al trivial) λ_=>?_
  refine aX (λ_=>True) ?_ λx _=>?_
  .refine aX (λ_=>True) (aI (λ_=>al trivial) λ_=>al trivial) λx _=>aO (λ_=>al trivial) λ_=>?_
   refine aX (λ_=>True) (aI (λ_=>al trivial) λ_=>al trivial) λx _=>aO (λ_=>al trivial) λ_=>?_
   exact aI (λ_=>al trivial) λ_=>al trivial
  refine aX (λ_=>True) (bA (λ_=>al trivial) λ_=>bA (λ_=>al trivial) λ_=>bA (λ_=>al trivial) λ_=>al trivial) λx _=>aO (λ_=>al trivial) λ_=>?_
  refine aI (λ_=>?_) λ_=>al trivial
  refine db (ey (by dsimp only;omega) (ey (by dsimp only;omega) ?_));refine aw (vG _ _ (c7 htk (by omega))) λv hv=>?_
  refine bA (λ_=>al trivial) λg=>?_
  have h2:=hv.2;rw[bC] at h2;exact aQ g (by dsimp only at h2 ⊢;omega) (aR (bZ (λ_=>al trivial) λ_=>al trivial))
 .rintro⟨a,b,c,d,e⟩ e1;dsimp only at e1;subst e1;exact dc (al trivial)
theorem LR (p:PG) (h:PX p):Ok (m6 p) λ_=>True:=by
 have hd:=h.d;have ht:=h.t;unfold m6 aU bk bt bu jg bD bF aW cK aD cz;refine cf p.2.length (λi x=>x.1=(i:Int)/\x.2=p) ?_ ?_ ⟨rfl,rfl⟩
 .rintro i ⟨a,x⟩ hi ⟨e1,e2⟩;dsimp only at e1 e2;subst e1;have e2:=e2.symm;subst e2;refine dl ?_;refine cw (aR ?_);refine aX (λx=>x.2.1=p) ?_ ?_
  .refine aw (vG _ _ (by dsimp only;omega)) λv hv=>e_ (λ_=>al rfl) λ_=>?_
   refine db (ey (by dsimp only;omega) (ey (by dsimp only;omega) ?_));exact aw (ry _ _ (by rw[bC];dsimp only;omega)) λ_ _=>al rfl
  rintro⟨b,x,z⟩ e;dsimp only at e;have e:=e.symm;subst e;exact aO (λ_=>al trivial) λ_=>al ⟨gK (by omega),rfl⟩
 rintro⟨a,x⟩ ⟨e1,e2⟩;dsimp only at e1 e2;subst e1;have e2:=e2.symm;subst e2;refine dc ?_;refine aw (P:=λ_=>True) ?_ λ_ _=>al trivial
 refine cf p.2.length (λi x=>x.1=(i:Int)/\x.2=p) ?_ ?_ ⟨rfl,rfl⟩
 .rintro i ⟨a,x⟩ hi ⟨e1,e2⟩;dsimp only at e1 e2;subst e1;have e2:=e2.symm;subst e2;refine dl ?_;refine cw (aR ?_);have hm:=h.l _ (bH (T:=xp) (xs:=p.2) (j:=(i:Int)) (by omega) (by omega));revert hm;generalize (aH (T:=xp) p.2 (i:Int))=t;intro hm;refine bA (λ_=>al trivial) λ_=>?_
  refine cf t.2.2.1.length (λk y=>y.1=(k:Int)/\y.2=(p,t)) ?_ ?_ ⟨rfl,rfl⟩
  .rintro k ⟨a,z⟩ hk ⟨J,I⟩;dsimp only at J I;subst J;subst I;refine dl ?_;refine cw (aR ?_);refine aX (λx=>x.2=(p,t)) ?_ ?_
   .refine aw (vG _ _ (by dsimp only;omega)) λv hv=>e_ (λ_=>al rfl) λ_=>?_
    refine aw (ry _ _ (by dsimp only;omega)) λv hv=>e_ (λ_=>al rfl) λ_=>?_
    refine db (ey (by dsimp only;omega) (ey (by dsimp only;omega) ?_));exact aw (xd _ _ (by rw[bC];dsimp only;omega)) λ_ _=>al rfl
   rintro⟨b,x⟩ e;dsimp only at e;subst e;exact aO (λ_=>al trivial) λ_=>al ⟨gK (by omega),rfl⟩
  .rintro⟨a,z⟩ ⟨J,I⟩;dsimp only at J I;subst J;subst I;exact dc (al ⟨gK (by omega),rfl⟩)
 .rintro⟨a,x⟩ ⟨e1,e2⟩;dsimp only at e1 e2;subst e1;have e2:=e2.symm;subst e2;exact dc (al trivial)
structure WQ (w:WK) (y:Int×WK):Prop where
 p:y.2.1=w.1
 a:y.2.2.1=w.2.1
 s:y.2.2.2.1.length<=w.2.2.1.length+1
 t:y.2.2.2.2.length<=w.2.2.2.length+1
theorem WQ.same (w:WK) (e:Int):WQ w (e,w):=⟨rfl,rfl,Nat.le_succ _,Nat.le_succ _⟩
theorem ade (s:Sx) (D:List DT) (T:List HT) (t:Int) (A:Bool×List Sx) (sp se:List (List UInt8)) (hp:PX (D,T)) (hA:A.2.length<=100) (h1:sp.length<=100000000) (h2:se.length<=100000000) (J:∀ e∈s.index,GX 4 e) (he:GX 4 s.expr):Ok (lJ (s,((D,T,t),A,sp,se))) (WQ ((D,T,t),A,sp,se)):=by
 have hex:GX 4 (dP (Xp.op s.expr,Xp.n s.expr,Xp.name s.expr,Xp.l s.expr)):=by rw[eS];exact he
 have hin:∀ (a b:Int) (n:List UInt8),Ok (dJ ((a,b,n),((D,T,t),A,sp,se))) λy=>y.2=((D,T,t),A,sp,se):=λa b n=>Vp a b n _ hA
 have hth:T.length<=1000:=by have:=hp.t;dsimp only at this;omega
 have hdl:D.length<=1000:=by have:=hp.d;dsimp only at this;omega
 have sm:∀ e,WQ ((D,T,t),A,sp,se) (e,((D,T,t),A,sp,se)):=WQ.same _;unfold lJ aU bk bt ct bI dh cQ eU bc jg iO bD bF aD dS;refine aw (hin _ _ _) λy I=>?_
 obtain⟨b1,M⟩:=y;dsimp only at I;subst I;refine ba (by simp) ?_;refine aw (hin _ _ _) λy I=>?_
 obtain⟨b2,M⟩:=y;dsimp only at I;subst I;refine ba (by simp) ?_;refine aw (hin _ _ _) λy I=>?_
 obtain⟨Z,M⟩:=y;dsimp only at I;subst I;refine ba (by simp) ?_;refine aI (λ_=>?_) λ_=>?_
 .refine aI (λ_=>?_) λg=>?_
  .exact aw (om _ hp _ _ _ _) λ_ _=>aw (vF _ hp _ _ hex) λ_ _=>aw (sL _) λ_ _=>al (sm _)
  .refine aw (om _ hp _ _ _ _) λ_ _=>?_
   dsimp only[ar] at g;refine cw (aR ?_);refine aw (vF _ hp _ _ (J _ (bH (T:=.ex) (xs:=s.index) (j:=0) (by omega) (by omega)))) λ_ _=>?_
   exact aw (vF _ hp _ _ hex) λ_ _=>aw (sL _) λ_ _=>aw (sL _) λ_ _=>al (sm _)
 refine aX (λx=>x.2=((D,T,t),A,s,(D,T),sp,se)) (aI (λ_=>al (by dsimp only;rw[wK])) λ_=>al (by dsimp only;rw[wK])) ?_;rintro⟨b,x⟩ e;dsimp only at e;subst e;refine aO (λ_=>aw (vF _ hp _ _ hex) λ_ _=>al (sm _)) λ_=>?_
 refine aI (λ_=>?_) λ_=>?_
 .refine aX (λx=>WQ ((D,T,t),A,sp,se) x) ?_ λx J=>al J
  refine aw (om _ hp _ _ _ _) λ_ _=>aO (λ_=>?_) λ_=>?_
  .exact aw (fc _) λ_ _=>aw (sL _) λ_ _=>al (sm _)
  .refine aw (hin _ _ _) λy I=>?_
   obtain⟨U,M⟩:=y;dsimp only at I;subst I;exact ba (by simp) (aw (fc _) λ_ _=>aw (sL _) λ_ _=>al (sm _))
 refine aX (λx=>x.2=((D,T,t),A,s,(D,T),sp,se)) (aI (λ_=>al (by dsimp only;rw[wK])) λ_=>al (by dsimp only;rw[wK])) ?_;rintro⟨b,x⟩ e;dsimp only at e;subst e;refine aO (λ_=>?_) λ_=>?_
 .refine aX (λx=>WQ ((D,T,t),A,sp,se) x) ?_ λx J=>al J
  refine aw (om _ hp _ _ _ _) λ_ _=>aO (λ_=>?_) λ_=>?_
  .exact aw (fc _) λ_ _=>aw (sL _) λ_ _=>al (sm _)
  .refine aw (hin _ _ _) λy I=>?_
   obtain⟨U,M⟩:=y;dsimp only at I;subst I;exact ba (by simp) (aw (fc _) λ_ _=>aw (sL _) λ_ _=>al (sm _))
 refine aI (λ_=>aw (fc _) λ_ _=>al (sm _)) λ_=>?_
 refine aI (λ_=>?_) λ_=>?_
 .refine aX (λx=>WQ ((D,T,t),A,sp,se) x) ?_ λx J=>al J
  exact aO (λ_=>aw (fc _) λ_ _=>al (sm _)) λ_=>aw (fc _) λ_ _=>al (sm _)
 refine aX (λx=>x.2=((D,T,t),A,s,(D,T),sp,se)) (aI (λ_=>al (by dsimp only;rw[wK])) λ_=>aI (λ_=>al (by dsimp only;rw[wK])) λ_=>al (by dsimp only;rw[wK])) ?_;rintro⟨b,x⟩ e;dsimp only at e;subst e;refine aO (λ_=>?_) λ_=>?_
 .refine aw (om _ hp _ _ _ _) λr hr=>bZ (λ_=>al (sm _)) λg=>?_
  obtain⟨v,hv,v0,Y⟩:=hr g (by omega) (by omega);refine aT hv (aQ v0 Y (aR ?_));refine aw (hin _ _ _) λy I=>?_
  obtain⟨U,M⟩:=y;dsimp only at I;subst I;refine ba (by simp) ?_;refine aX (λx=>WQ ((D,T,t),A,sp,se) x) ?_ λx J=>al J
  refine aO (λ_=>aw (fc _) λ_ _=>al (sm _)) λ_=>dW (λ_=>aw (fc _) λ_ _=>al (sm _)) λ_=>?_
  exact aI (λ_=>aw (fc _) λ_ _=>al (sm _)) λ_=>aw (fc _) λ_ _=>al (sm _)
 refine aI (λ_=>?_) λ_=>?_
 .refine aw (om _ hp _ _ _ _) λr hr=>bZ (λ_=>al (sm _)) λg=>?_
  refine aw (ry T _ hth) λv hv=>?_
  refine aX (λx=>x.2=((D,T,t),A,s,sp,se)) ?_ ?_
  .refine aO (λ_=>al (by dsimp only;rw[wK])) λ_=>aO (λ_=>al (by dsimp only;rw[wK])) λ_=>aO (λ_=>al (by dsimp only;rw[wK])) λ_=>aI (λ_=>al (by dsimp only;rw[wK])) λ_=>al (by dsimp only;rw[wK])
  rintro⟨b,x⟩ e;dsimp only at e;subst e;refine aO (λ_=>al (sm _)) λ_=>?_
  refine aw (xd sp _ (by omega)) λ_ _=>e_ (λ_=>al (sm _)) λ_=>?_
  exact bf (by simp;omega) (by omega) (al ⟨rfl,rfl,by simp,Nat.le_succ _⟩)
 refine aI (λ_=>?_) λ_=>?_
 .refine aX (λx=>WQ ((D,T,t),A,sp,se) x) ?_ λx J=>al J
  refine aw (om _ hp _ _ _ _) λr hr=>?_
  refine aO (λ_=>aw (fc _) λ_ _=>aw (sL _) λ_ _=>al (sm _)) λ_=>?_
  refine aO (λ_=>aw (fc _) λ_ _=>aw (sL _) λ_ _=>al (sm _)) λ_=>?_
  exact aw (ry T _ hth) λv hv=>aw (fc _) λ_ _=>aw (sL _) λ_ _=>al (sm _)
 refine aI (λ_=>?_) λ_=>?_
 .refine aX (λx=>x.2=((D,T,t),A,s,(D,T),sp,se)) ?_ ?_
  .refine aw (om _ hp _ _ _ _) λr hr=>?_
   exact aO (λ_=>aw (fc _) λ_ _=>aw (sL _) λ_ _=>al (by dsimp only;rw[wK])) λ_=>aw (fc _) λ_ _=>aw (sL _) λ_ _=>al (by dsimp only;rw[wK])
  rintro⟨b,x⟩ e;dsimp only at e;subst e;refine aX (λx=>x.2=((D,T,t),A,s,(D,T),sp,se)) ?_ ?_
  .refine aX (λx=>x.2=((D,T,t),A,s,(D,T),sp,se)) ?_ ?_
   .exact aI (λ_=>aw (xd se _ (by omega)) λ_ _=>al (by dsimp only;rw[wK])) λ_=>al (by dsimp only;rw[wK])
   rintro⟨b,x⟩ e;dsimp only at e;subst e;exact aO (λ_=>al (by dsimp only;rw[wK])) λ_=>al (by dsimp only;rw[wK])
  rintro⟨b,x⟩ e;dsimp only at e;subst e;refine bf (by simp;omega) (by omega) ?_;exact aw (vF _ hp _ _ hex) λ_ _=>aw (sL _) λ_ _=>al ⟨rfl,rfl,Nat.le_succ _,by simp⟩
 exact aw (om _ hp _ _ _ _) λ_ _=>aw (om _ hp _ _ _ _) λ_ _=>aw (fc _) λ_ _=>aw (sL _) λ_ _=>aw (sL _) λ_ _=>al (sm _)
abbrev RA4:Type:=(List Sx×WK)->Option ((Int×Int)×WK)
structure QA (l:List Sx) (d:Nat) (w:WK) (y:(Int×Int)×WK):Prop where
 p:y.2.1=w.1
 a:y.2.2.1.2.length=w.2.1.2.length
 s:y.2.2.2.1.length<=w.2.2.1.length+l.length*KS d
 t:y.2.2.2.2.length<=w.2.2.2.length+l.length*KS d
def SpA (rr:RA4) (d:Nat):Prop:=∀ (l:List Sx) (w:WK),l.length<=100->(∀ s∈l,GT d s)->PX (w.1.1,w.1.2.1)->w.2.1.2.length+d<=50->w.2.2.1.length+l.length*KS d<=100000000->w.2.2.2.length+l.length*KS d<=100000000->Ok (rr (l,w)) (QA l d w)
theorem aa9 (rr:RA4) (d:Nat) (hr:∀ d',d=d'+1->SpA rr d'):SpA (lQ rr) d:=by
 rintro l ⟨⟨D,T,t⟩,A,sp,se⟩ hl hg hp hA h1 h2;dsimp only at hp hA h1 h2;have hK:∀ i:Nat,i<=l.length->i*KS d<=l.length*KS d:=λi hi=>cA _ hi
 unfold lQ aU bk bt bI dh cQ ck bc bu iO bD bF aW cK aD cz dS;refine cf l.length (λi x=>x.1=(i:Int)/\x.2.1=(D,T,t)/\x.2.2.1.2.length=A.2.length/\x.2.2.2.1.length<=sp.length+i*KS d/\x.2.2.2.2.length<=se.length+i*KS d) ?_ ?_ ⟨rfl,rfl,rfl,by simp,by simp⟩
 .rintro i ⟨a,P,A',sp',se'⟩ hi ⟨e1,e2,e3,Y,U⟩;dsimp only at e1 e2 e3 Y U;subst e1;subst e2;have hKi:=hK (i+1) (by omega);have hKs:=iB i (KS d);rw[Nat.succ_eq_add_one] at hKs;refine dl ?_;refine cw (aR ?_);have hm:=hg _ (bH (T:=.sm) (xs:=l) (j:=(i:Int)) (by omega) (by omega));revert hm;generalize (aH (T:=.sm) l (i:Int))=s;intro hm;cases d with
  |zero=>exact hm.elim
  |succ d=>
   have hR:=hr d rfl;obtain⟨_,g2,g3,g4,g5,g6,g7⟩:=hm;have hk:KS (d+1)=1+16*KS d:=rfl;have kb:s.body.length*KS d<=8*KS d:=cA _ g4;have ke:s.els.length*KS d<=8*KS d:=cA _ g5;dsimp only;rw[wK];refine aw (ade s D T t A' sp' se' hp (by omega) (by omega) (by omega) g2 g3) λy M=>?_
   obtain⟨e,P2,A2,sp2,se2⟩:=y;obtain⟨J,I,q3,q4⟩:=M;dsimp only at J I q3 q4;subst J;subst I;refine ba (by simp) ?_;refine aX (λx=>x.2=((D,T,t),s,A2,sp2,se2)) (bA (λ_=>al rfl) λ_=>al rfl) ?_;rintro⟨e,x⟩ ex;dsimp only at ex;subst ex;refine bZ (λ_=>al ⟨rfl,e3,by dsimp only;omega,by dsimp only;omega⟩) λ_=>?_
   refine bf (by simp;omega) (by omega) (aQ (by simp) (by simp;omega) (aQ (by simp) (by simp;omega) ?_));dsimp only;rw[wK];refine aw (hR s.body ((D,T,t),(A2.1,cJ (A2.2++[_]) _ s),sp2,se2) (by omega) g6 hp ?_ ?_ ?_) λy M=>?_
   .dsimp only;rw[bU];simp;omega
   .dsimp only;omega
   .dsimp only;omega
   obtain⟨e6,P6,A6,sp6,se6⟩:=y;obtain⟨J,I,q5,q6⟩:=M;dsimp only at J I q5 q6;subst J;rw[bU,bn,gf] at I;refine ba (by simp) ?_;refine aX (λx=>x.2.1=(D,T,t)/\x.2.2.1.2.length=A2.2.length+1/\x.2.2.2.1.length<=sp2.length+16*KS d/\x.2.2.2.2.length<=se2.length+16*KS d) ?_ ?_
   .refine aI (λ_=>?_) λ_=>al ⟨rfl,I,by dsimp only;omega,by dsimp only;omega⟩
    refine aw (hR s.els ((D,T,t),A6,sp6,se6) (by omega) g7 hp (by dsimp only;omega) (by dsimp only;omega) (by dsimp only;omega)) λy M=>?_
    obtain⟨e7,P7,A7,sp7,se7⟩:=y;obtain⟨r1,r2,r5,Z⟩:=M;dsimp only at r1 r2 r5 Z;subst r1;exact ba (by simp) (al ⟨rfl,r2.trans I,by dsimp only;omega,by dsimp only;omega⟩)
   rintro⟨e8,P8,A8,sp8,se8⟩ ⟨r1,r2,r5,Z⟩;dsimp only at r1 r2 r5 Z;subst r1;have el:bg .i64 ((aN A8.2.length)-1)=(A2.2.length:Int):=by
    rw[r2,ie (by simp<;>omega) (by simp<;>omega)];simp<;>omega
   dsimp only;rw[el];have tk:(dE (aS (A2.2.length:Int)) A8.2).length=A2.2.length:=by rw[bC];omega
   refine db (ey (by omega) (yG (by rw[r2];omega) ?_));refine bZ (λ_=>al ⟨rfl,by dsimp only;omega,by dsimp only;omega,by dsimp only;omega⟩) λ_=>al ?_
   exact⟨gK (by omega),rfl,by dsimp only;omega,by dsimp only;omega,by dsimp only;omega⟩
 .rintro⟨a,P,A',sp',se'⟩ ⟨e1,e2,e3,Y,U⟩;dsimp only at e1 e2 e3 Y U;subst e1;subst e2;exact dc (al ⟨rfl,e3,Y,U⟩)
theorem UB:∀ (n d:Nat),d<n->SpA (ij n) d
 |0,_,h=>by omega
 |n+1,d,h=>aa9 (ij n) d λI hd=>UB n I (by omega)
theorem CH (p:PG) (h:PX p):Ok (eV p) λr=>r.1=0->(p.2.map λt=>mT 5 t.2.2.2).sum<=60:=by
 have hd:=h.d;have ht:=h.t;unfold eV aU bk bt bI cQ bu iO bD bF aW cK aD cz;refine aw (WA p h) λ_ _=>dW (λ_=>al λh=>(by cases h)) λ_=>?_
 refine aw (Sg p.1 hd) λ_ _=>bZ (λhn=>al λh=>(hn h).elim) λ_=>bA (λ_=>al λh=>(by cases h)) λ_=>?_
 refine aw (LR p h) λ_ _=>bZ (λhn=>al λh=>(hn h).elim) λ_=>?_
 have J:KS 5=69905:=rfl;refine cf p.2.length (λi x=>x.1.2=(i:Int)/\x.2=p/\x.1.1=((((p.2.take i).map λt=>mT 5 t.2.2.2).sum:Nat):Int)/\(x.1.1:Int)<=((i*6990500:Nat):Int)) ?_ ?_ ⟨rfl,rfl,by simp,by simp⟩
 .rintro i ⟨⟨(c:Int),a⟩,x⟩ hi ⟨e1,e2,e3,I⟩;dsimp only at e1 e2 e3 I;subst e1;have e2:=e2.symm;subst e2;refine dl ?_;refine cw (aR ?_);have hm:=bH (T:=xp) (xs:=p.2) (j:=(i:Int)) (by omega) (by omega);have hb:=h.b _ hm;have hcb:=YD (h.s _ hm);have hcb2:=cA (KS 5) hb;rw[J] at hcb hcb2;refine aT (Dy fuel 5 _ (by rw[jA];omega) (c7 hb (by omega)) (h.s _ hm) (by rw[J];omega)) (al ⟨gK (by omega),rfl,?_,?_⟩)
  .dsimp only;rw[nB (T:=xp) hi,cI,D6,ie (by omega) (by omega),e3];simp
  .dsimp only;rw[ie (by omega) (by omega)];omega
 rintro⟨⟨(c:Int),a⟩,x⟩ ⟨e1,e2,e3,I⟩;dsimp only at e1 e2 e3 I;subst e1;have e2:=e2.symm;subst e2;rw[cL] at e3;refine dc ?_;refine aw (P:=λr=>r.1=0->(p.2.map λt=>mT 5 t.2.2.2).sum<=60) ?_ λ_ h=>al h
 refine bA (λ_=>al λh=>(by cases h)) λM=>?_
 have M:c<=60:=M;refine cf p.2.length (λi x=>x.1=(i:Int)/\x.2.1=p/\x.2.2.1.1=p.1/\x.2.2.1.2.1=p.2/\x.2.2.2.1.2.length=0/\x.2.2.2.2.1.length<=i*6990500/\x.2.2.2.2.2.length<=i*6990500) ?_ ?_ ⟨rfl,rfl,rfl,rfl,rfl,by simp,by simp⟩
 .rintro i ⟨a,x,⟨D,T,t⟩,A,sp,se⟩ hi ⟨e1,e2,e3,I,e5,e6,e7⟩;dsimp only at e1 e2 e3 I e5 e6 e7;subst e1;have e2:=e2.symm;subst e2;subst e3;subst I;refine dl ?_;refine cw (aR ?_);have hm:=bH (T:=xp) (xs:=p.2) (j:=(i:Int)) (by omega) (by omega);have hb:=h.b _ hm;have hs:=h.s _ hm;revert hb hs;dsimp only;generalize (aH (T:=xp) p.2 (i:Int))=th;intro hb hs;have hk:KS 5=69905:=rfl;have hle:th.2.2.2.length*KS 5<=100*KS 5:=cA _ hb;rw[hk] at hle;refine aw (UB fuel 5 (by rw[jA];omega) th.2.2.2 ((p.1,p.2,(i:Int)),A,sp,se) hb hs h (by dsimp only;omega) (by dsimp only;rw[hk];omega) (by dsimp only;rw[hk];omega)) λy Z=>?_
  obtain⟨e,P2,A2,sp2,se2⟩:=y;obtain⟨U,Y,q3,q4⟩:=Z;dsimp only at U Y q3 q4;subst U;rw[hk] at q3 q4;refine ba (by simp) (bZ (λhn=>al λh=>(hn h).elim) λ_=>al ?_);exact⟨gK (by omega),rfl,rfl,rfl,by dsimp only;omega,by dsimp only;omega,by dsimp only;omega⟩
 .rintro⟨a,x,P,w⟩ ⟨e1,e2,_⟩;dsimp only at e1 e2;subst e1;have e2:=e2.symm;subst e2;exact dc (al λ_=>by omega)
theorem cU {R:Type} {o o':Option R} {Q:R->Prop} (h:o=o') (hk:Ok o' Q):Ok o Q:=h▸hk
def D0:List DT:=[(1,0,[120],0,0,[]),(1,0,[121],0,1,[]),(2,0,[118],0,0,[]),(1,0,[113],2,0,[]),(3,0,[109],0,0,[]),(3,0,[110],0,0,[]),(4,0,[114],0,0,[]),(5,0,[99],0,0,[109]),(6,0,[102],0,0,[])]
def L0:List (List UInt8):=[[97],[98]]
set_option maxHeartbeats 20000000 in
theorem agt:∃ r,eV (D0,[([109,97,105,110],0,L0,[m_ (1,0,[120],[],[],dP (1,1,[],[]),[],[])])])=aa r/\r.1=0:=by
 suffices h:Ok (eV (D0,[([109,97,105,110],0,L0,[m_ (1,0,[120],[],[],dP (1,1,[],[]),[],[])])])) λr=>r.1=0 by
  obtain⟨y,h1,h2⟩:=h;exact⟨y,h1,h2⟩
 unfold eV aU bk bt bI cQ bu iO bD bF aW cK aD cz;with_reducible repeat' first|exact al rfl|refine Uh ?_|refine Ug ?_|refine Uf ?_|refine Ud ?_|refine N8 ?_|refine ZU ?_|refine aR ?_|refine fg rfl ?_|refine fy rfl ?_|refine ba rfl ?_|refine Ue ?_|refine N9 ?_|refine cU (oZ.eq_1 ..) ?_|refine cU (jJ.eq_1 ..) ?_|refine cU (eR.eq_1 ..) ?_|refine cU (jp.eq_1 ..) ?_|refine cU (jW.eq_1 ..) ?_|refine cU (kO.eq_1 ..) ?_|refine cU (oL.eq_1 ..) ?_|refine cU (qr.eq_1 ..) ?_|refine cU (m7.eq_1 ..) ?_|refine cU (jd.eq_1 ..) ?_|refine cU (jL.eq_1 ..) ?_|refine cU (lA.eq_1 ..) ?_|refine cU (iL.eq_1 ..) ?_|refine cU (lM.eq_1 ..) ?_|refine cU (oK.eq_1 ..) ?_|refine cU (qp.eq_1 ..) ?_|refine cU (gQ.eq_1 ..) ?_|refine cU (m6.eq_1 ..) ?_|refine cU (gC.eq_1 ..) ?_|refine cU (iH.eq_1 ..) ?_|refine cU (As.eq_1 ..) ?_|refine cU (s9.eq_1 ..) ?_|refine cU (ut.eq_1 ..) ?_|refine cU (lQ.eq_1 ..) ?_|refine cU (lJ.eq_1 ..) ?_|refine cU (dJ.eq_1 ..) ?_|refine cU (gj.eq_1 ..) ?_|refine cU (oY.eq_1 ..) ?_|refine cU (lK.eq_1 ..) ?_|refine cU (Ar.eq_1 ..) ?_|refine cU (s8.eq_1 ..) ?_|refine cU (Aq.eq_1 ..) ?_|refine cU (s7.eq_1 ..) ?_|refine cU (iG.eq_1 ..) ?_|refine cU (cS.eq_1 ..) ?_|refine cU (ck.eq_1 ..) ?_|refine cU (congrFun (gA du jA) _) ?_|refine cU (xi _ _) ?_|refine cU (congrFun (gA dY jA) _) ?_|refine cU (xP _ _) ?_|refine cU (congrFun (gA gR jA) _) ?_|refine cU (rm _ _) ?_|refine cU (congrFun (gA mL jA) _) ?_|refine cU (wS _ _) ?_|refine cU (congrFun (gA ij jA) _) ?_|refine cU (AD _ _) ?_|refine cU (congrFun (gA mK jA) _) ?_|refine cU (wR _ _) ?_|refine cU (congrFun (gA mJ jA) _) ?_|refine cU (wQ _ _) ?_
 all_goals trace_state
structure TM (nT:Nat) (t:HT):Prop where
 l:t.2.2.1=L0
 b:t.2.2.2.length<=8
 s:∀ s∈t.2.2.2,GS nT 3 s
structure PJ (p:PG):Prop where
 d:p.1=D0
 t0:1<=p.2.length
 t:p.2.length<=4
 m:∀ t∈p.2,TM p.2.length t
 n:p.2.map Prod.fst=uJ.take p.2.length
theorem PJ.x {p:PG} (h:PJ p):PX p:=⟨by rw[h.d];decide,by have:=h.t;omega,λt ht=>by rw[(h.m t ht).l];decide,λt ht=>by have:=(h.m t ht).b;omega,λt ht s hs=>((h.m t ht).s s hs).le (by omega:3<=5) |>.t⟩
theorem Po:rf ()=aa D0:=rfl
theorem Y5:∀ m:Nat,m<5->∀ j:Nat,j<m->aH (T:=.str) uJ (j:Int)∈uJ.take m:=by decide
theorem NL {nT:Nat} (op:Int) {n:List UInt8} (J:op=12\/op=13) (hn:n∈uJ.take nT):GS nT 3 (m_ (op,0,n,[],[],dP (0,0,[],[]),[],[])):=GS.wo (by omega) (by simp) (λx I=>(by cases I)) (by rcases J with rfl|rfl<;>(constructor<;>simp[Sx.op,Sx.name,Sx.index,Sx.arg,Sx.els,Sx.body]<;>exact hn))
theorem Fl (x:List Int) (hl:x.length<=9223372036854775807) (hx:∀ z∈x,0<=z/\z<=255):Ok (nZ x) λp=>PJ p/\∃ r,eV p=aa r/\r.1=0:=by
 unfold nZ aU bk bt ct em ka yz bI eU lY pg Prod.q9 bc bu iO bD kK cK aD cz dS;refine aT Po ?_;refine aw (fU 3 (x,0) ⟨hl,hx,by dsimp only;omega,by dsimp only;omega⟩) λy J=>?_
 obtain⟨n,t0⟩:=y;obtain⟨s0,n0,n1,_⟩:=J;have n1:=n1 (by decide);dsimp only at s0 n0 n1;have ew:bg .i64 (2+n)=2+n:=ie (by omega) (by omega);obtain⟨nT,hnT⟩:∃ m:Nat,2+n=(m:Int):=⟨(2+n).toNat,by omega⟩
 refine cf nT (λi x=>x.1=(i:Int)/\x.2.2.1=D0/\x.2.2.2.1=uJ/\TP x.2.2.2.2.1/\x.2.2.2.2.2.1.2=[]/\x.2.2.2.2.2.2.map Prod.fst=uJ.take i/\∀ t∈x.2.2.2.2.2.2,TM nT t) ?_ ?_ ⟨rfl,rfl,rfl,s0.p,rfl,rfl,λt ht=>(by cases ht)⟩
 .rintro i ⟨a,m,D,N,t,h,th⟩ hi ⟨e1,e2,e3,e4,e5,e6,e7⟩;dsimp only at e1 e2 e3 e4 e5 e6 e7;subst e1;subst e2;refine bA (λg=>?_) λg=>(by dsimp only at g;rw[ew] at g;omega)
  have l4:N.length=4:=by rw[e3];rfl
  refine cw (cw (aR ?_));have hthl:th.length=i:=by have:=gA ak e6;rw[b8,bC] at this;have q4:uJ.length=4:=rfl;omega
  refine aX (λx=>x.2.2.2.1.1=aH (T:=.str) N (i:Int)/\x.2.1=D0/\x.2.2.1=uJ/\TP x.2.2.2.2.1/\x.2.2.2.2.2.1.2=[]/\x.2.2.2.2.2.2.1=th/\x.2.2.2.2.2.2.2.1=L0/\x.2.2.2.2.2.2.2.2.length<=3/\∀ s∈x.2.2.2.2.2.2.2.2,GS nT 3 s) ?_ ?_
  .refine aI (λ_=>?_) λ_=>al ⟨rfl,rfl,e3,e4,e5,rfl,rfl,by simp,λs hs=>(by cases hs)⟩
   refine cf (1+n).toNat (λk x=>x.2.2.2.2.1.1=aH (T:=.str) N (i:Int)/\x.1=1+(k:Int)/\x.2.2.1=D0/\x.2.2.2.1=uJ/\TP x.2.2.2.2.2.1/\x.2.2.2.2.2.2.1.2=[]/\x.2.2.2.2.2.2.2.1=th/\x.2.2.2.2.2.2.2.2.1=L0/\x.2.2.2.2.2.2.2.2.2.length<=k/\∀ s∈x.2.2.2.2.2.2.2.2.2,GS nT 3 s) ?_ ?_ ⟨rfl,rfl,rfl,e3,e4,e5,rfl,rfl,by simp,λs hs=>(by cases hs)⟩
   .rintro k ⟨c,m1,D1,N1,z1,t1,h1,th1,l1,b1⟩ hk ⟨fz,f1,f2,I,Z,M,f6,Y,f8,U⟩;dsimp only at fz f1 f2 I Z M f6 Y f8 U;subst f1;refine bA (λ_=>?_) λg=>(by dsimp only at g;rw[ew] at g;omega)
    have l41:N1.length=4:=by rw[I];rfl
    refine cw (cw (aR ?_));refine bf (by simp;omega) (by omega) (al ?_);dsimp only;rw[ie (n:=1+(k:Int)+1) (by omega) (by omega)];refine ⟨fz,by omega,f2,I,Z,M,f6,Y,by simp;omega,λs hs=>?_⟩;rcases bR.1 hs with hs|hs
    .exact U s hs
    .rw[aK] at hs;rw[hs];refine NL 12 (.inl rfl) ?_;rw[I,show 1+(k:Int)=((1+k:Nat):Int) by omega];exact Y5 nT (by omega) (1+k) (by omega)
   .rintro⟨c,m1,D1,N1,z1,t1,h1,th1,l1,b1⟩ ⟨fz,f1,f2,I,Z,M,f6,Y,f8,U⟩;dsimp only at fz f1 f2 I Z M f6 Y f8 U;subst f1;refine bA (λg=>(by dsimp only at g;rw[ew] at g;omega)) λ_=>al ?_
    exact⟨fz,f2,I,Z,M,f6,Y,by dsimp only;omega,U⟩
  rintro⟨m1,D1,N1,z1,t1,h1,th1,l1,b1⟩ ⟨fz,f2,I,Z,M,f6,Y,f8,U⟩;dsimp only at fz f2 I Z M f6 Y f8 U;subst f2;subst f6;subst Y;refine aw (fU 3 t1 Z) λy J=>?_
  obtain⟨k2,t2⟩:=y;obtain⟨u1,u2,u3,_⟩:=J;have u3:=u3 (by decide);dsimp only at u1 u2 u3;dsimp only;rw[ie (n:=1+k2) (by omega) (by omega)];refine aw (Vj (nT:=nT) 2 (by omega) (1+k2) m1 t2 h1 (by omega) u1.p (by rw[M];simp)) λy J=>?_
  obtain⟨m3,t3,h3,l3⟩:=y;obtain⟨w1,w2,w3,w4⟩:=J;dsimp only at w1 w2 w3 w4;refine ba (by simp) (bf (by simp;omega) (by omega) ?_);have hbody:∀ s∈b1++l3,GS nT 3 s:=λs hs=>by
   rcases bR.1 hs with hs|hs
   .exact U s hs
   .exact w2 s hs
  have hlen:(b1++l3).length<=6:=by rw[bn];omega
  refine aX (λx=>x.2.2.2.1.1=aH (T:=.str) N (i:Int)/\x.2.1=D0/\x.2.2.1=uJ/\TP x.2.2.2.2.1/\x.2.2.2.2.2.1.2=[]/\x.2.2.2.2.2.2.1=th1/\x.2.2.2.2.2.2.2.1=L0/\x.2.2.2.2.2.2.2.2.length<=8/\∀ s∈x.2.2.2.2.2.2.2.2,GS nT 3 s) ?_ ?_
  .refine aX (λx=>x.2.2.2.2.1.1=aH (T:=.str) N (i:Int)/\x.2.2.1=D0/\x.2.2.2.1=uJ/\TP x.2.2.2.2.2.1/\x.2.2.2.2.2.2.1.2=[]/\x.2.2.2.2.2.2.2.1=th1/\x.2.2.2.2.2.2.2.2.1=L0/\x.2.2.2.2.2.2.2.2.2=b1++l3) ?_ ?_
   .refine aI (λ_=>?_) λ_=>al ⟨fz,rfl,I,w3.p,w4.trans M,rfl,rfl,rfl⟩
    exact aw (fU 3 t3 w3.p) λy J=>al ⟨fz,rfl,I,J.1.p,w4.trans M,rfl,rfl,rfl⟩
   rintro⟨b,m4,D4,N4,z4,t4,h4,th4,l4,b4⟩ ⟨pz,p2,p3,p4,p5,p6,p7,p8⟩;dsimp only at pz p2 p3 p4 p5 p6 p7 p8;subst p2;subst p6;subst p7;subst p8;have l44:N4.length=4:=by rw[p3];rfl
   refine aO (λ_=>?_) λ_=>al ⟨pz,rfl,p3,p4,p5,rfl,rfl,by dsimp only;omega,hbody⟩
   refine cw (cw (aR ?_));refine bf (by simp at hlen ⊢;omega) (by omega) (al ⟨pz,rfl,p3,p4,p5,rfl,rfl,by dsimp only;rw[bn,gf];omega,λs hs=>?_⟩);rcases bR.1 hs with hs|hs
   .exact hbody s hs
   .rw[aK] at hs;rw[hs];refine NL 13 (.inr rfl) ?_;rw[p3];exact Y5 nT (by omega) 1 (by omega)
  rintro⟨m4,D4,N4,z4,t4,h4,th4,l4,b4⟩ ⟨pz,p2,p3,p4,p5,p6,p7,p8,p9⟩;dsimp only at pz p2 p3 p4 p5 p6 p7 p8 p9;subst p2;subst p6;subst p7;refine bf (by simp;omega) (by omega) (al ?_);dsimp only;refine ⟨gK (by omega),rfl,p3,p4,p5,by rw[nB (T:=.str) (xs:=uJ) (i:=i) (by have q4:uJ.length=4:=rfl;omega),cI,e6,<-e3];show _++[z4.1]=_;rw[pz],λt ht=>?_⟩;rcases bR.1 ht with ht|ht
  .exact e7 t ht
  .rw[aK] at ht;rw[ht];exact⟨rfl,p8,p9⟩
 .rintro⟨a,m,D,N,t,h,th⟩ ⟨e1,e2,e3,e4,e5,e6,e7⟩;dsimp only at e1 e2 e3 e4 e5 e6 e7;subst e1;subst e2;refine bA (λg=>(by dsimp only at g;rw[ew] at g;omega)) λ_=>?_
  have hthl:th.length=nT:=by have:=gA ak e6;rw[b8,bC] at this;have q4:uJ.length=4:=rfl;omega
  have hpm:PJ (D0,th):=⟨rfl,by dsimp only;omega,by dsimp only;omega,by dsimp only;rw[hthl];exact e7,by dsimp only;rw[hthl];exact e6⟩
  refine aw (P:=λp=>PJ p/\∃ r,eV p=aa r/\r.1=0) ?_ λr hr=>al hr
  obtain⟨y,J,_⟩:=CH (D0,th) hpm.x;refine aT J (bZ (λ_=>?_) λh=>al ⟨hpm,y,J,h⟩);refine aT Po (aT (L8 _) (aT (sH _ _) (al ?_)));refine ⟨⟨rfl,by simp,by simp,λt ht=>?_,rfl⟩,agt⟩;simp only[aK] at ht;rw[ht];refine ⟨rfl,by simp,λs hs=>?_⟩;simp only[aK] at hs;rw[hs,eS,xr];exact GS.asg (by decide) (GE.num _ 3)
abbrev iA (l:List IT) (k:Nat):IT:=aH (T:=Aa) l (k:Int)
def JT (l:List IT) (ρ:Nat->Nat) (a e k:Nat):Prop:=(iA l k).1=5->∃ k':Nat,(iA l k).2.1=(k':Int)/\(k'=e\/a<=k'/\k'<e/\ρ k'<ρ k)
def pT (l:List IT) (a e:Nat):Prop:=a<=e/\∃ ρ:Nat->Nat,∀ k,a<=k->k<e->1<=ρ k/\ρ k<=e-a/\JT l ρ a e k/\((iA l k).1<5->k+1=e\/ρ (k+1)<ρ k)
theorem pT.nil (l:List IT) (a:Nat):pT l a a:=⟨bQ _,λ_=>0,λk h1 h2=>by omega⟩
theorem pT.one {l:List IT} {a:Nat} (h:¬(iA l a).1=5):pT l a (a+1):=⟨by omega,λ_=>1,λk h1 h2=>⟨bQ 1,by show 1<=a+1-a;omega,λI=>by rw[show k=a by omega] at I;exact (h I).elim,λ_=>.inl (by omega)⟩⟩
theorem pT.congr {l I:List IT} {a e:Nat} (h:pT l a e) (hc:∀ k,a<=k->k<e->iA I k=iA l k):pT I a e:=by
 obtain⟨h1,ρ,h2⟩:=h;exact⟨h1,ρ,λk M J=>by unfold JT;rw[hc k M J];exact h2 k M J⟩
theorem pT.app {l:List IT} {a b c:Nat} (h:pT l a b) (k:pT l b c):pT l a c:=by
 obtain⟨h1,ρ,h2⟩:=h;obtain⟨k1,σ,k2⟩:=k;refine ⟨by omega,λk=>if k<b then ρ k+(c-b) else σ k,λk Y U=>?_⟩;by_cases hk:k<b
 .obtain⟨J,M,q3,q4⟩:=h2 k Y hk;simp only[aJ hk];refine ⟨by omega,by omega,?_,λI=>?_⟩
  .intro I;simp only[aJ hk];obtain⟨k',e,r⟩:=q3 I;refine ⟨k',e,?_⟩;rcases r with r|⟨r1,r2,r3⟩
   .subst r;by_cases hc:k'=c
    .exact .inl hc
    .have:=(k2 k' (bQ _) (by omega)).2.1;rw[aC (Bb _)];exact .inr ⟨by omega,by omega,by omega⟩
   .rw[aJ r2];exact .inr ⟨r1,by omega,by omega⟩
  .rcases q4 I with r|r
   .by_cases hc:k+1=c
    .exact .inl hc
    .have:=(k2 (k+1) (by omega) (by omega)).2.1;rw[aC (by omega)];exact .inr (by omega)
   .by_cases hb:k+1<b
    .rw[aJ hb];exact .inr (by omega)
    .rw[aC hb];by_cases hc:k+1=c
     .exact .inl hc
     .have:=(k2 (k+1) (by omega) (by omega)).2.1;exact .inr (by omega)
 .obtain⟨J,M,q3,q4⟩:=k2 k (by omega) U;simp only[aC hk];refine ⟨J,by omega,?_,λI=>?_⟩
  .intro I;simp only[aC hk];obtain⟨k',e,r⟩:=q3 I;refine ⟨k',e,r.imp id λ⟨r1,r2,r3⟩=>⟨by omega,r2,?_⟩⟩;rw[aC (by omega)];exact r3
  .rw[aC (by omega)];exact q4 I
theorem pT.ite {l:List IT} {a j e:Nat} (h:pT l a j) (hj:(iA l j).1=5) (U:(iA l j).2.1=(e:Int)) (k:pT l (j+1) e):pT l a e:=by
 obtain⟨h1,ρ,h2⟩:=h;obtain⟨k1,σ,k2⟩:=k;refine ⟨by omega,λk=>if k<j then ρ k+(e-j) else if k=j then e-j else σ k,λk Z Y=>?_⟩;by_cases hk:k<j
 .obtain⟨J,M,q3,q4⟩:=h2 k Z hk;simp only[aJ hk];refine ⟨by omega,by omega,?_,λI=>?_⟩
  .intro I;simp only[aJ hk];obtain⟨k',e',r⟩:=q3 I;refine ⟨k',e',.inr ?_⟩;rcases r with r|⟨r1,r2,r3⟩
   .rw[r,aC (Bb _),aJ rfl];exact⟨by omega,by omega,by omega⟩
   .rw[aJ r2];exact⟨r1,by omega,by omega⟩
  .refine .inr ?_;by_cases hb:k+1<j
   .rw[aJ hb];rcases q4 I with r|r<;>omega
   .rw[aC hb,aJ (by omega)];omega
 .by_cases hkj:k=j
  .subst hkj;simp only[aC hk,aJ];exact⟨by omega,by omega,λ_=>⟨e,U,.inl rfl⟩,λI=>by rw[hj] at I;omega⟩
  .obtain⟨J,M,q3,q4⟩:=k2 k (by omega) Y;simp only[aC hk,aC hkj];refine ⟨J,by omega,?_,λI=>?_⟩
   .intro I;simp only[aC hk,aC hkj];obtain⟨k',e',r⟩:=q3 I;refine ⟨k',e',r.imp id λ⟨r1,r2,r3⟩=>⟨by omega,r2,?_⟩⟩;rw[aC (by omega),aC (by omega)];exact r3
   .rw[aC (by omega),aC (by omega)];exact q4 I
theorem pT.whl {l:List IT} {a c j:Nat} (h:pT l a c) (hc:(iA l c).1=10) (k:pT l (c+1) j) (hj:(iA l j).1=5) (Y:(iA l j).2.1=(a:Int)):pT l a (j+1):=by
 obtain⟨h1,ρ,h2⟩:=h;obtain⟨k1,σ,k2⟩:=k;refine ⟨by omega,λk=>if k<c then ρ k+1 else if k=c then 1 else if k<j then σ k+(c-a)+2 else c-a+2,λk Z g2=>?_⟩;by_cases hk:k<c
 .obtain⟨U,M,q3,q4⟩:=h2 k Z hk;simp only[aJ hk];refine ⟨by omega,by omega,?_,λI=>?_⟩
  .intro I;simp only[aJ hk];obtain⟨k',e',r⟩:=q3 I;refine ⟨k',e',.inr ?_⟩;rcases r with r|⟨r1,r2,r3⟩
   .rw[r,aC (Bb _),aJ rfl];exact⟨by omega,by omega,by omega⟩
   .rw[aJ r2];exact⟨r1,by omega,by omega⟩
  .refine .inr ?_;by_cases hb:k+1<c
   .rw[aJ hb];rcases q4 I with r|r<;>omega
   .rw[aC hb,aJ (by omega)];omega
 .by_cases hkc:k=c
  .subst hkc;simp only[aC hk,aJ];exact⟨by omega,by omega,λI=>by rw[hc] at I;omega,λI=>by rw[hc] at I;omega⟩
  .simp only[aC hk,aC hkc];by_cases hkj:k<j
   .obtain⟨U,M,q3,q4⟩:=k2 k (by omega) hkj;simp only[aJ hkj];refine ⟨by omega,by omega,?_,λI=>?_⟩
    .intro I;simp only[aC hk,aC hkc,aJ hkj];obtain⟨k',e',r⟩:=q3 I;refine ⟨k',e',.inr ?_⟩;rcases r with r|⟨r1,r2,r3⟩
     .rw[r,aC (by omega),aC (by omega),aC (Bb _)];exact⟨by omega,by omega,by omega⟩
     .rw[aC (by omega),aC (by omega),aJ r2];exact⟨by omega,by omega,by omega⟩
    .refine .inr ?_;rw[aC (by omega),aC (by omega)];by_cases hb:k+1<j
     .rw[aJ hb];rcases q4 I with r|r<;>omega
     .rw[aC hb];omega
   .have hkj:k=j:=by omega
    subst hkj;simp only[aC (Bb _)];refine ⟨by omega,by omega,λ_=>⟨a,Y,.inr ⟨bQ _,by omega,?_⟩⟩,λI=>by rw[hj] at I;omega⟩;simp only[aC hk,aC hkc,aC (Bb _)];by_cases J:a<c
    .rw[aJ J];have:=(h2 a (bQ _) J).2.1;omega
    .rw[aC J,aJ (by omega)];omega
def OB (nT:Nat) (i:IT):Prop:=
 if i.1=6 then 0<=i.2.2.1/\i.2.2.1<=2 else if i.1=8 then 0<=i.2.1/\i.2.1<=2 else if i.1=7 then i.2.2.1=3/\i.2.2.2.2.1=2 else if i.1=9 then i.2.1=3/\i.2.2.2.2.1=2 else if i.1=11\/i.1=12 then i.2.1=0\/i.2.1=1 else if 13<=i.1/\i.1<=16 then i.2.1=2 else if 21<=i.1/\i.1<=23 then i.2.1=0 else if i.1=24\/i.1=25 then 0<=i.2.1/\i.2.1<(nT:Int) else if i.1=26 then i.2.1=0 else if i.1=27 then i.2.2.1=0 else if i.1=4 then 6<=i.2.2.2.2.1/\i.2.2.2.2.1<=18 else ¬i.1=3
structure GO (nT:Nat) (i:IT):Prop where
 o1:1<=i.1
 o2:i.1<=27
 r:∀ j:Int,j∈iw i->0<=j/\j<32
 b:OB nT i
def SO (ss:List (Int×Int×Int)) (t s:Int):Prop:=0<=s/\s<ss.length/\(aH (T:=wJ) ss s).1=t
structure GI (nT:Nat) (ss:List (Int×Int×Int)) (t:Int) (i:IT):Prop where
 o:GO nT i
 s:SO ss t i.2.2.2.2.2
theorem Rx (l:List IT) (hl:l.length<=1000000) (h1:1<=l.length) (hb:pT l 0 (l.length-1)) (he:(iA l (l.length-1)).1=28) (k:Nat) (hk:k<l.length):oJ (l,(k:Int))=aa ah:=by
 obtain⟨_,ρ,hρ⟩:=hb;refine cE ?_;unfold oJ bc bu jg bF aW cK aD cz;refine pl (λx=>((l.length:Int)+1-x.2).toNat) (λx=>0<=x.2/\∃ q:Nat,x.1=(q:Int)/\q<l.length/\((if q<l.length-1 then ρ q else 0:Nat):Int)+x.2<=(l.length:Int)) ?_ ⟨by dsimp only;omega,k,rfl,hk,?_⟩
 .rintro⟨a,(n:Int)⟩ ⟨n0,q,e,hq,hr⟩;dsimp only at n0 e hr;subst e;refine e_ (λ_=>?_) λg=>(by dsimp only[ar] at g;omega)
  refine gE ?_;refine gE (bA (λg=>by dsimp only at g;omega) λ_=>al ?_);refine fy (by rw[kC];dsimp only[ar];omega) ?_;refine cw (aR ?_);refine aT (DY _) ?_;refine dW (λ_=>al rfl) λhs=>?_
  have hs:1<=(iA l q).1/\(iA l q).1<=5:=bm hs;have J:q<l.length-1:=uk λh=>by rw[show q=l.length-1 by omega] at hs;rw[he] at hs;omega
  obtain⟨r1,r2,r3,Z⟩:=hρ q (kG _) J;rw[aJ J] at hr;refine cw (aR ?_);have fin:∀ I:Nat,I=l.length-1\/I<l.length-1/\ρ I<ρ q->0<=n+1/\∃ M:Nat,(I:Int)=(M:Int)/\M<l.length/\((if M<l.length-1 then ρ M else 0:Nat):Int)+(n+1)<=(l.length:Int):=λI h=>⟨by omega,I,rfl,by omega,by
   rcases h with h|⟨h,h'⟩
   .rw[aC (by omega)];omega
   .rw[aJ h];omega⟩
  refine aI (λU=>?_) λU=>al (al ?_)
  .obtain⟨I,e,Y⟩:=r3 U;refine aQ (ef _) (by dsimp only;omega) (aR (al (al ?_)));dsimp only;rw[ie (n:=n+1) (by omega) (by omega)];have:=fin I (Y.imp id λh=>⟨h.2.1,h.2.2⟩);rw[<- e] at this;exact⟨this,by omega⟩
  .dsimp only;have U:¬(iA l q).1=5:=U;rw[ie (n:=n+1) (by omega) (by omega),gK (by omega)];refine ⟨fin (q+1) ?_,by omega⟩;rcases Z (by omega) with h|h
   .exact .inl h
   .by_cases hb:q+1=l.length-1
    .exact .inl hb
    .exact .inr ⟨by omega,h⟩
 .dsimp only;split
  .rename_i h;have:=(hρ k (kG _) h).2.1;omega
  .omega
theorem I5 (w:WT) (I:w.1=C0):mE (w,3,2)=aa ah:=by
 refine cE ?_;have h0:(0:Int)<=3:=by decide
 have h1:(3:Int)<(w.1.length:Int):=by rw[I];decide
 have J:aH (T:=NA) w.1 3=([113],0,2,ai,0):=by rw[I];rfl
 unfold mE bc iO bF aW aD;refine gE (aT (qQ _ _) (aI (λ_=>?_) λh=>(h ⟨h0,h1⟩).elim));dsimp only;rw[J];refine aQ h0 h1 (aR (aI (λ_=>?_) λh=>(h rfl).elim));refine aQ h0 h1 (aR (bZ (λ_=>?_) λh=>cX h (by decide)));exact aQ h0 h1 (aR (al (al rfl)))
theorem L6 {nT:Nat} (w:WT) (i:IT) (hw:WX w) (hT:w.2.2.2.2.1.length=nT) (hb:OB nT i):kV (w,i)=aa ah:=by
 obtain⟨hc,hl,hd,hf,_,_,_⟩:=hw;refine cE ?_;unfold kV aU bk bt ct em bc jg bF aW aD;unfold OB at hb;simp only[qQ,Uj];refine aI (λh=>?_) λn6=>?_
 .rw[aJ h] at hb;have J:(aH (T:=NA) w.1 i.2.2.1).2.2.1=(0:Int):=by
   rw[hc];rcases (by omega:i.2.2.1=0\/i.2.2.1=1\/i.2.2.1=2) with h|h|h<;>rw[h]<;>rfl
  have hi:0<=i.2.2.1/\i.2.2.1<(w.1.length:Int):=⟨hb.1,by rw[hc];have:=hb.2;show i.2.2.1<5;omega⟩
  exact gE (aI (λ_=>aQ hi.1 hi.2 (aR (al (al (aP J))))) λh=>(h hi).elim)
 rw[aC n6] at hb;refine aI (λh=>?_) λZ=>?_
 .rw[aJ h] at hb;have J:(aH (T:=NA) w.1 i.2.1).2.2.1=(0:Int):=by
   rw[hc];rcases (by omega:i.2.1=0\/i.2.1=1\/i.2.1=2) with h|h|h<;>rw[h]<;>rfl
  have hi:0<=i.2.1/\i.2.1<(w.1.length:Int):=⟨hb.1,by rw[hc];have:=hb.2;show i.2.1<5;omega⟩
  exact gE (aI (λ_=>aQ hi.1 hi.2 (aR (al (al (aP J))))) λh=>(h hi).elim)
 rw[aC Z] at hb;refine aI (λh=>?_) λn7=>?_
 .rw[aJ h] at hb;rw[hb.1,hb.2];exact aT (I5 w hc) (al rfl)
 rw[aC n7] at hb;refine aI (λh=>?_) λY=>?_
 .rw[aJ h] at hb;rw[hb.1,hb.2];exact aT (I5 w hc) (al rfl)
 rw[aC Y] at hb;refine aX (λx=>x.2=(w,i)/\(x.1=ah↔i.1=11\/i.1=12)) (aI (λh=>al ⟨rfl,λ_=>.inl h,λ_=>aP h⟩) λh=>al ⟨rfl,λh2=>.inr (bm h2),λh2=>aP (h2.resolve_left h)⟩) ?_;rintro⟨b,x⟩ ⟨e,M⟩;dsimp only at e M;subst e;refine aO (λh=>?_) λh=>?_
 .rw[aJ (M.1 h)] at hb;have J:(aH (T:=Rc) w.2.1 i.2.1).2=ai:=by
   rw[hl];rcases hb with h|h<;>rw[h]<;>rfl
  have hi:0<=i.2.1/\i.2.1<(w.2.1.length:Int):=⟨by omega,by rw[hl];show i.2.1<3;omega⟩
  exact gE (aI (λ_=>aQ hi.1 hi.2 (aR (al (al (by dsimp only;rw[J];rfl))))) λh=>(h hi).elim)
 rw[aC λh2=>by rw[M.2 h2] at h;cases h] at hb;have hj:∀ {p:Prop} {b:Bool},(b=ah->p)->(p->b=ah)->b=ai->¬p:=λ_ h2 U I=>by rw[h2 I] at U;cases U
 refine aX (λx=>x.2=(w,i)/\(x.1=ah->13<=i.1/\i.1<=16)/\(13<=i.1/\i.1<=16->x.1=ah)) (aI (λh=>al ⟨rfl,λ_=>by first|omega|(dsimp only at h;omega),λ_=>aP h⟩) λ_=>aI (λh=>al ⟨rfl,λ_=>by first|omega|(dsimp only at h;omega),λ_=>aP h⟩) λ_=>aI (λh=>al ⟨rfl,λ_=>by first|omega|(dsimp only at h;omega),λ_=>aP h⟩) λ_=>al ⟨rfl,λh=>by have:=bm h;first|omega|(dsimp only at this;omega),λh=>aP (by first|omega|(dsimp only at *;omega))⟩) ?_;rintro⟨b,x⟩ ⟨e,h1,h2⟩;dsimp only at e h1 h2;subst e;refine aO (λh=>?_) λh=>?_
 .rw[aJ (h1 h)] at hb;have hi:0<=i.2.1/\i.2.1<(w.2.1.length:Int):=⟨by omega,by rw[hl];show i.2.1<3;omega⟩
  exact gE (aI (λ_=>aQ hi.1 hi.2 (aR (al (al (by dsimp only;rw[hb,hl];rfl))))) λh=>(h hi).elim)
 rw[aC (hj h1 h2 h)] at hb;refine aX (λx=>x.2=(w,i)/\(x.1=ah->21<=i.1/\i.1<=23)/\(21<=i.1/\i.1<=23->x.1=ah)) (aI (λh=>al ⟨rfl,λ_=>by first|omega|(dsimp only at h;omega),λ_=>aP h⟩) λ_=>aI (λh=>al ⟨rfl,λ_=>by first|omega|(dsimp only at h;omega),λ_=>aP h⟩) λ_=>al ⟨rfl,λh=>by have:=bm h;first|omega|(dsimp only at this;omega),λh=>aP (by first|omega|(dsimp only at *;omega))⟩) ?_;rintro⟨b,x⟩ ⟨e,h1,h2⟩;dsimp only at e h1 h2;subst e;refine aO (λh=>?_) λh=>?_
 .rw[aJ (h1 h)] at hb;exact al (aP ⟨by dsimp only;omega,by dsimp only;rw[hd];show i.2.1<1;omega⟩)
 rw[aC (hj h1 h2 h)] at hb;refine aX (λx=>x.2=(w,i)/\(x.1=ah->i.1=24\/i.1=25)/\(i.1=24\/i.1=25->x.1=ah)) (aI (λh=>al ⟨rfl,λ_=>.inl h,λ_=>aP h⟩) λh=>al ⟨rfl,λh2=>.inr (bm h2),λh2=>aP (h2.resolve_left h)⟩) ?_;rintro⟨b,x⟩ ⟨e,h1,h2⟩;dsimp only at e h1 h2;subst e;refine aO (λh=>?_) λh=>?_
 .rw[aJ (h1 h)] at hb;exact al (aP ⟨hb.1,by dsimp only;rw[hT];exact hb.2⟩)
 rw[aC (hj h1 h2 h)] at hb;refine aI (λh=>?_) λn=>?_
 .rw[aJ h] at hb;exact al (aP ⟨by dsimp only;omega,by dsimp only;rw[hf];show i.2.1<1;omega⟩)
 rw[aC n] at hb;refine aI (λh=>?_) λn=>?_
 .rw[aJ h] at hb;exact al (aP ⟨by dsimp only;omega,by dsimp only;rw[hf];show i.2.2.1<1;omega⟩)
 rw[aC n] at hb;by_cases I:i.1=4
 .rw[aJ I] at hb;refine aI (λh=>by have h:i.1=3:=h;omega) λ_=>aI (λ_=>?_) λh=>(h I).elim
  refine gE (e_ (λ_=>al (al (F6.2 hb.2))) λh=>by dsimp only at h;omega)
 .rw[aC I] at hb;exact aI (λh=>(hb h).elim) λ_=>aI (λh=>(I h).elim) λ_=>al rfl
structure GC (nT:Nat) (ss:List (Int×Int×Int)) (k:Int) (c:Int×List IT):Prop where
 r0:1<=c.1
 r1:c.1<=32
 n:1<=c.2.length
 u:c.2.length<=1000000
 e:(iA c.2 (c.2.length-1)).1=28/\(iA c.2 (c.2.length-1)).2.2.2.2.2= -1
 b:pT c.2 0 (c.2.length-1)
 i:∀ q:Nat,q<c.2.length-1->GI nT ss k (iA c.2 q)
 r:∀ q:Nat,q<c.2.length-1->(iA c.2 q).1=10->0<=(iA c.2 q).2.2.1/\(iA c.2 q).2.2.1<(c.2.length:Int)
 g:∀ q:Nat,q<c.2.length-1->∀ j:Int,j∈iw (iA c.2 q)->j<c.1
theorem CS {nT:Nat} {w:WT} {k:Int} {c:Int×List IT} (hw:WX w) (hT:w.2.2.2.2.1.length=nT) (hc:GC nT w.2.2.2.2.2 k c):hP (w,k,c)=aa ah:=by
 obtain⟨r0,r1,n1,hu,he,hb,hi,hr,hg⟩:=hc;refine cE ?_;unfold hP aU bk bt ct bI cQ pg bc bu iO bF aW cK aD cz;refine aX (λx=>x.2=(w,c)/\x.1=ai) ?_ ?_
 .refine bA (λh=>by have h:c.1<0:=h;omega) λ_=>bA (λh=>by have h:32<c.1:=h;omega) λ_=>al ⟨rfl,bL λh=>by have h:aN c.2.length=0:=h;dsimp only[ar] at h;omega⟩
 rintro⟨b,x⟩ ⟨e,Y⟩;dsimp only at e Y;subst e;subst Y;refine fh ?_;refine cf c.2.length (λi x=>x.1=(i:Int)/\x.2=(w,c)) ?_ ?_ ⟨rfl,rfl⟩
 .rintro i ⟨a,x⟩ hi2 ⟨e1,e2⟩;dsimp only at e1 e2;subst e1;subst e2;have hla:=Rx c.2 hu n1 hb he.1 i hi2;have Z:∀ z:IT,z=iA c.2 i->(i<c.2.length-1->GI nT w.2.2.2.2.2 k z/\(z.1=10->0<=z.2.2.1/\z.2.2.1<(c.2.length:Int))/\(z.1=5->0<=z.2.1/\z.2.1<(c.2.length:Int))/\∀ j:Int,j∈iw z->j<c.1)/\(i=c.2.length-1->z.1=28/\z.2.2.2.2.2= -1):=λz Z=>by
   subst Z;refine ⟨λh=>⟨hi i h,hr i h,λh5=>?_,hg i h⟩,λh=>by rw[h];exact he⟩;obtain⟨_,ρ,hρ⟩:=hb;obtain⟨q',e,hq'⟩:=(hρ i (kG _) h).2.2.1 h5;rw[e];omega
  refine dl ?_;refine cw (aR ?_);generalize hzz:(aH (T:=Aa) c.2 (i:Int))=z;obtain⟨I,J⟩:=Z z hzz.symm;have hcs:i<c.2.length-1\/i=c.2.length-1:=by omega
  have o1:1<=z.1:=by
   rcases hcs with h|h
   .exact (I h).1.o.o1
   .rw[(J h).1];decide
  have o2:z.1<=28:=by
   rcases hcs with h|h
   .exact Int.le_trans (I h).1.o.o2 (by decide)
   .rw[(J h).1];decide
  have M:z.1=28->i=c.2.length-1:=λh=>hcs.resolve_left λg=>by have:=(I g).1.o.o2;rw[h] at this;exact cX this (by decide)
  have hob:OB nT z:=by
   rcases hcs with h|h
   .exact (I h).1.o.b
   .unfold OB;rw[(J h).1];simp
  have hrg:∀ j:Int,j∈iw z->0<=j/\j<c.1:=λj hj=>by
   rcases hcs with h|h
   .exact⟨((I h).1.o.r j hj).1,(I h).2.2.2 j hj⟩
   .unfold iw at hj;rw[(J h).1] at hj;simp at hj
  have hwr:bg .i64 (aN c.2.length-1)=((c.2.length-1:Nat):Int):=by rw[ie (by dsimp only[ar];omega) (by dsimp only[ar];omega)];dsimp only[ar];omega
  have hcd:((decide (z.1=28)==decide ((i:Int)=bg .i64 (aN c.2.length-1))) !=ah)=ai:=by
   rw[hwr];rcases hcs with h|h
   .rw[bL λh2=>by have:=M h2;omega,bL (by omega:¬(i:Int)=((c.2.length-1:Nat):Int))];rfl
   .rw[aP (J h).1,aP (by omega:(i:Int)=((c.2.length-1:Nat):Int))];rfl
  refine aX (λx=>x=(ai,w,c,z)) ?_ ?_
  .refine bA (λh=>cX h (AX.2 o1)) λ_=>bA (λh=>cX h (AX.2 o2)) λ_=>fy hcd ?_
   refine aT (L6 w z hw hT hob) (fy rfl (aT hla (al rfl)))
  rintro x rfl;refine fh (aX (λx=>x=(ai,w,c,z)) ?_ ?_)
  .simp only[qQ,Uj];refine aI (λh=>?_) λh=>?_
   .have h5:=(J (M h)).2;exact bZ (λg=>(g h5).elim) λ_=>bZ (λg=>(g h).elim) λ_=>al rfl
   .have hsi:=(I (hcs.resolve_right λg=>h (J g).1)).1.s;refine bZ (λ_=>bZ (λg=>(g ⟨hsi.1,hsi.2.1⟩).elim) λg=>aQ g.1 g.2 (aR (al ?_))) λg=>(h g).elim
    rw[aP hsi.2.2];rfl
  rintro x rfl;refine fh (aX (λx=>x=(ai,w,c,z)) ?_ ?_)
  .simp only[qQ,Uj];have U:z.1=5\/z.1=10->i<c.2.length-1:=λh=>hcs.resolve_right λg=>by rw[(J g).1] at h;exact cX h (by decide)
   refine aI (λh=>?_) λh=>?_
   .have h2:=(I (U (.inl h))).2.2.1 h;refine bZ (λg=>(g h2).elim) λ_=>aI (λg=>?_) λ_=>al rfl
    rw[h] at g;exact cX g (by decide)
   .refine aI (λg=>al ?_) λ_=>al rfl
    have h2:=(I (U (.inr g))).2.1 g;rw[aP (show 0<=z.2.2.1/\z.2.2.1<aN c.2.length from h2)];rfl
  rintro x rfl;refine fh (aT (sq z) ?_);have hrl:=Br z;refine cf (iw z).length (λj x=>x=((j:Int),w,c)) ?_ ?_ rfl
  .rintro j x hj rfl;refine dl ?_;refine cw (aR ?_);refine aT (qQ _ _) (bZ (λg=>(g (hrg _ (bH (T:=.int .i64) (xs:=iw z) (j:=(j:Int)) (by omega) (by omega)))).elim) λ_=>al ?_);dsimp only;rw[gK (by omega)]
  .rintro x rfl;exact dc (al ⟨gK (by omega),rfl⟩)
 .rintro⟨a,x⟩ ⟨e1,e2⟩;dsimp only at e1 e2;subst e1;subst e2;exact dc (al rfl)
abbrev GN:Type:=List (List UInt8×Int×Int×Bool×Int)×List (List UInt8×Bool)×List (List UInt8×Int)×List (List UInt8)×List (List UInt8)×List (Int×Int×Int)×List (List UInt8)×Int×Int
theorem K0 (l:List (List UInt8×Bool)) (s:List UInt8) (hl:l.length<=1000):Ok (jP (l,s)) λr=> -1<=r/\r<l.length/\(0<=r->(aH (T:=Rc) l r).1=s)/\(r<0->∀ c∈l,c.1≠s):=by
 unfold jP bu bF aW cK aD cz;refine cf l.length (λi x=>x=(i:Int)/\∀ k:Nat,k<i->(aH (T:=Rc) l (k:Int)).1≠s) ?_ ?_ ⟨rfl,λk hk=>by omega⟩
 .rintro i x hi ⟨rfl,I⟩;refine dl ?_;refine cw (aR ?_);refine aI (λh=>al ⟨by omega,by omega,λ_=>h,λh=>by omega⟩) λh=>al ⟨gK (by omega),λk hk=>?_⟩
  rcases bW k i with h1|h1
  .exact I k h1
  .rw[show k=i by omega];exact h
 .rintro x ⟨rfl,I⟩;exact dc (al ⟨by omega,by omega,λh=>by omega,λ_=>hZ (T:=Rc) (p:=λc=>c.1≠s) I⟩)
theorem acd {r:Int} {s:List UInt8} (h: -1<=r/\r<Fd.length/\(0<=r->(aH (T:=Rc) Fd r).1=s)/\(r<0->∀ c∈Fd,c.1≠s)):(s=[109]->r=0)/\(s=[110]->r=1)/\(s=[114]->r=2):=by
 obtain⟨h0,h1,h2,I⟩:=h;have h1:r<3:=h1;rcases (by omega:r= -1\/r=0\/r=1\/r=2) with rfl|rfl|rfl|rfl
 .have I:=I (by decide);exact⟨λh=>(I ([109],ai) (by decide) h.symm).elim,λh=>(I ([110],ai) (by decide) h.symm).elim,λh=>(I ([114],ah) (by decide) h.symm).elim⟩
 .have h2:[109]=s:=h2 (by decide);subst h2;exact⟨λ_=>rfl,λh=>(by cases h),λh=>(by cases h)⟩
 .have h2:[110]=s:=h2 (by decide);subst h2;exact⟨λh=>(by cases h),λ_=>rfl,λh=>(by cases h)⟩
 .have h2:[114]=s:=h2 (by decide);subst h2;exact⟨λh=>(by cases h),λh=>(by cases h),λ_=>rfl⟩
theorem yS (w:WT) (s:List UInt8) (J:w.1=C0):Ok (kN (w,s)) λr=>(s∈NV->s∉L0->0<=r/\r<=2)/\(s=[113]->r=3):=by
 have hl:w.1.length=5:=by rw[J];rfl
 unfold kN bu bF aW cK aD cz;refine cf w.1.length (λi x=>x.1=(i:Int)/\x.2=w/\∀ k:Nat,k<i->(aH (T:=NA) w.1 (k:Int)).1≠s) ?_ ?_ ⟨rfl,rfl,λk hk=>by omega⟩
 .rintro i ⟨a,x⟩ hi ⟨e1,e2,e3⟩;dsimp only at e1 e2 e3;subst e1;have e2:=e2.symm;subst e2;refine dl ?_;refine cw (aR ?_);refine aI (λh=>al ?_) λg=>al ?_
  .rw[J] at h e3;rw[hl] at hi;rcases (by omega:i=0\/i=1\/i=2\/i=3\/i=4) with rfl|rfl|rfl|rfl|rfl
   .have h:[120]=s:=h;subst h;exact⟨λ_ _=>⟨by dsimp only;omega,by dsimp only;omega⟩,λh=>(by cases h)⟩
   .have h:[121]=s:=h;subst h;exact⟨λ_ _=>⟨by dsimp only;omega,by dsimp only;omega⟩,λh=>(by cases h)⟩
   .have h:[118]=s:=h;subst h;exact⟨λ_ _=>⟨by dsimp only;omega,by dsimp only;omega⟩,λh=>(by cases h)⟩
   .have h:[113]=s:=h;subst h;exact⟨λh=>cX h (by decide),λ_=>rfl⟩
   .have h:[113]=s:=h;exact (e3 3 (by omega) h).elim
  .refine ⟨gK (by omega),rfl,λk hk=>?_⟩;rcases bW k i with h1|h1
   .exact e3 k h1
   .rw[show k=i by omega];exact g
 .rintro⟨a,x⟩ ⟨e1,e2,e3⟩;dsimp only at e1 e2 e3;subst e1;have e2:=e2.symm;subst e2;refine dc (al ?_);have hn:=hZ (T:=NA) (p:=λc=>c.1≠s) e3;rw[J] at hn;have a1:=hn ([120],0,0,ai,0) (by decide);have a2:=hn ([121],0,0,ai,1) (by decide);have a3:=hn ([118],0,0,ah,0) (by decide);have M:=hn ([113],0,2,ai,0) (by decide);refine ⟨λh I=>?_,λh=>(M h.symm).elim⟩;simp only[bh,cj,fM,L0] at h I;rcases h with rfl|rfl|rfl|rfl|rfl
  .exact (I (.inl rfl)).elim
  .exact (I (.inr rfl)).elim
  .exact (a1 rfl).elim
  .exact (a2 rfl).elim
  .exact (a3 rfl).elim
theorem Gz (i:IT) (g:GN) (out:List IT) (h:out.length<=100000000):Ok (cr (i,g,out)) λy=>y.1=g/\y.2=out++[(i.1,i.2.1,i.2.2.1,i.2.2.2.1,i.2.2.2.2.1,g.2.2.2.2.2.2.2.1)]:=by
 unfold cr aU bk bt ka bD;exact bf (by simp;omega) (by omega) (al ⟨rfl,rfl⟩)
def VE:Nat->Nat
 |0=>0
 |d+1=>1+2*VE d
theorem He {l m:List IT} {k:Nat} (h:k<l.length):iA (l++m) k=iA l k:=by
 unfold iA;rw[xh,xh,ax,ax,bK h]
theorem vZ (l:List IT) (x:IT):iA (l++[x]) l.length=x:=by
 unfold iA;rw[xh,ax,bX (bQ _)];simp
structure QC (nT:Nat) (ss:List (Int×Int×Int)) (t:Int) (n:Nat) (out o:List IT):Prop where
 l:out.length<=o.length
 u:o.length<=out.length+n
 p:∀ k:Nat,k<out.length->iA o k=iA out k
 b:pT o out.length o.length
 i:∀ k:Nat,out.length<=k->k<o.length->GI nT ss t (iA o k)
 r:∀ k:Nat,out.length<=k->k<o.length->(iA o k).1=10->0<=(iA o k).2.2.1/\(iA o k).2.2.1<=(o.length:Int)
variable {nT:Nat} {ss:List (Int×Int×Int)} {t:Int}
theorem QC.nil (n:Nat) (out:List IT):QC nT ss t n out out:=⟨bQ _,by omega,λ_ _=>rfl,pT.nil _ _,λk h1 h2=>by omega,λk h1 h2=>by omega⟩
theorem QC.trans {a b c:Nat} {x y z:List IT} (h:QC nT ss t a x y) (k:QC nT ss t b y z) (hc:a+b<=c):QC nT ss t c x z:=by
 obtain⟨h1,h2,h3,h4,h5,h6⟩:=h;obtain⟨k1,k2,I,k4,Z,Y⟩:=k;refine ⟨by omega,by omega,λq hq=>(I q (by omega)).trans (h3 q hq),(h4.congr λq _ hq=>I q hq).app k4,λq U M=>?_,λq U M J=>?_⟩
 .by_cases hq:q<y.length
  .rw[I q hq];exact h5 q U hq
  .exact Z q (by omega) M
 .by_cases hq:q<y.length
  .rw[I q hq] at J ⊢;have:=h6 q U hq J;omega
  .exact Y q (by omega) M J
theorem QC.one {out:List IT} {i:IT} (h:GI nT ss t i) (I:¬i.1=5/\¬i.1=10):QC nT ss t 1 out (out++[i]):=by
 have hl:(out++[i]).length=out.length+1:=by rw[bn];rfl
 refine ⟨by omega,by omega,λk hk=>He hk,?_,λk h1 h2=>?_,λk h1 h2 J=>?_⟩
 .rw[hl];exact pT.one (by rw[vZ];exact I.1)
 .rw[show k=out.length by omega,vZ];exact h
 .rw[show k=out.length by omega,vZ] at J;exact (I.2 J).elim
structure GK (ss:List (Int×Int×Int)) (t:Int) (g:GN):Prop where
 c:g.1=C0
 l:g.2.2.2.2.2.2.1=L0
 s:SO ss t g.2.2.2.2.2.2.2.1
theorem VN {nT:Nat} {op A B C N Z:Int} (h1:1<=op) (h2:op<=27) (hr:∀ j:Int,j∈iw (op,A,B,C,N,Z)->0<=j/\j<32) (hb:OB nT (op,A,B,C,N,Z)):GO nT (op,A,B,C,N,Z):=⟨h1,h2,hr,hb⟩
theorem CZ {op:Int} {r:Int×Int×Int×Int×Int} {g:GN} {out:List IT} (h:out.length<=100000000) (hg:GK ss t g) (hi:GO nT (op,r)) (J:¬op=5/\¬op=10):Ok (cr ((op,r),g,out)) λy=>y.1=g/\QC nT ss t 1 out y.2:=(Gz (op,r) g out h).mono λy I=>⟨I.1,by rw[I.2];exact QC.one ⟨⟨hi.o1,hi.o2,hi.r,hi.b⟩,hg.s⟩ J⟩
theorem K6:∀ (n d:Nat),d<n->∀ (e:Xp) (k:Int) (g:GN) (out:List IT),GE d e->GK ss t g->0<=k->k+d<=31->out.length+VE d<=100000000->Ok (io n ((e,k),g,out)) λy=>y.1=g/\QC nT ss t (VE d) out y.2
 |0,_,h,_,_,_,_,_,_,_,_,_=>by omega
 |n+1,0,_,e,_,_,_,h,_,_,_,_=>h.elim
 |n+1,d+1,hn,e,k,g,out,h,hg,k0,k1,hb=>by
  obtain⟨h1,h2,h3,h4,h5,h6⟩:=h;obtain⟨gc,gl,gs⟩:=id hg;have hv:VE (d+1)=1+2*VE d:=rfl;rw[zg];unfold pG aU bk bt ct em bc jg bD bF aD cz;refine aX (λy=>y.1=g/\QC nT ss t (VE (d+1)) out y.2) ?_ λx hx=>al hx
  have fin:∀ {y:GN×List IT},(y.1=g/\QC nT ss t 1 out y.2)->y.1=g/\QC nT ss t (VE (d+1)) out y.2:=λh=>⟨h.1,(QC.nil 0 out).trans h.2 (by omega)⟩
  refine aI (λ_=>?_) λn1=>?_
  .refine aw (CZ (nT:=nT) (by omega) hg (VN (by decide) (by decide) (by simp[iw];omega) ((by decide:¬(1:Int)=3))) (by decide)) λy I=>ba (by simp) (al (fin I))
  refine aI (λZ=>?_) λZ=>?_
  .refine aw (xd _ _ (by dsimp only;rw[gl];decide)) λv hv=>e_ (λg0=>?_) λg0=>?_
   .have J:=hv.2.1;dsimp only at J g0;rw[gl] at J;have J:v<2:=J;refine aw (CZ (nT:=nT) (by omega) hg (VN (by decide) (by decide) (by simp[iw];omega) ((by decide:¬(2:Int)=3))) (by decide)) λy I=>ba (by simp) (al (fin I))
   .have J:=hv.2.2.2 g0;dsimp only at J;rw[gl] at J;refine aw (yS _ _ gc) λv Y=>?_
    have v2:=Y.1 (h5 Z) J;refine aw (CZ (nT:=nT) (by omega) hg (VN (by decide) (by decide) (by simp[iw];omega) (v2)) (by decide)) λy I=>ba (by simp) (al (fin I))
  have hl:=h2 n1 Z;have hrec:∀ (j:Nat),j<e.l.length->∀ (k':Int) (o:List IT),0<=k'->k'+d<=31->o.length+VE d<=100000000->Ok (io n ((aH (T:=.ex) e.l (j:Int),k'),g,o)) λy=>y.1=g/\QC nT ss t (VE d) o y.2:=λj hj k' o q0 U ho=>K6 n d (by omega) _ k' g o (h4 _ (bH (T:=.ex) (xs:=e.l) (j:=(j:Int)) (by omega) (by omega))) hg q0 U ho
  refine aI (λn3=>?_) λn3=>?_
  .refine cw (aR ?_);refine aw (hrec 0 hl k out k0 (by omega) (by omega)) λy I=>?_
   obtain⟨g2,o2⟩:=y;obtain⟨U,M⟩:=I;dsimp only at U M;subst U;have q3:=M.u;refine ba (by simp) ?_;refine aw (yS _ _ gc) λv Y=>?_
   have v3:=Y.2 (h1 n3);have v3:v=3:=v3;subst v3;refine aQ (by decide) (by dsimp only;rw[gc];decide) (aR ?_);refine aw (CZ (nT:=nT) (by omega) hg (VN (by decide) (by decide) (by simp[iw];omega) (⟨rfl,by dsimp only;rw[gc];rfl⟩)) (by decide)) λy I=>ba (by simp) (al ⟨I.1,M.trans I.2 (by omega)⟩)
  obtain⟨h7,h8,h9⟩:=h6 n1 Z n3;refine aI (λn4=>?_) λn4=>?_
  .dsimp only[ar] at n4;omega
  .have hl2:1<e.l.length:=by omega
   refine cw (aR ?_);refine aw (hrec 0 hl k out k0 (by omega) (by omega)) λy I=>?_
   obtain⟨g2,o2⟩:=y;obtain⟨U,M⟩:=I;dsimp only at U M;subst U;have q3:=M.u;refine ba (by simp) ?_;refine cw (aR ?_);dsimp only;rw[ie (n:=k+1) (by omega) (by omega)];refine aw (hrec 1 hl2 _ o2 (by omega) (by omega) (by omega)) λy I=>?_
   obtain⟨g3,o3⟩:=y;obtain⟨r1,r2⟩:=I;dsimp only at r1 r2;subst r1;have r3:=r2.u;refine ba (by simp) ?_;refine aw (CZ (nT:=nT) (by omega) hg (VN (by decide) (by decide) (by simp[iw];omega) (⟨h8,h9⟩)) (by decide)) λy I=>ba (by simp) (al ⟨I.1,(M.trans r2 (bQ _)).trans I.2 (by omega)⟩)
theorem Q_ (e:Xp) (k:Int) (g:GN) (out:List IT) (he:GE 4 e) (hg:GK ss t g) (I:0<=k) (k1:k<=27) (h:out.length<=99999900):Ok (im ((e,k),g,out)) λy=>y.1=g/\QC nT ss t 15 out y.2:=K6 fuel 4 (by rw[jA];omega) e k g out he hg I (by omega) (by have:VE 4=15:=rfl;omega)
structure GB (nT:Nat) (g:GN):Prop where
 c:g.1=C0
 l:g.2.1=Fd
 d:g.2.2.1=Ky
 f:g.2.2.2.1=QL
 t:g.2.2.2.2.1=uJ.take nT
 h:g.2.2.2.2.2.2.1=L0
structure GQ (g y:GN):Prop where
 a:y.1=g.1
 b:y.2.1=g.2.1
 c:y.2.2.1=g.2.2.1
 d:y.2.2.2.1=g.2.2.2.1
 e:y.2.2.2.2.1=g.2.2.2.2.1
 h:y.2.2.2.2.2.2.1=g.2.2.2.2.2.2.1
theorem GQ.refl (g:GN):GQ g g:=⟨rfl,rfl,rfl,rfl,rfl,rfl⟩
theorem GQ.trans {a b c:GN} (h:GQ a b) (k:GQ b c):GQ a c:=⟨k.a.trans h.a,k.b.trans h.b,k.c.trans h.c,k.d.trans h.d,k.e.trans h.e,k.h.trans h.h⟩
variable {nT:Nat} {ss:List (Int×Int×Int)} {t:Int}
theorem GB.of {g y:GN} (h:GB nT g) (q:GQ g y):GB nT y:=⟨q.a.trans h.c,q.b.trans h.l,q.c.trans h.d,q.d.trans h.f,q.e.trans h.t,q.h.trans h.h⟩
theorem GQ.site (g:GN) (x:List (Int×Int×Int)) (a b:Int):GQ g (g.1,g.2.1,g.2.2.1,g.2.2.2.1,g.2.2.2.2.1,x,g.2.2.2.2.2.2.1,a,b):=⟨rfl,rfl,rfl,rfl,rfl,rfl⟩
abbrev gS (g:GN):Int:=g.2.2.2.2.2.2.2.1
abbrev gN (g:GN):Int:=g.2.2.2.2.2.2.2.2
structure QG (nT:Nat) (ss:List (Int×Int×Int)) (t:Int) (n m:Nat) (g:GN) (out:List IT) (y:GN×List IT):Prop where
 q:GQ g y.1
 c:QC nT ss t n out y.2
 x:gN y.1=gN g+(m:Int)
theorem vQ {op:Int} {r:Int×Int×Int×Int×Int} {g:GN} {out:List IT} (h:out.length<=100000000) (hg:GB nT g) (hs:SO ss t (gS g)) (hi:GO nT (op,r)) (I:¬op=5/\¬op=10):Ok (cr ((op,r),g,out)) λy=>y.1=g/\QC nT ss t 1 out y.2:=CZ h ⟨hg.c,hg.h,hs⟩ hi I
theorem Bf (e:Xp) (k:Int) (g:GN) (out:List IT) (he:GE 4 e) (hg:GB nT g) (hs:SO ss t (gS g)) (I:0<=k) (k1:k<=27) (h:out.length<=99999000):Ok (im ((e,k),g,out)) λy=>y.1=g/\QC nT ss t 15 out y.2:=Q_ e k g out he ⟨hg.c,hg.h,hs⟩ I k1 (by omega)
theorem GB.len {g:GN} (h:GB nT g):aN (ak g.2.2.2.2.2.2.1)=2:=by rw[h.h];rfl
theorem To (s:Sx) (g:GN) (out:List IT) (h1:s.index≠[]->s.name=[113]) (h2:∀ e∈s.index,GE 4 e) (h3:GE 4 s.expr) (h4:s.index=[]->s.name∈NV) (hg:GB nT g) (hs:SO ss t (gS g)) (h:out.length<=99990000):Ok (lx (s,g,out)) λy=>y.1=g/\QC nT ss t 40 out y.2:=by
 have hex:GE 4 (dP (Xp.op s.expr,Xp.n s.expr,Xp.name s.expr,Xp.l s.expr)):=by rw[eS];exact h3
 have e3:bg .i64 ((2:Int)+1)=3:=ie (by decide) (by decide);unfold lx aU bk bt ct em bu jg bD bF aW;refine bA (λJ=>?_) λJ=>?_
 .dsimp only[ar] at J;refine cw (aR ?_);refine aw (Bf _ _ g out (h2 _ (bH (T:=.ex) (xs:=s.index) (j:=0) (by omega) (by omega))) hg hs (by rw[hg.len];decide) (by rw[hg.len];decide) (by omega)) λy I=>?_
  obtain⟨g2,o2⟩:=y;obtain⟨Y,U⟩:=I;dsimp only at Y U;subst Y;have q3:=U.u;refine ba (by simp) ?_;dsimp only;rw[hg.len,e3];refine aw (Bf _ _ g2 o2 hex hg hs (by decide) (by decide) (by omega)) λy I=>?_
  obtain⟨g3,o3⟩:=y;obtain⟨r1,r2⟩:=I;dsimp only at r1 r2;subst r1;have r3:=r2.u;refine ba (by simp) ?_;refine aw (yS _ _ hg.c) λv hv=>?_
  have Z:=hv.2 (h1 (λh=>by rw[h] at J;simp at J));have Z:v=3:=Z;subst Z;refine aQ (by decide) (by dsimp only;rw[hg.c];decide) (aR ?_);refine aw (vQ (by omega) hg hs (VN (by decide) (by decide) (by simp[iw,hg.h,L0]) (⟨rfl,by dsimp only;rw[hg.c];rfl⟩)) (by decide)) λy I=>ba (by simp) (al ⟨I.1,(U.trans r2 (bQ _)).trans I.2 (by omega)⟩)
 .have hi0:s.index=[]:=gz.1 (by dsimp only[ar] at J;omega);refine aw (Bf _ _ g out hex hg hs (by rw[hg.len];decide) (by rw[hg.len];decide) (by omega)) λy I=>?_
  obtain⟨g2,o2⟩:=y;obtain⟨Y,U⟩:=I;dsimp only at Y U;subst Y;have q3:=U.u;refine ba (by simp) ?_;refine aw (xd _ _ (by dsimp only;rw[hg.h];decide)) λv hv=>e_ (λJ=>?_) λJ=>?_
  .have M:=hv.2.1;dsimp only at M J;rw[hg.h] at M;have M:v<2:=M;refine aw (vQ (by omega) hg hs (VN (by decide) (by decide) (by simp[iw,hg.h,L0];omega) ((by decide:¬(2:Int)=3))) (by decide)) λy I=>ba (by simp) (al ⟨I.1,U.trans I.2 (by omega)⟩)
  .have M:=hv.2.2.2 J;dsimp only at M;rw[hg.h] at M;refine aw (yS _ _ hg.c) λv hv2=>?_
   have v2:=hv2.1 (h4 hi0) M;refine aw (vQ (by omega) hg hs (VN (by decide) (by decide) (by simp[iw,hg.h,L0]) (v2)) (by decide)) λy I=>ba (by simp) (al ⟨I.1,U.trans I.2 (by omega)⟩)
theorem YC (s:List UInt8) (g:GN) (out:List IT) (hg:GB nT g):Ok (iZ (s,g,out)) λy=>y.2=(g,out)/\(s=[99]->y.1=0):=by
 have hd:g.2.2.1.length=1:=by rw[hg.d];rfl
 unfold iZ aU bu bF aW cK aD cz;refine cf 1 (λi x=>x.1=(i:Int)/\x.2=(g,out)/\(s=[99]->i=0)) ?_ ?_ ⟨rfl,rfl,λ_=>rfl⟩
 .rintro i ⟨a,x⟩ hi ⟨e1,e2,e3⟩;dsimp only at e1 e2 e3;subst e1;subst e2;refine dl ?_;refine cw (aR ?_);refine aI (λ_=>al ⟨rfl,λ_=>by dsimp only;omega⟩) λh=>al ⟨gK (by omega),rfl,λh2=>?_⟩
  refine (h ?_).elim;dsimp only;rw[hg.d,show i=0 by omega,h2];rfl
 .rintro⟨a,x⟩ ⟨e1,e2,e3⟩;dsimp only at e1 e2 e3;subst e1;subst e2;exact dc (al ⟨rfl,λh=>by have:=e3 h;omega⟩)
def ME:Nat->Nat
 |0=>0
 |d+1=>50+16*ME d
def SR (ss:List (Int×Int×Int)) (t a:Int) (m:Nat):Prop:=0<=a/\a+m<=1000/\∀ i:Int,a<=i->i<a+m->SO ss t i
def SpG (nT:Nat) (ss:List (Int×Int×Int)) (t:Int) (I:Sx×GN×List IT->Option (GN×List IT)) (d:Nat):Prop:=∀ (s:Sx) (g:GN) (out:List IT),GS nT d s->GB nT g->SR ss t (gN g) (Nu d s)->out.length+ME d<=90000000->Ok (I (s,g,out)) (QG nT ss t (ME d) (Nu d s) g out)
def Y9 (nT:Nat) (ss:List (Int×Int×Int)) (t:Int) (rs:List Sx×GN×List IT->Option (GN×List IT)) (d:Nat):Prop:=∀ (l:List Sx) (g:GN) (out:List IT),l.length<=100->(∀ s∈l,GS nT d s)->GB nT g->SR ss t (gN g) (mT d l)->out.length+l.length*ME d<=90000000->Ok (rs (l,g,out)) (QG nT ss t (l.length*ME d) (mT d l) g out)
abbrev FS6:Type:=List Sx×GN×List IT->Option (GN×List IT)
abbrev FT6:Type:=Sx×GN×List IT->Option (GN×List IT)
abbrev FA6:Type:=(Sx×Int×Int×Int)×GN×List IT->Option (GN×List IT)
variable {nT:Nat} {ss:List (Int×Int×Int)} {t:Int}
def aei (nT:Nat) (ss:List (Int×Int×Int)) (t:Int) (I:FT6) (d:Nat):Prop:=∀ (s:Sx) (g:GN) (out:List IT),s.op=2\/s.op=3->GE 4 s.expr->s.body.length<=8->s.els.length<=8->(∀ x∈s.body,GS nT d x)->(∀ x∈s.els,GS nT d x)->(¬s.op=2->s.els=[])->GB nT g->SO ss t (gS g)->SR ss t (gN g) (mT d s.body+mT d s.els)->out.length+ME (d+1)<=90000000->Ok (I (s,g,out)) (QG nT ss t (17+16*ME d) (mT d s.body+mT d s.els) g out)
def aej (nT:Nat) (ss:List (Int×Int×Int)) (t:Int) (ra:FA6) (d:Nat):Prop:=∀ (s:Sx) (a b c:Int) (g:GN) (out:List IT),s.body.length<=8->(∀ x∈s.body,GS nT d x)->GO nT (a,c,0,0,0,0)->GO nT (b,c,0,0,0,0)->¬a=5/\¬a=10->¬b=5/\¬b=10->GB nT g->SO ss t (gS g)->SR ss t (gN g) (mT d s.body)->out.length+ME (d+1)<=90000000->Ok (ra ((s,a,b,c),g,out)) (QG nT ss t (17+16*ME d) (mT d s.body) g out)
theorem SR.sub {a b:Int} {m n:Nat} (h:SR ss t a m) (h1:a<=b) (h2:b+n<=a+m):SR ss t b n:=⟨by have:=h.1;omega,by have:=h.2.1;omega,λi J I=>h.2.2 i (by omega) (by omega)⟩
theorem Sc (rs:FS6) (U:FT6) (Z:FT6) (ra:FA6) (d:Nat) (ht:SpG nT ss t U d):Y9 nT ss t (pH rs U Z ra) d:=by
 intro l g out hl hs hg hso hb;unfold pH bu bD bF aW cK aD cz;refine cf l.length (λi x=>x.1=(i:Int)/\QG nT ss t (i*ME d) (mT d (l.take i)) g out x.2) ?_ ?_ ⟨rfl,GQ.refl g,QC.nil _ _,by simp[mT]⟩
 .rintro i ⟨a,Y,o2⟩ hi ⟨e1,J,I,q3⟩;dsimp only at e1 J I q3;subst e1;have hK:(i+1)*ME d<=l.length*ME d:=cA _ (by omega);have hKs:=iB i (ME d);rw[Nat.succ_eq_add_one] at hKs;have hp:=M2 (d:=d) l (i+1);rw[vy hi] at hp;have q4:=I.u;refine dl ?_;refine cw (aR ?_);refine aw (ht _ Y o2 (hs _ (bH (T:=.sm) (xs:=l) (j:=(i:Int)) (by omega) (by omega))) (hg.of J) (hso.sub (by rw[q3];omega) (by rw[q3];dsimp only;omega)) (by omega)) λy M=>ba (by simp) (al ?_)
  rw[vy hi];exact⟨gK (by omega),J.trans M.q,I.trans M.c (by omega),by rw[M.x,q3];dsimp only;omega⟩
 .rintro⟨a,Y,o2⟩ ⟨e1,q⟩;dsimp only at e1;subst e1;rw[cL] at q;exact dc (al q)
theorem OX (rs:FS6) (rt:FT6) (rb:FT6) (ra:FA6) (d:Nat) (hS:Y9 nT ss t rs d):aej nT ss t (ou rs rt rb ra) d:=by
 intro s a b c g out h1 h2 ga gb na nb hg hs hso hb;have hm:ME (d+1)=50+16*ME d:=rfl;have kb:s.body.length*ME d<=8*ME d:=cA _ h1;unfold ou aU bk bt ct em ka bI pg bD;refine aw (vQ (by omega) hg hs ga na) λy I=>?_
 obtain⟨Z,o2⟩:=y;obtain⟨Y,J⟩:=I;dsimp only at Y J;subst Y;have q3:=J.u;refine ba (by simp) ?_;refine aw (hS s.body Z o2 (by omega) h2 hg hso (by omega)) λy I=>?_
 obtain⟨M,o3⟩:=y;obtain⟨r1,r2,r3⟩:=I;dsimp only at r1 r2 r3;have r4:=r2.u;refine ba (by simp) ?_;have U:=r1.trans (GQ.site M M.2.2.2.2.2.1 Z.2.2.2.2.2.2.2.1 M.2.2.2.2.2.2.2.2);refine aw (vQ (by dsimp only;omega) (hg.of U) hs gb nb) λy I=>ba (by simp) (al ⟨?_,?_,?_⟩)
 .rw[I.1];exact U
 .exact (J.trans r2 (bQ _)).trans I.2 (by omega)
 .rw[I.1];exact r3
theorem xK {l:List IT} {j k:Nat} {x:IT} (h:j<l.length):iA (cJ l (j:Int) x) k=if k=j then x else iA l k:=HB (T:=Aa) l j k x h
abbrev ptB (l:List IT) (j:Nat) (b:Int):List IT:=cJ l (j:Int) ((iA l j).1,(iA l j).2.1,b,(iA l j).2.2.2.1,(iA l j).2.2.2.2.1,(iA l j).2.2.2.2.2)
abbrev ptA (l:List IT) (j:Nat) (a:Int):List IT:=cJ l (j:Int) ((iA l j).1,a,(iA l j).2.2.1,(iA l j).2.2.2.1,(iA l j).2.2.2.2.1,(iA l j).2.2.2.2.2)
theorem GI.pb {i:IT} {b:Int} (h:GI nT ss t i) (h1:i.1=10):GI nT ss t (i.1,i.2.1,b,i.2.2.2.1,i.2.2.2.2.1,i.2.2.2.2.2):=by
 obtain⟨Z,Y,U,M,J,I⟩:=i;dsimp only at h1;subst h1;exact⟨⟨h.o.o1,h.o.o2,h.o.r,(by decide:¬(10:Int)=3)⟩,h.s⟩
theorem QC.cbr {n m:Nat} {out o1 o2 I:List IT} {br:IT} (h1:QC nT ss t n out o1) (h2:o2=o1++[br]) (hb:GI nT ss t br) (U:br.1=10) (M:QC nT ss t m o2 I) (F:List IT) (hl:I.length<=F.length) (Y:∀ k:Nat,k<I.length->¬k=o1.length->iA F k=iA I k) (hFb:∃ b:Int,(0<=b/\b<=(F.length:Int))/\iA F o1.length=(br.1,br.2.1,b,br.2.2.2.1,br.2.2.2.2.1,br.2.2.2.2.2)):(∀ k:Nat,k<out.length->iA F k=iA out k)/\pT F out.length o1.length/\(iA F o1.length).1=10/\pT F (o1.length+1) I.length/\(∀ k:Nat,out.length<=k->k<I.length->GI nT ss t (iA F k))/\∀ k:Nat,out.length<=k->k<I.length->(iA F k).1=10->0<=(iA F k).2.2.1/\(iA F k).2.2.1<=(F.length:Int):=by
 have l2:o2.length=o1.length+1:=by rw[h2,bn];rfl
 have l1:=h1.l;have l3:=M.l;have e1:∀ k:Nat,k<o1.length->iA F k=iA o1 k:=λk hk=>by rw[Y k (by omega) (by omega),M.p k (by omega),h2,He hk]
 obtain⟨b,hb0,eb⟩:=hFb;refine ⟨λk hk=>(e1 k (by omega)).trans (h1.p k hk),h1.b.congr λk _ hk=>e1 k hk,by rw[eb];exact U,?_,λk g1 J=>?_,λk g1 J Z=>?_⟩
 .have:=M.b;rw[l2] at this;exact this.congr λk g1 J=>Y k J (by omega)
 .rcases LL k o1.length with hk|hk|hk
  .rw[e1 k hk];exact h1.i k g1 hk
  .rw[hk,eb];exact hb.pb U
  .rw[Y k J (by omega)];exact M.i k (by omega) J
 .rcases LL k o1.length with hk|hk|hk
  .rw[e1 k hk] at Z ⊢;have:=h1.r k g1 hk Z;omega
  .rw[hk,eb];exact hb0
  .rw[Y k J (by omega)] at Z ⊢;have:=M.r k (by omega) J Z;omega
theorem J4 (rs:FS6) (rt:FT6) (rb:FT6) (ra:FA6) (d:Nat) (hS:Y9 nT ss t rs d):aei nT ss t (l8 rs rt rb ra) d:=by
 intro s g out hop he h1 h2 h3 h4 hel hg hs hso hb;have hm:ME (d+1)=50+16*ME d:=rfl;have kb:s.body.length*ME d<=8*ME d:=cA _ h1;have ke:s.els.length*ME d<=8*ME d:=cA _ h2;have hex:GE 4 (dP (Xp.op s.expr,Xp.n s.expr,Xp.name s.expr,Xp.l s.expr)):=by rw[eS];exact he
 unfold l8 aU bk bt ct em ka pg ck bc bD aW;refine aw (Bf _ _ g out hex hg hs (by rw[hg.len];decide) (by rw[hg.len];decide) (by omega)) λy hy=>?_
 obtain⟨Y,o1⟩:=y;obtain⟨p1,p2⟩:=hy;dsimp only at p1 p2;subst p1;have p3:=p2.u;have p4:=p2.l;refine ba (by simp) ?_;refine aw (Gz _ Y o1 (by omega)) λy hy=>?_
 obtain⟨J,o2⟩:=y;obtain⟨q1,q2⟩:=hy;dsimp only at q1 q2;subst q1;rw[hg.len] at q2;have hbr:GI nT ss t ((10,2,0,0,0,J.2.2.2.2.2.2.2.1):IT):=⟨VN (by decide) (by decide) (by simp[iw]) (by decide:¬(10:Int)=3),hs⟩
 have l2:o2.length=o1.length+1:=by rw[q2,bn];rfl
 refine ba (by simp) ?_;refine aw (hS s.body J o2 (by omega) h3 hg (hso.sub (eP _) (by omega)) (by omega)) λy hy=>?_
 obtain⟨U,I⟩:=y;obtain⟨r1,r2,r3⟩:=hy;dsimp only at r1 r2 r3;have r4:=r2.u;have r5:=r2.l;have ebr:iA I o1.length=(10,2,0,0,0,J.2.2.2.2.2.2.2.1):=by rw[r2.p _ (by omega),q2,vZ]
 refine ba (by simp) ?_;have qs:=r1.trans (GQ.site U U.2.2.2.2.2.1 J.2.2.2.2.2.2.2.1 U.2.2.2.2.2.2.2.2);refine aI (λh3w=>?_) λh3w=>?_
 .have hels:mT d s.els=0:=by rw[hel (by have h3w:s.op=3:=h3w;omega)];rfl
  rw[hels,c8];refine aw (Gz _ _ I (by omega)) λy hy=>?_
  obtain⟨g4,M⟩:=y;obtain⟨w1,w2⟩:=hy;dsimp only at w1 w2;have l4:M.length=I.length+1:=by rw[w2,bn];rfl
  refine ba (by simp) (aQ (ef _) (by dsimp only[ar];omega) (aQ (ef _) (by dsimp only[ar];omega) (al ?_)));have hat:o1.length<M.length:=by omega
  have ej:iA M I.length=(5,(out.length:Int),0,0,0,J.2.2.2.2.2.2.2.1):=by rw[w2,vZ];rfl
  have e43:∀ k:Nat,k<I.length->iA M k=iA I k:=λk hk=>by rw[w2,He hk]
  refine ⟨by dsimp only;rw[w1];exact qs,?_,by dsimp only;rw[w1];exact r3⟩;dsimp only;have eF:∀ {z:IT} {k:Nat},¬k=o1.length->iA (cJ M ((o1.length:Nat):Int) z) k=iA M k:=λh=>by rw[xK hat,aC h]
  obtain⟨f1,f2,f3,f4,f5,f6⟩:=p2.cbr q2 hbr rfl r2 (ptB M o1.length (aN M.length)) (by rw[bU];omega) (λk hk hn=>(eF hn).trans (e43 k hk)) ⟨_,⟨ef _,by rw[bU];exact eP _⟩,by rw[xK hat,aJ rfl,e43 _ (by omega),ebr];rfl⟩;show QC nT ss t _ out (ptB M o1.length (aN M.length));have ejF:iA (ptB M o1.length (aN M.length)) I.length=(5,(out.length:Int),0,0,0,J.2.2.2.2.2.2.2.1):=(eF (by omega:¬I.length=o1.length)).trans ej;refine ⟨by rw[bU];omega,by rw[bU];omega,f1,?_,λk Y J=>?_,λk Y J U=>?_⟩
  .rw[(bU _ _ _).trans l4];exact f2.whl f3 f4 (by rw[ejF]) (by rw[ejF])
  .rw[bU,l4] at J;by_cases hk:k<I.length
   .exact f5 k Y hk
   .rw[show k=I.length by omega,ejF];exact⟨VN (by decide) (by decide) (by simp[iw]) (by decide:¬(5:Int)=3),hs⟩
  .have g2':=J;rw[bU,l4] at g2';by_cases hk:k<I.length
   .exact f6 k Y hk U
   .rw[show k=I.length by omega,ejF] at U;cases U
 refine aI (λhz=>?_) λ_=>?_
 .have hels:mT d s.els=0:=by rw[gz.1 (by dsimp only[ar] at hz;omega:s.els.length=0)];rfl
  rw[hels,c8];refine aQ (ef _) (by dsimp only[ar];omega) (aQ (ef _) (by dsimp only[ar];omega) (al ⟨qs,?_,r3⟩));dsimp only;have hat:o1.length<I.length:=by omega
  obtain⟨f1,f2,f3,f4,f5,f6⟩:=p2.cbr q2 hbr rfl r2 (ptB I o1.length (aN I.length)) (by rw[bU];omega) (λk hk hn=>by rw[xK hat,aC hn]) ⟨_,⟨ef _,by rw[bU];exact eP _⟩,by rw[xK hat,aJ rfl,ebr];rfl⟩;show QC nT ss t _ out (ptB I o1.length (aN I.length));refine ⟨by rw[bU];omega,by rw[bU];omega,f1,?_,λk Y J=>?_,λk Y J U=>?_⟩
  .rw[bU];exact (f2.app (pT.one (by rw[f3];decide))).app f4
  .rw[bU] at J;exact f5 k Y J
  .exact f6 k Y (by rw[bU] at J;exact J) U
 .refine aw (Gz _ _ I (by omega)) λy hy=>?_
  obtain⟨g4,M⟩:=y;obtain⟨w1,w2⟩:=hy;dsimp only at w1 w2;have l4:M.length=I.length+1:=by rw[w2,bn];rfl
  have qs4:GQ J g4:=by rw[w1];exact qs
  have x4:gN g4=gN J+(mT d s.body:Nat):=by rw[w1];exact r3
  have hat:o1.length<M.length:=by omega
  have ej:iA M I.length=(5,0,0,0,0,J.2.2.2.2.2.2.2.1):=by rw[w2,vZ]
  have e43:∀ k:Nat,k<I.length->iA M k=iA I k:=λk hk=>by rw[w2,He hk]
  refine ba (by simp) (aQ (ef _) (by dsimp only[ar];omega) (aQ (ef _) (by dsimp only[ar];omega) ?_));have eF:∀ {z:IT} {k:Nat},¬k=o1.length->iA (cJ M ((o1.length:Nat):Int) z) k=iA M k:=λh=>by rw[xK hat,aC h]
  refine aw (hS s.els g4 (ptB M o1.length (aN M.length)) (by omega) h4 (hg.of qs4) (hso.sub (by rw[x4];omega) (by rw[x4];omega)) (by rw[bU];omega)) λy hy=>?_
  obtain⟨g5,Z⟩:=y;obtain⟨z1,z2,z3⟩:=hy;dsimp only at z1 z2 z3;have z4:=z2.l;have z5:=z2.u;have zp:=z2.p;have zb:=z2.b;have zi:=z2.i;have zr:=z2.r;rw[bU] at z4 z5 zp zb zi zr;have hj5:I.length<Z.length:=by omega
  refine ba (by simp) (aQ (ef _) (by dsimp only[ar];omega) (aQ (ef _) (by dsimp only[ar];omega) (al ⟨qs4.trans z1,?_,by dsimp only;rw[z3,x4];omega⟩)));dsimp only;show QC nT ss t _ out (ptA Z I.length (aN Z.length));have eG:∀ {z:IT} {k:Nat},¬k=I.length->iA (cJ Z ((I.length:Nat):Int) z) k=iA Z k:=λh=>by rw[xK hj5,aC h]
  have ej5:iA Z I.length=(5,0,0,0,0,J.2.2.2.2.2.2.2.1):=by rw[zp _ (by omega),eF (by omega),ej]
  obtain⟨f1,f2,f3,f4,f5,f6⟩:=p2.cbr q2 hbr rfl r2 (ptA Z I.length (aN Z.length)) (by rw[bU];omega) (λk hk hn=>by rw[eG (by omega),zp k (by omega),eF hn,e43 k hk]) ⟨aN M.length,⟨ef _,by rw[bU];dsimp only[ar];omega⟩,by rw[eG (by omega),zp _ (by omega),xK hat,aJ rfl,e43 _ (by omega),ebr]⟩;have ejF:iA (ptA Z I.length (aN Z.length)) I.length=(5,aN Z.length,0,0,0,J.2.2.2.2.2.2.2.1):=by rw[xK hj5,aJ rfl,ej5]
  refine ⟨by rw[bU];omega,by rw[bU];omega,f1,?_,λk Y J=>?_,λk Y J U=>?_⟩
  .rw[bU];refine ((f2.app (pT.one (by rw[f3];decide))).app f4).ite (by rw[ejF]) (by rw[ejF];rfl) ?_;rw[l4] at zb;exact zb.congr λk Y J=>eG (by omega)
  .rw[bU] at J;rcases LL k I.length with hk|hk|hk
   .exact f5 k Y hk
   .rw[hk,ejF];exact⟨VN (by decide) (by decide) (by simp[iw]) (by decide:¬(5:Int)=3),hs⟩
   .rw[eG (by omega)];exact zi k (by omega) J
  .have g2':=J;rw[bU] at g2';rcases LL k I.length with hk|hk|hk
   .exact f6 k Y hk U
   .rw[hk,ejF] at U;cases U
   .rw[eG (by omega)] at U ⊢;rw[bU];exact zr k (by omega) g2' U
theorem VM (rs:FS6) (rt:FT6) (rb:FT6) (ra:FA6) (d:Nat) (hB:aei nT ss t rb d) (hA:aej nT ss t ra d):SpG nT ss t (qR rs rt rb ra) (d+1):=by
 intro s g out hs hg hso hb;have hm:ME (d+1)=50+16*ME d:=rfl;obtain⟨i1,i2,i3,i4,i5,i6,i7,i8,i9,Y⟩:=hs;have hcn:Nu (d+1) s=1+mT d s.body+mT d s.els:=rfl;rw[hcn] at hso ⊢;obtain⟨so0,so1,so2⟩:=id hso;have so0:0<=g.2.2.2.2.2.2.2.2:=so0;have so1:g.2.2.2.2.2.2.2.2+((1+mT d s.body+mT d s.els:Nat):Int)<=1000:=so1;have ew:bg .i64 (g.2.2.2.2.2.2.2.2+1)=g.2.2.2.2.2.2.2.2+1:=ie (by omega) (by omega);have gs:=GQ.site g g.2.2.2.2.2.1 g.2.2.2.2.2.2.2.2 (bg .i64 (g.2.2.2.2.2.2.2.2+1));unfold qR aU bk bt ct em bI pg bc bD aW aD cz dS;refine aX (λx=>QG nT ss t (ME (d+1)) (1+mT d s.body+mT d s.els) g out x) ?_ λx hx=>al hx
 dsimp only;have Z:SO ss t (gS ((g.1,g.2.1,g.2.2.1,g.2.2.2.1,g.2.2.2.2.1,g.2.2.2.2.2.1,g.2.2.2.2.2.2.1,g.2.2.2.2.2.2.2.2,bg .i64 (g.2.2.2.2.2.2.2.2+1)):GN)):=so2 _ (eP _) (by show g.2.2.2.2.2.2.2.2<g.2.2.2.2.2.2.2.2+((1+mT d s.body+mT d s.els:Nat):Int);omega);have hn1:gN ((g.1,g.2.1,g.2.2.1,g.2.2.2.1,g.2.2.2.2.1,g.2.2.2.2.2.1,g.2.2.2.2.2.2.1,g.2.2.2.2.2.2.2.2,bg .i64 (g.2.2.2.2.2.2.2.2+1)):GN)=gN g+1:=ew;revert gs Z hn1;generalize ((g.1,g.2.1,g.2.2.1,g.2.2.2.1,g.2.2.2.2.1,g.2.2.2.2.2.1,g.2.2.2.2.2.2.1,g.2.2.2.2.2.2.2.2,bg .i64 (g.2.2.2.2.2.2.2.2+1)):GN)=U;intro gs Z hn1;have M:=hg.of gs;have hso1:=hso.sub (b:=gN U) (n:=mT d s.body+mT d s.els) (by rw[hn1];omega) (by rw[hn1];omega);have fin:∀ (n m:Nat) (y:GN×List IT),QG nT ss t n m U out y->n<=ME (d+1)->m=mT d s.body+mT d s.els->QG nT ss t (ME (d+1)) (1+mT d s.body+mT d s.els) g out y:=λn m y J hn hm=>⟨gs.trans J.q,(QC.nil 0 out).trans J.c (by omega),by rw[J.x,hn1];omega⟩
 have fin0:s.op=1\/9<=s.op->∀ (n:Nat) (y:GN×List IT),y.1=U/\QC nT ss t n out y.2->n<=ME (d+1)->QG nT ss t (ME (d+1)) (1+mT d s.body+mT d s.els) g out y:=λI n y J hn=>fin n 0 y ⟨by rw[J.1];exact GQ.refl U,J.2,by rw[J.1];simp⟩ hn (by rw[Y.bo I,Y.el (by omega)];rfl)
 refine aI (λI=>?_) λ_=>?_
 .refine aw (To (m_ _) U out ?_ ?_ ?_ ?_ M Z (by omega)) λy J=>ba (by simp) (al (fin0 (.inl I) _ _ J (by omega)))
  .rw[wK];exact i1
  .rw[wK];exact i3
  .rw[wK];exact i4 (.inl I)
  .rw[wK];exact Y.vr I
 refine aX (λx=>x.2=(U,s,out)/\(x.1=ah↔s.op=2\/s.op=3)) ?_ ?_
 .exact aI (λh=>al ⟨by dsimp only;rw[wK],λ_=>.inl h,λ_=>aP h⟩) λh=>al ⟨by dsimp only;rw[wK],λh2=>.inr (bm h2),λh2=>aP (h2.resolve_left h)⟩
 rintro⟨b,x⟩ ⟨e,hb2⟩;dsimp only at e hb2;subst e;refine aO (λhb3=>?_) λhbf=>?_
 .dsimp only;rw[wK];refine aw (hB s U out (hb2.1 hb3) (i4 (by rcases hb2.1 hb3 with h|h;exact .inr (.inl h);exact .inr (.inr (.inl h)))) i6 i7 i8 i9 Y.el M Z hso1 hb) λy J=>ba (by simp) (al (fin _ _ _ J (by omega) rfl))
 have har:∀ (a b c:Int),4<=s.op->GO nT (a,c,0,0,0,0)->GO nT (b,c,0,0,0,0)->¬a=5/\¬a=10->¬b=5/\¬b=10->Ok (ra ((s,a,b,c),U,out)) λy=>QG nT ss t (ME (d+1)) (1+mT d s.body+mT d s.els) g out y:=λa b c h4 ga gb na nb=>(hA s a b c U out i6 i8 ga gb na nb M Z (hso1.sub (eP _) (by omega)) hb).mono λy J=>fin _ _ _ J (by omega) (by rw[Y.el (by omega)];rfl)
 have hput:∀ {op:Int} {r:Int×Int×Int×Int×Int},9<=s.op->GO nT (op,r)->¬op=5/\¬op=10->Ok (cr ((op,r),U,out)) (QG nT ss t (ME (d+1)) (1+mT d s.body+mT d s.els) g out):=λh9 hi h5=>(vQ (by omega) M Z hi h5).mono λy J=>fin0 (.inr h9) _ _ J (by omega)
 have hlk:∀ n:List UInt8,Ok (jP (U.2.1,n)) λr=>(n=[109]->r=0)/\(n=[110]->r=1)/\(n=[114]->r=2):=λn=>(K0 U.2.1 n (by rw[M.l];decide)).mono λr h=>acd (by rw[M.l] at h;exact h)
 have hcond:∀ (n:List UInt8),Ok (iZ (n,U,out)) λy=>y.2=(U,out)/\(n=[99]->y.1=0):=λn=>YC n U out M
 have hth:Ok (iH (U.2.2.2.2.1,s.name)) λr=>s.op=12\/s.op=13->0<=r/\r<(nT:Int):=(xd U.2.2.2.2.1 s.name (by rw[M.t,bC];have q4:uJ.length=4:=rfl;omega)).mono λr hr I=>by
  have hn:=Y.sp I;have hl:(uJ.take nT).length<=nT:=pi ..;obtain⟨_,h2,_,h4⟩:=hr;rw[M.t] at h2 h4;exact⟨AX.1 λh=>h4 h hn,by omega⟩
 have hft:∀ n:List UInt8,Ok (iH (U.2.2.2.1,n)) λr=>n=[102]->r=0:=λn=>(xd U.2.2.2.1 n (by rw[M.f];decide)).mono λr hr hn=>by
  obtain⟨h1,h2,_,h4⟩:=hr;rw[M.f] at h2 h4;have h2:r<1:=h2;have:¬r<0:=λh=>h4 h (by rw[hn];decide)
  omega
 dsimp only;rw[wK];have gor:∀ {a c:Int},1<=a->a<=27->iw (a,c,0,0,0,0)=[]->OB nT (a,c,0,0,0,0)->GO nT (a,c,0,0,0,0):=λh1 h2 h3 h4=>⟨h1,h2,by rw[h3];exact λj hj=>(by cases hj),h4⟩
 refine aI (λI=>aw (hlk _) λv hv=>aw (har _ _ _ (by have I:s.op=4:=I;omega) (gor (by decide) (by decide) rfl ?_) (gor (by decide) (by decide) rfl ?_) (by decide) (by decide)) λy J=>ba (by simp) (al J)) λ_=>?_
 .exact (Y.lk I).imp hv.1 hv.2.1
 .exact (Y.lk I).imp hv.1 hv.2.1
 refine aI (λI=>aw (hlk _) λv hv=>aw (har _ _ _ (by have I:s.op=5:=I;omega) (gor (by decide) (by decide) rfl ?_) (gor (by decide) (by decide) rfl ?_) (by decide) (by decide)) λy J=>ba (by simp) (al J)) λ_=>?_
 .exact hv.2.2 (Y.rw (.inl I))
 .exact hv.2.2 (Y.rw (.inl I))
 refine aI (λI=>aw (hlk _) λv hv=>aw (har _ _ _ (by have I:s.op=6:=I;omega) (gor (by decide) (by decide) rfl ?_) (gor (by decide) (by decide) rfl ?_) (by decide) (by decide)) λy J=>ba (by simp) (al J)) λ_=>?_
 .exact hv.2.2 (Y.rw (.inr I))
 .exact hv.2.2 (Y.rw (.inr I))
 refine aI (λI=>aw (har _ _ _ (by have I:s.op=7:=I;omega) (gor (by decide) (by decide) rfl (by decide:¬(17:Int)=3)) (gor (by decide) (by decide) rfl (by decide:¬(18:Int)=3)) (by decide) (by decide)) λy J=>ba (by simp) (al J)) λ_=>?_
 refine aI (λI=>aw (har _ _ _ (by have I:s.op=8:=I;omega) (gor (by decide) (by decide) rfl (by decide:¬(19:Int)=3)) (gor (by decide) (by decide) rfl (by decide:¬(20:Int)=3)) (by decide) (by decide)) λy J=>ba (by simp) (al J)) λ_=>?_
 refine aI (λI=>aw (hcond _) λy J=>?_) λ_=>?_
 .obtain⟨v,y2⟩:=y;obtain⟨y3,y4⟩:=J;dsimp only at y3;subst y3;exact ba (by simp) (aw (hput (by have I:s.op=9:=I;omega) (gor (by decide) (by decide) rfl (y4 (Y.cn (.inl I)))) (by decide)) λy J=>ba (by simp) (al J))
 refine aI (λI=>aw (hcond _) λy J=>?_) λ_=>?_
 .obtain⟨v,y2⟩:=y;obtain⟨y3,y4⟩:=J;dsimp only at y3;subst y3;exact ba (by simp) (aw (hput (by have I:s.op=10:=I;omega) (gor (by decide) (by decide) rfl (y4 (Y.cn (.inr (.inl I))))) (by decide)) λy J=>ba (by simp) (al J))
 refine aI (λI=>aw (hcond _) λy J=>?_) λ_=>?_
 .obtain⟨v,y2⟩:=y;obtain⟨y3,y4⟩:=J;dsimp only at y3;subst y3;exact ba (by simp) (aw (hput (by have I:s.op=11:=I;omega) (gor (by decide) (by decide) rfl (y4 (Y.cn (.inr (.inr I))))) (by decide)) λy J=>ba (by simp) (al J))
 refine aI (λI=>aw hth λv hv=>aw (hput (by have I:s.op=12:=I;omega) (gor (by decide) (by decide) rfl (hv (.inl I))) (by decide)) λy J=>ba (by simp) (al J)) λ_=>?_
 refine aI (λI=>aw hth λv hv=>aw (hput (by have I:s.op=13:=I;omega) (gor (by decide) (by decide) rfl (hv (.inr I))) (by decide)) λy J=>ba (by simp) (al J)) λ_=>?_
 refine aI (λI=>?_) λn14=>?_
 .have hex:GE 4 (dP (Xp.op s.expr,Xp.n s.expr,Xp.name s.expr,Xp.l s.expr)):=by rw[eS];exact i4 (.inr (.inr (.inr I)))
  refine aw (Bf _ _ U out hex M Z (by rw[hg.len];decide) (by rw[hg.len];decide) (by omega)) λy J=>?_
  obtain⟨g2,o2⟩:=y;obtain⟨q1,q2⟩:=J;dsimp only at q1 q2;subst q1;have q3:=q2.u;refine ba (by simp) (aw (hft _) λv hv=>?_);refine aw (vQ (by omega) M Z (VN (by decide) (by decide) (by simp[iw,hg.h,L0]) (hv (Y.se I))) (by decide)) λy J=>ba (by simp) (al (fin0 (.inr (by have I:s.op=14:=I;omega)) 16 _ ⟨J.1,q2.trans J.2 (bQ _)⟩ (by omega)))
 refine aI (λI=>?_) λn15=>?_
 .refine aw (xd _ _ (by rw[M.h];decide)) λv hv=>aw (hft _) λv2 hv2=>?_
  have hge:=Y.ge I;have hl:(0:Int)<=v/\v<2:=by
   obtain⟨_,h2,_,h4⟩:=hv;rw[M.h] at h2 h4;exact⟨AX.1 λh=>h4 h (by rw[hge.1];decide),h2⟩
  exact aw (hput (by have I:s.op=15:=I;omega) (VN (by decide) (by decide) (by simp[iw];omega) (hv2 hge.2)) (by decide)) λy J=>ba (by simp) (al J)
 .exfalso;have h1:=Y.o0;have h2:=Y.o1;have h3:¬(s.op=2\/s.op=3):=λh=>by have hbf:b=ai:=hbf;rw[hb2.2 h] at hbf;cases hbf
  omega
variable {nT:Nat} {ss:List (Int×Int×Int)} {t:Int}
theorem UA:∀ (n:Nat),(∀ d:Nat,3*d<n->SpG nT ss t (eB n) d)/\(∀ d:Nat,3*d+1<n->Y9 nT ss t (dA n) d)/\(∀ d:Nat,3*d+2<n->aei nT ss t (cV n) d)/\(∀ d:Nat,3*d+2<n->aej nT ss t (dw n) d)
 |0=>⟨λd h=>by omega,λd h=>by omega,λd h=>by omega,λd h=>by omega⟩
 |n+1=>by
  obtain⟨J,I,M,hA⟩:=UA n;refine ⟨λd h=>?_,λd h=>?_,λd h=>?_,λd h=>?_⟩
  .cases d with
   |zero=>exact λs g out hs=>hs.elim
   |succ d=>exact VM (dA n) (eB n) (cV n) (dw n) d (M d (by omega)) (hA d (by omega))
  .exact Sc (dA n) (eB n) (cV n) (dw n) d (J d (by omega))
  .exact J4 (dA n) (eB n) (cV n) (dw n) d (I d (by omega))
  .exact OX (dA n) (eB n) (cV n) (dw n) d (I d (by omega))
theorem Mz (d:Nat) (hd:d<=100):Y9 nT ss t sS d:=(UA fuel).2.1 d (by rw[jA];omega)
structure SL (t k:Int) (m:Nat) (S:List (Int×Int×Int)):Prop where
 l:S.length=m
 v:∀ i:Nat,i<m->(aH (T:=wJ) S (i:Int)).1=t/\(aH (T:=wJ) S (i:Int)).2.1=k+i
theorem HE {T:Ty} {l m:List T.den} {k:Nat} (h:k<l.length):aH (l++m) (k:Int)=aH l (k:Int):=by
 rw[xh,xh,ax,ax,bK h]
theorem HC {T:Ty} {l m:List T.den} {k:Nat} (h:l.length<=k):aH (l++m) (k:Int)=aH m ((k-l.length:Nat):Int):=by
 rw[xh,xh,ax,ax,bX h]
theorem SL.nil (t k:Int):SL t k 0 []:=⟨rfl,λi h=>by omega⟩
theorem SL.one (t k z:Int):SL t k 1 [(t,k,z)]:=⟨rfl,λi h=>by rw[show i=0 by omega];exact⟨rfl,by show k=k+((0:Nat):Int);omega⟩⟩
theorem SL.app {k k':Int} {a b:Nat} {S S':List (Int×Int×Int)} (h:SL t k a S) (h':SL t k' b S') (hk:k'=k+a):SL t k (a+b) (S++S'):=by
 obtain⟨h1,h2⟩:=h;obtain⟨J,I⟩:=h';refine ⟨by rw[bn];omega,λi hi=>?_⟩;by_cases hl:i<S.length
 .rw[HE (T:=wJ) hl];exact h2 i (by omega)
 .rw[HC (T:=wJ) (by omega)];have:=I (i-S.length) (by omega);exact⟨this.1,this.2.trans (show k'+((i-S.length:Nat):Int)=k+(i:Int) by omega)⟩
theorem Dv:∀ (n d:Nat),d<n->∀ (t k:Int) (l:List Sx) (out:List (Int×Int×Int)),l.length<=100->(∀ s∈l,GT d s)->0<=k->k+mT d l<=100000000->out.length+mT d l<=100000000->Ok (oR n ((t,k,l),out)) λy=>y.1=k+mT d l/\∃ S,y.2=out++S/\SL t k (mT d l) S
 |0,_,h,_,_,_,_,_,_,_,_,_=>by omega
 |n+1,d,hn,t,k,l,out,hl,hs,k0,hkb,hb=>by
  rw[Fx];unfold v9 bu vO bD aW cK aD cz;refine cf l.length (λi x=>x.1.2=(i:Int)/\x.1.1=k+mT d (l.take i)/\∃ S,x.2=out++S/\SL t k (mT d (l.take i)) S) ?_ ?_ ⟨rfl,by simp[mT],[],by simp,by simp[mT];exact SL.nil t k⟩
  .rintro i ⟨⟨a,b⟩,o⟩ hi ⟨e1,e2,S,e3,e4⟩;dsimp only at e1 e2 e3;subst e1;subst e2;subst e3;have hp:=M2 (d:=d) l (i+1);rw[vy hi] at hp;rw[vy hi];refine dl ?_;have hin:((i:Nat):Int)<(l.length:Int):=by omega
   have hm:=hs _ (bH (T:=.sm) (xs:=l) (j:=(i:Int)) (by omega) (by omega));have hSl:=e4.l;cases d with
   |zero=>exact hm.elim
   |succ d=>
    obtain⟨_,_,_,g4,g5,g6,g7⟩:=hm;have hc:Nu (d+1) (aH (T:=.sm) l (i:Int))=1+mT d (Sx.body (aH (T:=.sm) l (i:Int)))+mT d (Sx.els (aH (T:=.sm) l (i:Int))):=rfl;rw[hc] at hp ⊢;dsimp only;refine aQ (by omega) hin (aR (bf (by simp;omega) (by omega) (aQ (by omega) hin (aR ?_))));rw[ie (n:=k+(mT (d+1) (l.take i):Nat)+1) (by omega) (by omega)];refine aw (Dv n d (by omega) _ _ _ _ (by omega) g6 (by omega) (by omega) (by simp;omega)) λy I=>ba (by simp) ?_
    obtain⟨a2,o2⟩:=y;obtain⟨Z,S2,Y,U⟩:=I;dsimp only at Z Y;subst Z;subst Y;have hSl2:=U.l;refine aQ (by omega) hin (aR ?_);refine aw (Dv n d (by omega) _ _ _ _ (by omega) g7 (by omega) (by omega) (by simp;omega)) λy I=>ba (by simp) (al ?_)
    obtain⟨a3,o3⟩:=y;obtain⟨M,S3,J,z3⟩:=I;dsimp only at M J;subst M;subst J;refine ⟨gK (by omega),by dsimp only;omega,S++([_]++(S2++S3)),by simp only[jy];rfl,?_⟩;refine e4.app ?_ rfl;rw[rC];exact (SL.one t _ _).app (U.app z3 rfl) (by simp)
  .rintro⟨⟨a,b⟩,o⟩ ⟨e1,e2,e3⟩;dsimp only at e1 e2 e3;subst e1;subst e2;rw[cL] at e3 ⊢;exact dc (al ⟨rfl,e3⟩)
theorem T3 {T k' U k:Int} {l S:List (Int×Int×Int)} {m:Nat} (h:Jv T l=aa (k',U)) (Y:SL t k m S) (hk:(k'=t/\U=k)\/(k'<t/\t<T/\k=0)):∀ i:Nat,i<=m->Jv T (l++S.take i)=aa (if i=0 then (k',U) else (t,k+i))
 |0,_=>by rw[List.take_zero,lm,aJ rfl];exact h
 |i+1,hi=>by
  have ih:=T3 h Y hk i (by omega);rw[nB (T:=wJ) (xs:=S) (i:=i) (by rw[Y.l];omega),<-jy,T5,ih];obtain⟨I,M⟩:=Y.v i (by omega);rw[aC (Nat.succ_ne_zero i)];by_cases J:i=0
  .subst J;rw[aJ rfl];unfold Q3;dsimp only;rcases hk with ⟨h1,h2⟩|⟨h1,h2,Z⟩
   .rw[aJ ⟨by rw[I,h1],by rw[M,h2];simp⟩,h1,h2];simp
   .rw[aC (λh=>by rw[I] at h;omega),aJ ⟨by rw[I];exact h1,by rw[I];exact h2,by rw[M,Z];rfl⟩,I,Z];simp
  .rw[aC J];unfold Q3;dsimp only;rw[aJ ⟨I,M⟩];congr 2;omega
abbrev CE6:Type:=List UInt8×Int×Int×Bool×Int
abbrev W4T:Type:=List CE6×List (List UInt8×Bool)×List (List UInt8×Int)×List (List UInt8)
def ceD (z:DT):List CE6:=(eT (aS (jZ z.2.2.2.1 1))).map λ(k:Nat)=>(z.2.2.1,(k:Int),z.2.2.2.1,decide (z.1=2),z.2.2.2.2.1)
def adD (y:W4T) (z:DT):W4T:=
 if z.1=1\/z.1=2 then (y.1++ceD z,y.2) else if z.1=3\/z.1=4 then (y.1,y.2.1++[(z.2.2.1,decide (z.1=4))],y.2.2) else if z.1=5 then (y.1,y.2.1,y.2.2.1++[(z.2.2.1,0)],y.2.2.2) else (y.1,y.2.1,y.2.2.1,y.2.2.2++[z.2.2.1])
def W4 (i:Nat):W4T:=(D0.take i).foldl adD ([],[],[],[])
theorem W4_9:W4 9=(C0,Fd,Ky,QL):=rfl
theorem W4_s {i:Nat} (hi:i<9):W4 (i+1)=adD (W4 i) (aH (T:=tDc) D0 (i:Int)):=by
 unfold W4;rw[nB (T:=tDc) (xs:=D0) hi,fk];rfl
theorem D0_c:∀ i:Nat,i<9->(aH (T:=tDc) D0 (i:Int)).1=5->i=7:=by decide
theorem ah2:∀ i:Nat,i<9->(W4 i).1.length<=5/\(W4 i).2.1.length<=3/\(W4 i).2.2.1.length<=1/\(W4 i).2.2.2.length<=1/\jZ (aH (T:=tDc) D0 (i:Int)).2.2.2.1 1<=2/\1<=jZ (aH (T:=tDc) D0 (i:Int)).2.2.2.1 1:=by decide
def Zy (p:PG) (i:Nat):Nat:=((p.2.take i).map λt=>mT 5 t.2.2.2).sum
def boN (p:PG) (i:Nat):Nat:=mT 5 (aH (T:=xp) p.2 (i:Int)).2.2.2
theorem ack {p:PG} {i:Nat} (hi:i<p.2.length):Zy p (i+1)=Zy p i+boN p i:=by
 unfold Zy boN;rw[nB (T:=xp) hi,cI,D6];simp
theorem Ti {p:PG} (i:Nat) (h:(p.2.map λt=>mT 5 t.2.2.2).sum<=60):Zy p i<=60:=by
 refine c7 ?_ h
 conv=>rhs;rw[<- zY i p.2]
 unfold Zy;rw[cI,D6];omega
structure SW (p:PG) (i:Nat) (S:List (Int×Int×Int)):Prop where
 l:S.length=Zy p i
 f:∃ a b,Jv p.2.length S=aa (a,b)/\(a<i\/a=0/\b=0)
 s:∀ j:Nat,j<i->SR S (j:Int) (Zy p j:Nat) (boN p j)
structure WW (p:PG) (w:WT):Prop where
 x:WX w
 t:w.2.2.2.2.1=uJ.take p.2.length
 s:∀ j:Nat,j<p.2.length->SR w.2.2.2.2.2 (j:Int) (Zy p j:Nat) (boN p j)
theorem SO.app {S S':List (Int×Int×Int)} {t s:Int} (h:SO S t s):SO (S++S') t s:=by
 obtain⟨h0,h1,h2⟩:=h;obtain⟨s,rfl⟩:∃ n:Nat,s=(n:Int):=⟨s.toNat,by omega⟩
 exact⟨h0,by rw[bn];omega,by rw[HE (T:=wJ) (by omega)];exact h2⟩
theorem Tr (p:PG) (hp:PJ p) (r:Int×Int) (hr:eV p=aa r) (h0:r.1=0) (hc:(p.2.map λt=>mT 5 t.2.2.2).sum<=60):Ok (sT p) (WW p):=by
 have hpt:=hp.t;unfold sT aU bk bt ct em bI dh cQ eU lY bc bu iO bD bF aW cK aD cz;refine aT hr (bZ (λh=>(h h0).elim) λ_=>?_);have hD:p.1=D0:=hp.d;have hlen:p.1.length=9:=by rw[hD];rfl
 refine cf 9 (λi x=>x.1=(i:Int)/\x.2.1=p/\x.2.2=W4 i) ?_ ?_ ⟨rfl,rfl,rfl⟩
 .rintro i ⟨a,p',y⟩ hi ⟨e1,e2,e3⟩;dsimp only at e1 e2 e3;subst e1;have e2:=e2.symm;subst e2;obtain⟨b1,b2,b3,b4,b5,b6⟩:=ah2 i hi;rw[<- e3] at b1 b2 b3 b4;have hW:=W4_s hi;rw[<- e3] at hW;have hcd:=D0_c i hi;have hlk:i=7->y.2.1=Fd/\(aH (T:=tDc) D0 (i:Int)).2.2.2.2.2=[109]:=λh=>by subst h;rw[e3];exact⟨rfl,rfl⟩
  refine dl ?_;refine cw (aR ?_);dsimp only;rw[hD];revert hW hcd hlk b5 b6;generalize (aH (T:=tDc) D0 (i:Int))=z;intro b5 b6 hW hcd hlk;refine aX (λx=>x=(p,W4 (i+1))) ?_ ?_
  .rw[hW];unfold adD;refine aX (λx=>x.2=(p,z,y)/\(x.1=ah↔(z.1=1\/z.1=2))) ?_ ?_
   .exact aI (λh=>al ⟨rfl,λ_=>.inl h,λ_=>aP h⟩) λh=>al ⟨rfl,λh2=>.inr (bm h2),λh2=>aP (h2.resolve_left h)⟩
   rintro⟨b,x⟩ ⟨e,hb⟩;dsimp only at e hb;subst e;refine aO (λI=>?_) λI=>?_
   .rw[aJ (hb.1 I)];unfold ceD;obtain⟨m,hm⟩:∃ m:Nat,jZ z.2.2.2.1 1=(m:Int):=⟨(jZ z.2.2.2.1 1).toNat,by omega⟩
    rw[hm,gq];refine cf m (λk x=>x=((k:Int),p,z,y.1++(eT k).map (λ(k:Nat)=>(z.2.2.1,(k:Int),z.2.2.2.1,decide (z.1=2),z.2.2.2.2.1)),y.2)) ?_ ?_ (by simp)
    .rintro k x hk rfl;refine bA (λ_=>?_) λg=>(by dsimp only at g;rw[hm] at g;omega)
     refine bf (by simp;omega) (by omega) (al ?_);dsimp only;rw[gK (by omega),List.range_succ,cI,<-jy];rfl
    .rintro x rfl;exact bA (λg=>(by dsimp only at g;rw[hm] at g;omega)) λ_=>al rfl
   rw[aC λh=>by have I:b=ai:=I;rw[hb.2 h] at I;cases I];refine aX (λx=>x.2=(p,z,y)/\(x.1=ah↔(z.1=3\/z.1=4))) ?_ ?_
   .exact aI (λh=>al ⟨rfl,λ_=>.inl h,λ_=>aP h⟩) λh=>al ⟨rfl,λh2=>.inr (bm h2),λh2=>aP (h2.resolve_left h)⟩
   rintro⟨c,x⟩ ⟨e,U⟩;dsimp only at e U;subst e;refine aO (λh=>?_) λh=>?_
   .rw[aJ (U.1 h)];exact bf (by simp;omega) (by omega) (al rfl)
   rw[aC λh2=>by have h:c=ai:=h;rw[U.2 h2] at h;cases h];refine aI (λh5=>?_) λh5=>?_
   .obtain⟨l1,l2⟩:=hlk (hcd h5);rw[aJ h5];refine aw (K0 _ _ (by dsimp only;rw[l1];decide)) λv hv=>?_
    have hv:=(acd (by dsimp only at hv;rw[l1] at hv;exact hv)).1 l2;subst hv;exact bf (by simp;omega) (by omega) (al rfl)
   .rw[aC h5];exact bf (by simp;omega) (by omega) (al rfl)
  rintro x rfl;exact al ⟨gK (by omega),rfl,rfl⟩
 .rintro⟨a,p',y⟩ ⟨e1,e2,j⟩;dsimp only at e1 e2 j;subst e1;have e2:=e2.symm;subst e2;rw[W4_9] at j;subst j;refine dc ?_;refine aw (P:=WW p) ?_ λr hr=>al hr
  refine cf p.2.length (λi x=>x.1=(i:Int)/\x.2.1=p/\x.2.2.1=C0/\x.2.2.2.1=Fd/\x.2.2.2.2.1=Ky/\x.2.2.2.2.2.1=QL/\x.2.2.2.2.2.2.1=uJ.take i/\SW p i x.2.2.2.2.2.2.2) ?_ ?_ ⟨rfl,rfl,rfl,rfl,rfl,rfl,rfl,rfl,⟨0,0,rfl,.inr ⟨rfl,rfl⟩⟩,λj hj=>by omega⟩
  .rintro i ⟨a,p2,c2,l2,d2,f2,t2,s2⟩ hi ⟨e1,e2,e3,e4,e5,e6,Z,M,⟨fa,fb,f8,f9⟩,J⟩;dsimp only at e1 e2 e3 e4 e5 e6 Z M f8 J;subst e1;have e2:=e2.symm;subst e2;have hb8:=Ti (i+1) hc;have hbs:=ack hi;refine dl ?_;have hin:((i:Nat):Int)<(p.2.length:Int):=by omega
   have hm:=hp.m _ (bH (T:=xp) (xs:=p.2) (j:=(i:Int)) (by omega) hin);have hnm:(aH (T:=xp) p.2 (i:Int)).1=aH (T:=.str) uJ (i:Int):=by
    have h1:=nB (T:=xp) hi;have h2:=gA (List.map Prod.fst) h1;rw[cI,kg,kg,hp.n,List.take_take,List.take_take,rA (by omega),rA (by omega),nB (T:=.str) (xs:=uJ) (i:=i) (by have q4:uJ.length=4:=rfl;omega)] at h2;exact ((List.cons.inj (List.append_cancel_left h2)).1).symm
   have htl:t2.length=i:=by rw[Z,bC];have q4:uJ.length=4:=rfl;omega
   dsimp only;refine aQ (by omega) hin (aR (bf (by simp;omega) (by omega) (aQ (by omega) hin (aR ?_))));refine aw (Dv fuel 5 (by rw[jA];omega) _ _ _ s2 (by have:=hm.b;omega) (λs hs=>((hm.s s hs).le (by omega:3<=5)).t) (eP _) ?_ ?_) λy hy=>ba (by simp) (al ?_)
   .show (0:Int)+(boN p i:Nat)<=_;omega
   .show s2.length+boN p i<=_;omega
   obtain⟨_,S,h2,Y⟩:=hy;have Y:SL (i:Int) 0 (boN p i) S:=Y;refine ⟨gK (by omega),rfl,e3,e4,e5,e6,?_,?_⟩
   .dsimp only;rw[Z,hnm,<-nB (T:=.str) (xs:=uJ) (i:=i) (by have q4:uJ.length=4:=rfl;omega)]
   .dsimp only;rw[h2];refine ⟨by rw[bn,Y.l,M,hbs],?_,λj hj=>?_⟩
    .have hr:=T3 f8 Y (by rcases f9 with h|⟨h,h'⟩;exact .inr ⟨h,by omega,rfl⟩;rcases Jq i with hi0|hi0;exact .inl ⟨by omega,h'⟩;exact .inr ⟨by omega,by omega,rfl⟩) (boN p i) (bQ _);rw[<- Y.l,cL] at hr;rw[hr];split
     .exact⟨_,_,rfl,f9.imp (λh=>by omega) id⟩
     .exact⟨_,_,rfl,.inl (by omega)⟩
    .rcases bW j i with h1|h1
     .obtain⟨g1,g2,g3⟩:=J j h1;exact⟨g1,g2,λq q1 q2=>(g3 q q1 q2).app⟩
     .have hj:j=i:=by omega
      subst hj;refine ⟨by omega,by omega,λq q1 q2=>?_⟩;obtain⟨q,rfl⟩:∃ n:Nat,q=(n:Int):=⟨q.toNat,by omega⟩
      refine ⟨by omega,by rw[bn,Y.l];omega,?_⟩;rw[HC (T:=wJ) (by omega)];exact (Y.v _ (by omega)).1
  .rintro⟨a,p2,c2,l2,d2,f2,t2,s2⟩ ⟨e1,e2,e3,e4,e5,e6,Z,M,⟨fa,fb,f8,f9⟩,J⟩;dsimp only at e1 e2 e3 e4 e5 e6 Z M f8 J;subst e1;have e2:=e2.symm;subst e2;subst e3;subst e4;subst e5;subst e6;subst Z;refine dc (al ?_);have hb8:=Ti p.2.length hc;refine ⟨⟨rfl,rfl,rfl,rfl,⟨p.2.length,hp.t0,hp.t,rfl⟩,by dsimp only;omega,?_⟩,rfl,J⟩;unfold Y_;have hTl:(uJ.take p.2.length).length=p.2.length:=by rw[bC];have q4:uJ.length=4:=rfl;omega
   dsimp only;rw[hTl,f8];simp
def WE:List (List UInt8):=[[120],[121],[118],[113],[109],[110],[114],[99],[102]]
set_option maxHeartbeats 20000000 in
theorem XR (t:List (List UInt8)) (ht:t.length<=4) (s:List (Int×Int×Int)):oI (C0,Fd,Ky,QL,t,s)=aa (WE++t,ah):=by
 refine cE ?_;unfold oI aU bk bt ct dh lY bc bu iO bD bF aW cK aD cz;with_reducible repeat' first|exact al rfl|refine Uh ?_|refine Ug ?_|refine Uf ?_|refine Ud ?_|refine ZU ?_|refine aR ?_|refine fg rfl ?_|refine fy rfl ?_|refine ba rfl ?_|refine Ue ?_|refine N9 ?_|refine N8 ?_
 refine bf (by show 9+t.length<=1073741824;omega) (by decide) ?_;with_reducible repeat' first|exact al rfl|refine Uh ?_|refine Ug ?_|refine Uf ?_|refine Ud ?_|refine ZU ?_|refine aR ?_|refine fg rfl ?_|refine fy rfl ?_|refine ba rfl ?_|refine Ue ?_|refine N9 ?_|refine N8 ?_
theorem QJ:∀ x∈WE++uJ,Ok (eR x) λb=>b=ah:=by
 intro x I;simp only[WE,uJ,fX,ll,bh,cj,fM] at I;rcases I with rfl|rfl|rfl|rfl|rfl|rfl|rfl|rfl|rfl|rfl|rfl|rfl|rfl;all_goals with_reducible repeat' first|exact al rfl|refine Uh ?_|refine Ug ?_|refine Uf ?_|refine Ud ?_|refine N8 ?_|refine ZU ?_|refine aR ?_|refine fg rfl ?_|refine fy rfl ?_|refine ba rfl ?_|refine Ue ?_|refine N9 ?_|refine cU (eR.eq_1 ..) ?_|refine cU (jp.eq_1 ..) ?_|refine cU (jW.eq_1 ..) ?_|refine cU (kO.eq_1 ..) ?_|refine cU (oL.eq_1 ..) ?_|refine cU (qr.eq_1 ..) ?_
theorem GT.up:∀ {d:Nat} {s:Sx},GT d s->GT (d+1) s
 |0,_,h=>h.elim
 |_+1,_,⟨a,b,c,e,f,g,i⟩=>⟨a,b,c,e,f,λx I=>GT.up (g x I),λx I=>GT.up (i x I)⟩
theorem adu {l:List Sx} (h:∀ s∈l,GT 3 s):mT 5 l=mT 3 l:=by
 unfold mT;rw[ph λx I=>(M1 (GT.up (h x I))).trans (M1 (h x I))]
theorem ael:∀ i:Nat,i<13->∀ r:Nat,r<i->aH (T:=.str) (WE++uJ) (r:Int)≠aH (T:=.str) (WE++uJ) (i:Int):=by decide
theorem NP (T:Int):∀ l:List (Int×Int×Int),l.foldl (Q3 T) af=af
 |[]=>rfl
 |_::r=>NP T r
theorem T4 {T:Int} {l:List (Int×Int×Int)} (h:Jv T l≠af) (i:Nat):Jv T (l.take i)≠af:=λhn=>h (by
 unfold Jv at hn ⊢;rw[<- zY i l,fk,hn,NP])
theorem Xy {T t n:Int} {z:Int×Int×Int} (h:Q3 T (aa (t,n)) z≠af):Q3 T (aa (t,n)) z=aa (z.1,z.2.1+1)/\(z.1=t/\z.2.1=n\/t<z.1/\z.1<T/\z.2.1=0):=by
 unfold Q3 at h ⊢;dsimp only at h ⊢;by_cases h1:z.1=t/\z.2.1=n
 .rw[aJ h1];exact⟨by rw[h1.1,h1.2],.inl h1⟩
 .rw[aC h1] at h ⊢;by_cases h2:t<z.1/\z.1<T/\z.2.1=0
  .rw[aJ h2];exact⟨by rw[h2.2.2];rfl,.inr h2⟩
  .rw[aC h2] at h;exact (h rfl).elim
theorem Ak {R:Type} {a b:Int} {t f:Option R} {Q:R->Prop} (h:b<=a) (hf:Ok f Q):Ok (bcase (fE a b) t f) Q:=fy (fP.2 h) hf
theorem FK {w:WT} (hx:WX w):gP w=aa ah:=by
 obtain⟨w1,w2,w3,w4,I,J⟩:=w;obtain⟨hc,hl,hd,hf,⟨n,n1,n4,ht⟩,hs,hv⟩:=hx;dsimp only at hc hl hd hf ht hs;subst hc;subst hl;subst hd;subst hf;have hT:I.length=n:=by rw[ht,bC];have q4:uJ.length=4:=rfl;omega
 have hv:Jv I.length J≠af:=hv;refine cE ?_;unfold gP aU bk bt ct cQ eU bc bu jg iO bD bF aW cK aD cz;refine aX (λx=>x=(ai,C0,Fd,Ky,QL,I,J)) ?_ ?_
 .refine Ak (show (5:Int)<=12 by decide) (Ak (show (3:Int)<=4 by decide) (Ak (show (1:Int)<=2 by decide) (Ak (show (1:Int)<=2 by decide) (Ak (show (1:Int)<=(I.length:Int) by omega) (Ak (show (I.length:Int)<=4 by omega) (al ?_))))));dsimp only[ar];rw[fP.2 (show (J.length:Int)<=60 by omega)]
 rintro x rfl;refine fh (aT (XR I (by omega) J) (fy rfl ?_));have hN:WE++I=(WE++uJ).take (9+n):=by rw[ht];rcases (by omega:n=1\/n=2\/n=3\/n=4) with rfl|rfl|rfl|rfl<;>rfl
 have hNl:(WE++I).length=9+n:=by rw[bn,hT];rfl
 have hNg:∀ i:Nat,i<9+n->aH (T:=.str) (WE++I) (i:Int)=aH (T:=.str) (WE++uJ) (i:Int):=λi hi=>by
  rw[hN,xh,xh,ax,ax,List.getElem?_take_of_lt hi]
 refine cf (9+n) (λi x=>x=((i:Int),C0,Fd,Ky,QL,I,J)) ?_ ?_ rfl
 .rintro i x hi rfl;refine bA (λ_=>?_) λg=>(by dsimp only[ar] at g;rw[hNl] at g;omega)
  refine aX (λx=>x=(ai,C0,Fd,Ky,QL,I,J)) ?_ ?_
  .refine aQ (by dsimp only;omega) (by dsimp only;rw[hNl];omega) (aR ?_);have hmem:aH (T:=.str) (WE++I) (i:Int)∈WE++uJ:=by rw[hNg i hi];exact bH (T:=.str) (by omega) (by have:(WE++uJ).length=13:=rfl;omega)
   refine aw (QJ _ hmem) λb hb=>?_
   refine fy (by rw[hb];rfl) (db (ey (by dsimp only;omega) (ey (by dsimp only;rw[hNl];omega) ?_)));refine aQ (by dsimp only;omega) (by dsimp only;rw[hNl];omega) (aR ?_);refine aw (xd _ _ (by dsimp only;rw[bC,hNl];omega)) λr hr=>al ?_
   obtain⟨_,h2,Z,_⟩:=hr;dsimp only at h2 Z;rw[bC,hNl] at h2;have hr0:¬0<=r:=λh0=>by
    have Z:=Z h0;obtain⟨r,rfl⟩:∃ m:Nat,r=(m:Int):=⟨r.toNat,by omega⟩
    rw[xh,ax,List.getElem?_take_of_lt (by omega),<-ax,<-xh (T:=.str),hNg r (by omega),hNg i hi] at Z;exact ael i (by omega) r (by omega) Z
   rw[kC.2 (by omega)]
  .rintro x rfl;exact fh (al (by dsimp only;rw[gK (by omega)]))
 rintro x rfl;refine bA (λg=>(by dsimp only[ar] at g;rw[hNl] at g;omega)) λ_=>?_
 refine aw (P:=λb=>b=ah) ?_ λy hy=>al hy
 refine cf 1 (λi x=>x=((i:Int),C0,Fd,Ky,QL,I,J)) ?_ ?_ rfl
 .rintro i x hi rfl;have hi0:i=0:=by omega
  subst hi0;refine fg rfl (ba rfl (aR (aX (λx=>x=(ai,C0,Fd,Ky,QL,I,J)) ?_ ?_)))
  .exact fy rfl (fy rfl (ba rfl (aR (al rfl))))
  .rintro x rfl;exact fh (al (by dsimp only;rw[gK (by omega)]))
 rintro x rfl;refine bA (λg=>(by have g:(1:Int)<1:=g;omega)) λ_=>?_
 refine aw (P:=λb=>b=ah) ?_ λy hy=>al hy
 refine cf J.length (λi x=>x=((i:Int),C0,Fd,Ky,QL,I,J)/\∃ t k:Int,Jv I.length (J.take i)=aa (t,k)/\0<=t/\t<(I.length:Int)/\(i=0->t=0/\k=0)/\(¬i=0->(aH (T:=wJ) J ((i-1:Nat):Int)).1=t/\(aH (T:=wJ) J ((i-1:Nat):Int)).2.1+1=k/\0<k/\k<=i)) ?_ ?_ ⟨rfl,0,0,rfl,by omega,by omega,λ_=>⟨rfl,rfl⟩,λh=>(h rfl).elim⟩
 .rintro i x hi ⟨rfl,t,k,hF,t0,tT,hz,hp⟩;have hw:¬(i:Int)=0->bg .i64 ((i:Int)-1)=((i-1:Nat):Int):=λh=>by rw[ie (by omega) (by omega)];omega
  have hnx:=Gv (T:=I.length) hi;have hne:=T4 hv (i+1);rw[hnx,hF] at hne;obtain⟨hs1,M⟩:=Xy hne;rw[hF,hs1] at hnx;refine dl ?_;refine aX (λx=>x=(C0,Fd,Ky,QL,I,J)) ?_ ?_
  .refine cw (aR ?_);revert M;generalize (aH (T:=wJ) J (i:Int))=z;obtain⟨(U:Int),(z2:Int),z3⟩:=z;intro M;dsimp only at M;refine aX (λx=>x=(ai,(C0,Fd,Ky,QL,I,J),U,z2,z3)) ?_ ?_
   .refine Ak (show (0:Int)<=U by omega) (al ?_);dsimp only[ar];rw[kC.2 (show U<(I.length:Int) by omega)]
   rintro x rfl;refine fh (aX (λx=>x.2=((C0,Fd,Ky,QL,I,J),U,z2,z3)/\(x.1=ah->i=0\/¬t=U)/\(x.1=ai->¬i=0/\t=U)) ?_ ?_)
   .refine aI (λh=>al ⟨rfl,λ_=>.inl (by have h:((i:Nat):Int)=0:=h;omega),λh=>(by cases h)⟩) λh=>?_
    have h:¬((i:Nat):Int)=0:=h;dsimp only;rw[hw h];have hq:=(hp (by omega)).1;exact aQ (by omega) (by first|omega|(dsimp only;omega)) (aR (al ⟨rfl,λh2=>.inr (by rw[<- hq];simpa using h2),λh2=>⟨by omega,by rw[<- hq];simpa using h2⟩⟩))
   rintro⟨c,x⟩ ⟨e,Y,hc⟩;dsimp only at e Y hc;subst e;refine aO (λhct=>?_) λhcf=>?_
   .have hz2:z2=0:=by
     rcases Y hct with h|h
     .have:=hz h;omega
     .omega
    refine aX (λx=>x=(ai,C0,Fd,Ky,QL,I,J)) ?_ ?_
    .refine bZ (λh=>(h hz2).elim) λ_=>bA (λh=>?_) λ_=>al rfl
     have h:(0:Int)<((i:Nat):Int):=h;dsimp only;rw[hw (by omega)];have hq:=(hp (by omega)).1;refine aQ (by omega) (by first|omega|(dsimp only;omega)) (aR (al ?_));dsimp only;rw[hq,fP.2 (show t<=U by omega)]
    rintro x rfl;exact fh (al rfl)
   .obtain⟨h1,h2⟩:=hc hcf;obtain⟨_,p2,p3,p4⟩:=hp h1;dsimp only;rw[hw (by omega)];refine aQ (by omega) (by first|omega|(dsimp only;omega)) (aR ?_);refine bZ (λh=>(h ?_).elim) λ_=>al rfl
    try dsimp only
    rw[p2,ie (by omega) (by omega)];omega
  .rintro x rfl;refine al ⟨by dsimp only;rw[gK (by omega)],_,_,hnx,?_⟩;revert M;rw[show i+1-1=i by omega];generalize (aH (T:=wJ) J (i:Int))=z;obtain⟨(U:Int),(z2:Int),z3⟩:=z;intro M;dsimp only at M ⊢;refine ⟨by omega,by omega,λh=>by omega,λ_=>⟨rfl,rfl,?_,?_⟩⟩
   .by_cases h0:i=0
    .have:=hz h0;omega
    .have:=hp h0;omega
   .by_cases h0:i=0
    .have:=hz h0;omega
    .have:=hp h0;omega
 .rintro x ⟨rfl,_⟩;exact dc (al rfl)
theorem Tt {c:CT} (I:WX c.1) (hl:c.2.length=c.1.2.2.2.2.1.length) (h:∀ k:Nat,k<c.2.length->GC c.2.length c.1.2.2.2.2.2 (k:Int) (aH (T:=uI) c.2 (k:Int))):jk c=aa ah:=by
 obtain⟨w,l⟩:=c;dsimp only at I hl h;have M:l.length<=4:=by
  obtain⟨n,_,J,ht⟩:=I.t;rw[hl,ht,bC];omega
 refine cE ?_;unfold jk bt bu bF aW cK aD cz;refine aX (λx=>x=(ai,w,l)) ?_ ?_
 .refine aT (FK I) (fy rfl (al ?_));dsimp only;rw[hl];simp
 rintro x rfl;refine fh (cf l.length (λi x=>x=((i:Int),w,l)) ?_ ?_ rfl)
 .rintro i x hi rfl;refine dl ?_;refine cw (aR (aT (CS I hl.symm (h i hi)) (fy rfl (al ?_))));dsimp only;rw[gK (by omega)]
 .rintro x rfl;exact dc (al rfl)
theorem Nj (p:PG) (hp:PJ p) (hr4:∃ r,eV p=aa r/\r.1=0):Ok (pB p) λy=>CB y.1:=by
 have hpt:=hp.t;obtain⟨r,hr,h0⟩:=hr4;obtain⟨r',hr',Y⟩:=CH p hp.x;rw[hr] at hr';cases hr';have Y:=Y h0;unfold pB aU bk bt ct em bI cQ eU pg bu iO bD bF kK aW cK aD cz;refine aT hr (bZ (λh=>(h h0).elim) λ_=>?_);refine aw (Tr p hp r hr h0 Y) λw M=>?_
 have hwT:w.2.2.2.2.1.length=p.2.length:=by rw[M.t,bC];have q4:uJ.length=4:=rfl;omega
 refine cf p.2.length (λi x=>x.1.1=((Zy p i:Nat):Int)/\x.1.2=(i:Int)/\x.2.1=p/\x.2.2.1=w/\x.2.2.2.length=i/\∀ j:Nat,j<i->GC p.2.length w.2.2.2.2.2 (j:Int) (aH (T:=uI) x.2.2.2 (j:Int))) ?_ ?_ ⟨rfl,rfl,rfl,rfl,rfl,λj hj=>by omega⟩
 .rintro i ⟨⟨a,b⟩,p2,w2,cs⟩ hi ⟨e0,e1,e2,e3,Z,e5⟩;dsimp only at e0 e1 e2 e3 Z e5;subst e0;subst e1;have e2:=e2.symm;subst e2;have e3:=e3.symm;subst e3;have hin:((i:Nat):Int)<(p.2.length:Int):=by omega
  refine dl ?_;have hm:=hp.m _ (bH (T:=xp) (xs:=p.2) (j:=(i:Int)) (by omega) hin);have hsr:=M.s i hi;have hbs:=ack hi;have hb1:=Ti (i+1) Y;have hbo:boN p i=mT 3 (aH (T:=xp) p.2 (i:Int)).2.2.2:=adu λs hs=>(hm.s s hs).t
  rw[hbo] at hsr hbs;dsimp only;refine aQ (by omega) hin (aR (aQ (by omega) hin (aR ?_)));revert hm hsr hbs;generalize (aH (T:=xp) p.2 (i:Int))=t;intro hm hsr hbs;have hk:ME 3=50+16*(50+16*50):=rfl;have hle:=cA (ME 3) hm.b;rw[hk] at hle;have hll:t.2.2.1.length=2:=by rw[hm.l];rfl
  refine aw (Mz (nT:=p.2.length) (ss:=w.2.2.2.2.2) (t:=(i:Int)) 3 (by omega) _ _ [] (by have:=hm.b;omega) hm.s ⟨M.x.c,M.x.l,M.x.d,M.x.f,M.t,hm.l⟩ hsr (by rw[hk,jE];omega)) λy hy=>ba (by simp) ?_
  obtain⟨g2,o2⟩:=y;obtain⟨q1,q2,q3⟩:=hy;dsimp only at q1 q2 q3;have q4:=q2.u;rw[hk,jE] at q4;refine aw (Gz _ _ o2 (by omega)) λy hy=>ba (by simp) ?_
  obtain⟨g3,I⟩:=y;obtain⟨hg3,U⟩:=hy;dsimp only at hg3 U;have hL:aN (ak g3.2.2.2.2.2.2.1)=2:=by
   rw[hg3];show aN (ak g2.2.2.2.2.2.2.1)=2;rw[q1.h];show aN (ak t.2.2.1)=2;rw[hll];rfl
  have l3:I.length=o2.length+1:=by rw[U,bn];rfl
  have J:I.length-1=o2.length:=by omega
  have iq:∀ q:Nat,q<o2.length->iA I q=iA o2 q:=λq hq=>by rw[U,He hq]
  have iend:iA I o2.length=(28,0,0,0,0,-1):=by rw[U,vZ]
  have hreg:∀ q:Nat,q<I.length->∀ j:Int,j∈iw (iA I q)->0<=j/\j<32:=λq hq j hj=>by
   by_cases h:q<o2.length
   .rw[iq q h] at hj;exact (q2.i q (kG _) h).o.r j hj
   .rw[show q=o2.length by omega,iend] at hj;simp[iw] at hj
  dsimp only;rw[hL];refine cf I.length (λk x=>∃ rg:Int,x=((k:Int),p,w,g3,rg,cs,I)/\2<=rg/\rg<=32/\∀ q:Nat,q<k->∀ j:Int,j∈iw (iA I q)->j<rg) ?_ ?_ ⟨2,rfl,by omega,by omega,λq hq=>by omega⟩
  .rintro k x hk2 ⟨rg,rfl,r0,r1,r2⟩;refine dl ?_;dsimp only;refine cw (cw (aR (aT (sq _) ?_)));have hrk:=hreg k hk2;have hrl:=Br (iA I k);revert hrk hrl;generalize hins:(aH (T:=Aa) I (k:Int))=ins;rw[show iA I k=ins from hins];intro hrk hrl;refine cf (iw ins).length (λj x=>∃ rg':Int,x=((j:Int),p,w,g3,rg',cs,I)/\rg<=rg'/\rg'<=32/\∀ q:Nat,q<j->rg'>aH (T:=.int .i64) (iw ins) (q:Int)) ?_ ?_ ⟨rg,rfl,eP _,r1,λq hq=>by omega⟩
   .rintro j x hj ⟨rg',rfl,s0,s1,s2⟩;refine dl ?_;refine cw (aR (al ?_));have hz:=hrk _ (bH (T:=.int .i64) (xs:=iw ins) (j:=(j:Int)) (by omega) (by omega));dsimp only;obtain⟨z,hzj⟩:∃ z:Int,aH (T:=.int .i64) (iw ins) (j:Int)=z:=⟨_,rfl⟩
    rw[hzj] at hz ⊢;have hz0:(0:Int)<=z:=hz.1;have hz1:(32:Int)>z:=hz.2;rw[gK (by omega),ie (n:=z+1) (by omega) (by omega)];have him:rg'<=jZ rg' (z+1)/\z+1<=jZ rg' (z+1)/\jZ rg' (z+1)<=32:=by
     unfold jZ;split
     .rename_i h;have h:=sg.1 h;omega
     .rename_i h;have h:=fP.1 (Bool.eq_false_iff.2 h);omega
    refine ⟨_,rfl,by omega,him.2.2,λq hq=>?_⟩;rcases bW q j with h1|h1
    .have:=s2 q h1;omega
    .rw[show q=j by omega,hzj];exact Int.lt_of_lt_of_le (show z<z+1 by omega) him.2.1
   .rintro x ⟨rg',rfl,s0,s1,s2⟩;refine dc (al ?_);refine ⟨rg',by dsimp only;rw[gK (by omega)],by omega,s1,λq hq j hj=>?_⟩;rcases bW q k with h1|h1
    .have:=r2 q h1 j hj;omega
    .rw[show q=k by omega,show iA I k=ins from hins] at hj;exact hZ (T:=.int .i64) (p:=λc=>rg'>c) s2 j hj
  .rintro x ⟨rg,rfl,r0,r1,r2⟩;refine dc (N9 (bf (by simp;omega) (by omega) (N8 (al ?_))));dsimp only;have q3':(g2.2.2.2.2.2.2.2.2:Int)=(Zy p i:Nat)+(mT 3 t.2.2.2:Nat):=q3;refine ⟨by rw[q3',hbs];omega,gK (by omega),rfl,rfl,by simp;omega,λj hj=>?_⟩;rcases bW j i with h1|h1
   .rw[HE (T:=uI) (by rw[Z];exact h1)];exact e5 j h1
   .rw[show j=i by omega,HC (T:=uI) (by rw[Z];omega),Z,Nat.sub_self];refine ⟨show (1:Int)<=rg by omega,r1,show 1<=I.length by omega,show I.length<=1000000 by omega,?_,?_,?_,?_,?_⟩
    .show (iA I (I.length-1)).1=28/\(iA I (I.length-1)).2.2.2.2.2= -1;rw[J,iend];exact⟨rfl,rfl⟩
    .show pT I 0 (I.length-1);rw[J];exact q2.b.congr λq _ hq=>iq q hq
    .show ∀ q:Nat,q<I.length-1->GI p.2.length w.2.2.2.2.2 (i:Int) (iA I q);rw[J];exact λq hq=>by rw[iq q hq];exact q2.i q (kG _) hq
    .show ∀ q:Nat,q<I.length-1->(iA I q).1=10->0<=(iA I q).2.2.1/\(iA I q).2.2.1<(I.length:Int)
     rw[J];intro q hq h10;rw[iq q hq] at h10 ⊢;have:=q2.r q (kG _) hq h10;omega
    .exact λq hq j hj=>r2 q (show q<I.length by have hq:q<I.length-1:=hq;omega) j hj
 .rintro⟨⟨a,b⟩,p2,w2,cs⟩ ⟨e0,e1,e2,e3,Z,e5⟩;dsimp only at e0 e1 e2 e3 Z e5;subst e1;subst e2;subst e3;refine dc (al ?_);have hgc:∀ t∈cs,∃ k:Nat,GC p2.2.length w2.2.2.2.2.2 (k:Int) t:=hZ (T:=uI) λk hk=>⟨k,e5 k (by omega)⟩
  refine ⟨by dsimp only;omega,λt ht=>?_,λt ht=>?_,M.x,Tt M.x ?_ ?_⟩
  .obtain⟨k,hk⟩:=hgc t ht;exact hk.u
  .obtain⟨k,hk⟩:=hgc t ht;exact hk.r0
  .dsimp only;rw[Z,hwT]
  .dsimp only;rw[Z];exact e5
theorem JH (a b:List Int) (M:a.length<=9223372036854775807) (J:∀ z∈a,0<=z/\z<=255) (hb:b.length<=1000000):Ok (rh (a,b)) TR:=by
 unfold rh;refine aw (P:=CB) ?_ λc hc=>aw (TK b hb) λl hl=>?_
 .unfold vV;exact aw (Fl a M J) λp hp=>aw (Nj p hp.1 hp.2) λy I=>al I
 .exact aw (aek c l hc (by omega)) λy I=>al I
theorem Ni (a b c:List Int) (n:Int) (n0:0<=n) (n1:n<=1000000) (M:a.length<=9223372036854775807) (J:∀ z∈a,0<=z/\z<=255) (hc:c.length<=9223372036854775807) (I:∀ z∈c,0<=z/\z<=255):Ok (kz ((a,b,c),n)) TR:=by
 unfold kz bu bD aW;refine bA (λ_=>aw (Gw c n hc I) λy h=>al h) λ_=>?_
 have h0:0<=Fp (aN b.length) n/\Fp (aN b.length) n<=(b.length:Int)/\Fp (aN b.length) n<=n:=by
  unfold Fp;split
  .rename_i h;rw[sg] at h;dsimp only[ar] at h;exact⟨n0,by omega,eP _⟩
  .rename_i h;have h:=fP.1 (Bool.eq_false_iff.2 h);dsimp only[ar] at h ⊢;exact⟨by omega,eP _,h⟩
 refine db (ey h0.1 (ey h0.2.1 ?_));have h1:(dE (aS (Fp (aN b.length) n)) b).length<=1000000:=by rw[bC];have:=h0.1;have:=h0.2.2;omega
 exact aw (JH a _ M J h1) λy h=>al h
def HS.zero (w:CQ):HS:=⟨aF w.2.2.2.2.1.length [],aF w.2.2.2.2.1.length [],aF w.2.1.length [],aF w.2.1.length [],aF w.1.length [],aF w.2.2.2.1.length [],[],aF w.2.2.2.2.1.length [],aF w.2.2.2.2.1.length (-1)⟩
theorem HS.zero_ok {w:CQ} (h1:w.1.length<=1000) (h2:w.2.1.length<=1000) (J:w.2.2.2.1.length<=1000) (I:w.2.2.2.2.1.length<=1000):TE 0 (HS.zero w):=by
 have z:(0:Int)<=0:=by omega
 exact⟨z,by omega,zW.repl z _,zW.repl z _,zW.repl z _,zW.repl z _,zW.repl z _,zW.repl z _,En.nil z,zW.repl z _,by simpa[HS.zero] using I,by simp[HS.zero],by simp[HS.zero],by simp[HS.zero],by simpa[HS.zero] using h2,by simp[HS.zero],by simpa[HS.zero] using h1,by simpa[HS.zero] using J⟩
structure Zm (w:CQ) (h:HS):Prop where
 T:h.T.length=w.2.2.2.2.1.length
 L:h.L.length=w.2.1.length
 C:h.C.length=w.1.length
 F:h.F.length=w.2.2.2.1.length
theorem Zm.zero (w:CQ):Zm w (HS.zero w):=⟨by simp[HS.zero],by simp[HS.zero],by simp[HS.zero],by simp[HS.zero]⟩
theorem Zm.ent {w:CQ} {h:HS} (f:Zm w h) (e:EV) (x:List Int):Zm w (tJ w h e x):=by
 obtain⟨a,b,c,d,g,i,j,k⟩:=Es w h e x;exact⟨a.trans f.T,c.trans f.L,g.trans f.C,i.trans f.F⟩
theorem Zm.step {w:CQ} {h:HS} (f:Zm w h) (e:EV):Zm w (ND w h e).1:=f.ent e _
def evP (e:ET):EV:=⟨e.1.toNat,e.2.1.toNat,e.2.2.1.toNat,e.2.2.2.1⟩
theorem agu {w:WT} {e:ET} (f:EvF w e):EvT (evP e) e:=by
 obtain⟨⟨k1,k2,ce,lk,cd,th,fu⟩,t0,_,_⟩:=f;refine ⟨(Fg t0).symm,(Fg (by omega)).symm,λh=>(Fg ?_).symm,rfl⟩;unfold evP at h;simp only[bh,cj,fM] at h;by_cases h1:e.2.1=3\/e.2.1=4
 .exact (ce h1).1
 by_cases h2:6<=e.2.1/\e.2.1<=11
 .exact (lk h2).1
 by_cases M:16<=e.2.1/\e.2.1<=19
 .exact (cd M).1
 by_cases J:e.2.1=20\/e.2.1=21
 .exact (th J).1
 by_cases I:e.2.1=22\/e.2.1=23
 .exact (fu I).1
 omega
theorem Yr {w:WT} {e:ET} (f:EvF w e) (wb:WB w) {h:HS} (I:Zm w h):EOK w h (evP e):=by
 obtain⟨⟨k1,k2,ce,lk,cd,th,fu⟩,t0,t1,J⟩:=f;have b5:=wb.t;have Z:=I.T;have Y:=I.L;have U:=I.C;have M:=I.F;unfold evP;refine ⟨by dsimp only;omega,by dsimp only;omega,by dsimp only;omega,by dsimp only;omega,λq=>?_,λq=>?_,λq=>?_,λq=>?_,λq=>?_⟩<;>dsimp only at q ⊢
 .have:=th (by omega);omega
 .have:=lk (by omega);omega
 .have g:=cd (by omega);have hl:e.2.2.1.toNat<w.2.2.1.length:=by omega
  have hm:=J (w.2.2.1.getD e.2.2.1.toNat ([],0)) (by rw[ax,ay hl];exact tR hl);refine ⟨hl,hm.1,?_⟩;unfold Zw;have:=hm.2;have:=hm.1;omega
 .have:=ce (by omega);omega
 .have:=fu (by omega);omega
theorem iU {σ R:Type} {f:σ->Option (σ⊕R)} {Q:R->Prop} (n:Nat) (hn:n<=1000000) (I:Nat->σ->Prop) (h0:∀ i x,i<n->I i x->Ok (f x) λr=>match r with|.inl y=>I (i+1) y|.inr r=>Q r) (h1:∀ x,I n x->Ok (f x) λr=>match r with|.inl _=>False|.inr r=>Q r) {x:σ} (U:I 0 x):Ok (fZ f x) Q:=by
 have key:∀ m i x,i+m=n->I i x->∃ r,iterN f (m+1) x=aa r/\Q r:=by
  intro m;induction m with
  |zero=>
   intro i x hi U;have:i=n:=by omega
   subst this;obtain⟨r,M,J⟩:=h1 x U;cases r with
   |inl y=>exact J.elim
   |inr r=>exact⟨r,by rw[iterN,M],J⟩
  |succ m Y=>
   intro i x hi U;obtain⟨r,M,J⟩:=h0 i x (by omega) U;cases r with
   |inl y=>
    obtain⟨r,g3,Z⟩:=Y (i+1) y (by omega) J;exact⟨r,by rw[iterN,M];exact g3,Z⟩
   |inr r=>exact⟨r,xG (n:=1) (by rw[iterN,M]) (by omega),J⟩
 obtain⟨r,M,J⟩:=key n 0 x (by omega) U;exact⟨r,xG M (by omega),J⟩
theorem LO (a b:Int):eM (a,b)=aa (decide (0<=a/\a<b)):=by
 refine cE ?_;unfold eM jg aD;with_reducible repeat' first|(refine OS.ok ?_;constructor)|refine IM.mk λ_=>?_
 .by_cases h:a<b<;>simp[*,fE]
 .simp;omega
theorem QY (l:List Int) (t:Int) (hl:l.length<=1000):jY (l,t)=aa (l.contains t):=by
 refine cE ?_;unfold jY qx wq bc bu bF aW cK aD cz;refine aw (P:=λy:Int=>0<=y↔t∈l) ?_ λy I=>al ?_
 .refine iU l.length (by omega) (λi x=>x=(i:Int)/\∀ j,j<i->¬l.getD j 0=t) ?_ ?_ ⟨rfl,λj hj=>by omega⟩
  .rintro i x hi ⟨rfl,hn⟩;refine dl ?_;refine cw (aR (aI (λh=>al ?_) λh=>al ?_))
   .refine ⟨λ_=>?_,λ_=>by omega⟩;have h:t=aH (T:=.int .i64) l (i:Int):=h;rw[h];exact bH (T:=.int .i64) (xs:=l) (by omega) (by omega)
   .refine ⟨gK (by omega),λj hj=>?_⟩;have h:¬t=l.getD i 0:=h;by_cases e:j=i
    .subst e;exact λg=>h g.symm
    .exact hn j (by omega)
  .rintro x ⟨rfl,hn⟩;refine dc (al ?_);refine ⟨λg=>(by omega),λg=>?_⟩;obtain⟨j,hj,e⟩:=List.getElem_of_mem g;exact (hn j hj (by rw[ax,ay hj];exact e)).elim
 .by_cases h:t∈l
  .have:=I.2 h;simp[cR,h,this]
  .have:¬0<=y:=λg=>h (I.1 g)
   simp[cR,h,this]
theorem ad4 (w:WT) (s:SY) (I:w.2.2.1.length<=1000) (cd:∀ c∈w.2.2.1,0<=c.2/\c.2<w.2.1.length) (e1:s.1.length=w.2.1.length) (e2:s.2.2.1.length=w.2.2.2.1.length) (e3:s.2.2.2.length=w.2.2.2.2.1.length):jQ (w,s)=aa ah:=by
 refine cE ?_;unfold jQ sh aU bk bt dh bu iO bF aW cK aD cz;refine aX (λx=>x=(ai,w)) ?_ ?_
 .refine bZ (λh=>(h (by dsimp only[ar];omega)).elim) λ_=>bZ (λh=>(h (by dsimp only[ar];omega)).elim) λ_=>al ?_
  dsimp only[ar];rw[e3];simp
 rintro x rfl;refine fh (iU w.2.2.1.length (by omega) (λi x=>x=((i:Int),w)) ?_ ?_ rfl)
 .rintro i x hi rfl;refine dl ?_;refine cw (aR (aT (LO _ _) (bZ (λh=>(h ?_).elim) λ_=>al ?_)))
  .exact cd _ (bH (T:=Q2) (xs:=w.2.2.1) (j:=(i:Int)) (by omega) (by omega))
  .dsimp only;rw[gK (by omega)]
 .rintro x rfl;exact dc (al rfl)
theorem YV (w:WT) (k o:Int) (h:NM w k o):ly (w,k,o)=aa ah:=by
 refine cE ?_;obtain⟨k1,k2,ce,lk,cn,th,fu,no,mu,rw_⟩:=h;unfold ly aU bk bt ct bc bF aW aD;rcases @Ha k with rfl|rfl|rfl|rfl|rfl|rfl|rfl|rfl|rfl|rfl|rfl|rfl|rfl|rfl|rfl|rfl|rfl|rfl|rfl|rfl|rfl|rfl|rfl|⟨hk,I⟩
 case inr.inr.inr.inr.inr.inr.inr.inr.inr.inr.inr.inr.inr.inr.inr.inr.inr.inr.inr.inr.inr.inr.inr=>omega
 all_goals simp only[aV,bi,rR,LO]
 all_goals with_reducible repeat' first|(refine OS.ok ?_;constructor)|refine IM.mk λ_=>?_
 all_goals try simp only[ar,p_] at*
 all_goals first|omega|exact rw_ ⟨by decide,by decide⟩|(simp only[*,Bool.not_false,dI];done)
theorem adb {n:Nat} (w:WT) (s:SY) (hs:SB n s) (hn:n<=1000) (t k o:Int) (he:EN w s t k o) (hr:U3 w s t k o):nX (w,s,t,k,o)=aa ah:=by
 refine cE ?_;obtain⟨nm,t0,t1,cd,e1,e2,e3⟩:=id he;obtain⟨_,_,ce,lk,cn,th,fu,no,mu,rw_⟩:=nm;obtain⟨_,_,_,aq,wr,ra,rl,rr,xb,xe,ab,ae,nt,sp,jo,se,ge⟩:=hr;have hm:16<=k/\k<=19->0<=(aH (T:=Q2) w.2.2.1 o).2/\(aH (T:=Q2) w.2.2.1 o).2<w.2.1.length:=λh=>cd _ (bH (cn h).1 (cn h).2)
 have M:6<=k/\k<=11->jY ((aH (T:=yT) s.1 o).2,t)=aa ((aH (T:=yT) s.1 o).2.contains t):=λh=>QY _ _ (by
  have:=hs.rd _ (bH (T:=yT) (lk h).1 (by have:=(lk h).2;omega));omega)
 have lk1:6<=k/\k<=11->0<=o/\o<(s.1.length:Int):=λh=>by have:=lk h;omega
 have J:t<(s.2.2.2.length:Int):=by omega
 have fu1:k=22\/k=23->0<=o/\o<(s.2.2.1.length:Int):=λh=>by have:=fu h;omega
 have th1:k=20\/k=21->0<=o/\o<(s.2.2.2.length:Int):=λh=>by have:=th h;omega
 have I:∀ {p:Prop} [Decidable p],p->decide p=ah:=λh=>aP h
 unfold nX aU bk bt dh cQ bc iO bF aW aD;refine aI (λh=>?_) λn6=>?_
 .have h:k=6:=h;exact aQ (lk1 (by omega)).1 (lk1 (by omega)).2 (aR (al (I (aq (.inl h)))))
 refine aI (λh=>?_) λU=>?_
 .have h:k=10:=h;refine gE (aQ (lk1 (by omega)).1 (lk1 (by omega)).2 (aR (aI (λ_=>?_) λg=>(g (aq (.inr (.inr h)))).elim)));refine aQ (lk1 (by omega)).1 (lk1 (by omega)).2 (aR (al (al (I ?_))));have:=wr h;dsimp only[ar] at this ⊢;omega
 refine aI (λh=>?_) λZ=>?_
 .have h:k=8:=h;refine gE (aQ (lk1 (by omega)).1 (lk1 (by omega)).2 (aR (aI (λ_=>?_) λg=>(g (aq (.inr (.inl h)))).elim)));refine aQ (lk1 (by omega)).1 (lk1 (by omega)).2 (aR (aT (M (by omega)) (al (al ?_))));rw[ra h];rfl
 refine aX (λx=>x.2=(w,s)/\(x.1=ah↔k=7\/k=11)) (aI (λh=>al ⟨rfl,λ_=>.inl h,λ_=>I h⟩) λh=>al ⟨rfl,λh2=>.inr (bm h2),λh2=>I (h2.resolve_left h)⟩) ?_;rintro⟨b,x⟩ ⟨e,hb⟩;dsimp only at e hb;subst e;refine aO (λh=>?_) λ_=>?_
 .have h:=hb.1 h;exact aQ (lk1 (by omega)).1 (lk1 (by omega)).2 (aR (al (I (rl h))))
 refine aI (λh=>?_) λY=>?_
 .have h:k=9:=h;refine aQ (lk1 (by omega)).1 (lk1 (by omega)).2 (aR (aT (M (by omega)) (al (rr h))))
 refine aI (λh=>al (I (xb h))) λ_=>aI (λh=>al (I (xe h))) λ_=>?_
 refine aI (λh=>aQ t0 J (aR (al (by have:=ab h;dsimp only at this ⊢;rw[this];rfl)))) λ_=>aI (λh=>aQ t0 J (aR (al (ae h)))) λ_=>?_
 refine aX (λx=>x.2=(w,s)/\(x.1=ah->k=16\/k=18\/k=19)) (aI (λh=>al ⟨rfl,λ_=>.inl h⟩) λ_=>aI (λh=>al ⟨rfl,λ_=>.inr (.inl h)⟩) λ_=>al ⟨rfl,λh=>.inr (.inr (bm h))⟩) ?_;rintro⟨c,x⟩ ⟨e,hc⟩;dsimp only at e hc;subst e;refine aO (λh=>?_) λ_=>?_
 .have h:=hc h;have hq:=hm (by omega);exact aQ (cn (by omega)).1 (cn (by omega)).2 (aR (aQ hq.1 (by rw[e1];exact hq.2) (aR (al (I (nt h))))))
 refine aI (λh=>?_) λ_=>?_
 .have h:k=20:=h;exact gE (bZ (λ_=>aQ (th1 (.inl h)).1 (th1 (.inl h)).2 (aR (al (al (I (sp h).2))))) λg=>((sp h).1 g).elim)
 refine aI (λh=>?_) λ_=>?_
 .have h:k=21:=h;exact gE (bZ (λ_=>aQ (th1 (.inr h)).1 (th1 (.inr h)).2 (aR (al (al (I (jo h).2))))) λg=>((jo h).1 g).elim)
 refine aI (λh=>aQ (fu1 (.inl h)).1 (fu1 (.inl h)).2 (aR (al (by have:=se h;dsimp only at this ⊢;rw[this];rfl)))) λ_=>aI (λh=>aQ (fu1 (.inr h)).1 (fu1 (.inr h)).2 (aR (al (ge h)))) λ_=>al rfl
theorem CK {n:Nat} (w:WT) (s:SY) (hs:SB n s) (hn:n<=1000) (U:w.2.2.1.length<=1000) (t k o:Int) (he:EN w s t k o) (hr:U3 w s t k o):iM (w,s,t,k,o)=aa ah:=by
 refine cE ?_;obtain⟨nm,t0,t1,cd,e1,e2,e3⟩:=id he;have hrd:=adb w s hs hn t k o he hr;have M:t<(s.2.2.2.length:Int):=by omega
 unfold iM aU bk bt bI dh cQ bc bF aW aD;refine aX (λx=>x=(ai,w,s)) ?_ ?_
 .refine aT (ad4 w s U cd e1 e2 e3) (fy rfl (aT (LO _ _) ?_));refine bZ (λh=>(h ⟨t0,t1⟩).elim) λ_=>aT (YV w k o nm) (al rfl)
 rintro x rfl;refine fh (aQ t0 M (aR ?_));refine aI (λh=>al (aP (hr.b h))) λn1=>?_
 refine aI (λh=>?_) λn17=>?_
 .have h:k=17:=h;obtain⟨a1,a2,a3⟩:=hr.wk h;obtain⟨J,I⟩:=nm.cd (by omega);have hq:=cd _ (bH (T:=Q2) (xs:=w.2.2.1) (j:=o) J I);refine gE (aI (λ_=>aI (λ_=>?_) λg=>(g a2).elim) λg=>(g a1).elim);exact aQ J I (aR (aQ hq.1 (by rw[e1];exact hq.2) (aR (al (al (aP a3))))))
 refine gE (aI (λ_=>aT hrd (al (al rfl))) λg=>(g (hr.r n1 n17)).elim)
theorem ZS (w:WT) (e:ET) (h1:e.2.1=1\/e.2.1=2->e.2.2.2.2.1= -1) (h2:¬(e.2.1=1\/e.2.1=2)->0<=e.2.2.2.2.1/\e.2.2.2.2.1<w.2.2.2.2.2.length/\(aH (T:=wJ) w.2.2.2.2.2 e.2.2.2.2.1).1=e.1):jh (w,e)=aa ah:=by
 refine cE ?_;unfold jh aU em cQ bc bu jg bF aW aD;refine aX (λx=>x.2=(w,e)/\(x.1=ah↔e.2.1=1\/e.2.1=2)) (aI (λh=>al ⟨rfl,λ_=>.inl h,λ_=>rfl⟩) λh=>al ⟨rfl,λh2=>.inr (bm h2),λh2=>aP (h2.resolve_left h)⟩) ?_;rintro⟨b,x⟩ ⟨e1,hb⟩;dsimp only at e1 hb;subst e1;refine aO (λh=>al (aP (h1 (hb.1 h)))) λh=>?_
 obtain⟨a1,a2,a3⟩:=h2 λg=>by rw[hb.2 g] at h;cases h
 exact gE (e_ (λ_=>dl (aQ a1 a2 (aR (al (al (aP a3)))))) λg=>(by dsimp only at g;omega))
theorem YT {l:List Int} (h:FO l) (i:Nat) (hi:i<l.length):∀ z∈l.drop (i+1),l.getD i 0<z:=by
 induction l generalizing i with
 |nil=>cases hi
 |cons a l I=>
  cases i with
  |zero=>exact λz J=>h.1 z (by simpa using J)
  |succ i=>exact I h.2 i (by simpa using hi)
theorem Pm (w:WT) (s:SN) (e:ET) (ce:e.2.1=3\/e.2.1=4->0<=e.2.2.1/\e.2.2.1<w.1.length) (de:0<e.2.2.2.2.2.1.length->e.2.1=5\/(e.2.1=3\/e.2.1=4)/\¬(aH (T:=NA) w.1 e.2.2.1).2.2.1=0) (fr:0<e.2.2.2.2.2.2.length->e.2.1=4\/e.2.1=22) (t0:0<=e.1) (t1:e.1<s.2.2.2.length) (nd:AN (aH (T:=.int .i64) s.2.2.2 e.1) e.2.2.2.2.2.1) (nf:AN (aH (T:=.int .i64) s.2.2.2 e.1) e.2.2.2.2.2.2) (ld:e.2.2.2.2.2.1.length<=1000000) (lf:e.2.2.2.2.2.2.length<=1000000):eJ (w,s,e)=aa ah:=by
 refine cE ?_;unfold eJ iX aU bk bt ct bI dh eU bc bu jg bD bF aW cK aD cz;refine aX (λx=>x.2=(s,e)/\((e.2.1=3\/e.2.1=4)/\¬(aH (T:=NA) w.1 e.2.2.1).2.2.1=0->x.1=ah)) ?_ ?_
 .refine aI (λh=>?_) λn3=>aI (λh=>?_) λn4=>?_
  .exact aQ (ce (.inl h)).1 (ce (.inl h)).2 (aR (al ⟨rfl,λg=>by simpa using g.2⟩))
  .exact aQ (ce (.inr h)).1 (ce (.inr h)).2 (aR (al ⟨rfl,λg=>by simpa using g.2⟩))
  .exact al ⟨rfl,λg=>(g.1.elim n3 n4).elim⟩
 rintro⟨b,x⟩ ⟨e1,hb⟩;dsimp only at e1 hb;subst e1;refine aX (λx=>x.1=s/\x.2.1=e/\(0<e.2.2.2.2.2.1.length->x.2.2.1=ah)/\(0<e.2.2.2.2.2.2.length->x.2.2.2=ah)) ?_ ?_
 .refine aI (λZ=>aI (λI=>al ⟨rfl,rfl,λ_=>rfl,λ_=>rfl⟩) λI=>al ⟨rfl,rfl,λ_=>rfl,λg=>?_⟩) λZ=>aI (λI=>al ⟨rfl,rfl,λg=>?_,λ_=>rfl⟩) λI=>al ⟨rfl,rfl,λg=>?_,λg=>?_⟩
  .exact aP ((fr g).resolve_left I)
  .exact hb ((de g).resolve_left Z)
  .exact hb ((de g).resolve_left Z)
  .exact aP ((fr g).resolve_left I)
 rintro⟨s',e',a,b'⟩ ⟨e1,e2,h1,h2⟩;dsimp only at e1 e2 h1 h2;subst e1;subst e2;have key:∀ (r:List Int),r.length<=1000000->AN (aH (T:=.int .i64) s'.2.2.2 e'.1) r->∀ j:Nat,j<r.length->∀ z∈r.drop (j+1),aH (T:=.int .i64) r (j:Int)<z:=λr _ h j hj z U=>YT h.a j hj z U
 refine iU 2 (by omega) (λi x=>x=((i:Int),s',e',a,b')) ?_ ?_ rfl
 .rintro i x hi rfl;refine dl ?_;refine db (ey (by dsimp only;omega) (yG (by dsimp only;omega) (aR ?_)));have hr:∃ r:List Int,aH (T:=.sl (.int .i64)) [e'.2.2.2.2.2.1,e'.2.2.2.2.2.2] (i:Int)=r/\AN (aH (T:=.int .i64) s'.2.2.2 e'.1) r/\r.length<=1000000/\(0<r.length->aH (T:=.bool) [a,b'] (i:Int)=ah):=by
   match i,hi with
   |0,_=>exact⟨_,rfl,nd,ld,h1⟩
   |1,_=>exact⟨_,rfl,nf,lf,h2⟩
  obtain⟨r,er,hA,hl,Y⟩:=hr;have er':aH (T:=.sl aM) [e'.2.2.2.2.2.1,e'.2.2.2.2.2.2] (i:Int)=r:=er;dsimp only at er' ⊢;rw[er'];refine aX (λx=>x=(ai,s',e',a,b')) ?_ ?_
  .refine bA (λg=>?_) λ_=>al rfl
   have g':0<r.length:=by dsimp only[ar] at g;omega
   refine db (ey (by omega) (yG (by omega) (cw (aR (al ?_)))));rw[Y g'];rfl
  rintro x rfl;refine fh ?_;refine iU r.length (by omega) (λj x=>x.1.2=(j:Int)/\x.2=(s',e',a,b')/\∀ z∈r.drop j,x.1.1<z) ?_ ?_ ⟨rfl,rfl,λz U=>?_⟩
  .rintro j ⟨⟨la,ix⟩,x⟩ hj ⟨M,J,g3⟩;dsimp only at M J g3;subst M;subst J;have m:aH (T:=.int .i64) r (j:Int)∈r:=bH (T:=.int .i64) (xs:=r) (by omega) (by omega);have m2:aH (T:=.int .i64) r (j:Int)∈r.drop j:=by
    have:aH (T:=.int .i64) r (j:Int)=r[j]:=by
     show r.getD j 0=_;rw[ax,ay hj];rfl
    rw[this,List.drop_eq_getElem_cons hj];exact dG
   refine dl ?_;refine cw (aR (aX (λx=>x=(ai,s',e',a,b')) ?_ ?_))
   .refine e_ (λg=>?_) λ_=>aQ t0 t1 (aR (al ?_))
    .have q1:=g3 _ m2;exact cX q1 (by dsimp only at g;exact λq=>cX (Int.lt_of_lt_of_le q g) (Int.lt_irrefl _))
    .have:=(hA.m _ m).2;rw[kC.2 (show aH (T:=.int .i64) r (j:Int)<aH (T:=.int .i64) s'.2.2.2 e'.1 from this)]
   rintro x rfl;exact fh (al ⟨gK (by omega),rfl,key r hl hA j hj⟩)
  .rintro⟨⟨la,ix⟩,x⟩ ⟨M,J,_⟩;dsimp only at M J;subst M;subst J;exact dc (al (gA (·,s',e',a,b') (gK (by omega))))
  .have:=(hA.m z (by simpa using U)).1;dsimp only;omega
 .rintro x rfl;exact dc (al rfl)
theorem ags (w:WT) (s:SN) (I:w.2.2.1.length<=1000) (t k o:Int) (he:EN w s.1 t k o) (hf:F16 w s):kw (w,s)=aa ah:=by
 obtain⟨_,_,_,cd,e1,e2,e3⟩:=he;obtain⟨U,M,J⟩:=hf;refine cE ?_;unfold kw aU bk bt dh bc aW aD;refine gE (aT (ad4 w s.1 I cd e1 e2 e3) (N_ (aI (λ_=>aI (λ_=>al (al (aP ?_))) λg=>(g ?_).elim) λg=>(g ?_).elim)));all_goals dsimp only[ar];omega
theorem FY (th:List (Int×Int×Bool)) (c:Int) (i:Nat):wl th c (i+1)=if Jx c (aH (T:=jB) th (i:Int)) then wl th c i++[(i:Int)] else wl th c i:=rfl
theorem ZF {n:Nat} (w:WT) (s:SN) (hs:SB n s.1) (e:ET) (hf:F16 w s) (he:EN w s.1 e.1 e.2.1 e.2.2.1) (va:VA w s.1 s.2.1 s.2.2.1 e.1 e.2.1 e.2.2.1 e.2.2.2.1):gd (s,e)=aa ah:=by
 refine cE ?_;obtain⟨t,k,o,v,si,de,fr⟩:=e;obtain⟨s1,s2,s3,s4⟩:=s;obtain⟨nm,t0,t1,cd,e1,e2,e3⟩:=he;obtain⟨_,_,ce,lk,cn,th,fu,_,_,_⟩:=nm;obtain⟨f1,f2,f3⟩:=hf;have hth:=hs.th;obtain⟨v3,Y,v5,vel⟩:=va;dsimp only at*
 unfold gd kY aU bk bt ct bI bc bu bF aW cK aD cz;refine aI (λh=>?_) λn3=>?_
 .have h:k=3:=h;obtain⟨c0,c1⟩:=ce (.inl h);exact aQ c0 (by rw[f1];exact c1) (aR (al (aP (v3 h))))
 refine aI (λh=>?_) λZ=>?_
 .have h:k=23:=h;obtain⟨c0,c1⟩:=fu (.inr h);exact aQ c0 (by rw[f2];exact c1) (aR (al (aP (Y h))))
 refine aI (λh=>?_) λn5=>?_
 .have h:k=5:=h;exact gE (aI (λ_=>al (al rfl)) λg=>al (al (aP ((v5 h).resolve_left g))))
 refine aX (λx=>x.2=((s1,s2,s3,s4),t,k,o,v,si,de,fr)/\(x.1=ai->¬k=4/\¬k=22)) (aI (λh=>al ⟨rfl,λh2=>(by rw[aP h] at h2;cases h2)⟩) λh=>al ⟨rfl,λh2=>⟨h,Q5 h2⟩⟩) ?_;rintro⟨b,x⟩ ⟨e,hb⟩;dsimp only at e hb;subst e;refine aO (λh=>al rfl) λh=>?_
 obtain⟨n4,n22⟩:=hb h;have vel:=vel n3 Z n5 n4 n22;have hWl:=um s1.2.2.2 o s1.2.2.2.length;refine aI (λh=>?_) λn18=>?_
 .have h:k=18:=h;subst h;rw[I7] at vel;refine iU s1.2.2.2.length (by omega) (λi x=>x.1.2.2=(i:Int)/\x.2=(t,18,o,v,si,de,fr)/\x.1.1=((wl s1.2.2.2 o i).length:Int)/\(x.1.2.1=ah↔v∈wl s1.2.2.2 o i)) ?_ ?_ ⟨rfl,rfl,rfl,by simp[wl]⟩
  .rintro i ⟨⟨c,hit,ix⟩,x⟩ hi ⟨J,I,M,U⟩;dsimp only at J I M U;subst J;subst I;subst M;have hl:=um s1.2.2.2 o i;refine dl ?_;refine aX (λx=>x.2=(t,18,o,v,si,de,fr)/\x.1.1=((wl s1.2.2.2 o (i+1)).length:Int)/\(x.1.2=ah↔v∈wl s1.2.2.2 o (i+1))) ?_ ?_
   .refine cw (aR (aX (λx=>x=(Jx o (aH (T:=jB) s1.2.2.2 (i:Int)),t,18,o,v,si,de,fr)) ?_ ?_))
    .unfold Jx;refine aI (λh=>al ?_) λh=>al ?_
     .dsimp only at h ⊢;rw[h];rfl
     .dsimp only at h ⊢;rw[bL h];rfl
    rintro x rfl;rw[FY];dsimp only;cases hw:Jx o (aH (T:=jB) s1.2.2.2 (i:Int)) with
    |true=>
     refine N_ (aO (λh=>al ⟨rfl,?_,?_⟩) λh=>al ⟨rfl,?_,?_⟩)
     .dsimp only;rw[gK (by omega)];simp
     .simp[U.1 h]
     .dsimp only;rw[gK (by omega)];simp
     .have:¬v∈wl s1.2.2.2 o i:=λg=>by rw[U.2 g] at h;cases h
      simp[this]
    |false=>exact fh (al ⟨rfl,rfl,U⟩)
   rintro⟨⟨c,hit'⟩,x⟩ ⟨J,I,M⟩;dsimp only at J I M;subst J;subst I;exact al ⟨gK (by omega),rfl,rfl,M⟩
  .rintro⟨⟨c,hit,ix⟩,x⟩ ⟨J,I,M,U⟩;dsimp only at J I M U;subst J;subst I;subst M;refine dc (aw (P:=λy=>y=ah) (gE (aO (λ_=>al (al rfl)) λh=>?_)) λy hy=>al hy);have hn:¬v∈wl s1.2.2.2 o s1.2.2.2.length:=λg=>by rw[U.2 g] at h;cases h
   by_cases h0:(wl s1.2.2.2 o s1.2.2.2.length).length=0
   .rw[aJ h0] at vel;refine aI (λ_=>al (al (aP vel))) λg=>(g (by dsimp only;omega)).elim
   .rw[aC h0] at vel;have vel:v=AM (wl s1.2.2.2 o s1.2.2.2.length) v:=vel;exact (hn (vel▸Gf v h0)).elim
 refine aI (λh=>?_) λn19=>?_
 .have h:k=19:=h;subst h;rw[ae1] at vel;refine iU s1.2.2.2.length (by omega) (λi x=>x.1.2=(i:Int)/\x.2=(t,19,o,v,si,de,fr)/\x.1.1=((wl s1.2.2.2 o i).length:Int)) ?_ ?_ ⟨rfl,rfl,rfl⟩
  .rintro i ⟨⟨c,ix⟩,x⟩ hi ⟨J,I,M⟩;dsimp only at J I M;subst J;subst I;subst M;have hl:=um s1.2.2.2 o i;refine dl ?_;refine aX (λx=>x.2=(t,19,o,v,si,de,fr)/\x.1=((wl s1.2.2.2 o (i+1)).length:Int)) ?_ ?_
   .refine cw (aR (aX (λx=>x=(Jx o (aH (T:=jB) s1.2.2.2 (i:Int)),t,19,o,v,si,de,fr)) ?_ ?_))
    .unfold Jx;refine aI (λh=>al ?_) λh=>al ?_
     .dsimp only at h ⊢;rw[h];rfl
     .dsimp only at h ⊢;rw[bL h];rfl
    rintro x rfl;rw[FY];dsimp only;cases hw:Jx o (aH (T:=jB) s1.2.2.2 (i:Int)) with
    |true=>
     refine N_ (al ⟨rfl,?_⟩);dsimp only;rw[gK (by omega)];simp
    |false=>exact fh (al ⟨rfl,rfl⟩)
   rintro⟨c,x⟩ ⟨J,I⟩;dsimp only at J I;subst J;subst I;exact al ⟨gK (by omega),rfl,rfl⟩
  .rintro⟨⟨c,ix⟩,x⟩ ⟨J,I,M⟩;dsimp only at J I M;subst J;subst I;subst M;exact dc (al (aP vel))
 exact al (aP (by rw[aco _ _ _ _ _ _ n18 n19] at vel;exact vel))
theorem Xh (x:Int×Int×Bool) (c:Int):lO (x,c)=aa (Jx c x):=by
 refine cE ?_;unfold lO Jx bc aD;refine gE (aI (λh=>al (al ?_)) λh=>al (al ?_))
 .have h:x.1=3:=h;rw[h];rfl
 .have h:¬x.1=3:=h;rw[bL h];rfl
theorem YE {n:Nat} (s:SY) (hs:SB n s):jX s=aa (s.2.1,s.1,s.2.2.1,s.2.2.2):=by
 refine cE ?_;obtain⟨s1,s2,J,I⟩:=s;have hn:=hs.n1;have hlk:=hs.lk;have hdn:=hs.dn;have hth:=hs.th;have hrd:=hs.rd;dsimp only at hlk hdn hth hrd;unfold jX qS aU bI ck bu bD bF aW cK cz;dsimp only[ar];refine db (db (ey (by omega) (ey (by omega) (bf (by simp;omega) (by omega) ?_))));refine iU s1.length (by omega) (λi x=>∃ c d,x=((i:Int),(s1,s2,J,I),c,d)/\d.length=s1.length/\∀ j,j<i->d.getD j (0,[])=s1.getD j (0,[])) ?_ ?_ ⟨_,_,rfl,by simp,λj hj=>by omega⟩
 .rintro i x hi ⟨c,d,rfl,hd,he⟩;have hr:=hrd _ (bH (T:=yT) (xs:=s1) (j:=(i:Int)) (by omega) (by omega));refine dl ?_;refine cw (aR (aT (x:=(aH (T:=yT) s1 (i:Int)).2) (cE ?_) ?_))
  .exact bf (by dsimp only;omega) (by omega) (al rfl)
  refine cw (cw (al ⟨c,d.set i (aH (T:=yT) s1 (i:Int)),?_,by simp[hd],λj hj=>?_⟩))
  .dsimp only;rw[gK (by omega)];rfl
  .by_cases e:i=j
   .subst e;rw[ax,List.getElem?_set_self (by omega)];rfl
   .rw[ax,List.getElem?_set_ne e,<-ax];exact he j (by omega)
 .rintro x ⟨c,d,rfl,hd,he⟩;have:d=s1:=by
   refine dk hd λj Y M=>?_
   have:=he j M;rw[ax,ax,ay Y,ay M] at this;exact this
  subst this;refine dc (aw (P:=λy=>y=(s2,d,J,I)) ?_ λy U=>al U);refine aT (x:=J) (cE (bf (by dsimp only;omega) (by omega) (al rfl))) (aT (x:=I) (cE (bf (by dsimp only;omega) (by omega) (al rfl))) (al rfl))
theorem UO (l:List Int) (i u:Int):AM (l++[i]) u=if l.length=0 then i else if i=u then i else AM l u:=by
 unfold AM;cases l with
 |nil=>
  by_cases h:u=i
  .subst h;simp
  .simp[h];rfl
 |cons a r=>
  have e1:¬(a::r++[i]).length=0:=by simp
  have e2:¬(a::r).length=0:=by simp
  simp only[aC e1,aC e2];by_cases h:i=u
  .subst h;simp
  .have h':¬u=i:=λg=>h g.symm
   rw[aC h];have:(a::r++[i]).contains u=(a::r).contains u:=by simp[h']
   rw[this];rfl
theorem M8 {th:List (Int×Int×Bool)} {c u:Int} {i:Nat} (h:¬(wl th c i).length=0):0<=AM (wl th c i) u/\AM (wl th c i) u<i:=by
 have:=ul.1 (Gf u h);exact⟨this.1,this.2.1⟩
theorem IW {l:List Int} {u:Int} (h:l.length=0):AM l u= -1:=by unfold AM;rw[aJ h]
theorem ZY (s:SY) (o u:Int) (hs:s.2.2.2.length<=1000):jq ((s.2.1,o,u),s.1,s.2.2.1,s.2.2.2)=aa (AM (wl s.2.2.2 o s.2.2.2.length) u,s.1,s.2.2.1,if (wl s.2.2.2 o s.2.2.2.length).length=0 then s.2.2.2 else AY s.2.2.2 (AM (wl s.2.2.2 o s.2.2.2.length) u) 4):=by
 refine cE ?_;obtain⟨s1,s2,J,I⟩:=s;dsimp only at hs ⊢;unfold jq pI aU bk bI ck bu jg kK aW cK aD cz;dsimp only[ar];refine iU I.length (by omega) (λi x=>x=((AM (wl I o i) u,(i:Int)),s1,J,I,s2)) ?_ ?_ rfl
 .rintro i x hi rfl;refine dl ?_;refine aX (λx=>x=(AM (wl I o (i+1)) u,s1,J,I,s2)) ?_ ?_
  .refine cw (cw (aR ?_));refine aX (λx=>x=(decide (Jx o (aH (T:=jB) I (i:Int))=ah/\((wl I o i).length=0\/(i:Int)=u)),s1,J,I,s2)) ?_ ?_
   .refine aT (Xh _ _) (aO (λh=>?_) λh=>al ?_)
    .have h:Jx o (aH (T:=jB) I (i:Int))=ah:=h;refine bA (λg=>al ?_) λg=>al ?_
     .have:(wl I o i).length=0:=uk λq=>by have:=(M8 (u:=u) q).1;dsimp only at g;omega
      simp[h,this]
     .have:¬(wl I o i).length=0:=λq=>by have:=IW (u:=u) q;dsimp only at g;omega
      simp[h,this]
    .have h:Jx o (aH (T:=jB) I (i:Int))=ai:=h;simp[h]
   rintro x rfl;rw[FY];refine aI (λh=>al ?_) λh=>al ?_
   .rw[aJ h.1,UO];rcases h.2 with g|g
    .rw[aJ g]
    .rw[aJ g];simp
   .by_cases g:Jx o (aH (T:=jB) I (i:Int))=ah
    .rw[aJ g,UO,aC λq=>h ⟨g,.inl q⟩,aC λq=>h ⟨g,.inr q⟩]
    .rw[aC g]
  rintro x rfl;exact al (by dsimp only;rw[gK (by omega)])
 .rintro x rfl;refine dc (aw (P:=λy=>y=(AM (wl I o I.length) u,s1,J,if (wl I o I.length).length=0 then I else AY I (AM (wl I o I.length) u) 4)) ?_ λy M=>al M);refine aX (λx=>x=(s1,J,if (wl I o I.length).length=0 then I else AY I (AM (wl I o I.length) u) 4)) ?_ ?_
  .refine e_ (λg=>?_) λg=>al ?_
   .have h0:¬(wl I o I.length).length=0:=λq=>by have:=IW (u:=u) q;dsimp only at g;omega
    have hp:=M8 (u:=u) h0;refine aQ hp.1 hp.2 (aQ hp.1 hp.2 (al ?_));rw[aC h0];rfl
   .have:(wl I o I.length).length=0:=uk λq=>by have:=(M8 (u:=u) q).1;dsimp only at g;omega
    rw[aJ this]
  rintro x rfl;exact al rfl
theorem Z2 (th:List (Int×Int×Bool)) (l:List Int) (i:Int):Fk th (l++[i])=AY (Fk th l) i 4:=by unfold Fk;rw[fk];rfl
theorem Z1 (l:List Int):∀ (th:List (Int×Int×Bool)) (j:Int),0<=j->(∀ z∈l,0<=z/\z<th.length/\¬z=j)->aH (T:=jB) (Fk th l) j=aH (T:=jB) th j:=by
 induction l with
 |nil=>intro th j _ _;rfl
 |cons x r J=>
  intro th j hj h;have I:=h x (by simp);refine (J (AY th x 4) j hj λz M=>?_).trans ?_
  .have:=h z (by simp[M]);unfold AY;rw[bU];exact this
  .unfold AY;rw[sF (T:=jB) th x j _ I.1 I.2.1 hj,aC λq=>I.2.2 q.symm]
theorem Rt (s:SY) (o:Int) (hs:s.2.2.2.length<=1000):gF ((s.2.1,o),s.1,s.2.2.1,s.2.2.2)=aa (((wl s.2.2.2 o s.2.2.2.length).length:Int),s.1,s.2.2.1,Fk s.2.2.2 (wl s.2.2.2 o s.2.2.2.length)):=by
 refine cE ?_;obtain⟨s1,s2,J,I⟩:=s;dsimp only at hs ⊢;unfold gF l9 aU bk bI dh ck bu kK aW cK aD cz;dsimp only[ar];refine iU I.length (by omega) (λi x=>x=((((wl I o i).length:Int),(i:Int)),s1,J,Fk I (wl I o i),s2)) ?_ ?_ rfl
 .rintro i x hi rfl;have hl:=um I o i;have hg:aH (T:=jB) (Fk I (wl I o i)) (i:Int)=aH (T:=jB) I (i:Int):=Z1 _ _ _ (by omega) λz M=>by have:=ul.1 M;exact⟨this.1,by omega,by omega⟩
  have hq:=F4 (wl I o i) I;refine dl ?_;refine aX (λx=>x=(((wl I o (i+1)).length:Int),s1,J,Fk I (wl I o (i+1)),s2)) ?_ ?_
  .refine cw (cw (aR (aT (Xh _ _) ?_)));rw[FY];refine aO (λh=>?_) λh=>al ?_
   .have h:Jx o (aH (T:=jB) I (i:Int))=ah:=hg▸h;refine cw (cw (al ?_));rw[aJ h,Z2];dsimp only;rw[gK (by omega)];simp only[bn,bV,jE];rfl
   .have h:Jx o (aH (T:=jB) I (i:Int))=ai:=hg▸h;rw[h];rfl
  rintro x rfl;exact al (by dsimp only;rw[gK (by omega)])
 .rintro x rfl;exact dc (al rfl)
theorem abw {n:Nat} (w:WT) (s:SY) (hs:SB n s) (hn:n<=1000) (U:w.2.2.1.length<=1000) (t k o u:Int) (he:EN w s t k o) (hr:U3 w s t k o) (J:¬k=8) (I:¬k=9):gG (w,s,t,k,o,u)=aa ((uz w s t k o u).1,(uz w s t k o u).2,ah):=by
 refine cE ?_;unfold gG aU bk bt ct em bI dh cQ eU lY ck bc bD bF kK aD;refine aT (CK w s hs hn U t k o he hr) (fy rfl (aT (YE s hs) ?_));suffices hmain:Ok _ _ from aX (λx=>((x.2.2.2.1,x.2.1,x.2.2.2.2),x.1)=uz w s t k o u) hmain λx M=>al (by rw[<- M])
 obtain⟨nm,t0,t1,cd,e1,e2,e3⟩:=id he;obtain⟨_,_,ce,lk,cn,th,fu⟩:=nm;have hm:16<=k/\k<=19->0<=(aH (T:=Q2) w.2.2.1 o).2/\(aH (T:=Q2) w.2.2.1 o).2<w.2.1.length:=λh=>cd _ (bH (cn h).1 (cn h).2)
 rcases @Ha k with rfl|rfl|rfl|rfl|rfl|rfl|rfl|rfl|rfl|rfl|rfl|rfl|rfl|rfl|rfl|rfl|rfl|rfl|rfl|rfl|rfl|rfl|rfl|⟨hk,Y⟩
 case inr.inr.inr.inr.inr.inr.inr.inr.inr.inr.inr.inr.inr.inr.inr.inr.inr.inr.inr.inr.inr.inr.inr=>omega
 all_goals first|exact (J rfl).elim|exact (I rfl).elim|skip
 all_goals simp only[aV,bi,rR]
 all_goals with_reducible repeat' first|(refine OS.ok ?_;constructor)|refine IM.mk λ_=>?_
 all_goals try simp only[ar,p_] at*
 all_goals try rw[bU]
 all_goals first|omega|exact (hm ⟨by decide,by decide⟩).1|exact e1▸(hm ⟨by decide,by decide⟩).2|exact rfl|skip
 .refine aT (ZY s o u hs.th) (ba ?_ (al ?_))
  .have:ak (if (wl s.2.2.2 o s.2.2.2.length).length=0 then s.2.2.2 else AY s.2.2.2 (AM (wl s.2.2.2 o s.2.2.2.length) u) 4)=s.2.2.2.length:=by
    split
    .rfl
    .exact bU ..
   dsimp only;rw[this];simp
  .rw[I7];by_cases h:(wl s.2.2.2 o s.2.2.2.length).length=0
   .rw[aJ h,aJ h,IW h]
   .rw[aC h,aC h]
 .refine aT (Rt s o hs.th) (ba ?_ (al rfl));dsimp only;rw[F4];simp
def zn:Nat->List (List Int)
 |0=>[[]]
 |m+1=>zn m++(zn m).map ((3-(m:Int))::·)
theorem KE:∀ m,[]∈zn m
 |0=>by simp[zn]
 |m+1=>by simp[zn,KE m]
theorem CV:∀ (m:Nat) (l:List Int),FO l->(∀ z∈l,4-(m:Int)<=z/\z<4)->l∈zn m
 |m,[],_,_=>KE m
 |0,a::r,_,h=>by have:=h a (by simp);omega
 |m+1,a::r,hA,h=>by
  have J:=h a (by simp);rw[zn,bR];by_cases e:a=3-(m:Int)
  .refine .inr (c9.2 ⟨r,CV m r hA.2 λz I=>?_,by rw[e]⟩);have:=h z (by simp[I]);have:=hA.1 z I;omega
  .refine .inl (CV m (a::r) hA λz I=>?_);have:=h z I;rcases bh.1 I with rfl|I
   .omega
   .have:=hA.1 z I;omega
theorem ac2 {l:List Int} (h:FO l) (h2:∀ z∈l,0<=z/\z<4):l∈zn 4:=CV 4 l h λz I=>by have:=h2 z I;omega
def in4:List Int:=[0,1,2,3]
theorem Uq {t:Int} (h0:0<=t) (h1:t<4):t∈in4:=by
 have:t=0\/t=1\/t=2\/t=3:=by omega
 rcases this with rfl|rfl|rfl|rfl<;>simp[in4]
def ag9 (l:List Int) (t:Int):Bool:=l.contains t||((uY (l++[t])==aa (vL l [t]))&&(kX (vL l [t])==aa (vL l [t]))&&aA (vL l [t]).length (l++[t]).length)
def agx (l:List Int) (t:Int):Bool:= !l.contains t||(iN (l,t)==aa (t,wo l t))
theorem ZJ:((zn 4).all λl=>in4.all λt=>ag9 l t)=ah:=by kernel_rfl
theorem aag:((zn 4).all λl=>in4.all λt=>agx l t)=ah:=by kernel_rfl
theorem srt8 {l:List Int} {t:Int} (h:FO l) (h2:∀ z∈l,0<=z/\z<4) (h0:0<=t) (h1:t<4) (hn:¬t∈l):uY (l++[t])=aa (vL l [t])/\kX (vL l [t])=aa (vL l [t])/\(vL l [t]).length=(l++[t]).length:=by
 have:=fY.1 (fY.1 ZJ l (ac2 h h2)) t (Uq h0 h1);unfold ag9 at this;have hc:l.contains t=ai:=by simp[hn]
 rw[hc,Bool.false_or,au,au] at this;exact⟨eq_of_beq this.1.1,eq_of_beq this.1.2,av this.2⟩
theorem del8 {l:List Int} {t:Int} (h:FO l) (h2:∀ z∈l,0<=z/\z<4) (h0:0<=t) (h1:t<4) (hn:l.contains t=ah):iN (l,t)=aa (t,wo l t):=by
 have:=fY.1 (fY.1 aag l (ac2 h h2)) t (Uq h0 h1);unfold agx at this;rw[hn,Bool.not_true,Bool.false_or] at this;exact eq_of_beq this
theorem aao (a0 a1 a2:Int) (r0 r1 r2:List Int) (h:Int) (d:List Bool) (th:List (Int×Int×Bool)) (h0:r0.length<=1000) (h1:r1.length<=1000) (h2:r2.length<=1000) (hd:d.length<=1000) (ht:th.length<=1000):mF ([(a0,r0),(a1,r1),(a2,r2)],h,d,th)=aa ((h,d,th),(a0,a1,a2),r0,r1,r2):=by
 refine cE ?_;have I:∀ l:List Int,l.length<=1000->oq l=aa l:=λl hl=>cE (bf (by omega) (by omega) (al rfl))
 unfold mF aU bI bu bD bF aW aD;refine ba rfl (aX (λx=>x=(([(a0,r0),(a1,r1),(a2,r2)],h,d,th),0,(a0,a1,a2),r0,r1,r2)) ?_ ?_)
 .exact fg rfl (ba rfl (aR (aT (I _ h0) (fg rfl (ba rfl (aR (aT (I _ h1) (fg rfl (ba rfl (aR (aT (I _ h2) (fy rfl (al rfl)))))))))))))
 rintro x rfl;refine aT (x:=d) (cE (bf (by dsimp only;omega) (by omega) (al rfl))) (aT (x:=th) (cE (bf (by dsimp only;omega) (by omega) (al rfl))) (al rfl))
theorem abx {n:Nat} (w:WT) (s:SY) (hs:SB n s) (hn:n<=1000) (I:w.2.2.1.length<=1000) (t k o u:Int) (he:EN w s t k o) (hr:U3 w s t k o) (hk:k=8\/k=9):gG (w,s,t,k,o,u)=af:=by
 have h1:=CK w s hs hn I t k o he hr;have h2:=YE s hs;rcases hk with rfl|rfl
 .unfold gG aU bk bt ct em bI dh cQ eU lY ck bc bD bF kK aD;simp only[h1,h2,aV,bi,rR];cases fB o (ak s.1)<;>rfl
 .unfold gG aU bk bt ct em bI dh cQ eU lY ck bc bD bF kK aD;simp only[h1,h2,aV,bi,rR];cases fB o (ak s.1)<;>rfl
theorem abv {n:Nat} (w:WT) (s:SY) (hs:SB n s) (hn:n<=900) (Y:w.2.2.1.length<=1000) (t k u:Int) (he:EN w s t k 2) (hr:U3 w s t k 2) (hk:k=8\/k=9) (Z:s.1.length=3) (hA:FO (aH (T:=yT) s.1 2).2) (I:∀ z∈(aH (T:=yT) s.1 2).2,0<=z/\z<4) (M:t<4):kA (w,s,t,k,2,u)=aa ((uz w s t k 2 u).1,(uz w s t k 2 u).2,ah):=by
 have h1:=CK w s hs (by omega) Y t k 2 he hr;have t0:=he.t0;have ra:=hr.ra;have rr:=hr.rr;have hrd:=hs.rd;have hdn:=hs.dn;have hth:=hs.th;obtain⟨s1,h,d,th⟩:=s
 match s1,Z with
 |[(a0,r0),(a1,r1),(a2,r2)],_=>
  have g0:r0.length<=n:=hrd (a0,r0) (by simp);have g1:r1.length<=n:=hrd (a1,r1) (by simp);have g2:r2.length<=n:=hrd (a2,r2) (by simp);have hA:FO r2:=hA;have I:∀ z∈r2,0<=z/\z<4:=I;dsimp only at hdn hth;have hc:=aao a0 a1 a2 r0 r1 r2 h d th (by omega) (by omega) (by omega) hdn hth;refine cE ?_;unfold kA aU bk bt ct em ka dh cQ eU pg bc vO bD aD;rcases hk with rfl|rfl
  .have ra:r2.contains t=ai:=ra rfl;obtain⟨J,U,q3⟩:=srt8 hA I t0 M (by simpa using ra);simp only[h1,hc,aV,bi,rR];refine aX (λx=>x=(0,(h,d,th),0,(((a0,r0),(a1,r1),a2)),ah,vL r2 [t])) ?_ ?_
   .refine bf (by simp;omega) (by omega) (aT J (ba ?_ (aT U (ba ?_ (al ?_)))))
    .rw[q3];simp
    .simp
    .rfl
   rintro x rfl;exact al rfl
  .have rr:r2.contains t=ah:=rr rfl;have J:=del8 hA I t0 M rr;simp only[h1,hc,aV,bi,rR];refine aX (λx=>x=(0,(h,d,th),0,(((a0,r0),(a1,r1),a2)),ai,wo r2 t)) ?_ ?_
   .exact aT J (ba (by simp) (al rfl))
   rintro x rfl;exact al rfl
theorem afw {n:Nat} (w:WT) (s:SY) (hs:SB n s) (hn:n<=900) (I:w.2.2.1.length<=1000) (t k o u:Int) (he:EN w s t k o) (hr:U3 w s t k o) (h2:k=8\/k=9->o=2) (M:s.1.length=3) (hA:∀ l∈s.1,FO l.2/\∀ z∈l.2,0<=z/\z<4) (J:t<4):qO (w,s,t,k,o,u)=aa ((uz w s t k o u).1,(uz w s t k o u).2,ah):=by
 unfold qO;by_cases hk:k=8\/k=9
 .have:=h2 hk;subst this;have hg:=hA _ (bH (T:=yT) (xs:=s.1) (j:=2) (by omega) (by omega));rw[abx w s hs (by omega) I t k 2 u he hr hk,abv w s hs hn I t k u he hr hk M hg.1 hg.2 J];rfl
 .rw[abw w s hs (by omega) I t k o u he hr (λh=>hk (.inl h)) λh=>hk (.inr h)];rfl
theorem UM (l:List Int) (h:l.length<=100000):xC l=aa l:=cE (bf (by omega) (by omega) (al rfl))
theorem aap (l:List Int) (h:l.length<=100000):oq l=aa l:=cE (bf (by omega) (by omega) (al rfl))
theorem ahm {n:Nat} (w:WT) (s:SN) (e:ET) (hs:NB n s) (hn:n<=900) (U:w.2.2.1.length<=1000) (Y:F16 w s) (J:EN w s.1 e.1 e.2.1 e.2.2.1) (hS:S16 w s e) (ld:e.2.2.2.2.2.1.length<=1000000) (lf:e.2.2.2.2.2.2.length<=1000000) (h2:e.2.1=8\/e.2.1=9->e.2.2.1=2) (h3:s.1.1.length=3) (hA:∀ l∈s.1.1,FO l.2/\∀ z∈l.2,0<=z/\z<4) (t4:e.1<4):fw (w,s,e)=aa (Zv w s e,ah):=by
 refine cE ?_;obtain⟨rd,q1,q2,de,fr,nd,nf,va⟩:=id hS;obtain⟨nm,t0,t1,cd,e1,e2,e3⟩:=id J;obtain⟨k1,k2,ce,lk,cn,th,fu,_,_,_⟩:=nm;obtain⟨f1,f2,f3⟩:=id Y;have hsc:=hs.c;have hsf:=hs.f;have hsk:=hs.k;unfold fw aU bk bt bI dh cQ ck bc bu jg kK aW aD cz;refine aX (λx=>x=(ai,w,s,e,0)) ?_ ?_
 .refine aT (ags w s U _ _ _ J Y) (fy rfl (dc (e_ (λg=>(by dsimp only[ar] at g;omega)) λ_=>dc (al ?_))));rw[fP.2 (show e.2.1<=23 by omega)]
 rintro x rfl;refine fh (aX (λx=>x=(ai,w,s,e,0)) ?_ ?_)
 .exact aT (CK w s.1 hs.sb (by omega) U _ _ _ J rd) (fy rfl (aT (ZS w e q1 q2) (fy rfl (aT (Pm w s e (λh=>ce h) de fr t0 (by rw[f3];exact t1) nd nf ld lf) (fy rfl (aT (ZF w s hs.sb e Y J va) (al rfl)))))))
 rintro x rfl;refine fh (aX (λx=>x.2=(w,s,e,0)/\uz w s.1 e.1 e.2.1 e.2.2.1 x.1=uz w s.1 e.1 e.2.1 e.2.2.1 e.2.2.2.1) ?_ ?_)
 .exact aI (λ_=>al ⟨rfl,rfl⟩) λh=>al ⟨rfl,UW _ _ _ _ _ _ _ h⟩
 rintro⟨u,x⟩ ⟨Z,hu⟩;dsimp only at Z hu;subst Z;refine aT (afw w s.1 hs.sb hn U _ _ _ u J rd h2 h3 hA t4) (fy rfl (aT (UM _ (by dsimp only;omega)) (aT (UM _ (by dsimp only;omega)) (aT (aap _ (by dsimp only;omega)) ?_))));rw[hu];refine aX (λx=>x.1=e/\x.2.2.1=(uz w s.1 e.1 e.2.1 e.2.2.1 e.2.2.2.1).1/\x.2.2.2.1=Wh s.2.1 e/\x.2.2.2.2.1=Xc s.2.2.1 e/\x.2.2.2.2.2=s.2.2.2) ?_ ?_
 .unfold Wh Xc;refine aI (λh=>?_) λh=>aI (λh'=>?_) λh'=>al ⟨rfl,rfl,(aC h).symm,(aC h').symm,rfl⟩
  .have h:e.2.1=4:=h;have I:=ce (.inr h);exact aQ I.1 (by rw[f1];exact I.2) (aQ I.1 (by rw[f1];exact I.2) (al ⟨rfl,rfl,(aJ h).symm,(aC (by omega)).symm,rfl⟩))
  .have h:e.2.1=22:=h';have I:=fu (.inl h);exact aQ I.1 (by rw[f2];exact I.2) (aQ I.1 (by rw[f2];exact I.2) (al ⟨rfl,rfl,(aC (by omega)).symm,(aJ h).symm,rfl⟩))
 rintro⟨x1,x2,x3,x4,x5,x6⟩ ⟨h1,h2,h4,h5,h6⟩;simp only at h1 h2 h4 h5 h6;subst h1;subst h2;subst h4;subst h5;subst h6;have M:x1.1<(s.2.2.2.length:Int):=by rw[f3];exact t1
 exact aQ t0 M (aQ t0 M (aR (aQ t0 M (aQ t0 M (al rfl)))))
theorem Wl (r:List Bool) (e:ET) (h1:∀ y∈e.2.2.2.2.2.1,0<=y/\r.getD y.toNat ai=ah) (h2:∀ y∈e.2.2.2.2.2.2,0<=y/\r.getD y.toNat ai=ah) (ld:e.2.2.2.2.2.1.length<=1000000) (I:e.2.2.2.2.2.2.length<=1000000):b_ (r,e)=aa ah:=by
 refine cE ?_;unfold b_ jS em lY bu jg bD bF aW cK aD cz;refine iU 2 (by omega) (λi x=>x=(i:Int)) ?_ ?_ rfl
 .rintro i x hi rfl;refine bA (λ_=>?_) λg=>(by omega)
  refine db (ey (by omega) (yG (by omega) (aR ?_)));have hr:∃ l:List Int,aH (T:=.sl (.int .i64)) [e.2.2.2.2.2.1,e.2.2.2.2.2.2] (i:Int)=l/\(∀ y∈l,0<=y/\r.getD y.toNat ai=ah)/\l.length<=1000000:=by
   match i,hi with
   |0,_=>exact⟨_,rfl,h1,ld⟩
   |1,_=>exact⟨_,rfl,h2,I⟩
  obtain⟨l,J,hA,hl⟩:=hr;have er':aH (T:=.sl aM) [e.2.2.2.2.2.1,e.2.2.2.2.2.2] (i:Int)=l:=J;dsimp only at er' ⊢;rw[er'];refine iU l.length (by omega) (λj x=>x=(j:Int)) ?_ ?_ rfl
  .rintro j x hj rfl;refine dl ?_;have m:=hA _ (bH (T:=.int .i64) (xs:=l) (j:=(j:Int)) (by omega) (by omega));refine cw (aR (aX (λx=>x=ai) ?_ ?_))
   .revert m;generalize aH (T:=.int .i64) l (j:Int)=z;intro m;have M:z.toNat<r.length:=by
     rcases bW z.toNat r.length with g|g
     .exact g
     .have:=m.2;rw[ax,bM g] at this;cases this
    refine bA (λg=>(by have:=m.1;omega)) λ_=>e_ (λg=>(by have:=m.1;dsimp only[ar] at g;omega)) λ_=>aQ m.1 (by have:=m.1;omega) (aR (al ?_))
    have:aH (T:=.bool) r z=ah:=m.2;show (!aH (T:=.bool) r z)=ai;rw[this];rfl
   rintro x rfl;exact fh (al (gK (by omega)))
  .rintro x rfl;exact dc (al (gK (by omega)))
 .rintro x rfl;exact bA (λg=>(by omega)) λ_=>al rfl
abbrev W8 (n:Nat) (s:List (Int×Int×Int)):WT:=(C0,Fd,Ky,QL,uJ.take n,s)
theorem WX.w8 {w:WT} (U:WX w):∃ n,(n=1\/n=2\/n=3\/n=4)/\w=W8 n w.2.2.2.2.2:=by
 obtain⟨h1,h2,M,J,⟨n,n1,Y,I⟩,_,_⟩:=U;obtain⟨c,l,d,f,t,s⟩:=w;dsimp only at h1 h2 M J I;subst h1;subst h2;subst M;subst J;subst I;exact⟨n,by omega,rfl⟩
abbrev sn8 (w:WT):SN:=(Nr w,YJ w,Zx w,aF w.2.2.2.2.1.length 0)
theorem Gu (s:List (Int×Int×Int)):c4 (W8 1 s)=aa (sn8 (W8 1 s)):=by kernel_rfl
theorem Xw (s:List (Int×Int×Int)):c4 (W8 2 s)=aa (sn8 (W8 2 s)):=by kernel_rfl
theorem st3 (s:List (Int×Int×Int)):c4 (W8 3 s)=aa (sn8 (W8 3 s)):=by kernel_rfl
theorem st4 (s:List (Int×Int×Int)):c4 (W8 4 s)=aa (sn8 (W8 4 s)):=by kernel_rfl
theorem AQ {w:WT} (I:WX w):c4 w=aa (sn8 w):=by
 obtain⟨n,hn,e⟩:=I.w8;rw[e];rcases hn with rfl|rfl|rfl|rfl
 .exact Gu _
 .exact Xw _
 .exact st3 _
 .exact st4 _
abbrev VN4:List (List UInt8):=[[120],[121],[118],[113]]
theorem vc8:gL C0=aa (VN4,ah):=by kernel_rfl
theorem vn1 (s:List (Int×Int×Int)):dC (W8 1 s,VN4)=aa ah:=by kernel_rfl
theorem vn2 (s:List (Int×Int×Int)):dC (W8 2 s,VN4)=aa ah:=by kernel_rfl
theorem vn3 (s:List (Int×Int×Int)):dC (W8 3 s,VN4)=aa ah:=by kernel_rfl
theorem vn4 (s:List (Int×Int×Int)):dC (W8 4 s,VN4)=aa ah:=by kernel_rfl
theorem vs8 {w:WT} (M:WX w) (hb:VL w):fH w=aa ah:=by
 have hv:=M.v;have hs:=M.s;have ht:=hb.t0;unfold Y_ at hv;refine cE ?_;unfold fH kj aU bk ct cQ bu iO bF aW cK aD cz;refine iU w.2.2.2.2.2.length (by omega) (λi x=>∃ t n:Int,x=((t,n,(i:Int)),w)/\Jv w.2.2.2.2.1.length (w.2.2.2.2.2.take i)=aa (t,n)/\0<=t/\t<w.2.2.2.2.1.length/\0<=n/\n<=i) ?_ ?_ ⟨0,0,rfl,rfl,by omega,by omega,by omega,by omega⟩
 .rintro i x hi ⟨t,n,rfl,h1,t0,t1,n0,n1⟩;refine dl ?_;refine cw (aR ?_);have h2:=T4 hv (i+1);have I:Jv w.2.2.2.2.1.length (w.2.2.2.2.2.take (i+1))=Q3 w.2.2.2.2.1.length (aa (t,n)) (aH (T:=wJ) w.2.2.2.2.2 (i:Int)):=by rw[Gv hi,h1]
  rw[I] at h2;dsimp only;revert h2 I;change _->_->Ok _ _;generalize aH (T:=wJ) w.2.2.2.2.2 (i:Int)=z;intro h2 I;obtain⟨(a:Int),(b:Int),(c:Int)⟩:=z;have Y:(a=t/\b=n)\/(t<a/\a<w.2.2.2.2.1.length/\b=0):=by
   simp only[Q3] at h2;split at h2
   .rename_i h;exact .inl h
   .split at h2
    .rename_i h;exact .inr h
    .exact (h2 rfl).elim
  refine aX (λx=>x=(ai,w,a,b,c)) ?_ ?_
  .refine dc (al ?_);dsimp only;rw[kC.2 (by dsimp only[ar];omega)]
  rintro x rfl;refine fh ?_;rcases Y with ⟨rfl,rfl⟩|⟨U,J,rfl⟩
  .refine aX (λx=>x=((a,b),w,a,b,c)) (dc (al rfl)) ?_;rintro x rfl;refine bZ (λg=>(g rfl).elim) λ_=>al ⟨a,b+1,?_,?_,t0,t1,by omega,by omega⟩
   .dsimp only;rw[ie (n:=b+1) (by omega) (by omega),gK (by omega)]
   .rw[I];simp[Q3]
  .refine aX (λx=>x=((a,0),w,a,0,c)) (dl (al rfl)) ?_;rintro x rfl;refine bZ (λg=>(g rfl).elim) λ_=>al ⟨a,1,?_,?_,by omega,J,by omega,by omega⟩
   .dsimp only;rw[ie (n:=0+1) (by omega) (by omega),gK (by omega)];rfl
   .rw[I];show (if a=t/\(0:Int)=n then aa (t,n+1) else if t<a/\a<_/\(0:Int)=0 then aa (a,1) else af)=aa (a,1);rw[aC (by omega),aJ ⟨U,J,rfl⟩]
 .rintro x ⟨t,n,rfl,_⟩;exact dc (al rfl)
theorem VW8 {w:WT} (M:WX w) (hb:VL w):dD w=aa ah:=by
 have hs:=vs8 M hb;have hvn:dC (w,VN4)=aa ah:=by
  obtain⟨n,hn,e⟩:=M.w8;rw[e];rcases hn with rfl|rfl|rfl|rfl
  .exact vn1 _
  .exact vn2 _
  .exact vn3 _
  .exact vn4 _
 have hc:=M.c;have hd:=M.d;have hl:=M.l;obtain⟨w1,w2,w3,U,J,I⟩:=w;obtain⟨b1,b2,b3,b4,b0,Z,Y⟩:=hb;dsimp only at hc hd hl b1 b2 b3 b4 Z Y b0;subst hc;subst hd;subst hl;refine cE ?_;unfold dD kl aU bk ct cQ bu bF aW cK aD cz;have f:∀ n m:Nat,n<=m->fE (m:Int) (aN n)=ai:=λn m h=>fP.2 (by dsimp only[ar];omega)
 refine aX (λx=>x=(ai,C0,Fd,Ky,U,J,I)) ?_ ?_
 .refine fy rfl (fy rfl (fy rfl (fy (f _ 2 b4) (al ?_))));rw[show fE 60 (aN (ak I))=ai from f _ 60 Y]
 rintro x rfl;refine fh (aX (λx=>x=(ai,C0,Fd,Ky,U,J,I)) ?_ ?_)
 .refine fy (fP.2 (by dsimp only[ar];omega)) (al ?_);rw[show fE 4 (aN (ak J))=ai from f _ 4 Z]
 rintro x rfl;refine fh (aT vc8 (aX (λx=>x=(ai,C0,Fd,Ky,U,J,I)) ?_ ?_))
 .exact fh (aT hvn (al rfl))
 rintro x rfl;refine fh (iU 1 (by omega) (λi x=>x=((i:Int),C0,Fd,Ky,U,J,I)) ?_ ?_ rfl)
 .rintro i x hi rfl;have:i=0:=by omega
  subst this;refine fg rfl (ba rfl (aR (aT (x:=ah) ?_ (fh (al rfl)))));rfl
 .rintro x rfl;exact fy rfl (aT (x:=ah) (by rw[hs];rfl) (al rfl))
abbrev eN (l:List ET) (i:Nat):ET:=aH (T:=tE) l (i:Int)
theorem H3 {l:List ET} {i:Nat} (h:i<l.length):eN l i∈l:=bH (T:=tE) (by omega) (by omega)
theorem adr {l:List ET} {e:ET} {i:Nat} (h:i<l.length):eN (l++[e]) i=eN l i:=by
 unfold eN;rw[xh,xh,ax,ax,bK h]
theorem aaf (l:List ET) (e:ET):eN (l++[e]) l.length=e:=by
 unfold eN;rw[xh,ax,bX (bQ _),Nat.sub_self];rfl
def UZ (w:WT) (l:List ET):SY×List Int×List Int:=l.foldl (λs e=>((uz w s.1 e.1 e.2.1 e.2.2.1 e.2.2.2.1).1,Wh s.2.1 e,Xc s.2.2 e)) (Nr w,YJ w,Zx w)
theorem YY (w:WT) {l:List ET} {i:Nat} (h:i<l.length):UZ w (l.take (i+1))=((uz w (UZ w (l.take i)).1 (eN l i).1 (eN l i).2.1 (eN l i).2.2.1 (eN l i).2.2.2.1).1,Wh (UZ w (l.take i)).2.1 (eN l i),Xc (UZ w (l.take i)).2.2 (eN l i)):=by
 rw[nB (T:=tE) h];unfold UZ;rw[fk];rfl
theorem ZD.all {w:WT} {l:List ET} {sy:SY} {ce fu:List Int} (h:ZD w l sy ce fu):UZ w l=(sy,ce,fu)/\∀ i,i<l.length->SCx w (l.take i) (UZ w (l.take i)).1 (UZ w (l.take i)).2.1 (UZ w (l.take i)).2.2 (eN l i):=by
 induction h with
 |nil=>exact⟨rfl,λi hi=>cX hi (vJ _)⟩
 |snoc h hs I=>
  rename_i l sy ce fu e;obtain⟨h1,h2⟩:=I;refine ⟨by unfold UZ at h1 ⊢;rw[fk,h1];rfl,λi hi=>?_⟩;rw[bn,gf] at hi;rcases bW i l.length with g|g
  .rw[kH (by omega),adr g];exact h2 i g
  .have:i=l.length:=by omega
   subst this;rw[kH (bQ _),cL,aaf,h1];exact hs
theorem TR.sc {w:WT} {l:List ET} (I:TR (w,l)) {i:Nat} (h:i<l.length):SCx w (l.take i) (UZ w (l.take i)).1 (UZ w (l.take i)).2.1 (UZ w (l.take i)).2.2 (eN l i):=by
 obtain⟨sy,ce,fu,ac⟩:=I.ac;exact ac.all.2 i h
def Om (w:WT) (l:List ET):HS:=l.foldl (λh e=>(ND w h (evP e)).1) (HS.zero w)
def rK (l:List ET) (i:Nat):EV:=evP (eN l i)
def Km (w:WT) (l:List ET) (i:Nat):List Int:=IU w (Om w (l.take i)) (rK l i)
theorem Hg (w:WT) {l:List ET} {i:Nat} (h:i<l.length):Om w (l.take (i+1))=tJ w (Om w (l.take i)) (rK l i) (Km w l i):=by
 rw[nB (T:=tE) h];unfold Om;rw[fk];rfl
theorem RE {w:WT} {l:List ET} (I:TR (w,l)):∀ i:Nat,i<=l.length->TE (i:Int) (Om w (l.take i))/\Zm w (Om w (l.take i))
 |0,_=>by
  have wb:=I.wb;dsimp only at wb;exact⟨HS.zero_ok (by have:=wb.c;omega) (by have:=wb.l;omega) (by have:=wb.f;omega) (by have:=wb.t;omega),Zm.zero w⟩
 |i+1,h=>by
  obtain⟨o,J⟩:=RE I i (by omega);have hl:=I.len;dsimp only at hl;have ok:=Yr (I.ev _ (H3 (l:=l) (i:=i) (by omega))) I.wb J;rw[Hg w (by omega)];exact⟨Xu (w:=w) (e:=rK l i) o (by omega) ok.th4,J.step (rK l i)⟩
theorem Ys {w:WT} {l:List ET} (I:TR (w,l)) {i:Nat} (h:i<l.length):EOK w (Om w (l.take i)) (rK l i):=Yr (I.ev _ (H3 h)) I.wb (RE I i (by omega)).2
theorem UD {w:WT} {l:List ET} (I:TR (w,l)) {i:Nat} (h:i<l.length):EvT (rK l i) (eN l i):=agu (I.ev _ (H3 h))
def LE (a b:List Int):Prop:=a.length<=b.length/\∀ k,a.getD k 0<=b.getD k 0
theorem LE.refl (a:List Int):LE a a:=⟨bQ _,λ_=>eP _⟩
theorem LE.trans {a b c:List Int} (h:LE a b) (g:LE b c):LE a c:=⟨c7 h.1 g.1,λk=>Int.le_trans (h.2 k) (g.2 k)⟩
theorem LE.jl {a b:List Int} (h:LE a b):jl a b=b:=Vl (by rw[yJ];have:=h.1;omega) λi=>by rw[Df,xI];have:=h.2 i;omega
theorem ai6 (a b:List Int):LE a (jl a b):=⟨by rw[yJ];omega,λk=>by rw[Df,xI];omega⟩
theorem LE_r (a b:List Int):LE b (jl a b):=⟨by rw[yJ];omega,λk=>by rw[Df,xI];omega⟩
theorem ad3 (a:List Int) (t:Nat):LE a (tk a t):=⟨by rw[KC];omega,λk=>by rw[Gr];split<;>(try subst k)<;>omega⟩
theorem No:∀ (l:List (List Int)) (c:List Int),LE c (l.foldl jl c)
 |[],c=>LE.refl c
 |x::r,c=>(ai6 c x).trans (No r _)
theorem agz (w:CQ) (h:HS) (e:EV):LE (h.T.getD e.th []) (IU w h e):=(No _ _).trans (ad3 _ _)
theorem OW {α:Type} (l:List α) (i j:Nat) (x d:α):(l.set i x).getD j d=if i=j/\i<l.length then x else l.getD j d:=by
 rw[ax,rY];by_cases e:i=j
 .subst e;by_cases g:i<l.length
  .rw[aJ rfl,aJ g,aJ ⟨rfl,g⟩];rfl
  .rw[aJ rfl,aC g,aC λq=>g q.2,ax,bM (by omega)]
 .rw[aC e,aC λq=>e q.1,ax]
structure oe (P:List Int->Prop) (h:HS):Prop where
 T:∀ u,P (h.T.getD u [])
 S:∀ u,P (h.S.getD u [])
 L:∀ u,P (h.L.getD u [])
 R:∀ u,P (h.R.getD u [])
 C:∀ u,P (h.C.getD u [])
 F:∀ u,P (h.F.getD u [])
 X:P h.X
 N:∀ u,P (h.N.getD u [])
theorem oe.mono {P Q:List Int->Prop} {h:HS} (a:oe P h) (g:∀ x,P x->Q x):oe Q h:=⟨λu=>g _ (a.T u),λu=>g _ (a.S u),λu=>g _ (a.L u),λu=>g _ (a.R u),λu=>g _ (a.C u),λu=>g _ (a.F u),g _ a.X,λu=>g _ (a.N u)⟩
theorem oe.set {P:List Int->Prop} {l:List (List Int)} {c:List Int} (h:∀ u,P (l.getD u [])) (hc:P c) (i:Nat):∀ u,P ((l.set i c).getD u []):=λu=>by
 rw[OW];split
 .exact hc
 .exact h u
theorem oe.repl {P:List Int->Prop} (h:P []) (n:Nat):∀ u,P ((aF n []).getD u []):=λu=>by
 rw[ax,pV];split<;>exact h
theorem oe.zero {P:List Int->Prop} (h:P []) (w:CQ):oe P (HS.zero w):=⟨oe.repl h _,oe.repl h _,oe.repl h _,oe.repl h _,oe.repl h _,oe.repl h _,h,oe.repl h _⟩
theorem oe.step {P:List Int->Prop} (hj:∀ a b,P a->P b->P (jl a b)) {w:CQ} {h:HS} (a:oe P h) (e:EV) {c:List Int} (hc:P c):oe P (tJ w h e c):=by
 have b:oe P {h with T:=h.T.set e.th c}:={a with T:=oe.set a.T hc _}
 unfold tJ;simp only[];repeat' split
 .exact {b with S:=oe.set a.S hc _}
 .exact {b with L:=oe.set a.L (hj _ _ (a.L _) hc) _}
 .exact {b with R:=oe.set a.R (hj _ _ (a.R _) hc) _}
 .exact {b with L:=oe.set a.L (hj _ _ (a.L _) hc) _}
 .exact {b with C:=oe.set a.C (hj _ _ (a.C _) hc) _}
 .exact b
 .exact {b with F:=oe.set a.F (hj _ _ (a.F _) hc) _}
 .exact {b with X:=hj _ _ a.X hc}
 .exact {b with N:=oe.set a.N hc _}
 .exact b
 .refine {b with N:=λu=>?_};have:=a.N u;simp only[Be];rw[ax] at this ⊢;rw[List.getElem?_mapIdx];cases I:h.N[u]? with
  |none=>rw[I] at this;exact this
  |some x=>
   rw[I] at this;simp only[b7,tO];split
   .exact hc
   .exact this
 .exact b
theorem oe.src {P:List Int->Prop} {w:CQ} {h:HS} (a:oe P h) (e:EV):∀ x∈Ac w h e,P x:=by
 intro c hc;unfold Ac at hc;repeat' (split at hc)
 all_goals simp only[bh,cj,fM] at hc
 .subst hc;exact a.S _
 .subst hc;exact a.T _
 .rcases hc with rfl|rfl
  .exact a.L _
  .exact a.R _
 .subst hc;exact a.L _
 .rcases hc with rfl|rfl|rfl
  .exact a.L _
  .exact a.R _
  .exact a.N _
 .subst hc;exact a.C _
 .subst hc;exact a.F _
 .subst hc;exact a.X
theorem Yo {P:List Int->Prop} (hj:∀ a b,P a->P b->P (jl a b)):∀ (l:List (List Int)) (c:List Int),P c->(∀ x∈l,P x)->P (l.foldl jl c)
 |[],_,hc,_=>hc
 |x::r,_,hc,h=>Yo hj r _ (hj _ _ hc (h x (dG ..))) λy I=>h y (cO _ I)
theorem agw (w:CQ) (h:HS) (e:EV) (c:List Int):(tJ w h e c).T=h.T.set e.th c:=by
 unfold tJ;simp only[];repeat' split
 all_goals rfl
def Cw (l:List ET) (u:Nat):Nat->Nat
 |0=>0
 |i+1=>if (rK l i).th=u then Cw l u i+1 else Cw l u i
theorem Qc (l:List ET) (u i:Nat):∀ j,Cw l u i<=Cw l u (i+j)
 |0=>bQ _
 |j+1=>by
  have:=Qc l u i j;show Cw l u i<=Cw l u (i+j+1);rw[Cw];split<;>omega
theorem S0 (l:List ET) (u:Nat) {i j:Nat} (h:i<=j):Cw l u i<=Cw l u j:=by
 obtain⟨k,rfl⟩:∃ k,j=i+k:=⟨j-i,by omega⟩
 exact Qc l u i k
theorem Ge (l:List ET) (i:Nat):Cw l (rK l i).th (i+1)=Cw l (rK l i).th i+1:=by rw[Cw,aJ rfl]
structure Gd (w:WT) (l:List ET) (i:Nat) (x:List Int):Prop where
 le:∀ u,x.getD u 0<=(Cw l u i:Int)
 dn:∀ k,k<i->(Cw l (rK l k).th k:Int)+1<=x.getD (rK l k).th 0->LE (Km w l k) x
theorem Gd.nil (w:WT) (l:List ET) (i:Nat):Gd w l i []:=⟨λu=>by simp,λk _ h=>by simp at h;omega⟩
theorem Gd.jl {w:WT} {l:List ET} {i:Nat} (a b:List Int) (I:Gd w l i a) (hb:Gd w l i b):Gd w l i (jl a b):=by
 refine ⟨λu=>?_,λk hk h=>?_⟩
 .rw[Df,xI];have:=I.le u;have:=hb.le u;omega
 .rw[Df,xI] at h;by_cases g:(Cw l (rK l k).th k:Int)+1<=a.getD (rK l k).th 0
  .exact (I.dn k hk g).trans (ai6 _ _)
  .exact (hb.dn k hk (by omega)).trans (LE_r _ _)
theorem Gd.succ {w:WT} {l:List ET} {i:Nat} {x:List Int} (h:Gd w l i x):Gd w l (i+1) x:=by
 refine ⟨λu=>?_,λk hk g=>?_⟩
 .have:=h.le u;have:=S0 l u (show i<=i+1 by omega);omega
 .by_cases e:k=i
  .subst e;have:=h.le (rK l k).th;omega
  .exact h.dn k (by omega) g
structure GS1 (w:WT) (l:List ET) (i:Nat) (h:HS):Prop where
 a:oe (Gd w l i) h
 t:∀ u,(h.T.getD u []).getD u 0=(Cw l u i:Int)
theorem M6 {w:WT} {l:List ET} {i:Nat} (g:GS1 w l i (Om w (l.take i))):Gd w l (i+1) (Km w l i)/\(Km w l i).getD (rK l i).th 0=(Cw l (rK l i).th i:Int)+1:=by
 have J:Gd w l i ((Ac w (Om w (l.take i)) (rK l i)).foldl AI.jl ((Om w (l.take i)).T.getD (rK l i).th [])):=Yo Gd.jl _ _ (g.a.T _) (g.a.src (w:=w) _);have M:=g.t (rK l i).th;have hL:=No (Ac w (Om w (l.take i)) (rK l i)) ((Om w (l.take i)).T.getD (rK l i).th []);have U:=(g.a.T (rK l i).th).dn;have I:=agz w (Om w (l.take i)) (rK l i);have e:(Km w l i).getD (rK l i).th 0=(Cw l (rK l i).th i:Int)+1:=by
  unfold Km IU;rw[Gr,aJ rfl];have:=hL.2 (rK l i).th;have:=J.le (rK l i).th;omega
 refine ⟨⟨λu=>?_,λk hk h=>?_⟩,e⟩
 .by_cases hu:(rK l i).th=u
  .subst hu;rw[e,Ge];omega
  .have:=J.le u;unfold Km IU;rw[Gr,aC λq=>hu q.symm,Cw,aC hu];exact this
 .by_cases hki:k=i
  .subst hki;exact LE.refl _
  have hk:k<i:=by omega
  by_cases hu:(rK l k).th=(rK l i).th
  .refine (U k hk ?_).trans I;rw[hu,M];have:=S0 l (rK l k).th (show k+1<=i from hk);rw[Ge,hu] at this;omega
  .refine (J.dn k hk ?_).trans (ad3 _ _);unfold Km IU at h;rw[Gr,aC hu] at h;exact h
theorem Hh {w:WT} {l:List ET} (I:TR (w,l)):∀ i:Nat,i<=l.length->GS1 w l i (Om w (l.take i))
 |0,_=>⟨oe.zero (Gd.nil w l 0) w,λu=>by have:=oe.repl (P:=λx=>x.getD u 0=0) (by simp) w.2.2.2.2.1.length u;exact this⟩
 |i+1,h=>by
  have g:=Hh I i (by omega);obtain⟨M,J⟩:=M6 g;have ht:=(Ys I (show i<l.length by omega)).th;rw[Hg w (by omega)];refine ⟨oe.step Gd.jl (g.a.mono λx h=>h.succ) _ M,λu=>?_⟩;rw[agw,OW];by_cases hu:(rK l i).th=u
  .subst hu;rw[aJ ⟨rfl,ht⟩,J,Ge];omega
  .rw[aC λq=>hu q.1,g.t u,Cw,aC hu]
theorem UN {w:WT} {l:List ET} (I:TR (w,l)) {i:Nat} (h:i<l.length):(Km w l i).getD (rK l i).th 0=(Cw l (rK l i).th i:Int)+1:=(M6 (Hh I i (by omega))).2
theorem YG {w:WT} {l:List ET} (I:TR (w,l)) {i:Nat} (h:i<l.length):Gd w l (i+1) (Km w l i):=(M6 (Hh I i (by omega))).1
def TJ (w:WT) (l:List ET) (k j:Nat):Prop:=(Cw l (rK l k).th k:Int)+1<=(Km w l j).getD (rK l k).th 0
theorem TJ.le {w:WT} {l:List ET} (I:TR (w,l)) {k j:Nat} (hk:k<=j) (hj:j<l.length) (h:TJ w l k j):LE (Km w l k) (Km w l j):=(YG I hj).dn k (by omega) h
theorem TJ.of {w:WT} {l:List ET} (I:TR (w,l)) {k j:Nat} (hk:k<l.length) (h:LE (Km w l k) (Km w l j)):TJ w l k j:=by
 have:=h.2 (rK l k).th;rw[UN I hk] at this;exact this
theorem TJ.own {w:WT} {l:List ET} (I:TR (w,l)) {k j:Nat} (hk:k<j) (hj:j<l.length) (h:(rK l k).th=(rK l j).th):TJ w l k j:=by
 unfold TJ;rw[h,UN I hj];have:=S0 l (rK l k).th (show k+1<=j from hk);rw[Ge,h] at this;omega
theorem TJ.trans {w:WT} {l:List ET} (I:TR (w,l)) {i j k:Nat} (hi:i<=j) (hj:j<=k) (hk:k<l.length) (h:TJ w l i j) (g:TJ w l j k):TJ w l i k:=TJ.of I (by omega) ((h.le I hi (by omega)).trans (g.le I hj hk))
def Q8 (r:List Int):Prop:=FO r/\∀ z∈r,0<=z/\z<4
def P8 (s:List (Int×List Int)):Prop:=∀ x∈s,Q8 x.2
theorem P8.get {s:List (Int×List Int)} (h:P8 s) (o:Int):Q8 (aH (T:=yT) s o).2:=by
 unfold aH;rw[ax];cases e:s[o.toNat]? with
 |none=>exact⟨trivial,λz I=>by cases I⟩
 |some x=>exact h x (aZ e)
theorem P8.set {s:List (Int×List Int)} (h:P8 s) (o a:Int) {r:List Int} (hr:Q8 r):P8 (cJ s o (a,r)):=λx I=>by
 rcases Bk I with I|rfl
 .exact h x I
 .exact hr
theorem AO (p:Int->Bool):∀ {l:List Int},FO l->FO (l.filter p)
 |[],_=>trivial
 |x::r,h=>by
  rw[List.filter_cons];split
  .exact⟨λy I=>h.1 y ((D7.1 I).1),AO p h.2⟩
  .exact AO p h.2
theorem P8.ite {c:Prop} [Decidable c] {a b:SY×Int} (I:P8 a.1.1) (hb:P8 b.1.1):P8 (if c then a else b).1.1:=by by_cases h:c<;>simp[h,I,hb]
theorem P8.ap {w:WT} {s:SY} (h:P8 s.1) {t:Int} (k o v:Int) (t0:0<=t) (J:t<4):P8 (uz w s t k o v).1.1:=by
 have ow:∀ a b,P8 (owP s.1 a b):=λa b=>h.set a b (h.get a)
 have un:P8 (rdP s.1 o (vL (aH (T:=yT) s.1 o).2 [t])):=h.set _ _ ⟨Nz _ _,λz I=>by
  rcases Gq.1 I with I|I
  .exact (h.get o).2 z I
  .rw[aK] at I;subst I;exact⟨t0,J⟩⟩
 have wt:P8 (rdP s.1 o (wo (aH (T:=yT) s.1 o).2 t)):=h.set _ _ ⟨AO _ (h.get o).1,λz I=>(h.get o).2 z (D7.1 I).1⟩;unfold uz;exact P8.ite h (P8.ite h (P8.ite (ow _ _) (P8.ite (ow _ _) (P8.ite un (P8.ite wt (P8.ite h (P8.ite h (P8.ite h (P8.ite h (P8.ite (ow _ _) (P8.ite (ow _ _) (P8.ite (P8.ite h h) (P8.ite h (P8.ite h (P8.ite h h)))))))))))))))
def ig (w:WT) (l:List ET):SN:=l.foldl (Zv w) (sn8 w)
theorem KH (w:WT) {l:List ET} {i:Nat} (h:i<l.length):ig w (l.take (i+1))=Zv w (ig w (l.take i)) (eN l i):=by
 rw[nB (T:=tE) h];unfold ig;rw[fk];rfl
structure K8 (w:WT) (l:List ET) (i:Nat) (s:SN):Prop where
 a:(s.1,s.2.1,s.2.2.1)=UZ w (l.take i)
 r:P8 s.1.1
 c:s.2.1.length=w.1.length
 f:s.2.2.1.length=w.2.2.2.1.length
 k:s.2.2.2.length=w.2.2.2.2.1.length
 n:CN (l.take i) s.2.2.2
theorem TZ {w:WT} {l:List ET} (I:TR (w,l)):∀ i:Nat,i<=l.length->K8 w l i (ig w (l.take i))
 |0,_=>⟨rfl,λx M=>by rw[vI M];exact⟨trivial,λz J=>by cases J⟩,by simp[ig,YJ],by simp[ig,Zx],by simp[ig],λt t0 t1=>by
   have:(aF w.2.2.2.2.1.length (0:Int)).getD t.toNat 0=0:=by rw[ax,pV];split<;>rfl
   exact this⟩
 |i+1,h=>by
  obtain⟨a,r,c,f,k,n⟩:=TZ I i (by omega);have sc:=I.sc (i:=i) (by omega);have hl:=I.len;have ht:=I.wb.t;dsimp only at hl ht;have en:=sc.en;have e1:=en.t1;have htk:=pi i l;rw[KH w (by omega)];refine ⟨?_,r.ap _ _ _ en.t0 (by omega),?_,?_,?_,?_⟩
  .rw[YY w (by omega),<-a];rfl
  .unfold Zv Wh;dsimp only;split
   .rw[bU];exact c
   .exact c
  .unfold Zv Xc;dsimp only;split
   .rw[bU];exact f
   .exact f
  .unfold Zv;rw[bU];exact k
  .have:=n.next (eN l i) en.t0 (by rw[k];exact e1) (by omega);rw[nB (T:=tE) (show i<l.length by omega)];exact this
theorem LX {w:WT} {l:List ET} (I:TR (w,l)) {i:Nat} (hi:i<l.length):fw (w,ig w (l.take i),eN l i)=aa (ig w (l.take (i+1)),ah):=by
 obtain⟨a,r,c,f,k,n⟩:=TZ I i (by omega);have sc:=I.sc hi;have J:=I.wx;have ht:=I.wb.t;have hls:=I.ls _ (H3 hi);dsimp only at J ht hls;rw[KH w hi];rw[<- a] at sc;generalize ig w (l.take i)=s at*
 generalize eN l i=e at*
 have en:=sc.en;have e1:=en.t1;have l3:w.2.1.length=3:=by rw[J.l];rfl
 have M:=n e.1 en.t0 (by rw[k];exact e1);have b1:=I.wb.c;have b4:=I.wb.f;have b3:=I.wb.d;dsimp only at b1 b4 b3;have Z:=en.e1;have Y:=en.e2;have q3:=en.e3;dsimp only at Z Y q3;refine ahm (n:=4) w s e ⟨⟨by omega,by omega,λx U=>?_,by omega,by omega⟩,by omega,by omega,by omega⟩ (by omega) (by omega) ⟨c,f,k⟩ en ⟨sc.rd,sc.s1,sc.s2,sc.de,sc.fr,by rw[M];exact sc.nd,by rw[M];exact sc.nf,sc.va⟩ hls.1 hls.2 (λh=>?_) (by omega) r (by omega)
 .have:=Nc x.2 0 4 (r x U).1 (r x U).2;omega
 .have o1:=en.nm.lk (by omega);have o2:=en.nm.rw (by omega);generalize e.2.2.1=o at o1 o2;rw[J.l] at o1 o2;have:o=0\/o=1\/o=2:=by have:Fd.length=3:=rfl;omega
  rcases this with rfl|rfl|rfl
  .cases o2
  .cases o2
  .rfl
abbrev fN (l:List ET) (i:Nat) (t:Int):List Bool:=fl (l.take i) t
theorem MF {l:List ET} {i:Nat} (h:i<l.length) {t:Int} (e:(eN l i).1=t):fN l (i+1) t=fN l i t++[rZ (eN l i)]:=by
 unfold fN;rw[nB (T:=tE) h,td,xQ e]
theorem MG {l:List ET} {i:Nat} (h:i<l.length) {t:Int} (e:¬(eN l i).1=t):fN l (i+1) t=fN l i t:=by
 unfold fN;rw[nB (T:=tE) h,td,vh e,lm]
theorem F0 {w:WT} {l:List ET} (I:TR (w,l)) {i:Nat} (hi:i<l.length) {t:Int} (e:(eN l i).1=t):b_ (fN l i t,eN l i)=aa ah:=by
 have sc:=I.sc hi;have hls:=I.ls _ (H3 hi);subst e;exact Wl _ _ sc.rd1 sc.rd2 hls.1 hls.2
theorem MH (l:List ET) (i:Nat) (t:Int):(fN l i t).length<=l.length:=c7 (Ux _ _) (List.length_take_le' ..)
theorem Zp {w:WT} {l:List ET} (I:TR (w,l)) (hn:w.2.2.2.2.1.length=4):dT (w,l)=aa (0,0):=by
 have hl:=I.len;dsimp only at hl;refine cE ?_;unfold dT jt aU bk bt ct em ka bI eU lY pg bc bu bD bF aW cK aD cz;refine fy (fP.2 (by dsimp only[ar];omega)) (aT (VW8 I.wx I.vl) (fh (aT (AQ I.wx) (ba (by show (cR 0 (aN w.2.2.2.2.1.length)&&cR (aN w.2.2.2.2.1.length) (aN w.2.2.2.2.1.length)&&a_ (aS (aN w.2.2.2.2.1.length)) 24&&decide ((aN w.2.2.2.2.1.length:Int)=4))=ah;rw[hn];rfl) ?_))));refine iU l.length (by omega) (λi x=>x=((i:Int),(w,l),ig w (l.take i),fN l i 0,fN l i 1,fN l i 2,fN l i 3)) ?_ ?_ rfl
 .rintro i x hi rfl;have e1:=(I.sc hi).en.t1;have e0:=(I.sc hi).en.t0;have st:=LX I hi;have fa:=λt=>MH l i t
  have rd:=λt=>F0 I hi (t:=t)
  have own:=λt=>MF hi (t:=t)
  have oth:=λt=>MG hi (t:=t)
  refine dl ?_;refine cw (aR ?_);have ht:(eN l i).1=0\/(eN l i).1=1\/(eN l i).1=2\/(eN l i).1=3:=by omega
  have hg:aH (T:=tE) l (i:Int)=eN l i:=rfl;dsimp only;rw[hg];generalize eN l i=e at*
  refine aT st ?_;obtain⟨(t:Int),e⟩:=e;dsimp only at ht;rcases ht with rfl|rfl|rfl|rfl
  .refine aX (λx=>x=(ai,(w,l),ig w (l.take i),(0,e),ig w (l.take (i+1)),fN l i 0,fN l i 1,fN l i 2,fN l i 3)) ?_ ?_
   .simp only[aV,bi,rR];exact aT (rd 0 rfl) (al rfl)
   rintro x rfl;refine fh (aX (λx=>x=((w,l),ig w (l.take i),ig w (l.take (i+1)),fN l (i+1) 0,fN l (i+1) 1,fN l (i+1) 2,fN l (i+1) 3)) ?_ ?_)
   .simp only[aV,bi,rR];rw[own 0 rfl,oth 1 (by show ¬(0:Int)=1;decide),oth 2 (by show ¬(0:Int)=2;decide),oth 3 (by show ¬(0:Int)=3;decide)];have:=fa 0;refine aI (λh=>bf (by simp;omega) (by omega) (al ?_)) λh=>bf (by simp;omega) (by omega) (al ?_)
    .have:rZ (0,e)=ah:=by unfold rZ;rw[aP h];rfl
     rw[this]
    .have:rZ (0,e)=decide (e.1=23):=by unfold rZ;rw[bL h];rfl
     rw[this]
   rintro x rfl;exact al (by rw[gK (by omega)])
  .refine aX (λx=>x=(ai,(w,l),ig w (l.take i),(1,e),ig w (l.take (i+1)),fN l i 0,fN l i 1,fN l i 2,fN l i 3)) ?_ ?_
   .simp only[aV,bi,rR];exact aT (rd 1 rfl) (al rfl)
   rintro x rfl;refine fh (aX (λx=>x=((w,l),ig w (l.take i),ig w (l.take (i+1)),fN l (i+1) 0,fN l (i+1) 1,fN l (i+1) 2,fN l (i+1) 3)) ?_ ?_)
   .simp only[aV,bi,rR];rw[own 1 rfl,oth 0 (by show ¬(1:Int)=0;decide),oth 2 (by show ¬(1:Int)=2;decide),oth 3 (by show ¬(1:Int)=3;decide)];have:=fa 1;refine aI (λh=>bf (by simp;omega) (by omega) (al ?_)) λh=>bf (by simp;omega) (by omega) (al ?_)
    .have:rZ (1,e)=ah:=by unfold rZ;rw[aP h];rfl
     rw[this]
    .have:rZ (1,e)=decide (e.1=23):=by unfold rZ;rw[bL h];rfl
     rw[this]
   rintro x rfl;exact al (by rw[gK (by omega)])
  .refine aX (λx=>x=(ai,(w,l),ig w (l.take i),(2,e),ig w (l.take (i+1)),fN l i 0,fN l i 1,fN l i 2,fN l i 3)) ?_ ?_
   .simp only[aV,bi,rR];exact aT (rd 2 rfl) (al rfl)
   rintro x rfl;refine fh (aX (λx=>x=((w,l),ig w (l.take i),ig w (l.take (i+1)),fN l (i+1) 0,fN l (i+1) 1,fN l (i+1) 2,fN l (i+1) 3)) ?_ ?_)
   .simp only[aV,bi,rR];rw[own 2 rfl,oth 0 (by show ¬(2:Int)=0;decide),oth 1 (by show ¬(2:Int)=1;decide),oth 3 (by show ¬(2:Int)=3;decide)];have:=fa 2;refine aI (λh=>bf (by simp;omega) (by omega) (al ?_)) λh=>bf (by simp;omega) (by omega) (al ?_)
    .have:rZ (2,e)=ah:=by unfold rZ;rw[aP h];rfl
     rw[this]
    .have:rZ (2,e)=decide (e.1=23):=by unfold rZ;rw[bL h];rfl
     rw[this]
   rintro x rfl;exact al (by rw[gK (by omega)])
  .refine aX (λx=>x=(ai,(w,l),ig w (l.take i),(3,e),ig w (l.take (i+1)),fN l i 0,fN l i 1,fN l i 2,fN l i 3)) ?_ ?_
   .simp only[aV,bi,rR];exact aT (rd 3 rfl) (al rfl)
   rintro x rfl;refine fh (aX (λx=>x=((w,l),ig w (l.take i),ig w (l.take (i+1)),fN l (i+1) 0,fN l (i+1) 1,fN l (i+1) 2,fN l (i+1) 3)) ?_ ?_)
   .simp only[aV,bi,rR];rw[own 3 rfl,oth 0 (by show ¬(3:Int)=0;decide),oth 1 (by show ¬(3:Int)=1;decide),oth 2 (by show ¬(3:Int)=2;decide)];have:=fa 3;refine aI (λh=>bf (by simp;omega) (by omega) (al ?_)) λh=>bf (by simp;omega) (by omega) (al ?_)
    .have:rZ (3,e)=ah:=by unfold rZ;rw[aP h];rfl
     rw[this]
    .have:rZ (3,e)=decide (e.1=23):=by unfold rZ;rw[bL h];rfl
     rw[this]
   rintro x rfl;exact al (by rw[gK (by omega)])
 .rintro x rfl;exact dc (al rfl)
theorem D3 {w:WT} {l:List ET} (I:TR (w,l)) (hn:¬w.2.2.2.2.1.length=4):dT (w,l)=af:=by
 have hl:=I.len;dsimp only at hl;unfold dT jt aU bk bt ct em ka bI eU lY pg bc bu bD bF aW cK aD cz;rw[show fE 400 (aN (ak (w,l).2))=ai from fP.2 (by dsimp only[ar];omega)];simp only[aV,bi,rR];rw[VW8 I.wx I.vl];simp only[aV,bi,rR];rw[AQ I.wx];simp only[aV,bi,rR];rw[show decide ((aN w.2.2.2.2.1.length:Int)=4)=ai from bL (by dsimp only[ar];omega),Bool.and_false];rfl
theorem Zq {w:WT} {l:List ET} (I:TR (w,l)) (hn:w.2.2.2.2.1.length=3):dz (w,l)=aa (0,0):=by
 have hl:=I.len;dsimp only at hl;refine cE ?_;unfold dz ju aU bk bt ct em bI cQ eU lY bc bu bD bF aW cK aD cz;refine fy (fP.2 (by dsimp only[ar];omega)) (aT (VW8 I.wx I.vl) (fh (aT (AQ I.wx) (ba (by show (cR 0 (aN w.2.2.2.2.1.length)&&cR (aN w.2.2.2.2.1.length) (aN w.2.2.2.2.1.length)&&a_ (aS (aN w.2.2.2.2.1.length)) 24&&decide ((aN w.2.2.2.2.1.length:Int)=3))=ah;rw[hn];rfl) ?_))));refine iU l.length (by omega) (λi x=>x=((i:Int),(w,l),ig w (l.take i),fN l i 0,fN l i 1,fN l i 2)) ?_ ?_ rfl
 .rintro i x hi rfl;have e1:=(I.sc hi).en.t1;have e0:=(I.sc hi).en.t0;have st:=LX I hi;have fa:=λt=>MH l i t
  have rd:=λt=>F0 I hi (t:=t)
  have own:=λt=>MF hi (t:=t)
  have oth:=λt=>MG hi (t:=t)
  refine dl ?_;refine cw (aR ?_);have ht:(eN l i).1=0\/(eN l i).1=1\/(eN l i).1=2:=by omega
  have hg:aH (T:=tE) l (i:Int)=eN l i:=rfl;dsimp only;rw[hg];generalize eN l i=e at*
  refine aT st ?_;obtain⟨(t:Int),e⟩:=e;dsimp only at ht;rcases ht with rfl|rfl|rfl
  .refine aX (λx=>x=(ai,(w,l),ig w (l.take i),(0,e),ig w (l.take (i+1)),fN l i 0,fN l i 1,fN l i 2)) ?_ ?_
   .simp only[aV,bi,rR];exact aT (rd 0 rfl) (al rfl)
   rintro x rfl;refine fh (aX (λx=>x=((w,l),ig w (l.take i),ig w (l.take (i+1)),fN l (i+1) 0,fN l (i+1) 1,fN l (i+1) 2)) ?_ ?_)
   .simp only[aV,bi,rR];rw[own 0 rfl,oth 1 (by show ¬(0:Int)=1;decide),oth 2 (by show ¬(0:Int)=2;decide)];have:=fa 0;refine aI (λh=>bf (by simp;omega) (by omega) (al ?_)) λh=>bf (by simp;omega) (by omega) (al ?_)
    .have:rZ (0,e)=ah:=by unfold rZ;rw[aP h];rfl
     rw[this]
    .have:rZ (0,e)=decide (e.1=23):=by unfold rZ;rw[bL h];rfl
     rw[this]
   rintro x rfl;exact al (by rw[gK (by omega)])
  .refine aX (λx=>x=(ai,(w,l),ig w (l.take i),(1,e),ig w (l.take (i+1)),fN l i 0,fN l i 1,fN l i 2)) ?_ ?_
   .simp only[aV,bi,rR];exact aT (rd 1 rfl) (al rfl)
   rintro x rfl;refine fh (aX (λx=>x=((w,l),ig w (l.take i),ig w (l.take (i+1)),fN l (i+1) 0,fN l (i+1) 1,fN l (i+1) 2)) ?_ ?_)
   .simp only[aV,bi,rR];rw[own 1 rfl,oth 0 (by show ¬(1:Int)=0;decide),oth 2 (by show ¬(1:Int)=2;decide)];have:=fa 1;refine aI (λh=>bf (by simp;omega) (by omega) (al ?_)) λh=>bf (by simp;omega) (by omega) (al ?_)
    .have:rZ (1,e)=ah:=by unfold rZ;rw[aP h];rfl
     rw[this]
    .have:rZ (1,e)=decide (e.1=23):=by unfold rZ;rw[bL h];rfl
     rw[this]
   rintro x rfl;exact al (by rw[gK (by omega)])
  .refine aX (λx=>x=(ai,(w,l),ig w (l.take i),(2,e),ig w (l.take (i+1)),fN l i 0,fN l i 1,fN l i 2)) ?_ ?_
   .simp only[aV,bi,rR];exact aT (rd 2 rfl) (al rfl)
   rintro x rfl;refine fh (aX (λx=>x=((w,l),ig w (l.take i),ig w (l.take (i+1)),fN l (i+1) 0,fN l (i+1) 1,fN l (i+1) 2)) ?_ ?_)
   .simp only[aV,bi,rR];rw[own 2 rfl,oth 0 (by show ¬(2:Int)=0;decide),oth 1 (by show ¬(2:Int)=1;decide)];have:=fa 2;refine aI (λh=>bf (by simp;omega) (by omega) (al ?_)) λh=>bf (by simp;omega) (by omega) (al ?_)
    .have:rZ (2,e)=ah:=by unfold rZ;rw[aP h];rfl
     rw[this]
    .have:rZ (2,e)=decide (e.1=23):=by unfold rZ;rw[bL h];rfl
     rw[this]
   rintro x rfl;exact al (by rw[gK (by omega)])
 .rintro x rfl;exact dc (al rfl)
theorem LJ {w:WT} {l:List ET} (I:TR (w,l)) (hn:¬w.2.2.2.2.1.length=3):dz (w,l)=af:=by
 have hl:=I.len;dsimp only at hl;unfold dz ju aU bk bt ct em bI cQ eU lY bc bu bD bF aW cK aD cz;rw[show fE 400 (aN (ak (w,l).2))=ai from fP.2 (by dsimp only[ar];omega)];simp only[aV,bi,rR];rw[VW8 I.wx I.vl];simp only[aV,bi,rR];rw[AQ I.wx];simp only[aV,bi,rR];rw[show decide ((aN w.2.2.2.2.1.length:Int)=3)=ai from bL (by dsimp only[ar];omega),Bool.and_false];rfl
theorem Zr {w:WT} {l:List ET} (I:TR (w,l)) (hn:w.2.2.2.2.1.length=2):c5 (w,l)=aa (0,0):=by
 have hl:=I.len;dsimp only at hl;refine cE ?_;unfold c5 jv aU bk bt ct bI dh eU bc bu bD bF aW cK aD cz;refine fy (fP.2 (by dsimp only[ar];omega)) (aT (VW8 I.wx I.vl) (fh (aT (AQ I.wx) (ba (by show (cR 0 (aN w.2.2.2.2.1.length)&&cR (aN w.2.2.2.2.1.length) (aN w.2.2.2.2.1.length)&&a_ (aS (aN w.2.2.2.2.1.length)) 24&&decide ((aN w.2.2.2.2.1.length:Int)=2))=ah;rw[hn];rfl) ?_))));refine iU l.length (by omega) (λi x=>x=((i:Int),(w,l),ig w (l.take i),fN l i 0,fN l i 1)) ?_ ?_ rfl
 .rintro i x hi rfl;have e1:=(I.sc hi).en.t1;have e0:=(I.sc hi).en.t0;have st:=LX I hi;have fa:=λt=>MH l i t
  have rd:=λt=>F0 I hi (t:=t)
  have own:=λt=>MF hi (t:=t)
  have oth:=λt=>MG hi (t:=t)
  refine dl ?_;refine cw (aR ?_);have ht:(eN l i).1=0\/(eN l i).1=1:=by omega
  have hg:aH (T:=tE) l (i:Int)=eN l i:=rfl;dsimp only;rw[hg];generalize eN l i=e at*
  refine aT st ?_;obtain⟨(t:Int),e⟩:=e;dsimp only at ht;rcases ht with rfl|rfl
  .refine aX (λx=>x=(ai,(w,l),ig w (l.take i),(0,e),ig w (l.take (i+1)),fN l i 0,fN l i 1)) ?_ ?_
   .simp only[aV,bi,rR];exact aT (rd 0 rfl) (al rfl)
   rintro x rfl;refine fh (aX (λx=>x=((w,l),ig w (l.take i),ig w (l.take (i+1)),fN l (i+1) 0,fN l (i+1) 1)) ?_ ?_)
   .simp only[aV,bi,rR];rw[own 0 rfl,oth 1 (by show ¬(0:Int)=1;decide)];have:=fa 0;refine aI (λh=>bf (by simp;omega) (by omega) (al ?_)) λh=>bf (by simp;omega) (by omega) (al ?_)
    .have:rZ (0,e)=ah:=by unfold rZ;rw[aP h];rfl
     rw[this]
    .have:rZ (0,e)=decide (e.1=23):=by unfold rZ;rw[bL h];rfl
     rw[this]
   rintro x rfl;exact al (by rw[gK (by omega)])
  .refine aX (λx=>x=(ai,(w,l),ig w (l.take i),(1,e),ig w (l.take (i+1)),fN l i 0,fN l i 1)) ?_ ?_
   .simp only[aV,bi,rR];exact aT (rd 1 rfl) (al rfl)
   rintro x rfl;refine fh (aX (λx=>x=((w,l),ig w (l.take i),ig w (l.take (i+1)),fN l (i+1) 0,fN l (i+1) 1)) ?_ ?_)
   .simp only[aV,bi,rR];rw[own 1 rfl,oth 0 (by show ¬(1:Int)=0;decide)];have:=fa 1;refine aI (λh=>bf (by simp;omega) (by omega) (al ?_)) λh=>bf (by simp;omega) (by omega) (al ?_)
    .have:rZ (1,e)=ah:=by unfold rZ;rw[aP h];rfl
     rw[this]
    .have:rZ (1,e)=decide (e.1=23):=by unfold rZ;rw[bL h];rfl
     rw[this]
   rintro x rfl;exact al (by rw[gK (by omega)])
 .rintro x rfl;exact dc (al rfl)
theorem W_ {w:WT} {l:List ET} (I:TR (w,l)) (hn:¬w.2.2.2.2.1.length=2):c5 (w,l)=af:=by
 have hl:=I.len;dsimp only at hl;unfold c5 jv aU bk bt ct bI dh eU bc bu bD bF aW cK aD cz;rw[show fE 400 (aN (ak (w,l).2))=ai from fP.2 (by dsimp only[ar];omega)];simp only[aV,bi,rR];rw[VW8 I.wx I.vl];simp only[aV,bi,rR];rw[AQ I.wx];simp only[aV,bi,rR];rw[show decide ((aN w.2.2.2.2.1.length:Int)=2)=ai from bL (by dsimp only[ar];omega),Bool.and_false];rfl
theorem Zs {w:WT} {l:List ET} (I:TR (w,l)) (hn:w.2.2.2.2.1.length=1):dU (w,l)=aa (0,0):=by
 have hl:=I.len;dsimp only at hl;refine cE ?_;unfold dU kZ aU bk bt bI cQ bc bu bD bF aW cK aD cz;refine fy (fP.2 (by dsimp only[ar];omega)) (aT (VW8 I.wx I.vl) (fh (aT (AQ I.wx) (ba (by show (cR 0 (aN w.2.2.2.2.1.length)&&cR (aN w.2.2.2.2.1.length) (aN w.2.2.2.2.1.length)&&a_ (aS (aN w.2.2.2.2.1.length)) 24&&decide ((aN w.2.2.2.2.1.length:Int)=1))=ah;rw[hn];rfl) ?_))));refine iU l.length (by omega) (λi x=>x=((i:Int),(w,l),ig w (l.take i),fN l i 0)) ?_ ?_ rfl
 .rintro i x hi rfl;have e1:=(I.sc hi).en.t1;have e0:=(I.sc hi).en.t0;have st:=LX I hi;have fa:=λt=>MH l i t
  have rd:=λt=>F0 I hi (t:=t)
  have own:=λt=>MF hi (t:=t)
  have oth:=λt=>MG hi (t:=t)
  refine dl ?_;refine cw (aR ?_);have ht:(eN l i).1=0:=by omega
  have hg:aH (T:=tE) l (i:Int)=eN l i:=rfl;dsimp only;rw[hg];generalize eN l i=e at*
  refine aT st ?_;obtain⟨(t:Int),e⟩:=e;dsimp only at ht;subst ht
  .refine aX (λx=>x=(ai,(w,l),ig w (l.take i),(0,e),ig w (l.take (i+1)),fN l i 0)) ?_ ?_
   .simp only[aV,bi,rR];exact aT (rd 0 rfl) (al rfl)
   rintro x rfl;refine fh (aX (λx=>x=((w,l),ig w (l.take i),ig w (l.take (i+1)),fN l (i+1) 0)) ?_ ?_)
   .simp only[aV,bi,rR];rw[own 0 rfl];have:=fa 0;refine aI (λh=>bf (by simp;omega) (by omega) (al ?_)) λh=>bf (by simp;omega) (by omega) (al ?_)
    .have:rZ (0,e)=ah:=by unfold rZ;rw[aP h];rfl
     rw[this]
    .have:rZ (0,e)=decide (e.1=23):=by unfold rZ;rw[bL h];rfl
     rw[this]
   rintro x rfl;exact al (by rw[gK (by omega)])
 .rintro x rfl;exact dc (al rfl)
theorem afv {w:WT} {l:List ET} (I:TR (w,l)):lZ (w,l)=aa (0,0):=by
 have h1:=I.vl.t0;have J:=I.vl.t;dsimp only at h1 J;unfold lZ;have:w.2.2.2.2.1.length=4\/w.2.2.2.2.1.length=3\/w.2.2.2.2.1.length=2\/w.2.2.2.2.1.length=1:=by omega
 rcases this with h|h|h|h
 .rw[Zp I h];rfl
 .rw[D3 I (by omega),Zq I h];rfl
 .rw[D3 I (by omega),LJ I (by omega),Zr I h];rfl
 .rw[D3 I (by omega),LJ I (by omega),W_ I (by omega),Zs I h];rfl
theorem Xv {w:WT} {l:List ET} (I:TR (w,l)):o6 w=aa (HS.zero w).t:=by
 have wb:=I.wb;dsimp only at wb;exact Y8 w (by have:=wb.c;unfold xk;omega) (by have:=wb.l;unfold xk;omega) (by have:=wb.f;unfold xk;omega) (by have:=wb.t;unfold xk;omega)
theorem ZI {w:WT} {l:List ET} (I:TR (w,l)) {i:Nat} (hi:i<l.length):ri (w,(Om w (l.take i)).t,eN l i)=aa ((Om w (l.take (i+1))).t,Km w l i):=by
 have hl:=I.len;dsimp only at hl;have:=ab9 (RE I i (by omega)).1 (by omega) (Ys I hi) (UD I hi);rw[Hg w hi];exact this
def tA {α:Type} (n:Nat) (f:Nat->α) (z:α) (i:Nat):List α:=(eT n).map λk=>if k<i then f k else z
theorem LU {α:Type} (n:Nat) (f:Nat->α) (z:α) (i:Nat):(tA n f z i).length=n:=by simp[tA]
theorem Xs {α:Type} {n:Nat} {f:Nat->α} {z:α} {i:Nat} (h:i<n):(tA n f z i).set i (f i)=tA n f z (i+1):=by
 unfold tA;apply dk
 .simp
 intro k h1 h2;simp only[rB,b8,kQ] at h1;rw[tQ];simp only[pU,mR];by_cases e:i=k
 .subst e;rw[aJ rfl,aJ (by omega)]
 .rw[aC e];by_cases g:k<i
  .rw[aJ g,aJ (by omega)]
  .rw[aC g,aC (by omega)]
theorem TU {α:Type} (n:Nat) (f:Nat->α) (z:α):tA n f z 0=aF n z:=by unfold tA;simp[List.map_const']
theorem Xt {α:Type} (n:Nat) (f:Nat->α) (z:α):tA n f z n=(eT n).map f:=ph λk hk=>by rw[aJ (mQ.1 hk)]
abbrev csN (w:WT) (l:List ET):List (List Int):=(eT l.length).map (Km w l)
theorem aai {w:WT} {l:List ET} {i:Nat} (h:i<l.length):(csN w l).getD i []=Km w l i:=by
 rw[ax,a8,Ff h];rfl
theorem Yw {w:WT} {l:List ET} {i:Nat} (h:i<l.length):aH (T:=.sl (.int .i64)) (csN w l) (i:Int)=Km w l i:=by rw[qC];exact aai h
theorem W9 {w:WT} {l:List ET} (I:TR (w,l)):mH (w,l)=aa (csN w l,0):=by
 have hl:=I.len;dsimp only at hl;refine cE ?_;unfold mH wg aU bI ck bu iO bD bF aW cK aD cz;refine aT (afv I) (fh (aT (Xv I) (db (db (ey (by dsimp only[ar];omega) (ey (by omega) (bf (by simp;omega) (by omega) ?_)))))));refine iU l.length (by omega) (λi x=>x=((i:Int),(w,l),(Om w (l.take i)).t,tA l.length (Km w l) [] i)) ?_ ?_ ?_
 .rintro i x hi rfl;refine dl ?_;refine cw (aR ?_);refine aT (ZI I hi) ?_;refine aQ (by dsimp only;omega) (by dsimp only;rw[LU];omega) (aQ (by dsimp only;omega) (by dsimp only;rw[LU];omega) (al ?_));dsimp only;rw[gK (by omega),fO,Xs hi]
 .rintro x rfl;refine dc (al ?_);dsimp only;rw[Xt]
 .show _=_;rw[TU];rfl
abbrev Ke0:Ty:=(.st (.pr CJ (.pr CJ CJ)))
def oO (x:(dF×List gy)×Int×Int):Option (Bool):=
 (jn (α:=Bool×dF×List gy) (bu x.2.1 0 (aD (ah,x.1)) (jg x.2.2 x.2.1 (aD (ah,x.1)) (aD ((cR (aW x.1.2) x.2.2),x.1)))) λI=>(bcase I.1 (aa ai) (obind (mH I.2) λJ=>(iO J.2 0 (aa ai) (bF (.sl aM) J.1 x.2.2 λU=>(obind (mG I.2.2) λZ=>(bF ir Z x.2.1 λM=>(obind (lP (U,M)) λY=>(aa Y)))))))))
def kB (x:(List Int)×(List Int)×List Int):Option (Bool):=
 (obind (kz (x,12)) λy1=>(iter (σ:=Int×dF×List gy) (λU=>(bu U.1 (aW y1.2) (iter (σ:=Int×dF×List gy) (λI=>(bu I.1 (aW y1.2) (obind (oO (I.2,U.1,I.1)) λZ=>(jn (α:=Bool×dF×List gy) (bcase Z (jg I.1 U.1 (aD (ah,I.2)) (bu U.1 I.1 (bF iK I.2.2 U.1 λz6=>(bF iK I.2.2 I.1 λz7=>(bc z6.1 z7.1 (aD ((!Z),I.2)) (aD (ai,I.2))))) (aD (ai,I.2)))) (bu U.1 I.1 (bF iK I.2.2 U.1 λz8=>(bF iK I.2.2 I.1 λz9=>(bc z8.1 z9.1 (aD ((!Z),I.2)) (aD (ai,I.2))))) (aD (ai,I.2)))) λx5=>(bcase x5.1 (aD (bS ai)) (iter (σ:=Int×dF×List gy) (λM=>(jn (α:=Bool×dF×List gy) (bu M.1 (aW y1.2) (aD (Z,M.2)) (aD (ai,M.2))) λJ=>(bcase J.1 (jn (α:=Bool×dF×List gy) (obind (oO (J.2,I.1,M.1)) λy13=>(bcase y13 (obind (oO (J.2,U.1,M.1)) λy14=>(aD ((!y14),J.2))) (aD (ai,J.2)))) λY=>(bcase Y.1 (aD (bS (bS ai))) (cK ((cz M.1),Y.2)))) (aD (lX ((cz I.1),J.2)))))) ((cz I.1),x5.2))))) (aD (lX ((cz U.1),I.2))))) (0,U.2)) (obind (obind (r9 ()) λy15=>(aa y15)) λr=>aa (bS r)))) (0,y1)))
theorem KX (k j v:Int):∀ m:List (Int×Int),uW (K:=.int .i64) (V:=.int .i64) j (C9 (K:=.int .i64) (V:=.int .i64) k v m)=if j=k then aa v else uW (K:=.int .i64) (V:=.int .i64) j m
 |[]=>by
  show (if decide (j=k)=ah then aa v else af)=_;by_cases h:j=k<;>simp[h,uW]
 |(a,b)::r=>by
  have I:=KX k j v r;show uW (K:=.int .i64) (V:=.int .i64) j (if decide (k=a)=ah then (k,v)::r else (a,b)::C9 (K:=.int .i64) (V:=.int .i64) k v r)=if j=k then aa v else if decide (j=a)=ah then aa b else uW (K:=.int .i64) (V:=.int .i64) j r
  by_cases h:k=a
  .subst h;rw[aJ (aP rfl)];show (if decide (j=k)=ah then aa v else uW (K:=.int .i64) (V:=.int .i64) j r)=_;by_cases g:j=k<;>simp[g]
  .rw[aC (by simpa using h)];show (if decide (j=a)=ah then aa b else uW (K:=.int .i64) (V:=.int .i64) j (C9 (K:=.int .i64) (V:=.int .i64) k v r))=_;rw[I];by_cases g:j=a
   .subst g;rw[aJ (aP rfl),aC λq=>h q.symm,aJ (aP rfl)]
   .simp only[g,cZ,co,dR]
theorem KW (k j v d:Int) (m:List (Int×Int)):uV (K:=.int .i64) (V:=.int .i64) j (C9 (K:=.int .i64) (V:=.int .i64) k v m) d=if j=k then v else uV (K:=.int .i64) (V:=.int .i64) j m d:=by
 unfold uV;rw[KX];by_cases h:j=k<;>simp[h]
def epN (l:List ET) (i:Nat):Int×Int:=((Cw l (rK l i).th i:Int)+1,((rK l i).th:Int))
theorem Qd (l:List ET) (u:Nat):∀ i,Cw l u i<=i
 |0=>bQ _
 |i+1=>by have:=Qd l u i;rw[Cw];split<;>omega
theorem VU {w:WT} {l:List ET} (I:TR (w,l)):mG l=aa ((eT l.length).map (epN l)):=by
 have hl:=I.len;dsimp only at hl;refine cE ?_;unfold mG v_ ck bu bD bF aW cK aD cz;refine db (db (ey (by dsimp only[ar];omega) (ey (by omega) (bf (by simp;omega) (by omega) ?_))));refine iU l.length (by omega) (λi x=>x.1=(i:Int)/\(∀ u:Nat,uV (K:=.int .i64) (V:=.int .i64) (u:Int) x.2.1 0=(Cw l u i:Int))/\x.2.2=tA l.length (epN l) (0,0) i) ?_ ?_ ⟨rfl,λu=>rfl,by rw[TU];rfl⟩
 .rintro i ⟨x,m,r⟩ hi ⟨e1,hm,e2⟩;dsimp only at e1 hm e2;subst e1;subst e2;refine dl ?_;refine cw (aR ?_);have et:=UD I hi;refine aQ (by dsimp only;omega) (by dsimp only;rw[LU];omega) (aQ (by dsimp only;omega) (by dsimp only;rw[LU];omega) (al ?_));have hc:=Qd l (rK l i).th i;have J:(aH (T:=tE) l (i:Int)).1=((rK l i).th:Int):=et.th;have M:bg .i64 (uV (K:=.int .i64) (V:=.int .i64) ((rK l i).th:Int) m 0+1)=(Cw l (rK l i).th i:Int)+1:=by rw[hm];exact ie (by omega) (by omega)
  dsimp only;refine ⟨gK (by omega),λu=>?_,?_⟩
  .rw[J,M,KW,Cw];by_cases q:(rK l i).th=u
   .subst q;rw[aJ rfl,aJ rfl];rfl
   .rw[aC (by omega),aC q];exact hm u
  .rw[J,M,KW,aJ rfl,fO];exact Xs (f:=epN l) hi
 .rintro⟨x,m,r⟩ ⟨e1,hm,e2⟩;dsimp only at e1 hm e2;subst e1;subst e2;refine dc (al ?_);dsimp only;rw[Xt]
theorem Yu {l:List ET} {i:Nat} (h:i<l.length):aH (T:=.st (.pr (.int .i64) (.int .i64))) ((eT l.length).map (epN l)) (i:Int)=epN l i:=by
 rw[xh,ax,a8,Ff h];rfl
theorem TI (c:List Int) (a:Int) (u:Nat):lP (c,a,(u:Int))=aa (decide (a<=c.getD u 0)):=by
 unfold lP;dsimp only;rw[Jp];rfl
def bfN (w:WT) (l:List ET) (i j:Int):Bool:=decide (0<=i/\i<j/\j<l.length/\(Cw l (rK l i.toNat).th i.toNat:Int)+1<=(Km w l j.toNat).getD (rK l i.toNat).th 0)
theorem yR {w:WT} {l:List ET} {i j:Nat}:bfN w l (i:Int) (j:Int)=ah↔i<j/\j<l.length/\TJ w l i j:=by
 unfold bfN TJ;rw[bP,gq,gq];exact⟨λh=>⟨by omega,by omega,h.2.2.2⟩,λh=>⟨by omega,by omega,by omega,h.2.2⟩⟩
theorem D5 {w:WT} {l:List ET} (I:TR (w,l)) (i j:Int):oO ((w,l),i,j)=aa (bfN w l i j):=by
 refine cE ?_;unfold oO bu jg iO bF aW aD;by_cases h:0<=i/\i<j/\j<l.length
 .obtain⟨h0,h1,h2⟩:=h;obtain⟨i,rfl⟩:∃ k:Nat,i=k:=⟨i.toNat,by omega⟩
  obtain⟨j,rfl⟩:∃ k:Nat,j=k:=⟨j.toNat,by omega⟩
  refine aX (λx=>x=(ai,w,l)) ?_ ?_
  .refine bA (λg=>by dsimp only at g;omega) λ_=>e_ (λg=>by dsimp only at g;omega) λ_=>al ?_
   show (cR (aN l.length) (j:Int),w,l)=_;rw[kC.2 (by dsimp only[ar];omega)]
  rintro x rfl;refine fh (aT (W9 I) (fh (aQ (by dsimp only;omega) (by dsimp only;rw[b8,kQ];omega) (aR (aT (VU I) (aQ (by dsimp only;omega) (by dsimp only;rw[b8,kQ];omega) (aR ?_)))))));dsimp only;rw[Yw (by omega),Yu (by omega)];refine aT (TI _ _ _) (al ?_);rw[Bool.eq_iff_iff,yR,bP];exact⟨λh=>⟨by omega,by omega,h⟩,λh=>h.2.2⟩
 .refine aX (λx=>x=(ah,w,l)) ?_ ?_
  .refine bA (λg=>al rfl) λ_=>e_ (λg=>al rfl) λ_=>al ?_
   rename_i M J;dsimp only at M J;show (cR (aN l.length) j,w,l)=_;rw[F6.2 (by dsimp only[ar];omega)]
  rintro x rfl;refine N_ (al ?_)
  symm;unfold bfN;exact bL λq=>h ⟨q.1,q.2.1,q.2.2.1⟩
theorem Tn:r9 ()=aa ah:=by kernel_rfl
theorem e9 {φ:PM} {O:Nat->Prop} {w:World} {v u:Value} (h:cG φ O w (.f (.raw v)) u):u=v:=by
 cases h with
 |f h=>cases h;rfl
theorem sJ (h:HF) (nw:HF):eE h [] nw=h:=by funext t;simp[eE]
theorem E_:∀ {l:List Value},IX l=ah->∀ v∈l,v.oneCell'=ah
 |[],_,v,hv=>by cases hv
 |x::r,h,v,hv=>by
  simp only[IX,au] at h;rcases bh.1 hv with rfl|hv
  .exact h.1
  .exact E_ h.2 v hv
theorem SU {φ:PM} {O:Nat->Prop} {w:World} (v:Value):cG φ O w (DL v) v:=by
 unfold DL;split
 .rename_i vs;split
  .rename_i h1;refine cG.agg (vs:=vs.toList) (by simp) (λx I=>?_) (λj x v I hv=>?_)
   .obtain⟨u,hu,rfl⟩:=c9.1 I;exact E_ h1 u hu
   .rw[a8,hv] at I;simp only[b7,aj] at I;subst I;exact .f (.raw _)
  .exact .f (.raw _)
 .exact .f (.raw _)
theorem sk {φ:PM} {E:Nat->Prop} {h':HF} {w:World} {e:yq} {a:Act} {xs:Array Operand} (hrep:qd φ E h' w) (h:∀ t,.tmp t∈xs->∀ y,e.get t=aa y->cG φ (tot E φ h') w y (a.tmps.getD t undef)) {x:Operand} {y:AV} (J:x∈xs) (I:me e x=aa y):cG φ (tot E φ h') w y (a.eval x):=by
 cases x with
 |tmp t=>exact h t J y I
 |const v=>simp only[me,aj] at I;subst I;exact SU v
 |func g=>
  simp only[me,aj] at I;subst I;exact cG.clo (vs:=[]) (g:=g) (cells:=[]) rfl (by intro j x v J;simp at J)
 |global g=>
  simp only[me] at I;cases hg:G g with
  |none=>rw[hg] at I;cases I
  |some cells=>rw[hg] at I;simp only[aj] at I;subst I;exact .f (hrep.gl g cells hg)
abbrev Tx (φ:PM) (E:Nat->Prop) (h':HF) (w:World) (a:Act) (e:yq) (o:Oper):Prop:=∀ x y,x∈o.op.operands->me e x=aa y->cG φ (tot E φ h') w y (a.eval x)
theorem gB.reads {P:Program} {o:Oper} {e:yq} {h:HF} {val:AV} {rd:List Nat} {nw:HF}
 (hv:∀ (φ:PM) (E:Nat->Prop) (h':HF) (w:World) (a:Act),(∀ i∈rd,h' i=h i)->Tx φ E h' w a e o->qd φ E h' w->
   ∃ v,(execOp a.eval o).run P w= .ok (.value v) w/\cG φ (tot E φ h') w val v):gB P o e.get h ⟨val,rd,[],nw,[]⟩:=by
 intro φ E h' w a h1 h2 U I Y;obtain⟨v,r,rel⟩:=hv φ E h' w a h1 (λx y M J=>sk I U M J) I;unfold FU;rw[r];refine ⟨v,φ,rfl,?_,λ_ _ h=>.inl h,?_,?_⟩<;>rw[sJ]
 .exact iJ.refl _ _ _
 .exact I
 .exact rel
theorem di {x:AV} {R:AS} (h:rv x=aa R):R=⟨x,[],[],[],[]⟩:=by simp only[rv,aj] at h;exact h.symm
section pure
variable {P:Program} {o:Oper} {e:yq} {h:nA} {nx:Nat} {R:AS}
theorem ah8 {x:Operand} (I:o.op= .move x\/o.op= .assign x) (J:eC (.mv x) e h nx=aa R):gB P o e.get h.get R.eff:=by
 simp only[eC] at J;split at J
 .rename_i v hv;rw[di J];exact gB.reads λφ E h' w a _ hop _=>⟨a.eval x,by unfold execOp;rcases I with I|I<;>rw[I]<;>rfl,hop x v (by rcases I with I|I<;>rw[I]<;>simp[Op.operands]) hv⟩
 .cases J
theorem ae8 {c x y:Operand} (J:o.op= .pick c x y) (I:eC (.pick c x y) e h nx=aa R):gB P o e.get h.get R.eff:=by
 simp only[eC] at I;split at I
 .rename_i t hc;split at I
  .rename_i v hv;rw[di I];refine gB.reads λφ E h' w a _ hop _=>?_
   have hcv:=e9 (hop c _ (by rw[J];simp[Op.operands]) hc);refine ⟨a.eval (if t then x else y),?_,hop _ v (by rw[J];cases t<;>simp[Op.operands]) hv⟩;unfold execOp;rw[J];simp only[hcv];cases t<;>rfl
  .cases I
 .cases I
theorem ae9 {x:Operand} (I:o.op= .nilCheck x) (J:eC (.nilc x) e h nx=aa R):gB P o e.get h.get R.eff:=by
 simp only[eC] at J;split at J
 .rename_i id off U;rw[di J];refine gB.reads λφ E h' w a _ hop _=>?_
  have h1:=hop x _ (by rw[I];simp[Op.operands]) U;generalize M:a.eval x=z at h1;cases h1 with
  |ptr hφ=>exact⟨_,by unfold execOp;rw[I];simp only[M];rfl,.ptr hφ⟩
 .rename_i cells off U;rw[di J];refine gB.reads λφ E h' w a _ hop _=>?_
  have h1:=hop x _ (by rw[I];simp[Op.operands]) U;generalize M:a.eval x=z at h1;cases h1 with
  |f h1=>
   have h2:=h1;cases h2 with
   |ptr _ _ b base us hO hb hcl hu hr=>exact⟨_,by unfold execOp;rw[I];simp only[M];rfl,.f h1⟩
 .rename_i g cap U;rw[di J];refine gB.reads λφ E h' w a _ hop _=>?_
  have h1:=hop x _ (by rw[I];simp[Op.operands]) U;generalize M:a.eval x=z at h1;cases h1 with
  |clo hl hr=>exact⟨_,by unfold execOp;rw[I];simp only[M];rfl,.clo hl hr⟩
 .cases J
theorem ah6 {x:Operand} {t:TypeId} (J:o.op= .unOp .not t x) (I:eC (.not x) e h nx=aa R):gB P o e.get h.get R.eff:=by
 simp only[eC] at I;split at I
 .rename_i b M;rw[di I];refine gB.reads λφ E h' w a _ hop _=>?_
  have h1:=e9 (hop x _ (by rw[J];simp[Op.operands]) M);exact⟨_,by unfold execOp;rw[J];simp only[h1];rfl,.f (.raw _)⟩
 .cases I
theorem xo (k:IntKind) (n:Int):bg k n=k.wrap n:=by
 rw[FX];unfold Kz;split
 .split
  .rename_i h;simp only[cR,au,bP] at h;have:ol .i64 n=if n%18446744073709551616≥9223372036854775808 then n%18446744073709551616-18446744073709551616 else n%18446744073709551616:=by
    simp[ol,IntKind.bits,IntKind.signed]
   rw[this];split<;>omega
  .rfl
 .split
  .rename_i h;simp only[cR,au,bP] at h;have:ol .u8 n=n%256:=by
    simp[ol,IntKind.bits,IntKind.signed]
   rw[this];omega
  .rfl
 .rfl
theorem aeh {x:Operand} {s d:TypeId} {k k':IntKind} (J:o.op= .convert s d x) (hs:P.underlying s=aa (.int k')) (hd:P.underlying d=aa (.int k)) (I:eC (.conv k x) e h nx=aa R):gB P o e.get h.get R.eff:=by
 simp only[eC] at I;split at I
 .rename_i U n M;rw[di I];refine gB.reads λφ E h' w a _ hop _=>?_
  have h1:=e9 (hop x _ (by rw[J];simp[Op.operands]) M);refine ⟨_,?_,.f (.raw _)⟩;unfold execOp;rw[J];simp[h1,convert,run_underlying hs,run_underlying hd,Conv.intToInt,xo]
 .cases I
theorem Na (a:ByteArray):a.toList=a.data.toList:=by
 first|exact ByteArray.toList_eq a|simp[ByteArray.toList]|rfl
theorem XA {op:BinOp} {t:TypeId} {u v r:Value} (hr:tL op u v=aa r) (x y:Operand) (w:World):
 (do eqGuard op t x y u v;binOp op t u v:Sem Value).run P w= .ok r w:=by
 unfold tL at hr;split at hr
 .rename_i k a k' b;split at hr
  .rename_i hk;have I:k=k':=by simpa using hk
   subst I;split at hr<;>first|(simp only[aj] at hr;subst hr;simp[eqGuard,binOp,Op.intCmp,Op.intArith,xo,cR,fE];done)|(split at hr<;>first|(cases hr;done)|(rename_i hb;simp only[aj] at hr;subst hr;simp[eqGuard,binOp,Op.intDiv,xo,show b≠0 from by simpa using hb];done))|(cases hr;done)
  .cases hr
 .rename_i a b;split at hr<;>first|(simp only[aj] at hr;subst hr;simp[eqGuard,binOp,Op.stringOp,qV,Na];done)|(cases hr;done)
 .cases hr
theorem ac6 {s:Sem Value} {r:Value} {w w':World} (hs:s.run P w= .ok r w'):(do let x<-s;pure (Next.value x):Sem Next).run P w= .ok (.value r) w':=by
 simp[hs]
theorem act {op:BinOp} {x y:Operand} {t t':TypeId} (J:o.op= .binOp op t x y t') (I:eC (.bin op x y) e h nx=aa R):gB P o e.get h.get R.eff:=by
 simp only[eC] at I;split at I
 .rename_i u v U M;split at I
  .rename_i r hr;rw[di I];refine gB.reads λφ E h' w a _ hop _=>?_
   have h1:=e9 (hop x _ (by rw[J];simp[Op.operands]) U);have h2:=e9 (hop y _ (by rw[J];simp[Op.operands]) M);refine ⟨r,?_,.f (.raw _)⟩;unfold execOp;rw[J];simp only[h1,h2];exact ac6 (XA (P:=P) (t:=t) hr x y w)
  .cases I
 .cases I
theorem Se {t:TypeId} (hu:P.underlying t=aa .bool) (u v:Bool) (w:World):(Op.equal t (.bool u) (.bool v)).run P w= .ok (u==v) w:=by
 have key:∀ d,(Op.equalIn (d+1) t (.bool u) (.bool v)).run P w= .ok (u==v) w:=λd=>by simp[Op.equalIn,run_underlying hu]
 exact key 9999
theorem O_ {t el:TypeId} (hu:P.underlying t=aa (.slice el)) (A:Option Addr) (n c:Nat) (w:World):(Op.equal t (.slice A n c) (.slice af 0 0)).run P w= .ok A.isNone w:=by
 have key:∀ d,(Op.equalIn (d+1) t (.slice A n c) (.slice af 0 0)).run P w= .ok A.isNone w:=λd=>by cases A<;>simp[Op.equalIn,run_underlying hu]
 exact key 9999
theorem acs {neg:Bool} {op:BinOp} {x y:Operand} {t t':TypeId} (J:o.op= .binOp op t x y t') (hop:op=if neg then .neq else .eql) (hu:P.underlying t=aa .bool) (I:eC (.eqb neg x y) e h nx=aa R):gB P o e.get h.get R.eff:=by
 simp only[eC] at I;split at I
 .rename_i u v U M;rw[di I];refine gB.reads λφ E h' w a _ hp _=>?_
  have h1:=e9 (hp x _ (by rw[J];simp[Op.operands]) U);have h2:=e9 (hp y _ (by rw[J];simp[Op.operands]) M);refine ⟨_,?_,.f (.raw _)⟩;unfold execOp;rw[J];simp only[h1,h2];subst hop;cases neg<;>simp[eqGuard,binOp,Se hu]
 .cases I
theorem U0 {neg:Bool} {op:BinOp} {x y:Operand} {t t' el:TypeId} (U:o.op= .binOp op t x y t') (hop:op=if neg then .neq else .eql) (Y:y= .const (.slice af 0 0)) (hu:P.underlying t=aa (.slice el)) (J:eC (.isnil neg x) e h nx=aa R):gB P o e.get h.get R.eff:=by
 have key:∀ (v:Value) (w:World) (ρ:Operand->Value) (A:Option Addr) (n c:Nat),ρ x= .slice A n c->ρ y= .slice af 0 0->(execOp ρ o).run P w= .ok (.value (.bool (A.isNone !=neg))) w:=by
  intro v w ρ A n c h1 h2;unfold execOp;rw[U];simp only[h1,h2];subst hop;cases neg<;>simp[eqGuard,binOp,O_ hu]
 have hyv:∀ a:Act,a.eval y= .slice af 0 0:=λa=>by rw[Y];rfl
 simp only[eC] at J;split at J
 .rename_i id sz n I;rw[di J];refine gB.reads λφ E h' w a _ hp _=>?_
  have h1:=hp x _ (by rw[U];simp[Op.operands]) I;generalize M:a.eval x=z at h1;cases h1 with
  |row hφ hn hc hs=>exact⟨_,key (.bool ah) w a.eval _ _ _ M (hyv a),by simpa[raw] using cG.f (.raw _)⟩
 .rename_i id off n I;rw[di J];refine gB.reads λφ E h' w a _ hp _=>?_
  have h1:=hp x _ (by rw[U];simp[Op.operands]) I;generalize M:a.eval x=z at h1;cases h1 with
  |sl hφ hn hc=>exact⟨_,key (.bool ah) w a.eval _ _ _ M (hyv a),by simpa[raw] using cG.f (.raw _)⟩
 .rename_i cells n I;rw[di J];refine gB.reads λφ E h' w a _ hp _=>?_
  have h1:=hp x _ (by rw[U];simp[Op.operands]) I;generalize M:a.eval x=z at h1;cases h1 with
  |f h1=>
   cases h1 with
   |sl=>exact⟨_,key (.bool ah) w a.eval _ _ _ M (hyv a),by simpa[raw] using cG.f (.raw _)⟩
 .rename_i cells I;rw[di J];refine gB.reads λφ E h' w a _ hp _=>?_
  have h1:=hp x _ (by rw[U];simp[Op.operands]) I;generalize M:a.eval x=z at h1;cases h1 with
  |f h1=>
   cases h1 with
   |nil=>exact⟨_,key (.bool ah) w a.eval _ _ _ M (hyv a),.anyb⟩
   |sl=>exact⟨_,key (.bool ah) w a.eval _ _ _ M (hyv a),.anyb⟩
 .rename_i I;rw[di J];refine gB.reads λφ E h' w a _ hp _=>?_
  have h1:=hp x _ (by rw[U];simp[Op.operands]) I;generalize M:a.eval x=z at h1;cases h1 with
  |emp=>exact⟨_,key (.bool ah) w a.eval _ _ _ M (hyv a),.anyb⟩
 .rename_i v I;split at J
  .rename_i hv;rw[di J];refine gB.reads λφ E h' w a _ hp _=>?_
   have h1:=e9 (hp x _ (by rw[U];simp[Op.operands]) I);unfold yK at hv;split at hv
   .exact⟨_,key (.bool ah) w a.eval _ _ _ h1 (hyv a),by simpa[raw] using cG.f (.raw _)⟩
   .cases hv
  .cases J
 .cases J
theorem gg {t:TypeId} {sz:Nat} (hs:eX P t=aa sz) (w:World):(sizeOf t).run P w= .ok sz w:=by
 unfold eX at hs;cases hi:P.info? t with
 |none=>rw[hi] at hs;cases hs
 |some i=>rw[hi] at hs;simp at hs;simp[sizeOf,typeInfo,program,hi,mU,hs]
theorem NT {t:TypeId} {ag:Bool} (hs:CF P t=aa ag) (w:World):(isAgg t).run P w= .ok ag w:=by
 unfold CF at hs;cases hi:P.underlying t with
 |none=>rw[hi] at hs;cases hs
 |some d=>
  rw[hi] at hs;simp only[b7,aj] at hs;rw[<- hs];simp only[isAgg,eh,run_underlying hi,cD];cases d<;>rfl
theorem kF (b off i:Nat):(⟨b,off,af⟩:Addr).add i=⟨b,off+i,af⟩:=by
 unfold Addr.add;split<;>simp_all
theorem NS {s:TypeId} {fs:Array Field} {k:Nat} {f:Field} {sz:Nat} (hu:P.underlying s=aa (.struct fs)) (hf:fs[k]? =aa f) (hs:eX P f.type=aa sz) (h0:sz≠0) (w:World) (b i:Nat):
 (Instr.fieldAt s (.pointer (aa ⟨b,i,af⟩)) k).run P w= .ok (.pointer (aa ⟨b,i+f.offset,af⟩)) w:=by
 have h1:=gg hs w;simp[Instr.fieldAt,run_underlying hu,hf,Instr.sureAddr,fieldPlace,h1,h0,kF]
theorem ahg {s:TypeId} {fs:Array Field} {k:Nat} {f:Field} {sz:Nat} {x:Operand} (U:o.op= .fieldAddr s x k) (hu:P.underlying s=aa (.struct fs)) (hf:fs[k]? =aa f) (hs:eX P f.type=aa sz) (h0:sz≠0) (I:eC (.fad f.offset x) e h nx=aa R):gB P o e.get h.get R.eff:=by
 have key:∀ (w:World) (ρ:Operand->Value) (b i:Nat),ρ x= .pointer (aa ⟨b,i,af⟩)->(execOp ρ o).run P w= .ok (.value (.pointer (aa ⟨b,i+f.offset,af⟩))) w:=by
  intro w ρ b i h1;unfold execOp;rw[U];simp only[h1];exact ac6 (NS hu hf hs h0 w b i)
 simp only[eC] at I;split at I
 .rename_i id off M;rw[di I];refine gB.reads λφ E h' w a _ hp _=>?_
  have h1:=hp x _ (by rw[U];simp[Op.operands]) M;generalize J:a.eval x=z at h1;cases h1 with
  |ptr hφ=>exact⟨_,key w a.eval _ _ J,.ptr hφ⟩
 .rename_i cells off M;rw[di I];refine gB.reads λφ E h' w a _ hp _=>?_
  have h1:=hp x _ (by rw[U];simp[Op.operands]) M;generalize J:a.eval x=z at h1;cases h1 with
  |f h1=>
   cases h1 with
   |ptr _ _ b base us hO hb hcl hu hr=>
    refine ⟨_,key w a.eval _ _ J,.f ?_⟩;rw[rC];exact .ptr cells _ b base us hO hb hcl hu hr
 .cases I
theorem HQ {t el:TypeId} {x y:Operand} {sz b off n c:Nat} {k:IntKind} {i:Int} {ρ:Operand->Value} {w:World} (M:o.op= .indexAddr t x y) (hu:P.underlying t=aa (.slice el)) (hs:eX P el=aa sz) (J:ρ x= .slice (aa ⟨b,off,af⟩) n c) (I:ρ y= .int k i) (h0:0<=i) (h1:i<n):
 (execOp ρ o).run P w= .ok (.value (.pointer (aa ⟨b,off+i.toNat*sz,af⟩))) w:=by
 have h2:=gg hs w;unfold execOp;rw[M];simp[J,I,Instr.indexAt,asIntOf,run_underlying hu,h2,h0,h1,kF]
theorem ahe {t el:TypeId} {x y:Operand} {sz:Nat} (J:o.op= .indexAddr t x y) (hu:P.underlying t=aa (.slice el)) (hs:eX P el=aa sz) (I:eC (.iad sz x y) e h nx=aa R):gB P o e.get h.get R.eff:=by
 simp only[eC] at I;split at I
 .rename_i v k j Y hy;have hyv:∀ {φ:PM} {E:Nat->Prop} {h':HF} {w:World} {a:Act},Tx φ E h' w a e o->a.eval y= .int k j:=λhp=>e9 (hp y _ (by rw[J];simp[Op.operands]) hy)
  split at I
  .split at I
   .rename_i id sz' n hc;simp only[cR,fE,au,bP,cN] at hc;obtain⟨⟨rfl,h0⟩,h1⟩:=hc;rw[di I];refine gB.reads λφ E h' w a _ hp _=>?_
    have hr:=hp x _ (by rw[J];simp[Op.operands]) Y;generalize M:a.eval x=z at hr;cases hr with
    |row hφ hn U hsh=>
     refine ⟨_,HQ J hu hs M (hyv hp) h0 h1,?_⟩;rw[bJ];exact .ptr hφ
   .cases I
  .split at I
   .rename_i id off n hc;simp only[cR,fE,au,bP] at hc;obtain⟨h0,h1⟩:=hc;rw[di I];refine gB.reads λφ E h' w a _ hp _=>?_
    have hr:=hp x _ (by rw[J];simp[Op.operands]) Y;generalize M:a.eval x=z at hr;cases hr with
    |sl hφ hn U=>exact⟨_,HQ J hu hs M (hyv hp) h0 h1,.ptr hφ⟩
   .cases I
  .split at I
   .rename_i cells n hc;simp only[cR,fE,au,bP] at hc;obtain⟨h0,h1⟩:=hc;rw[di I];refine gB.reads λφ E h' w a _ hp _=>?_
    have hr:=hp x _ (by rw[J];simp[Op.operands]) Y;generalize M:a.eval x=z at hr;cases hr with
    |f hr=>
     cases hr with
     |nil=>omega
     |sl _ _ c b base us hn U hO hb hcl Z hr'=>exact⟨_,HQ J hu hs M (hyv hp) h0 h1,.f (.ptr cells _ b base us hO hb hcl Z hr')⟩
   .cases I
  .cases I
 .cases I
theorem aef {t el:TypeId} {x y:Operand} {n sz:Nat} (J:o.op= .indexAddr t x y) (hu:P.underlying t=aa (.array n el)) (hs:eX P el=aa sz) (I:eC (.iada n sz x y) e h nx=aa R):gB P o e.get h.get R.eff:=by
 have key:∀ (w:World) (ρ:Operand->Value) (b off:Nat) (k:IntKind) (i:Int),ρ x= .pointer (aa ⟨b,off,af⟩)->ρ y= .int k i->0<=i->i<n->(execOp ρ o).run P w= .ok (.value (.pointer (aa ⟨b,off+i.toNat*sz,af⟩))) w:=by
  intro w ρ b off k i h1 h2 h3 h4;have h5:=gg hs w;unfold execOp;rw[J];simp[h1,h2,Instr.indexAt,asIntOf,run_underlying hu,h5,h3,h4,kF,Instr.sureAddr]
 simp only[eC] at I;split at I
 .rename_i v k j hx Z;split at I
  .rename_i hc;simp only[cR,fE,au,bP] at hc;obtain⟨h0,h1⟩:=hc;split at I
   .rw[di I];refine gB.reads λφ E h' w a _ hp _=>?_
    have hr:=hp x _ (by rw[J];simp[Op.operands]) hx;have hyv:=e9 (hp y _ (by rw[J];simp[Op.operands]) Z);generalize M:a.eval x=z at hr;cases hr with
    |ptr hφ=>exact⟨_,key w a.eval _ _ k j M hyv h0 h1,.ptr hφ⟩
   .rw[di I];refine gB.reads λφ E h' w a _ hp _=>?_
    have hr:=hp x _ (by rw[J];simp[Op.operands]) hx;have hyv:=e9 (hp y _ (by rw[J];simp[Op.operands]) Z);generalize M:a.eval x=z at hr;cases hr with
    |f hr=>
     cases hr with
     |ptr _ _ b base us hO hb hcl U Y=>
      refine ⟨_,key w a.eval _ _ k j M hyv h0 h1,.f ?_⟩;rw[rC];exact .ptr _ _ b base us hO hb hcl U Y
   .cases I
  .cases I
 .cases I
theorem ahh {x:Operand} {i:Nat} (J:o.op= .extract x i) (I:eC (.ext x i) e h nx=aa R):gB P o e.get h.get R.eff:=by
 simp only[eC] at I;split at I
 .rename_i l U;split at I
  .rename_i v hv;rw[di I];refine gB.reads λφ E h' w a _ hp _=>?_
   have hr:=hp x _ (by rw[J];simp[Op.operands]) U;generalize M:a.eval x=z at hr;cases hr with
   |@tup _ vs hl hrr=>
    have hlt:i<vs.length:=by
     rw[hl];exact (be.1 hv).1
    refine ⟨vs[i],?_,hrr i v _ hv (ay hlt)⟩;unfold execOp;rw[J];simp[M,Instr.extract,hlt]
  .cases I
 .cases I
theorem ahc {x y:Operand} {M:Array TypeId} (J:o.op= .call {callee:=.builtin .max,args:=#[x,y],argTypes:=M}) (I:eC (.max x y) e h nx=aa R):gB P o e.get h.get R.eff:=by
 simp only[eC] at I;split at I
 .rename_i k a b k' Y U;rw[di I];refine gB.reads λφ E h' w a _ hp _=>?_
  have h1:=e9 (hp x _ (by rw[J];simp[Op.operands,eD]) Y);have h2:=e9 (hp y _ (by rw[J];simp[Op.operands,eD]) U);refine ⟨_,?_,.f (.raw _)⟩;unfold execOp;rw[J];simp[resolve,invoke,builtin,Builtin.max_,Builtin.max2,h1,h2,fE]
 .cases I
theorem ahb {x y:Operand} {M:Array TypeId} (J:o.op= .call {callee:=.builtin .min,args:=#[x,y],argTypes:=M}) (I:eC (.min x y) e h nx=aa R):gB P o e.get h.get R.eff:=by
 simp only[eC] at I;split at I
 .rename_i k a b k' Y U;rw[di I];refine gB.reads λφ E h' w a _ hp _=>?_
  have h1:=e9 (hp x _ (by rw[J];simp[Op.operands,eD]) Y);have h2:=e9 (hp y _ (by rw[J];simp[Op.operands,eD]) U);refine ⟨_,?_,.f (.raw _)⟩;unfold execOp;rw[J];simp[resolve,invoke,builtin,Builtin.min_,Builtin.min2,h1,h2,fE]
 .cases I
theorem ah7 {x:Operand} {t:TypeId} {k:IntKind} (J:o.op= .unOp .neg t x) (I:eC (.bin .sub (.const (.int k 0)) x) e h nx=aa R):gB P o e.get h.get R.eff:=by
 simp only[eC,me,DL] at I;split at I
 .rename_i u v hu M;cases hu;split at I
  .rename_i r hb;rw[di I];refine gB.reads λφ E h' w a _ hop _=>?_
   have h1:=e9 (hop x _ (by rw[J];simp[Op.operands]) M);refine ⟨r,?_,.f (.raw _)⟩;unfold execOp;rw[J];cases v<;>simp only[tL] at hb<;>try (cases hb;done)
   split at hb
   .rename_i hk;have hk:=eq_of_beq hk;subst hk;simp only[aj] at hb;subst hb;simp[h1,Op.unary,Op.intArith,xo]
   .cases hb
  .cases I
 .cases I
theorem ae7 {x i:Operand} {t:TypeId} (J:o.op= .index t x i) (hu:P.underlying t=aa .string) (I:eC (.sidx x i) e h nx=aa R):gB P o e.get h.get R.eff:=by
 simp only[eC] at I;split at I
 .rename_i s k j M hi;split at I
  .rename_i h0;simp only[cR,bP] at h0;split at I
   .rename_i b hb;rw[di I];refine gB.reads λφ E h' w a _ hop _=>?_
    have h1:=e9 (hop x _ (by rw[J];simp[Op.operands]) M);have h2:=e9 (hop i _ (by rw[J];simp[Op.operands]) hi);refine ⟨_,?_,.f (.raw _)⟩;have hs:s[j.toNat]? =aa b:=by
     rw[cC] at hb;obtain⟨hl,he⟩:=cu.1 hb;exact getElem?_pos s j.toNat hl▸gA aa he
    unfold execOp;rw[J];simp[Instr.index,run_underlying hu,h1,h2,asIntOf,h0,hs]
   .cases I
  .cases I
 .cases I
theorem aha {f:FuncId} {caps:Array Operand} (Y:o.op= .makeFunc (.func f) #[] caps) (M:eC (.mkf f caps.toList) e h nx=aa R):gB P o e.get h.get R.eff:=by
 simp only[eC] at M;split at M
 .rename_i l hl;rw[di M];refine gB.reads λφ E h' w a _ hp _=>?_
  refine ⟨_,by unfold execOp;rw[Y];rfl,?_⟩;have key:∀ (xs:List Operand) (I:List AV),(∀ x∈xs,x∈o.op.operands)->UC e xs=aa I->I.length=xs.length/\∀ (j:Nat) x v,I[j]? =aa x->(xs.map a.eval)[j]? =aa v->cG φ (tot E φ h') w x v:=by
   intro xs;induction xs with
   |nil=>intro I _ h;simp only[UC,aj] at h;subst h;exact⟨rfl,λj x v J=>by simp at J⟩
   |cons x xs Z=>
    intro I hm h;simp only[UC] at h;split at h
    .rename_i y hy;split at h
     .rename_i ys' hys;simp only[aj] at h;subst h;obtain⟨h1,h2⟩:=Z ys' (λx J=>hm x (cO _ J)) hys;refine ⟨by simp[h1],λj z v U hv=>?_⟩;cases j with
      |zero=>simp at U hv;subst U;subst hv;exact hp x _ (hm x (dG ..)) hy
      |succ j=>exact h2 j z v (by simpa using U) (by simpa using hv)
     .cases h
    .cases h
  obtain⟨h1,h2⟩:=key caps.toList l (λx J=>by rw[Y];simpa[Op.operands] using J) hl;have h3:(caps.map a.eval)=(caps.toList.map a.eval).toArray:=by
   apply Js;simp
  have h4:(#[]:Array Operand).map a.eval=#[]:=by simp
  rw[h4,h3];exact .clo (by simp[h1]) h2
 .cases M
end pure
section
variable {P:Program} {o:Oper} {e:yq} {h:nA} {nx:Nat} {R:AS}
theorem TX {α:Type} {l cs:List α} {off sz:Nat} (h:off+sz<=l.length) (he:(l.drop off).take sz=cs):cs.length=sz/\∀ (j:Nat) x,cs[j]? =aa x->l[off+j]? =aa x:=by
 subst he;constructor
 .simp;omega
 .intro j x I;rw[cH] at I;split at I
  .rw[gJ] at I;exact I
  .cases I
theorem wj (f:Nat->Value) (n j:Nat) (v:Value) (h:((eT n).map f)[j]? =aa v):v=f j/\j<n:=by
 rw[a8] at h;rcases bW j n with hj|hj
 .rw[Ff hj] at h;simp at h;exact⟨h.symm,hj⟩
 .rw[bM (by simpa using hj)] at h;cases h
def wI (φ:PM) (O:Nat->Prop) (w:World) (c:BC) (f:Nat->Option Value):Prop:=∀ j x,c.get j=aa x->x.isCell=ah/\∃ v,f j=aa v/\cG φ O w x v
theorem TW {φ:PM} {O:Nat->Prop} {w:World} {c:BC} {off sz:Nat} {ag:Bool} {val:AV} (hs:c.sub? off sz ag=aa val) {f:Nat->Option Value} (hc:wI φ O w c f):
 ∃ cs:List Value,cs.length=sz/\(∀ (j:Nat) v,cs[j]? =aa v->f (off+j)=aa v)/\(ag=ai->sz=1)/\cG φ O w val (if ag then .agg cs.toArray else cs.getD 0 undef):=by
 cases ag with
 |false=>
  simp only[BC.sub?] at hs;split at hs
  .obtain⟨h0,v,h1,h2⟩:=hc off val hs;exact⟨[v],rfl,λj u hu=>by cases j with|zero=>simp at hu;subst hu;exact h1|succ j=>simp at hu,λ_=>rfl,by simpa using h2⟩
  .cases hs
 |true=>
  have fin:∀ (g:Nat->Option AV),(∀ j,j<sz->∃ x,g j=aa x/\c.get (off+j)=aa x)->
   ∃ cs:List Value,cs.length=sz/\(∀ (j:Nat) v,cs[j]? =aa v->f (off+j)=aa v)/\∀ (j:Nat) x v,g j=aa x->cs[j]? =aa v->cG φ O w x v:=by
   intro g hg;refine ⟨(eT sz).map λj=>(f (off+j)).getD undef,by simp,λj v hv=>?_,λj x v I hv=>?_⟩
   .obtain⟨rfl,hj⟩:=wj _ _ _ _ hv;obtain⟨x,_,h2⟩:=hg j hj;obtain⟨_,v,J,_⟩:=hc _ _ h2;rw[J];rfl
   .obtain⟨rfl,hj⟩:=wj _ _ _ _ hv;obtain⟨U,h1,h2⟩:=hg j hj;rw[I] at h1;cases h1;obtain⟨_,v,J,M⟩:=hc _ _ h2;rw[J];exact M
  simp only[BC.sub?] at hs;split at hs
  .rename_i l;split at hs
   .rename_i hle;simp only[aj] at hs;subst hs;obtain⟨hl,hg⟩:=TX (aY hle) (rfl:(l.drop off).take sz=_);obtain⟨cs,h1,h2,J⟩:=fin (λj=>(((l.drop off).take sz)[j]?).map AV.f) (λj hj=>by
     have hlt:j<((l.drop off).take sz).length:=by rw[hl];exact hj
     refine ⟨.f ((l.drop off).take sz)[j],by simp only[ay hlt,b7],?_⟩;simp only[BC.get,hg j _ (ay hlt),b7])
    refine ⟨cs,h1,h2,(λh=>by cases h),.f (.agg _ _ (by rw[h1,hl]) ?_ ?_)⟩
    .intro x I;obtain⟨j,hj⟩:=eO I;exact (hc (off+j) (.f x) (by simp only[BC.get,hg j x hj,b7])).1
    .intro j x v I hv;have:=J j (.f x) v (by simp only[I,b7]) hv;cases this with
     |f h=>exact h
   .cases hs
  .rename_i l;split at hs
   .rename_i hle;simp only[aj] at hs;subst hs;obtain⟨hl,hg⟩:=TX (aY hle) (rfl:(l.drop off).take sz=_);obtain⟨cs,h1,h2,J⟩:=fin (λj=>(((l.drop off).take sz)[j]?)) (λj hj=>by
     have hlt:j<((l.drop off).take sz).length:=by rw[hl];exact hj
     exact⟨_,ay hlt,hg j _ (ay hlt)⟩)
    refine ⟨cs,h1,h2,(λh=>by cases h),.agg (by rw[h1,hl]) ?_ ?_⟩
    .intro x I;obtain⟨j,hj⟩:=eO I;exact (hc (off+j) x (hg j x hj)).1
    .intro j x v I hv;exact J j x v I hv
   .cases hs
  .cases hs
theorem L2 {t:TypeId} {sz:Nat} {ag:Bool} (hs:eX P t=aa sz) (I:CF P t=aa ag) (w:World) (b off:Nat) (cs:List Value) (hl:cs.length=sz) (hc:∀ (j:Nat) v,cs[j]? =aa v->w.cell? ⟨b,off+j,af⟩=aa v) (h1:ag=ai->sz=1):
 (loadVar t ⟨b,off,af⟩).run P w= .ok (if ag then .agg cs.toArray else cs.getD 0 undef) w:=by
 unfold loadVar;simp only[eh,NT I w,cD];cases ag with
 |true=>
  simp only[bB,eh,gg hs w,cD];rw[<- hl,run_loadCells_list (P:=P) w ⟨b,off,af⟩ cs (λj v hv=>by rw[kF];exact hc j v hv)];rfl
 |false=>
  have h1:=h1 rfl;cases cs with
  |nil=>simp at hl;omega
  |cons v r=>
   have:=hc 0 v rfl;simp only[c8] at this;simp[load,mU,this]
theorem G9 {φ:PM} {O:Nat->Prop} {w:World} {t:TypeId} {sz:Nat} {ag:Bool} (hs:eX P t=aa sz) (I:CF P t=aa ag) {c:BC} {b base off:Nat} {val:AV} (hv:c.sub? off sz ag=aa val)
 (hc:wI φ O w c λj=>w.cell? ⟨b,base+j,af⟩):∃ v,(loadVar t ⟨b,base+off,af⟩).run P w= .ok v w/\cG φ O w val v:=by
 obtain⟨cs,h1,h2,M,J⟩:=TW hv hc;exact⟨_,L2 hs I w b (base+off) cs h1 (λj v hj=>by rw[rC];exact h2 j v hj) M,J⟩
theorem Qg {φ:PM} {E:Nat->Prop} {h':HF} {w:World} (hrep:qd φ E h' w) {id k:Nat} {b:vH} (hb:h' id=aa b) (hk:φ id=aa k) (hc:b.c.isCells=ah):wI φ (tot E φ h') w b.c λj=>w.cell? ⟨k,0+j,af⟩:=by
 obtain⟨k',h1,_,h2⟩:=hrep.at_ id b hb;rw[hk] at h1;cases h1;obtain⟨arr,M,h4,J⟩:=h2.cells hc;intro j x I;obtain⟨Z,v,Y,U⟩:=J j x I;exact⟨Z,v,by simp[LK,M,Y],U⟩
theorem Te {φ:PM} {O:Nat->Prop} {w:World} {cells:List FV} {b base:Nat} {us:Nat->Value} (hcl:∀ x∈cells,x.isCell=ah) (hu:∀ j,j<cells.length->w.cell? ⟨b,base+j,af⟩=aa (us j)) (hr:∀ (j:Nat) x,cells[j]? =aa x->mP O w x (us j)):
 wI φ O w (.fz cells) λj=>w.cell? ⟨b,base+j,af⟩:=by
 intro j y I;simp only[BC.get] at I;cases hc:cells[j]? with
 |none=>rw[hc] at I;cases I
 |some q=>
  rw[hc] at I;simp at I;subst I;have hj:j<cells.length:=(be.1 hc).1;exact⟨hcl q (aZ hc),us j,hu j hj,.f (hr j q hc)⟩
theorem NC {c:BC} {off sz:Nat} {ag:Bool} {v:AV} (h:c.sub? off sz ag=aa v):c.isCells=ah:=by
 cases c with
 |fz=>rfl
 |mx=>rfl
 |mp es=>cases ag<;>simp only[BC.sub?,BC.get] at h<;>(try split at h)<;>cases h
 |it s p=>cases ag<;>simp only[BC.sub?,BC.get] at h<;>(try split at h)<;>cases h
theorem Qp {t:TypeId} {sz:Nat} {ag:Bool} (hs:eX P t=aa sz) (hag:CF P t=aa ag) {p:AV} (I:CE h sz ag p=aa R):
 R.wr=[]/\R.nw=[]/\R.N=[]/\∀ (φ:PM) (E:Nat->Prop) (h':HF) (w:World) (pv:Value),(∀ i∈R.rd,h' i=h.get i)->qd φ E h' w->cG φ (tot E φ h') w p pv->
  ∃ J v,pv= .pointer (aa J)/\(loadVar t J).run P w= .ok v w/\cG φ (tot E φ h') w R.val v:=by
 unfold CE at I;split at I
 .rename_i id off;split at I
  .rename_i b hb;split at I
   .rename_i v hv;simp only[aj] at I;subst I;refine ⟨rfl,rfl,rfl,λφ E h' w pv hrd hrep hr=>?_⟩;have hh:h' id=aa b:=by rw[hrd id (by simp)];exact hb
    cases hr with
    |@ptr _ _ k hφ=>
     obtain⟨u,h1,h2⟩:=G9 hs hag (w:=w) (b:=k) (base:=0) hv (Qg hrep hh hφ (NC hv));rw[bJ] at h1;exact⟨_,u,rfl,h1,h2⟩
   .cases I
  .cases I
 .rename_i cells off;split at I
  .rename_i v hv;rw[di I];refine ⟨rfl,rfl,rfl,λφ E h' w pv hrd hrep hr=>?_⟩;cases hr with
   |f hr=>
    cases hr with
    |ptr _ _ b base us hO hb hcl hu hr=>
     obtain⟨u,h1,h2⟩:=G9 (φ:=φ) (O:=tot E φ h') hs hag (w:=w) (b:=b) (base:=base) hv (Te hcl hu hr);exact⟨_,u,rfl,h1,h2⟩
  .cases I
 .cases I
theorem aeb {t:TypeId} {x:Operand} {sz:Nat} {ag:Bool} (J:o.op= .load t x) (hs:eX P t=aa sz) (hag:CF P t=aa ag) (I:eC (.load sz ag x) e h nx=aa R):gB P o e.get h.get R.eff:=by
 simp only[eC] at I;split at I
 .rename_i p Y;obtain⟨h1,h2,U,M⟩:=Qp hs hag I;obtain⟨val,rd,wr,nw,N⟩:=R;simp only at h1 h2 U M;subst h1;subst h2;subst U;refine gB.reads λφ E h' w a hrd hp hrep=>?_
  obtain⟨ad,v,h5,h6,Z⟩:=M φ E h' w _ hrd hrep (hp x _ (by rw[J];simp[Op.operands]) Y);refine ⟨v,?_,Z⟩;unfold execOp;rw[J];simp[Instr.loadAt,h5,Instr.sureAddr,h6]
 .cases I
theorem Ua {φ:PM} {O:Nat->Prop} {w:World} {t:TypeId} {sz:Nat} {ag:Bool} (hs:eX P t=aa sz) (hag:CF P t=aa ag) {c:BC} {off:Nat} {val:AV} (hv:c.sub? off sz ag=aa val) {vs:List Value}
 (hc:wI φ O w c λj=>vs[j]?):∃ v,(part t vs.toArray off).run P w= .ok v w/\cG φ O w val v:=by
 obtain⟨cs,h1,h2,J,I⟩:=TW hv hc;refine ⟨_,?_,I⟩;unfold part;simp only[eh,NT hag w,cD];cases ag with
 |true=>
  simp only[bB,eh,gg hs w,cD];have:vs.toArray.extract off (off+sz)=cs.toArray:=by
   apply Js;simp only[Array.toList_extract,List.extract_eq_take_drop];apply List.ext_getElem?;intro j;rw[show off+sz-off=sz from by omega,cH,gJ];rcases bW j sz with hj|hj
   .rw[aJ hj];have:=h2 j _ (ay (by omega:j<cs.length));rw[this,ay (by omega:j<cs.length)]
   .rw[aC (by omega),bM (by omega)]
  rw[this];rfl
 |false=>
  have M:=J rfl;cases cs with
  |nil=>simp at h1;omega
  |cons v r=>
   have:=h2 0 v rfl;simp only[c8] at this;simp[this]
theorem Qh {φ:PM} {O:Nat->Prop} {w:World} {l:List AV} {vs:List Value} (hl:vs.length=l.length) (hcl:∀ x∈l,x.isCell=ah) (hr:∀ (j:Nat) x v,l[j]? =aa x->vs[j]? =aa v->cG φ O w x v):wI φ O w (.mx l) λj=>vs[j]? :=by
 intro j x I;simp only[BC.get] at I;have hj:j<vs.length:=by rw[hl];exact (be.1 I).1
 exact⟨hcl x (aZ I),vs[j],ay hj,hr j x _ I (ay hj)⟩
theorem M9 {φ:PM} {O:Nat->Prop} {w:World} {l:List FV} {vs:List Value} (hl:vs.length=l.length) (hcl:∀ x∈l,x.isCell=ah) (hr:∀ (j:Nat) x v,l[j]? =aa x->vs[j]? =aa v->mP O w x v):wI φ O w (.fz l) λj=>vs[j]? :=by
 intro j x I;simp only[BC.get] at I;cases hc:l[j]? with
 |none=>rw[hc] at I;cases I
 |some q=>
  rw[hc] at I;simp at I;subst I;have hj:j<vs.length:=by rw[hl];exact (be.1 hc).1
  exact⟨hcl q (aZ hc),vs[j],ay hj,.f (hr j q _ hc (ay hj))⟩
theorem I9 {φ:PM} {O:Nat->Prop} {w:World} {t:TypeId} {sz:Nat} {ag:Bool} (hs:eX P t=aa sz) (hag:CF P t=aa ag) {x:AV} {z:Value} (hr:cG φ O w x z) {off:Nat} {val:AV}
 (hv:(∃ l,x= .agg l/\(BC.mx l).sub? off sz ag=aa val)\/(∃ l,x= .f (.agg l)/\(BC.fz l).sub? off sz ag=aa val)):∃ cs v,z= .agg cs/\(part t cs off).run P w= .ok v w/\cG φ O w val v:=by
 rcases hv with ⟨l,rfl,hv⟩|⟨l,rfl,hv⟩
 .cases hr with
  |agg hl hcl hr=>
   obtain⟨v,h1,h2⟩:=Ua hs hag hv (Qh hl hcl hr);exact⟨_,v,rfl,h1,h2⟩
 .cases hr with
  |f hr=>
   cases hr with
   |agg _ vs hl hcl hr=>
    obtain⟨v,h1,h2⟩:=Ua (φ:=φ) hs hag hv (M9 hl hcl hr);exact⟨_,v,rfl,h1,h2⟩
theorem ahf {s:TypeId} {fs:Array Field} {k:Nat} {f:Field} {sz:Nat} {ag:Bool} {x:Operand} (M:o.op= .field s x k) (hu:P.underlying s=aa (.struct fs)) (hf:fs[k]? =aa f) (hs:eX P f.type=aa sz) (hag:CF P f.type=aa ag) (I:eC (.fld f.offset sz ag x) e h nx=aa R):gB P o e.get h.get R.eff:=by
 have fin:∀ (y:AV) (val:AV),me e x=aa y->((∃ l,y= .agg l/\(BC.mx l).sub? f.offset sz ag=aa val)\/(∃ l,y= .f (.agg l)/\(BC.fz l).sub? f.offset sz ag=aa val))->rv val=aa R->gB P o e.get h.get R.eff:=by
  intro y val J hv U;rw[di U];refine gB.reads λφ E h' w a _ hp _=>?_
  obtain⟨cs,v,h1,h2,Y⟩:=I9 hs hag (hp x _ (by rw[M];simp[Op.operands]) J) hv;refine ⟨v,?_,Y⟩;unfold execOp;rw[M];simp[Instr.field,run_underlying hu,hf,h1,asAgg,h2]
 simp only[eC] at I;split at I
 .rename_i l J;split at I
  .rename_i v hv;exact fin _ v J (.inl ⟨l,rfl,hv⟩) I
  .cases I
 .rename_i l J;split at I
  .rename_i v hv;exact fin _ v J (.inr ⟨l,rfl,hv⟩) I
  .cases I
 .cases I
theorem ahd {t el:TypeId} {n sz:Nat} {ag:Bool} {x y:Operand} (J:o.op= .index t x y) (hu:P.underlying t=aa (.array n el)) (hs:eX P el=aa sz) (hag:CF P el=aa ag) (I:eC (.idx n sz ag x y) e h nx=aa R):gB P o e.get h.get R.eff:=by
 simp only[eC] at I;split at I
 .rename_i v0 k j U M;split at I
  .rename_i hc;simp only[cR,fE,au,bP] at hc;obtain⟨h0,h1⟩:=hc;have fin:∀ (val:AV),((∃ l,v0= .agg l/\(BC.mx l).sub? (j.toNat*sz) sz ag=aa val)\/(∃ l,v0= .f (.agg l)/\(BC.fz l).sub? (j.toNat*sz) sz ag=aa val))->rv val=aa R->gB P o e.get h.get R.eff:=by
    intro val hv Y;rw[di Y];refine gB.reads λφ E h' w a _ hp _=>?_
    have hyv:=e9 (hp y _ (by rw[J];simp[Op.operands]) M);obtain⟨cs,v,h3,h4,h5⟩:=I9 hs hag (hp x _ (by rw[J];simp[Op.operands]) U) hv;refine ⟨v,?_,h5⟩;have Z:=gg hs w;unfold execOp;rw[J];simp[Instr.index,run_underlying hu,hyv,asIntOf,h3,h0,h1,Z,h4]
   split at I
   .rename_i l;split at I
    .rename_i v hv;exact fin v (.inl ⟨l,rfl,hv⟩) I
    .cases I
   .rename_i l;split at I
    .rename_i v hv;exact fin v (.inr ⟨l,rfl,hv⟩) I
    .cases I
   .cases I
  .cases I
 .cases I
theorem aee {t el:TypeId} {x:Operand} (M:o.op= .call {callee:=.builtin .len,args:=#[x],argTypes:=#[t]}) (hu:P.underlying t=aa (.slice el)) (I:eC (.len x) e h nx=aa R):gB P o e.get h.get R.eff:=by
 simp only[eC] at I;split at I
 .rename_i y U;split at I
  .rename_i n hn;rw[di I];refine gB.reads λφ E h' w a _ hp _=>?_
   have hr:=hp x _ (by rw[M];simp[Op.operands,eD]) U;refine ⟨_,?_,.f (.raw _)⟩;have J:∃ A c,a.eval x= .slice A n c:=by
    generalize a.eval x=z at hr;unfold AV.slen at hn;split at hn<;>try (simp only[aj] at hn;subst hn)
    .cases hr with
     |f hr=>cases hr with
      |nil=>exact⟨_,_,rfl⟩
      |sl=>exact⟨_,_,rfl⟩
    .cases e9 hr;exact⟨_,_,rfl⟩
    .cases hr;exact⟨_,_,rfl⟩
    .cases hr;exact⟨_,_,rfl⟩
    .cases hr;exact⟨_,_,rfl⟩
    .cases hn
   obtain⟨A,c,J⟩:=J;unfold execOp;rw[M];simp[resolve,invoke,builtin,Builtin.len_,run_underlying hu,J,goInt]
  .cases I
 .cases I
theorem aed {t:TypeId} {x:Operand} (J:o.op= .call {callee:=.builtin .len,args:=#[x],argTypes:=#[t]}) (hu:P.underlying t=aa .string) (I:eC (.lens x) e h nx=aa R):gB P o e.get h.get R.eff:=by
 simp only[eC] at I;split at I
 .rename_i s M;rw[di I];refine gB.reads λφ E h' w a _ hp _=>?_
  have hr:=e9 (hp x _ (by rw[J];simp[Op.operands,eD]) M);refine ⟨_,?_,.f (.raw _)⟩;unfold execOp;rw[J];simp[resolve,invoke,builtin,Builtin.len_,run_underlying hu,hr,goInt]
 .cases I
theorem aec {t k v:TypeId} {x:Operand} (J:o.op= .call {callee:=.builtin .len,args:=#[x],argTypes:=#[t]}) (hu:P.underlying t=aa (.map k v)) (I:eC (.lenm x) e h nx=aa R):gB P o e.get h.get R.eff:=by
 simp only[eC] at I;split at I
 .rename_i id U;split at I
  .rename_i ty es hid;simp only[aj] at I;subst I;refine gB.reads λφ E h' w a hrd hp hrep=>?_
   have hr:=hp x _ (by rw[J];simp[Op.operands,eD]) U;have hh:h' id=aa ⟨ty,.mp es⟩:=by rw[hrd id (by simp)];exact hid
   generalize M:a.eval x=z at hr;cases hr with
   |@mp _ b hφ=>
    obtain⟨b',h1,_,ob,h2,h3⟩:=hrep.at_ id _ hh;rw[hφ] at h1;cases h1;obtain⟨ents,clock,rfl,Z,_⟩:=h3;have Y:ents.size=es.length:=by have:=gA ak Z;simpa using this
    refine ⟨_,?_,.f (.raw _)⟩;unfold execOp;rw[J];simp[resolve,invoke,builtin,Builtin.len_,run_underlying hu,M,goInt,getObj,mU,h2,Y]
  .cases I
 .cases I
end
structure DW (w w':World) (k:Nat) (ob:Obj):Prop where
 os:w'.os=w.os
 tape:w'.tape=w.tape
 output:w'.output=w.output
 size:w'.heap.size=w.heap.size
 at_:w'.heap[k]? =aa ob
 other:∀ j,j≠k->w'.heap[j]? =w.heap[j]?
 shp:∀ j,w'.shape? j=w.shape? j
structure Qu (w w':World) (ob:Obj):Prop where
 os:w'.os=w.os
 tape:w'.tape=w.tape
 output:w'.output=w.output
 size:w'.heap.size=w.heap.size+1
 at_:w'.heap[w.heap.size]? =aa ob
 other:∀ j,j<w.heap.size->w'.heap[j]? =w.heap[j]?
theorem qd.wset {φ:PM} {E:Nat->Prop} {h:HF} {w w':World} (r:qd φ E h w) {id k:Nat} {b b':vH} {ob:Obj} (hb:h id=aa b) (hk:φ id=aa k) (I:DW w w' k ob) (hob:ja φ (tot E φ h) w b' ob) (nw:HF) (hnw:nw id=aa b'):
 iJ φ φ h (eE h [id] nw) w w'/\qd φ E (eE h [id] nw) w':=by
 have hdom:∀ i,(∃ x,eE h [id] nw i=aa x)↔∃ x,h i=aa x:=λi=>by
  unfold eE;by_cases hi:i=id
  .subst hi;simp[hnw,hb]
  .simp[hi]
 have hown:∀ j,own φ (eE h [id] nw) j↔own φ h j:=λj=>by
  constructor
  .rintro⟨i,x,h1,h2⟩;obtain⟨y,M⟩:=(hdom i).1 ⟨x,h1⟩;exact⟨i,y,M,h2⟩
  .rintro⟨i,x,h1,h2⟩;obtain⟨y,M⟩:=(hdom i).2 ⟨x,h1⟩;exact⟨i,y,M,h2⟩
 have m:iJ φ φ h (eE h [id] nw) w w':=by
  refine ⟨λ_ _ h=>h,⟨I.os,I.tape,I.output,by rw[I.size];exact bQ _,λj hj ho=>?_,λj _=>I.shp j⟩,λj _ h=>(hown j).1 h⟩;exact I.other j (λe=>ho (e▸⟨id,b,hb,hk⟩))
 refine ⟨m,⟨λi j x y kk hi hj h1 h2=>?_,λi x hi=>?_,λk hk=>dj (r.el k hk) m.ext.size,λg cells hg=>m.keepF (r.gl g cells hg)⟩⟩
 .obtain⟨x',U⟩:=(hdom i).1 ⟨x,hi⟩;obtain⟨Z,J⟩:=(hdom j).1 ⟨y,hj⟩;exact r.inj i j x' Z kk U J h1 h2
 .by_cases hid:i=id
  .subst hid;have:x=b':=by unfold eE at hi;simp[hnw] at hi;exact hi.symm
   subst this;obtain⟨k',h1,h2,_⟩:=r.at_ i b hb;rw[hk] at h1;cases h1;exact⟨k,hk,h2,ob,I.at_,hob.mono λ_ _ h=>m.keep h⟩
  .have Y:h i=aa x:=by unfold eE at hi;simpa[hid] using hi
   obtain⟨k',h1,h2,ob',h3,h4⟩:=r.at_ i x Y;have hne:k'≠k:=λe=>hid (r.inj i id x b k Y hb (e▸h1) hk)
   exact⟨k',h1,h2,ob',by rw[I.other k' hne];exact h3,h4.mono λ_ _ h=>m.keep h⟩
theorem qd.wnew {φ:PM} {E:Nat->Prop} {h:HF} {w w':World} (r:qd φ E h w) {id:Nat} (hid:φ id=af) {b:vH} {ob:Obj} (M:Qu w w' ob) (hob:ja φ (tot E φ h) w b ob) (del:List Nat) (nw:HF) (hnw:nw id=aa b) (hdel:∀ i∈del,i≠id->nw i=af):
 ∃ φ',φ' id=aa w.heap.size/\iJ φ φ' h (eE h (id::del) nw) w w'/\(∀ i k,φ' i=aa k->φ i=aa k\/i∈[id])/\qd φ' E (eE h (id::del) nw) w':=by
 have hsub:∀ i x,eE h (id::del) nw i=aa x->i≠id->h i=aa x/\i∉del:=λi x U hi=>by
  unfold eE at U;by_cases hd:i∈del
  .rw[aJ (by simp[hd]),hdel i hd hi] at U;cases U
  .rw[aC (by simp[hi,hd])] at U;exact⟨U,hd⟩
 have hlt:∀ i x k,h i=aa x->φ i=aa k->k<w.heap.size:=λi x k hi hk=>by
  obtain⟨k',h1,_,ob',Y,_⟩:=r.at_ i x hi;rw[hk] at h1;cases h1;exact (cu.1 Y).1
 have hφ:∀ i,i≠id->(if i=id then aa w.heap.size else φ i)=φ i:=λi hi=>by simp[hi]
 have m:iJ φ (λi=>if i=id then aa w.heap.size else φ i) h (eE h (id::del) nw) w w':=by
  refine ⟨λi k hk=>?_,⟨M.os,M.tape,M.output,by rw[M.size];omega,λj hj _=>M.other j hj,λj hj=>?_⟩,?_⟩
  .have:i≠id:=λe=>by rw[e,hid] at hk;cases hk
   rw[hφ i this];exact hk
  .unfold qJ;rw[M.other j hj]
  .rintro j hj ⟨i,x,h1,h2⟩;by_cases hi:i=id
   .simp[hi] at h2;omega
   .have Y:φ i=aa j:=by simpa[hi] using h2
    exact⟨i,x,(hsub i x h1 hi).1,Y⟩
 refine ⟨_,by simp,m,λi k hk=>?_,⟨λi j x y k hi hj h1 h2=>?_,λi x hi=>?_,λk hk=>dj (r.el k hk) m.ext.size,λg cells hg=>m.keepF (r.gl g cells hg)⟩⟩
 .by_cases hi:i=id
  .right;simp[hi]
  .left;rw[hφ i hi] at hk;exact hk
 .by_cases I:i=id
  .by_cases J:j=id
   .rw[I,J]
   .exfalso;rw[hφ j J] at h2;have:=hlt j y k (hsub j y hj J).1 h2;simp[I] at h1;omega
  .rw[hφ i I] at h1;have hix:=(hsub i x hi I).1;by_cases J:j=id
   .exfalso;have:=hlt i x k hix h1;simp[J] at h2;omega
   .rw[hφ j J] at h2;exact r.inj i j x y k hix (hsub j y hj J).1 h1 h2
 .by_cases I:i=id
  .subst I;have:x=b:=by unfold eE at hi;simp[hnw] at hi;exact hi.symm
   subst this;refine ⟨w.heap.size,by simp,λhe=>?_,ob,M.at_,hob.mono λ_ _ h=>m.keep h⟩;have:=r.el _ he;omega
  .obtain⟨k,h1,h2,ob',Y,Z⟩:=r.at_ i x (hsub i x hi I).1;refine ⟨k,by rw[hφ i I];exact h1,h2,ob',?_,Z.mono λ_ _ h=>m.keep h⟩;rw[M.other k (hlt i x k (hsub i x hi I).1 h1)];exact Y
theorem qg (w:World) (ob:Obj):Qu w {w with heap:=w.heap.push ob} ob:=by
 refine ⟨rfl,rfl,rfl,by simp,by simp,λj hj=>?_⟩;rw[Array.getElem?_push,aC (by omega)]
theorem Qu.drawn {w w':World} {ob:Obj} (d:Nat) (h:Qu {w with drawn:=d} w' ob):Qu w w' ob:=⟨h.os,h.tape,h.output,h.size,h.at_,h.other⟩
theorem gB.makes {P:Program} {o:Oper} {e:yq} {h:HF} {rd:List Nat} {nx:Nat} {b:vH} {val:AV}
 (hv:∀ (φ:PM) (E:Nat->Prop) (h':HF) (w:World) (a:Act),(∀ i∈rd,h' i=h i)->Tx φ E h' w a e o->qd φ E h' w->
   ∃ v w' ob,(execOp a.eval o).run P w= .ok (.value v) w'/\Qu w w' ob/\ja φ (tot E φ h') w b ob/\∀ φ' O,φ' nx=aa w.heap.size->cG φ' O w' val v):
 gB P o e.get h ⟨val,rd,[nx],iP [(nx,b)],[nx]⟩:=by
 intro φ E h' w a h1 h2 Z I Y;obtain⟨v,w',ob,hrun,U,hob,hval⟩:=hv φ E h' w a h1 (λx y M J=>sk I Z M J) I;obtain⟨φ',g1,g2,g3,g4⟩:=I.wnew (id:=nx) (Y nx (by simp)) U hob [] (iP [(nx,b)]) (by simp[iP]) (by simp);unfold FU;rw[hrun];exact⟨v,φ',rfl,g2,g3,g4,hval φ' _ g1⟩
theorem gB.writes {P:Program} {o:Oper} {e:yq} {h:HF} {rd:List Nat} {id:Nat} {b b':vH} {val:AV} (hb:h id=aa b)
 (hv:∀ (φ:PM) (E:Nat->Prop) (h':HF) (w:World) (a:Act),(∀ i∈rd,h' i=h i)->h' id=aa b->Tx φ E h' w a e o->qd φ E h' w->
   ∃ r w' k ob,(execOp a.eval o).run P w= .ok r w'/\φ id=aa k/\DW w w' k ob/\ja φ (tot E φ h') w b' ob/\(∃ v,(r= .value v\/r= .skip/\v=undef)/\cG φ (tot E φ (eE h' [id] (iP [(id,b')]))) w' val v)):
 gB P o e.get h ⟨val,rd,[id],iP [(id,b')],[]⟩:=by
 intro φ E h' w a h1 h2 h3 I h5;obtain⟨r,w',k,ob,hrun,hk,Z,hob,v,hr,hval⟩:=hv φ E h' w a h1 (by rw[h2 id (by simp)];exact hb) (λx y Y U=>sk I h3 Y U) I;obtain⟨M,J⟩:=I.wset (id:=id) (by rw[h2 id (by simp)];exact hb) hk Z hob (iP [(id,b')]) (by simp[iP]);unfold FU;rw[hrun];rcases hr with rfl|⟨rfl,rfl⟩
 .exact⟨v,φ,rfl,M,λ_ _ h=>.inl h,J,hval⟩
 .exact⟨undef,φ,rfl,M,λ_ _ h=>.inl h,J,hval⟩
theorem k_ {l:List AV} (h:gu l=ah):∀ x∈l,x.isCell=ah:=by
 induction l with
 |nil=>intro x I;cases I
 |cons y l J=>
  simp only[gu,au] at h;intro x I;rcases bh.1 I with rfl|I
  .exact h.1
  .exact J h.2 x I
theorem o9:∀ {l:List AV} {fs:List FV},wG l=aa fs->l=fs.map .f
 |[],fs,h=>by simp only[wG,aj] at h;subst h;rfl
 |.f x::r,fs,h=>by
  simp only[wG] at h;split at h
  .rename_i l hl;simp only[aj] at h;subst h;rw[o9 hl];rfl
  .cases h
 |.ptr _ _::_,_,h=>by simp[wG] at h
 |.sl _ _ _::_,_,h=>by simp[wG] at h
 |.row _ _ _::_,_,h=>by simp[wG] at h
 |.mp _::_,_,h=>by simp[wG] at h
 |.emp::_,_,h=>by simp[wG] at h
 |.agg _::_,_,h=>by simp[wG] at h
 |.tup _::_,_,h=>by simp[wG] at h
 |.clo _ _::_,_,h=>by simp[wG] at h
def Cs (φ:PM) (O:Nat->Prop) (w:World) (l:List AV) (vs:List Value):Prop:=vs.length=l.length/\(∀ x∈l,x.isCell=ah)/\∀ (j:Nat) x v,l[j]? =aa x->vs[j]? =aa v->cG φ O w x v
theorem BC.get_toMx {c:BC} (hc:c.isCells=ah) (j:Nat):c.get j=c.toMx[j]? :=by
 cases c with
 |fz l=>simp[BC.get,BC.toMx]
 |mx l=>rfl
 |mp _=>cases hc
 |it _ _=>cases hc
theorem BC.len_toMx {c:BC} (hc:c.isCells=ah):c.len=c.toMx.length:=by
 cases c with
 |fz l=>simp[BC.len,BC.toMx]
 |mx l=>rfl
 |mp _=>cases hc
 |it _ _=>cases hc
theorem ne (l:List AV):(oN l).toMx=l/\(oN l).isCells=ah:=by
 unfold oN;cases h:wG l with
 |none=>exact⟨rfl,rfl⟩
 |some fs=>exact⟨(o9 h).symm,rfl⟩
theorem pn {φ:PM} {O:Nat->Prop} {w:World} {ty:TypeId} {c:BC} (hc:c.isCells=ah) {arr:Array Value} (hl:c.toMx.length<=arr.size)
 (h:∀ (j:Nat) x,c.toMx[j]? =aa x->x.isCell=ah/\∃ v,arr[j]? =aa v/\cG φ O w x v):ja φ O w ⟨ty,c⟩ (.cells arr ty (0,0)):=by
 have h2:uj φ O w c arr:=⟨by rw[BC.len_toMx hc];exact hl,λj x I=>h j x (by rw[<- BC.get_toMx hc];exact I)⟩
 unfold ja;cases hb:c with
 |fz l=>rw[hb] at h2;exact⟨arr,rfl,h2⟩
 |mx l=>rw[hb] at h2;exact⟨arr,rfl,h2⟩
 |mp _=>rw[hb] at hc;cases hc
 |it _ _=>rw[hb] at hc;cases hc
theorem GW {φ:PM} {O:Nat->Prop} {w:World} {ty:TypeId} {l:List AV} {vs:List Value} (h:Cs φ O w l vs):ja φ O w ⟨ty,oN l⟩ (.cells vs.toArray ty (0,0)):=by
 obtain⟨h1,h2⟩:=ne l;refine pn h2 (by rw[h1];simp[h.1]) λj x I=>?_
 rw[h1] at I;have hj:j<vs.length:=by rw[h.1];exact (be.1 I).1
 exact⟨h.2.1 x (aZ I),vs[j],by simp[hj],h.2.2 j x _ I (ay hj)⟩
theorem Sh {φ:PM} {O:Nat->Prop} {w:World} {x:AV} {v:Value} (h:cG φ O w x v) (hc:gu x.cs=ah):Cs φ O w x.cs v.cells.toList:=by
 have one:x.cs=[x]->v.cells=#[v]->Cs φ O w x.cs v.cells.toList:=λh1 h2=>by
  rw[h1] at hc ⊢;rw[h2];exact⟨rfl,k_ hc,λj y u I hu=>by cases j with|zero=>simp at I hu;subst I;subst hu;exact h|succ j=>simp at I⟩
 cases h with
 |ptr h=>exact one rfl rfl
 |sl h _ _=>exact one rfl rfl
 |row h _ _ _=>exact one rfl rfl
 |emp=>exact one rfl rfl
 |anyb=>exact one rfl rfl
 |mp h=>exact one rfl rfl
 |clo _ _=>exact one rfl rfl
 |tup _ _=>exact cX hc (by simp[AV.cs,gu,AV.isCell])
 |@agg l vs hl hcl hr=>exact⟨hl,hcl,hr⟩
 |@f y u hf=>
  cases hf with
  |raw v=>
   have hv:v.oneCell'=ah:=by
    have:(AV.f (.raw v)).cs=[.f (.raw v)]:=rfl;rw[this] at hc;simpa[gu,AV.isCell,FV.isCell] using hc
   refine one rfl ?_;cases v<;>first|rfl|simp[Value.oneCell'] at hv
  |nil=>exact one rfl rfl
  |sl=>exact one rfl rfl
  |ptr=>exact one rfl rfl
  |agg l vs hl hcl hr=>
   refine ⟨by simp[AV.cs,Value.cells,hl],k_ hc,λj y u I hu=>?_⟩;simp only[AV.cs,a8] at I;cases hq:l[j]? with
   |none=>rw[hq] at I;cases I
   |some q=>rw[hq] at I;simp at I;subst I;exact .f (hr j q u hq (by simpa[Value.cells] using hu))
theorem mP.one {O:Nat->Prop} {w:World} {x:FV} {v:Value} (h:mP O w x v) (hc:x.isCell=ah):v.oneCell'=ah:=by
 cases h with
 |raw v=>exact hc
 |nil=>rfl
 |sl=>rfl
 |ptr=>rfl
 |agg=>cases hc
theorem cG.one {φ:PM} {O:Nat->Prop} {w:World} {x:AV} {v:Value} (h:cG φ O w x v) (hc:x.isCell=ah):v.oneCell'=ah:=by
 cases h with
 |f h=>exact h.one hc
 |ptr=>rfl
 |sl=>rfl
 |row=>rfl
 |emp=>rfl
 |anyb=>rfl
 |mp=>rfl
 |agg=>cases hc
 |tup=>cases hc
 |clo=>rfl
theorem Cs.one {φ:PM} {O:Nat->Prop} {w:World} {l:List AV} {vs:List Value} (h:Cs φ O w l vs):∀ v∈vs,v.oneCell'=ah:=by
 intro v hv;obtain⟨j,hj⟩:=eO hv;have hlt:j<l.length:=by rw[<- h.1];exact (be.1 hj).1
 exact (h.2.2 j _ v (ay hlt) hj).one (h.2.1 _ (tR hlt))
theorem Cs.append {φ:PM} {O:Nat->Prop} {w:World} {l J:List AV} {vs vs':List Value} (h:Cs φ O w l vs) (h':Cs φ O w J vs'):Cs φ O w (l++J) (vs++vs'):=by
 refine ⟨by simp[h.1,h'.1],λx I=>(bR.1 I).elim (h.2.1 x) (h'.2.1 x),λj x v I hv=>?_⟩;rcases bW j l.length with hj|hj
 .rw[bK hj] at I;rw[bK (by rw[h.1];exact hj)] at hv;exact h.2.2 j x v I hv
 .rw[bX hj] at I;rw[bX (by rw[h.1];exact hj),h.1] at hv;exact h'.2.2 _ x v I hv
theorem Cs.take {φ:PM} {O:Nat->Prop} {w:World} {l:List AV} {vs:List Value} (h:Cs φ O w l vs) (n:Nat):Cs φ O w (l.take n) (vs.take n):=by
 refine ⟨by simp[h.1],λx I=>h.2.1 x (iT I),λj x v I hv=>?_⟩;rw[cH] at I hv;split at I
 .rename_i hj;rw[aJ hj] at hv;exact h.2.2 j x v I hv
 .cases I
theorem Cs.drop {φ:PM} {O:Nat->Prop} {w:World} {l:List AV} {vs:List Value} (h:Cs φ O w l vs) (n:Nat):Cs φ O w (l.drop n) (vs.drop n):=by
 refine ⟨by simp[h.1],λx I=>h.2.1 x (List.mem_of_mem_drop I),λj x v I hv=>?_⟩;rw[gJ] at I hv;exact h.2.2 _ x v I hv
theorem Cs.splice {φ:PM} {O:Nat->Prop} {w:World} {l I:List AV} {vs vs':List Value} (h:Cs φ O w l vs) (h':Cs φ O w I vs') (off:Nat):Cs φ O w (splice l off I) (splice vs off vs'):=by
 unfold AI.splice;rw[h'.1];exact ((h.take off).append h').append (h.drop _)
theorem Cs.raws {φ:PM} {O:Nat->Prop} {w:World} (z:List Value) (J:mc z=ah):Cs φ O w (z.map raw) z:=by
 refine ⟨by simp,λx I=>?_,λj x v I hv=>?_⟩
 .obtain⟨v,hv,rfl⟩:=c9.1 I;exact fY.1 J v hv
 .rw[a8] at I;rw[hv] at I;simp at I;subst I;exact .f (.raw v)
theorem Cs.mono {φ φ':PM} {O O':Nat->Prop} {w w':World} {l:List AV} {vs:List Value} (h:Cs φ O w l vs) (hk:∀ x v,cG φ O w x v->cG φ' O' w' x v):Cs φ' O' w' l vs:=⟨h.1,h.2.1,λj x v I hv=>hk _ _ (h.2.2 j x v I hv)⟩
theorem DW.setRow {w:World} {k:Nat} {arr arr':Array Value} {ty:TypeId} (I:w.heap[k]? =aa (.cells arr ty (0,0))) (hs:arr'.size=arr.size):DW w (w.setRow k arr') k (.cells arr' ty (0,0)):=by
 refine ⟨rfl,rfl,rfl,by simp,setRow_heap w k arr arr' ty (0,0) I,λj hj=>setRow_other w k j arr' hj,λj=>?_⟩;unfold qJ;by_cases hj:j=k
 .subst hj;rw[setRow_heap w j arr arr' ty (0,0) I,I];simp[hs]
 .rw[setRow_other w k j arr' hj]
section
variable {P:Program} {o:Oper} {e:yq} {h:nA} {nx:Nat} {R:AS}
theorem su {t:TypeId} {z:List Value} (I:rQ P t=aa z) (w:World):∃ v,(zeroValue t).run P w= .ok v w/\v.cells.toList=z/\∃ i,P.info? t=aa i/\i.zero=aa v:=by
 unfold rQ at I;cases hi:P.info? t with
 |none=>rw[hi] at I;cases I
 |some i=>
  rw[hi] at I;simp only[aE] at I;cases hv:i.zero with
  |none=>rw[hv] at I;cases I
  |some v=>
   rw[hv] at I;simp only[b7,aj] at I;exact⟨v,by simp[zeroValue,typeInfo,hi,hv],I,i,rfl,hv⟩
theorem ab8 {t:TypeId} {z:List Value} (Y:o.op= .alloc t) (U:rQ P t=aa z) (hc:mc z=ah) (M:eC (.alloc t z) e h nx=aa R):gB P o e.get h.get R.eff:=by
 simp only[eC,aj] at M;subst M;refine gB.makes λφ E h' w a _ _ _=>?_
 obtain⟨v,h1,h2,_⟩:=su U w;refine ⟨.pointer (aa ⟨w.heap.size,0,af⟩),{w with heap:=w.heap.push (.cells v.cells t)},.cells v.cells t (0,0),?_,qg w _,?_,λφ' O hφ=>.ptr hφ⟩
 .unfold execOp;rw[Y];simp[Instr.alloc,h1,newVar,newRow,newObj,mU]
 .have I:BC.toMx (.fz (z.map .raw))=z.map raw:=by simp[BC.toMx,raw]
  refine pn rfl (by rw[I,<-h2];simp) λj x J=>?_
  rw[I] at J;have cs:=Cs.raws (φ:=φ) (O:=tot E φ h') (w:=w) z hc;have hj:j<z.length:=by have:=(be.1 J).1;simpa using this
  refine ⟨cs.2.1 x (aZ J),z[j],?_,cs.2.2 j x _ J (ay hj)⟩;have:v.cells.toList[j]? =aa z[j]:=by rw[h2];exact ay hj
  simpa using this
theorem ahk {t:TypeId} {x:Operand} (J:o.op= .box t x) (I:eC (.box t x) e h nx=aa R):gB P o e.get h.get R.eff:=by
 simp only[eC] at I;split at I
 .rename_i v M;split at I
  .rename_i hc;simp only[aj] at I;subst I;refine gB.makes λφ E h' w a _ hp _=>?_
   have hr:=Sh (hp x _ (by rw[J];simp[Op.operands]) M) hc;refine ⟨.pointer (aa ⟨w.heap.size,0,af⟩),{w with heap:=w.heap.push (.cells (a.eval x).cells t)},.cells (a.eval x).cells t (0,0),?_,qg w _,?_,λφ' O hφ=>.ptr hφ⟩
   .unfold execOp;rw[J];simp[Instr.box,newVar,newRow,newObj,mU]
   .have:=GW (ty:=t) hr;simpa using this
  .cases I
 .cases I
theorem mf {α:Type} {l vs:List α} {off:Nat} (hle:off+vs.length<=l.length) (j:Nat):(splice l off vs)[j]? =if j<off then l[j]? else if j<off+vs.length then vs[j-off]? else l[j]? :=by
 unfold splice;rw[jy];have h1:(l.take off).length=off:=by simp;omega
 by_cases hj:j<off
 .rw[aJ hj,bK (by rw[h1];exact hj),cH,aJ hj]
 .rw[aC hj,bX (by omega),h1];by_cases I:j<off+vs.length
  .rw[aJ I,bK (by omega)]
  .rw[aC I,bX (by omega),gJ];congr 1;omega
theorem nQ {α:Type} {l vs:List α} {off:Nat} (hle:off+vs.length<=l.length):(splice l off vs).length=l.length:=by
 unfold splice;simp;omega
theorem O3 (off:Nat):∀ (vs:List Value) (k:Nat) (arr:Array Value),off+k+vs.length<=arr.size->∀ j:Nat,
 ((vs.zipIdx k).foldl (λcs (p:Value×Nat)=>cs.setIfInBounds (off+p.2) p.1) arr)[j]? =if j<off+k then arr[j]? else if j<off+k+vs.length then vs[j-(off+k)]? else arr[j]?
 |[],k,arr,_,j=>by
  simp only[List.zipIdx_nil,List.foldl_nil,jE,c8];split<;>rfl
 |v::vs,k,arr,hle,j=>by
  simp only[bV] at hle;rw[List.zipIdx_cons,D8,O3 off vs (k+1) _ (by simp;omega) j];simp only[bV];by_cases h1:j<off+k
  .rw[aJ (by omega),aJ h1,pa (by omega)]
  .by_cases h2:j=off+k
   .subst h2;rw[aJ (by omega),aC (by omega),aJ (by omega)];simp[show off+k<arr.size by omega]
   .rw[aC (by omega),aC h1];by_cases I:j<off+k+(vs.length+1)
    .rw[aJ (by omega),aJ I,show j-(off+k)=(j-(off+(k+1)))+1 from by omega];simp
    .rw[aC (by omega),aC I,pa (by omega)]
theorem O2 (off:Nat) (c:Array Value) (l:List Value) (hle:off+c.size<=l.length):(c.zipIdx.foldl (λcs (p:Value×Nat)=>cs.setIfInBounds (off+p.2) p.1) l.toArray)=(splice l off c.toList).toArray:=by
 rw[<- Array.foldl_toList,Array.toList_zipIdx];apply Array.ext_getElem?;intro j;rw[O3 off c.toList 0 l.toArray (by simpa using hle) j];simp only[c8,jU];rw[mf (by simpa using hle)]
theorem MD {φ:PM} {E:Nat->Prop} {h':HF} {w:World} {a:Act} (hp:Tx φ E h' w a e o) {place:Nat->Option (Nat×Nat)}:∀ (ps:List (Nat×Operand)) (ps':List (Nat×Nat×Operand)) (cells cs:List AV) (vs:List Value),
 (ps'.length=ps.length)->(∀ (j:Nat) i x,ps[j]? =aa (i,x)->∃ of sz,ps'[j]? =aa (of,sz,x)/\place i=aa (of,sz))->(∀ p∈ps,p.2∈o.op.operands)->Cs φ (tot E φ h') w cells vs->xR cells e ps'=aa cs->
 ∃ vs',Instr.fill place vs.toArray (ps.map λp=>(p.1,a.eval p.2))=aa vs'.toArray/\Cs φ (tot E φ h') w cs vs'
 |[],ps',cells,cs,vs,hl,_,_,hcs,hf=>by
  cases ps' with
  |nil=>simp only[xR,aj] at hf;subst hf;exact⟨vs,rfl,hcs⟩
  |cons _ _=>simp at hl
 |(i,x)::ps,ps',cells,cs,vs,hl,hpl,hm,hcs,hf=>by
  obtain⟨of,sz,h1,h2⟩:=hpl 0 i x rfl;cases ps' with
  |nil=>simp at h1
  |cons p ps'=>
   simp at h1;subst h1;simp only[xR] at hf;split at hf
   .rename_i v hv;split at hf
    .rename_i hc;simp only[au,cN] at hc;obtain⟨⟨M,J⟩,I⟩:=hc;have hr:=Sh (hp x v (hm _ (dG ..)) hv) I;have hsz:(a.eval x).cells.size=sz:=by have:=hr.1;simp at this;omega
     have hle:of+sz<=vs.length:=by rw[hcs.1];exact aY J
     obtain⟨vs',Y,U⟩:=MD hp ps ps' _ cs _ (by simpa using hl) (λj i x hj=>by have:=hpl (j+1) i x (by simpa using hj);simpa using this) (λp hp=>hm p (cO _ hp)) (hcs.splice hr of) hf;refine ⟨vs',?_,U⟩;simp only[fV,Instr.fill,h2];have hcd:((decide ((a.eval x).cells.size≠sz))||decide (of+(a.eval x).cells.size>vs.toArray.size))=ai:=by
      rw[hsz];simp;omega
     rw[aC (by rw[hcd];simp)];have:=O2 of (a.eval x).cells vs (by rw[hsz];exact hle);rw[<- Y,<-this]
    .cases hf
   .cases hf
theorem C3 {t:TypeId}:∀ (ps:List (Nat×Operand)) (ps':List (Nat×Nat×Operand)),vR P t ps=aa ps'->ps'.length=ps.length/\∀ (j:Nat) i x,ps[j]? =aa (i,x)->∃ of sz,ps'[j]? =aa (of,sz,x)/\Ae P t i=aa (of,sz)
 |[],ps',h=>by simp only[vR,aj] at h;subst h;exact⟨rfl,λj i x M=>by simp at M⟩
 |(i,x)::ps,ps',h=>by
  simp only[vR] at h;split at h
  .rename_i of sz l h1 h2;simp only[aj] at h;subst h;obtain⟨Y,U⟩:=C3 ps l h2;refine ⟨by simp[Y],λj J I hj=>?_⟩;cases j with
   |zero=>simp at hj;obtain⟨rfl,rfl⟩:=hj;exact⟨of,sz,rfl,h1⟩
   |succ j=>simpa using U j J I (by simpa using hj)
  .cases h
theorem G2 (w:World):∀ (fs:List Field),(fs.all λf=>(eX P f.type).isSome)=ah->(fs.mapM (λf=>do pure (f.offset,<-sizeOf f.type)):Sem (List (Nat×Nat))).run P w= .ok (fs.map λf=>(f.offset,(eX P f.type).getD 0)) w
 |[],_=>by simp
 |f::fs,h=>by
  simp only[List.all_cons,au] at h;obtain⟨sz,hs⟩:=iv.1 h.1;have h1:=gg hs w;have I:=G2 w fs h.2;simp only[List.mapM_cons,eh,h1,cD,og,I,fV,hs,tO]
theorem U1 {t:TypeId} {ps:Array (Nat×Operand)} {z:List Value} {ps':List (Nat×Nat×Operand)} (M:o.op= .build t ps) (hz:rQ P t=aa z) (hc:mc z=ah) (hps:vR P t ps.toList=aa ps')
 (hu:(∃ fs,P.underlying t=aa (.struct fs)/\(fs.toList.all λf=>(eX P f.type).isSome)=ah)\/∃ n el sz,P.underlying t=aa (.array n el)/\eX P el=aa sz) (I:eC (.build z ps') e h nx=aa R):gB P o e.get h.get R.eff:=by
 simp only[eC] at I;split at I
 .rename_i cs hf;rw[di I];refine gB.reads λφ E h' w a _ hp _=>?_
  obtain⟨v,h1,h2,_⟩:=su hz w;have hcells:v.cells=z.toArray:=by rw[<- h2]
  obtain⟨g1,g2⟩:=C3 ps.toList ps' hps;have hops:∀ p∈ps.toList,p.2∈o.op.operands:=λp hp=>by
   rw[M];simp only[Op.operands,List.mem_toArray,c9];exact⟨p,hp,rfl⟩
  have hmap:(ps.map λx:Nat×Operand=>(x.1,a.eval x.2)).toList=ps.toList.map λp=>(p.1,a.eval p.2):=by simp
  have fin:∀ place:Nat->Option (Nat×Nat),(∀ i,Ae P t i≠af->place i=Ae P t i)->∃ vs':List Value,Instr.fill place v.cells (ps.map λx:Nat×Operand=>(x.1,a.eval x.2)).toList=aa vs'.toArray/\cG φ (tot E φ h') w (KV cs) (.agg vs'.toArray):=by
   intro place hpl;obtain⟨vs',k1,k2⟩:=MD (place:=place) hp ps.toList ps' _ cs z g1 (λj i x hj=>by
    obtain⟨of,sz,Z,Y⟩:=g2 j i x hj;exact⟨of,sz,Z,by rw[hpl i (by rw[Y];simp),Y]⟩) hops (Cs.raws z hc) hf
   refine ⟨vs',by rw[hmap,hcells];exact k1,?_⟩;unfold KV;cases hfs:wG cs with
   |none=>exact .agg k2.1 k2.2.1 k2.2.2
   |some fs=>
    have he:=o9 hfs;refine .f (.agg fs vs' (by rw[k2.1,he];simp) (λx J=>k2.2.1 (.f x) (by rw[he];exact c9.2 ⟨x,J,rfl⟩)) λj x u J hu=>?_);have:=k2.2.2 j (.f x) u (by rw[he,a8,J];rfl) hu;cases this with
    |f h=>exact h
  rcases hu with ⟨fs,hu,hall⟩|⟨n,el,sz,hu,hs⟩
  .obtain⟨vs',k1,k2⟩:=fin (λi=>(fs.map λf=>(f.offset,(eX P f.type).getD 0))[i]?) (λi hi=>by
    unfold Ae at hi ⊢;rw[hu] at hi ⊢;simp only[Array.getElem?_map] at hi ⊢;cases hf:fs[i]? with
    |none=>rw[hf] at hi;simp at hi
    |some f=>
     simp only[b7,aE];cases hs:eX P f.type with
     |none=>rw[hf] at hi;simp[hs] at hi
     |some sz=>simp)
   refine ⟨_,?_,k2⟩;have hm:=G2 w fs.toList hall;have U:(fs.mapM (λf=>do pure (f.offset,<-sizeOf f.type)):Sem (Array (Nat×Nat))).run P w= .ok (fs.map λf=>(f.offset,(eX P f.type).getD 0)) w:=by
    rw[Array.mapM_eq_mapM_toList];simp only[Sem.run_map,hm,cD];congr 1;apply Js;simp
   unfold execOp;rw[M];simp only[Instr.build,eh,h1,cD,run_underlying hu,U,og,k1]
  .obtain⟨vs',k1,k2⟩:=fin (λi=>aa (i*sz,sz)) (λi hi=>by
    unfold Ae;rw[hu];simp[hs])
   refine ⟨_,?_,k2⟩;have h3:=gg hs w;unfold execOp;rw[M];simp only[Instr.build,eh,h1,cD,run_underlying hu,h3,og,k1]
 .cases I
end
section
variable {P:Program} {o:Oper} {e:yq} {h:nA} {nx:Nat} {R:AS}
theorem ru {t el:TypeId} (h:zA P t=aa el):P.underlying t=aa (.slice el):=by
 unfold zA at h;split at h
 .rename_i e hu;simp only[aj] at h;subst h;exact hu
 .cases h
theorem mh (z:List Value):∀ n,(repl z n).length=n*z.length
 |0=>by simp[repl]
 |n+1=>by simp[repl,mh z n,iB];omega
theorem Bn (z:List Value):∀ (n j:Nat),j<n*z.length->(repl z n)[j]? =(z[j%z.length]?).map .raw
 |0,j,h=>by simp at h
 |n+1,j,h=>by
  have I:0<z.length:=by
   rcases Jq z.length with h0|h0
   .rw[h0] at h;simp at h
   .exact h0
  rw[repl];rcases bW j z.length with hj|hj
  .rw[bK (by simpa using hj),a8,Nat.mod_eq_of_lt hj]
  .rw[bX (by simpa using hj),b8,Bn z n (j-z.length) (by rw[iB] at h;omega),Nat.mod_eq_sub_mod hj]
theorem U8 {v:Value} {z:List Value} (hv:v.cells.toList=z) (n sz:Nat) (hl:z.length=sz) (hsz:sz≠0) (j:Nat) (hj:j<n*sz):
 ((xg (n*sz)).map (λi=>v.cells[i%v.cells.size]!))[j]? =z[j%sz]? :=by
 have hs:v.cells.size=sz:=by rw[<- hl,<-hv];simp
 have hlt:j%sz<v.cells.size:=by rw[hs];exact Nat.mod_lt _ (by omega)
 rw[Array.getElem?_map,Array.getElem?_range];simp only[hj,bB,b7,hs];rw[<- hv,cC,getElem!_pos v.cells _ hlt,gY hlt]
theorem Cs.repl {φ:PM} {O:Nat->Prop} {w:World} {v:Value} {z:List Value} (hv:v.cells.toList=z) (n sz:Nat) (hl:z.length=sz) (hsz:sz≠0) (hc:mc z=ah):
 Cs φ O w ((repl z n).map .f) ((xg (n*sz)).map (λi=>v.cells[i%v.cells.size]!)).toList:=by
 have key:∀ (j:Nat) (x:AV),((AI.repl z n).map AV.f)[j]? =aa x->∃ u,z[j%sz]? =aa u/\x=raw u/\j<n*sz:=by
  intro j x I;rw[a8] at I;have hj:j<n*z.length:=by
   rcases bW j (n*z.length) with h|h
   .exact h
   .rw[bM (by rw[mh];exact h)] at I;cases I
  rw[Bn z n j hj,hl] at I;cases hu:z[j%sz]? with
  |none=>rw[hu] at I;cases I
  |some u=>rw[hu] at I;simp at I;exact⟨u,rfl,I.symm,by rw[<- hl];exact hj⟩
 refine ⟨by simp[mh,hl],λx I=>?_,λj x u I hu=>?_⟩
 .obtain⟨j,hj⟩:=eO I;obtain⟨u,h1,rfl,_⟩:=key j x hj;exact fY.1 hc u (aZ h1)
 .obtain⟨J,h1,rfl,hj⟩:=key j x I;rw[cC,U8 hv n sz hl hsz j hj,h1] at hu;cases hu;exact .f (.raw _)
theorem ahj {t el:TypeId} {n sz:Nat} {ps:Array (Nat×Operand)} {z:List Value} {ps':List (Nat×Nat×Operand)} (Y:o.op= .buildSlice t n ps) (hu:P.underlying t=aa (.slice el)) (hz:rQ P el=aa z) (hs:eX P el=aa sz) (hc:mc z=ah) (hl:z.length=sz) (hsz:sz≠0) (hb:n*sz<=65536)
 (hps:vR P t ps.toList=aa ps') (I:eC (.bsl el sz n z ps') e h nx=aa R):gB P o e.get h.get R.eff:=by
 simp only[eC] at I;split at I
 .rename_i cs hf;simp only[aj] at I;subst I;refine gB.makes λφ E h' w a _ hp _=>?_
  obtain⟨v,h1,h2,_⟩:=su hz w;obtain⟨g1,g2⟩:=C3 ps.toList ps' hps;have hops:∀ p∈ps.toList,p.2∈o.op.operands:=λp hp=>by
   rw[Y];simp only[Op.operands,List.mem_toArray,c9];exact⟨p,hp,rfl⟩
  have hmap:(ps.map λx:Nat×Operand=>(x.1,a.eval x.2)).toList=ps.toList.map λp=>(p.1,a.eval p.2):=by simp
  obtain⟨vs',k1,k2⟩:=MD (place:=λi=>aa (i*sz,sz)) hp ps.toList ps' _ cs _ g1 (λj i x hj=>by
   obtain⟨of,s',Z,J⟩:=g2 j i x hj;unfold Ae at J;rw[hu] at J;simp[hs] at J;obtain⟨rfl,rfl⟩:=J;exact⟨_,_,Z,rfl⟩) hops (Cs.repl h2 n sz hl hsz hc) hf
  have hcells:(xg (n*sz)).map ((if n*sz=0 then #[] else v.cells)[·%(if n*sz=0 then #[] else v.cells).size]!)=((xg (n*sz)).map (λi=>v.cells[i%v.cells.size]!)).toList.toArray:=by
   by_cases h0:n*sz=0
   .simp[h0]
   .rw[Array.toArray_toList];simp only[aC h0]
  have hlen:vs'.length=n*sz:=by
   have e1:=k2.1;have e2:cs.length=((AI.repl z n).map AV.f).length:=by
    have:∀ (ps':List (Nat×Nat×Operand)) (U M:List AV),xR U e ps'=aa M->M.length=U.length:=by
     intro ps';induction ps' with
     |nil=>intro U M h;simp only[xR,aj] at h;rw[h]
     |cons p ps' ih=>
      intro U M h;obtain⟨of,s',x⟩:=p;simp only[xR] at h;split at h
      .split at h
       .rename_i hcc;simp only[au,cN] at hcc;rw[ih _ _ h,nQ (by rw[hcc.1.1];exact aY hcc.1.2)]
       .cases h
      .cases h
    exact this ps' _ _ hf
   rw[e1,e2];simp[mh,hl]
  refine ⟨.slice (aa ⟨w.heap.size,0,af⟩) n n,{w with heap:=w.heap.push (.cells vs'.toArray el)},.cells vs'.toArray el (0,0),?_,qg w _,GW k2,λφ' O hφ=>?_⟩
  .have h3:=gg hs w;have hk:Instr.fill (λi=>aa (i*sz,sz)) ((xg (n*sz)).map ((if n*sz=0 then #[] else v.cells)[·%(if n*sz=0 then #[] else v.cells).size]!)) (ps.map λx:Nat×Operand=>(x.1,a.eval x.2)).toList=aa vs'.toArray:=by
    rw[hcells,hmap];exact k1
   unfold execOp;rw[Y];simp only[Instr.buildSlice,eh,run_underlying hu,cD,h3];rw[aC (by omega)];by_cases h0:n*sz=0
   .simp only[aJ h0] at hk ⊢;simp only[eh,og,cD,hk,newRow,newObj,mU]
   .simp only[aC h0] at hk ⊢;simp only[eh,og,cD,h1,hk,newRow,newObj,mU]
  .simp only[];split
   .rename_i h0;subst h0;exact .emp
   refine .row hφ (bQ _) ?_ ⟨el,?_⟩
   .have:n<=n*sz:=Nat.le_mul_of_pos_right _ (by omega);unfold maxLen;omega
   .unfold qJ;simp[hlen]
 .cases I
end
theorem qd.wren {φ:PM} {E:Nat->Prop} {h:HF} {w w':World} (r:qd φ E h w) {id nx k:Nat} {b b':vH} {ob:Obj} (hb:h id=aa b) (hk:φ id=aa k) (hnx:φ nx=af) (U:DW w w' k ob) (hob:ja φ (tot E φ h) w b' ob) (nw:HF) (hnw:nw nx=aa b') (hnid:nw id=af):
 ∃ φ',φ' nx=aa k/\iJ φ φ' h (eE h [nx,id] nw) w w'/\(∀ i k,φ' i=aa k->φ i=aa k\/i∈[nx])/\qd φ' E (eE h [nx,id] nw) w':=by
 have hne:nx≠id:=λe=>by rw[e,hk] at hnx;cases hnx
 have hsub:∀ i x,eE h [nx,id] nw i=aa x->i≠nx->h i=aa x/\i≠id:=λi x Y hi=>by
  unfold eE at Y;by_cases hd:i=id
  .subst hd;simp[hnid] at Y
  .simp[hi,hd] at Y;exact⟨Y,hd⟩
 have hφ:∀ i,i≠nx->(if i=nx then aa k else φ i)=φ i:=λi hi=>by simp[hi]
 have m:iJ φ (λi=>if i=nx then aa k else φ i) h (eE h [nx,id] nw) w w':=by
  refine ⟨λi k' M=>?_,⟨U.os,U.tape,U.output,by rw[U.size];exact bQ _,λj hj ho=>?_,λj _=>U.shp j⟩,?_⟩
  .have:i≠nx:=λe=>by rw[e,hnx] at M;cases M
   rw[hφ i this];exact M
  .exact U.other j (λe=>ho (e▸⟨id,b,hb,hk⟩))
  .rintro j hj ⟨i,x,h1,h2⟩;by_cases hi:i=nx
   .simp[hi] at h2;subst h2;exact⟨id,b,hb,hk⟩
   .have Z:φ i=aa j:=by simpa[hi] using h2
    exact⟨i,x,(hsub i x h1 hi).1,Z⟩
 refine ⟨_,by simp,m,λi k' M=>?_,⟨λi j x y kk hi hj h1 h2=>?_,λi x hi=>?_,λk hk=>dj (r.el k hk) m.ext.size,λg cells hg=>m.keepF (r.gl g cells hg)⟩⟩
 .by_cases hi:i=nx
  .right;simp[hi]
  .left;rw[hφ i hi] at M;exact M
 .by_cases I:i=nx
  .by_cases J:j=nx
   .rw[I,J]
   .exfalso;rw[hφ j J] at h2;simp[I] at h1;subst h1;obtain⟨q1,q2⟩:=hsub j y hj J;exact q2 (r.inj j id y b k q1 hb h2 hk)
  .rw[hφ i I] at h1;obtain⟨p1,p2⟩:=hsub i x hi I;by_cases J:j=nx
   .exfalso;simp[J] at h2;subst h2;exact p2 (r.inj i id x b k p1 hb h1 hk)
   .rw[hφ j J] at h2;exact r.inj i j x y kk p1 (hsub j y hj J).1 h1 h2
 .by_cases I:i=nx
  .subst I;have:x=b':=by unfold eE at hi;simp[hnw] at hi;exact hi.symm
   subst this;obtain⟨k',h1,h2,_⟩:=r.at_ id b hb;rw[hk] at h1;cases h1;exact⟨k,by simp,h2,ob,U.at_,hob.mono λ_ _ h=>m.keep h⟩
  .obtain⟨p1,p2⟩:=hsub i x hi I;obtain⟨k',h1,h2,ob',Z,h4⟩:=r.at_ i x p1;have hne':k'≠k:=λe=>p2 (r.inj i id x b k p1 hb (e▸h1) hk)
   exact⟨k',by rw[hφ i I];exact h1,h2,ob',by rw[U.other k' hne'];exact Z,h4.mono λ_ _ h=>m.keep h⟩
theorem qd.cs {φ:PM} {E:Nat->Prop} {h':HF} {w:World} (hrep:qd φ E h' w) {id k:Nat} {b:vH} (hb:h' id=aa b) (hk:φ id=aa k) (hc:b.c.isCells=ah):
 ∃ arr,w.heap[k]? =aa (.cells arr b.ty (0,0))/\Cs φ (tot E φ h') w b.c.toMx (arr.toList.take b.c.toMx.length)/\b.c.toMx.length<=arr.size:=by
 obtain⟨k',h1,_,h2⟩:=hrep.at_ id b hb;rw[hk] at h1;cases h1;obtain⟨arr,Z,M,J⟩:=h2.cells hc;rw[BC.len_toMx hc] at M;refine ⟨arr,Z,⟨by simp;omega,λx I=>?_,λj x v I hv=>?_⟩,M⟩
 .obtain⟨j,hj⟩:=eO I;exact (J j x (by rw[BC.get_toMx hc];exact hj)).1
 .obtain⟨_,u,Y,U⟩:=J j x (by rw[BC.get_toMx hc];exact I);rw[cH] at hv;split at hv
  .rw[cC,Y] at hv;cases hv;exact U
  .cases hv
section
variable {P:Program} {o:Oper} {e:yq} {h:nA} {nx:Nat} {R:AS}
theorem Ly {t:TypeId} {b:Nat} (hb:DQ P t=aa b):∃ i,P.info? t=aa i/\i.bytes=b:=by
 unfold DQ at hb;cases hi:P.info? t with
 |none=>rw[hi] at hb;cases hb
 |some i=>rw[hi] at hb;simp at hb;exact⟨i,rfl,hb⟩
theorem Gy {n b:Nat} (h:a_ n b=ah):n<=1099511627776/\n*b<=1099511627776:=by
 simp only[a_,au] at h;exact⟨aY h.1,aY h.2⟩
theorem Xe {n:Int} (h1: -9223372036854775808<=n) (h2:n<=9223372036854775807):ol .i64 n=n:=by
 rw[<- xo];have:(cR (-9223372036854775808) n&&cR n 9223372036854775807)=ah:=by simp[cR,h1,h2]
 simp only[FX,Kz,this,bB]
theorem aea {t el:TypeId} {sz bytes:Nat} {z:List Value} {l c:Operand} (ho:o.op= .makeSlice t l c) (hu:P.underlying t=aa (.slice el)) (hz:rQ P el=aa z) (hs:eX P el=aa sz) (hb:DQ P el=aa bytes) (hc:mc z=ah) (hl:z.length=sz) (hsz:sz≠0)
 (J:eC (.mksl el sz bytes z l c) e h nx=aa R):gB P o e.get h.get R.eff:=by
 simp only[eC] at J;split at J
 .rename_i k1 n k2 m I hy;split at J
  .rename_i hcd;simp only[cR,au,bP] at hcd;obtain⟨⟨h0,h1⟩,h2⟩:=hcd;obtain⟨r1,r2⟩:=Gy h2;simp only[aj] at J;subst J;refine gB.makes λφ E h' w a _ hp _=>?_
   have e1:=e9 (hp l _ (by rw[ho];simp[Op.operands]) I);have e2:=e9 (hp c _ (by rw[ho];simp[Op.operands]) hy);obtain⟨v,z1,z2,_⟩:=su hz w;obtain⟨i,i1,i2⟩:=Ly hb;have s1:=gg hs w;have w1:ol .i64 n=n:=Xe (by omega) (by omega);have w2:ol .i64 m=m:=Xe (by omega) (by omega);have hbm:(bytes:Int)*m=((m.toNat*bytes:Nat):Int):=by
    rw[Int.natCast_mul,Fg (by omega),Int.mul_comm]
   have t1:¬(m<0\/(281474976710656:Int)<bytes*m):=by rw[hbm];omega
   have hr:¬(m.toNat*bytes>roomBytes):=by unfold roomBytes;omega
   have hn0:m.toNat*sz=0->m.toNat=0:=λh=>(Nat.mul_eq_zero.1 h).resolve_right hsz
   let cells:Array Value:=(xg (m.toNat*sz)).map (λi=>v.cells[i%v.cells.size]!)
   refine ⟨.slice (aa ⟨w.heap.size,0,af⟩) n.toNat m.toNat,{w with heap:=w.heap.push (.cells cells el)},.cells cells el (0,0),?_,qg w _,?_,λφ' O hφ=>?_⟩
   .unfold execOp;rw[ho];by_cases U:m.toNat*sz=0
    .obtain rfl:m=0:=by have:=hn0 U;omega
     obtain rfl:n=0:=by omega
     simp[Instr.makeSlice,run_underlying hu,e1,e2,asInt,asIntOf,typeInfo,i1,w1,askRoom,s1,newRow,newObj,mU,cells];rw[show xg 0=#[] from rfl];simp
    .simp[Instr.makeSlice,run_underlying hu,e1,e2,asInt,asIntOf,typeInfo,i1,i2,w1,w2,t1,show ¬n<0 by omega,show ¬m<n by omega,askRoom,hr,s1,U,z1,newRow,newObj,mU,cells]
   .have cs:=Cs.repl (φ:=φ) (O:=tot E φ h') (w:=w) z2 m.toNat sz hl hsz hc;have hle:n.toNat<=m.toNat:=by omega
    have hlen:n.toNat*sz<=m.toNat*sz:=cA _ hle;refine pn rfl (by simp[BC.toMx,mh,hl,cells];exact hlen) λj x I=>?_
    simp only[BC.toMx,a8] at I;have hj:j<n.toNat*z.length:=by
     rcases bW j (n.toNat*z.length) with h|h
     .exact h
     .rw[bM (by rw[mh];exact h)] at I;cases I
    have Z:j<m.toNat*z.length:=by rw[hl] at hj ⊢;omega
    rw[Bn z _ j hj,<-Bn z m.toNat j Z] at I;have M:((repl z m.toNat).map AV.f)[j]? =aa x:=by rw[a8];exact I
    have Y:j<cells.toList.length:=by simp[cells];rw[<- hl];exact Z
    exact⟨cs.2.1 x (aZ M),cells.toList[j],by rw[<- cC];exact ay Y,cs.2.2 j x _ M (ay Y)⟩
   .refine .row hφ (by omega) (by unfold maxLen;omega) ⟨el,?_⟩;unfold qJ;simp[cells]
  .cases J
 .cases J
theorem ab7 {t:TypeId} {x y:Operand} {sz:Nat} (Y:o.op= .store t x y) (hs:eX P t=aa sz) (I:eC (.store sz x y) e h nx=aa R):gB P o e.get h.get R.eff:=by
 simp only[eC] at I;split at I
 .rename_i p v hx hy;unfold I3 at I;split at I
  .rename_i id off;split at I
   .rename_i b hb;split at I
    .rename_i hl;split at I
     .rename_i c' hput;simp only[aj] at I;subst I;unfold BC.put at hput;split at hput
      .rename_i hcc;simp only[au] at hcc;obtain⟨⟨c1,c2⟩,c3⟩:=hcc;have c2:=aY c2;have hl:v.cs.length=sz:=by simpa using hl
       have J:c'.toMx=splice b.c.toMx off v.cs/\c'.isCells=ah:=by
        split at hput
        .rename_i l ys hbl hys;simp only[aj] at hput;subst hput;refine ⟨?_,rfl⟩;have hv:=o9 hys;rw[hv,hbl];simp only[BC.toMx];unfold splice;simp[kg,List.map_drop]
        .simp only[aj] at hput;subst hput;exact⟨rfl,rfl⟩
       refine gB.writes hb λφ E h' w a hrd Z hp hrep=>?_
       have hr:=Sh (hp y _ (by rw[Y];simp[Op.operands]) hy) c3;have hpx:=hp x _ (by rw[Y];simp[Op.operands]) hx;generalize hz:a.eval x=pv at hpx;cases hpx with
       |@ptr _ _ k hφ=>
        obtain⟨arr,g1,g2,g3⟩:=hrep.cs Z hφ c1;have hvl:(a.eval y).cells.toList.length=sz:=by rw[hr.1];exact hl
        rw[BC.len_toMx c1] at c2;have hst:=run_storeCells_at (P:=P) k off b.ty (a.eval y).cells.toList 0 arr w g1 (by rw[hvl];omega) hr.one
        let arr':Array Value:=(arr.toList.take off++(a.eval y).cells.toList++arr.toList.drop (off+sz)).toArray
        have hsize:arr'.size=arr.size:=by simp only[arr',rX,bn,bC,md,ib,hvl];omega
        refine ⟨.skip,w.setRow k arr',k,.cells arr' b.ty (0,0),?_,hφ,DW.setRow g1 hsize,?_,undef,.inr ⟨rfl,rfl⟩,.f (.raw _)⟩
        .have s1:=gg hs w;have hvs:(a.eval y).cells.size=sz:=by simpa using hvl
         simp only[c8,hvl] at hst;unfold execOp;rw[Y];simp[Instr.storeAt,hz,Instr.sureAddr,storeVar,s1,hvs,hst,arr']
        .refine pn J.2 (by rw[J.1,nQ (by omega),hsize];exact g3) λj q hq=>?_
         rw[J.1,mf (by omega)] at hq;have ha':arr'[j]? =if j<off then arr.toList[j]? else if j<off+sz then (a.eval y).cells.toList[j-off]? else arr.toList[j]? :=by
          have:=mf (l:=arr.toList) (vs:=(a.eval y).cells.toList) (off:=off) (by have:=hvl;simp only[ib] at this ⊢;omega) j;unfold splice at this;rw[hvl] at this;simp only[arr',jU];exact this
         have old:b.c.toMx[j]? =aa q->q.isCell=ah/\∃ u,arr.toList[j]? =aa u/\cG φ (tot E φ h') w q u:=λhq=>by
          have hj:j<b.c.toMx.length:=(be.1 hq).1;have U:j<arr.toList.length:=by simp;omega
          refine ⟨g2.2.1 q (aZ hq),arr.toList[j],ay U,g2.2.2 j q _ hq ?_⟩;rw[cH,aJ hj,ay U]
         rw[ha'];by_cases h1:j<off
         .rw[aJ h1] at hq ⊢;exact old hq
         .rw[aC h1] at hq ⊢;by_cases h2:j<off+sz
          .rw[aJ (by omega)] at hq;rw[aJ h2];have M:j-off<(a.eval y).cells.toList.length:=by omega
           exact⟨hr.2.1 q (aZ hq),_,ay M,hr.2.2 _ q _ hq (ay M)⟩
          .rw[aC (by omega)] at hq;rw[aC h2];exact old hq
      .cases hput
     .cases I
    .cases I
   .cases I
  .cases I
 .cases I
end
end
end Go.Proofs.YthehadcddfilhaaGreatDoor.AI
