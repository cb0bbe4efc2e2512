/-
  Texts of the proof, part 5 of 6: what is used to prove the statement. No condition.
-/
import Derived.Test.YtpjhicegjenpeaaGreatDoorWeakMoreQ3
import Derived.Deep.Slices
import Derived.OpenShut
import Derived.Below
namespace Go.Proofs.YtpjhicegjenpeaaGreatDoor.AI
open Go.RowKit
set_option maxRecDepth 100000
set_option maxHeartbeats 4000000
set_option linter.unusedVariables false
set_option linter.unusedSimpArgs false
set_option linter.defProp false
open _root_.Bool renaming true→J,false→af,false_or→FH
open _root_.Int renaming ofNat_eq_natCast→ay,toNat→aN,ofNat→aQ,toNat_natCast→bh,reduceEq→bI,le_trans→xv,natCast_zero→FC
open _root_.List renaming length→l!,length→aj,replicate→aC,length_singleton→cq,take→dx,range→eA,map→gM,cons_append→gR,length_cons→kn,nil_append→lq,getElem?_concat_length→n_,length_nil→pK,drop_eq_getElem_cons→Q1
open _root_.Nat renaming beq→ax,add_zero→dK,blt→eE,le_succ→Sm
open _root_.Option renaming some→Z,none→U,map_some→bi,getD_some→sH
open _root_.Prod renaming a→bf,b→bw,c→bH,d→cE,e→c8,f→dJ,h→dQ,g→eD,i→gf,n→hY,k→hZ,j→iK,o→iR,m→ji,l→kl,ext→sG,r→vu,q→wW,p→xm,y→HX,s→Pu
open _root_.Sum renaming inr→b7,inl→oU
open Value renaming okWide→Lz
open World renaming cell?→Sk
noncomputable section
section
def NE (op:Int):Prop:=op=1\/op=2\/op=3\/op=14
def ZE (e:Xp):Prop:=GE 4 e\/e= .mk 0 0 [] []
structure NO (nT:Nat) (s:Sx):Prop where
 o0:1<=s.op
 o1:s.op<=15
 vr:s.op=1->s.index=[]->s.name∈NV
 lk:s.op=4->s.name=[109]\/s.name=[110]
 rw:s.op=5\/s.op=6->s.name=[114]
 cn:s.op=9\/s.op=10\/s.op=11->s.name=[99]
 sp:s.op=12\/s.op=13->s.name∈Ah.take nT
 se:s.op=14->s.name=[102]
 ge:s.op=15->s.name=[97]/\s.arg=[102]
 el:¬s.op=2->s.els=[]
 bo:s.op=1\/9<=s.op->s.body=[]
variable {nT:Nat}
def GS (nT:Nat):Nat->Sx->Prop
 |0,_=>False
 |d+1,s=>(s.index≠[]->s.name=[113])/\l! s.index<=1/\(∀e∈s.index,GE 4 e)/\(NE s.op->GE 4 s.expr)/\ZE s.expr/\l! s.body<=8/\l! s.els<=8/\(∀x∈s.body,GS nT d x)/\(∀x∈s.els,GS nT d x)/\NO nT s
def GS.mono:∀{d:Nat} {s:Sx},GS nT d s->GS nT (d+1) s
 |0,_,h=>h.elim
 |_+1,_,⟨a,b,c,e,f,g,i,j,k,l⟩=>⟨a,b,c,e,f,g,i,λx z=>(j x z).mono,λx z=>(k x z).mono,l⟩
variable {i j:Nat}
def GS.le {s:Sx} (h:GS nT i s) (A:i<=j):GS nT j s:=by
 induction A with
 |refl=>exact h
 |step _ z=>exact z.mono
def NO.asg {s a:ζ} {e:Xp} {i:Y Xp} (z:i=[]->s∈NV):NO nT (.mk 1 0 s a i e [] []):=by
 constructor<;>simp[Sx.op,Sx.name,Sx.index,Sx.els,Sx.body];exact λh=>by simpa using z h
def GS.asg {s:ζ} (A:s∈NV) {e:Xp} (h:GE 4 e):GS nT (i+1) (.mk 1 0 s [] [] e [] []):=
 ⟨λh=>(h rfl).elim,by simp[Sx.index],λe he=>(by cases he),λ_=>h,.inl h,by simp[Sx.body],by simp[Sx.els],λx z=>(by cases z),λx z=>(by cases z),NO.asg λ_=>A⟩
def GS.aix {d e:Xp} (hi:GE 4 d) (h:GE 4 e):GS nT (i+1) (.mk 1 0 [113] [] [d] e [] []):=
 ⟨λ_=>rfl,by simp[Sx.index],λe he=>(by simp[Sx.index,aE]at he;rw[he];exact hi),λ_=>h,.inl h,by simp[Sx.body],by simp[Sx.els],λx z=>(by cases z),λx z=>(by cases z),NO.asg nofun⟩
def GS.we {op:Int} {s a:ζ} {e:Xp} {b l:Y Sx} (h:GE 4 e) (D:l! b<=8) (A:l! l<=8) (gb:∀x∈b,GS nT i x) (L:∀x∈l,GS nT i x) (z:NO nT (.mk op 0 s a [] e b l)):GS nT (i+1) (.mk op 0 s a [] e b l):=
 ⟨λh=>(h rfl).elim,by simp[Sx.index],λe he=>(by cases he),λ_=>h,.inl h,D,A,gb,L,z⟩
variable {a:Int}
def GS.wo {op:Int} {s z:ζ} {b:Y Sx} (ho:4<=op/\op≠14) (L:l! b<=8) (gb:∀x∈b,GS nT i x) (D:NO nT (.mk op a s z [] (.mk 0 0 [] []) b [])):GS nT (i+1) (.mk op a s z [] (.mk 0 0 [] []) b []):=
 ⟨λh=>(h rfl).elim,by simp[Sx.index],λe he=>(by cases he),λh=>(by have h:op=1\/op=2\/op=3\/op=14:=h;omega),.inr rfl,L,by simp[Sx.els],gb,λx A=>(by cases A),D⟩
def QS (nT:Nat) (d:Nat) (n:Int) (t:UH) (h:HD) (y:MK×UH×HD×Y Sx):Prop:=(l! y.2.2.2:Int)<=max 0 n/\(∀s∈y.2.2.2,GS nT (d+1) s)/\xh t y.2.1/\y.2.2.1.2=h.2
abbrev E?:=MK×UH×HD
def QT (nT:Nat) (d:Nat) (t:UH) (h:HD) (y:Sx×E?):Prop:=GS nT (d+1) y.1/\xh t y.2.2.1/\y.2.2.2.2=h.2
def QB (nT:Nat) (d:Nat) (t:UH) (h:HD) (y:Y Sx×E?):Prop:=l! y.1<=2/\(∀s∈y.1,GS nT (d+1) s)/\xh t y.2.2.1/\y.2.2.2.2=h.2
abbrev RS:Type:=(ν×E?)->M (MK×UH×HD×Y Sx)
abbrev RT:Type:=(Int×E?)->M (Sx×E?)
abbrev RBk:Type:=((ζ×Int)×E?)->M (Y Sx×E?)
def SpS (nT:Nat) (z:RS) (d:Nat):Prop:=∀(n:Int) (m:MK) (t:UH) (h:HD),n<=3->TP t->l! h.2+d<=100->Ok (z (((d:Int),n),m,t,h)) (QS nT d n t h)
def SpT (nT:Nat) (z:RT) (d:Nat):Prop:=∀(m:MK) (t:UH) (h:HD),TP t->l! h.2+d<=100->Ok (z ((d:Int),m,t,h)) (QT nT d t h)
def SpB (nT:Nat) (z:RBk) (d:Nat):Prop:=∀(s:ζ) (m:MK) (t:UH) (h:HD),TP t->l! h.2+1+d<=100->Ok (z ((s,(d:Int)),m,t,h)) (QB nT d t h)
def afn (rs:RS) (L:RT) (rb:RBk) (d:Nat) (ht:SpT nT L d):SpS nT (og rs L rb) d:=by
 intro n m t h hn hp hh;unfold og bf bw bH c8 eD dQ bn bU bR c7 aH cV eS;refine rI (λx=>(n-x.1).toNat) (λx=>0<=x.1/\(x.1<=n\/x.1=0)/\xh t x.2.2.1/\(l! x.2.2.2.1:Int)<=x.1/\(∀s∈x.2.2.2.1,GS nT (d+1) s)/\x.2.2.2.2.2=h.2) ?_ ⟨dC _,.inr rfl,xh.refl hp,by simp,λs hs=>(by cases hs),rfl⟩;rintro⟨(i:Int),m',D,l,h'⟩ ⟨i0,i1,z,e2,e3,A⟩;dsimp only at i0 i1 z e2 e3 A;refine aX (λx=>x.2=(m',D,l,h')/\(x.1=J->i<n)) ?_ ?_
 .refine bQ (λg=>aK (λ_=>ak ⟨rfl,λ_=>g⟩) λ_=>ak ⟨rfl,λ_=>g⟩) λ_=>ak ⟨rfl,nofun⟩
 rintro⟨b,x⟩ ⟨f1,f2⟩;subst f1;refine aP (λhb=>?_) λ_=>ak ⟨by dsimp only;omega,e3,z,A⟩
 have g:=f2 hb;refine aA (ht m' D h' z.p (by grind)) λy hy=>?_
 let⟨s,m2,t2,h2⟩:=y;let⟨k1,k2,k3⟩:=hy;refine bt (by simp) (bN (by grind) (by omega) (ak ?_));rw[gp,Cc,jA (n:=i+1) (by omega) (by omega)];refine ⟨⟨by omega,by omega,z.trans k2,by simp;omega,λx hx=>?_,k3.trans A⟩,by omega⟩
 grind
def afq (D:RS) (rt:RT) (rb:RBk) (d:Nat) (hs:SpS nT D d):SpB nT (oh D rt rb) d:=by
 intro s m t h hp hh;unfold oh bf bw c8 eD bR aZ;refine bN (by grind) (by omega) ?_;refine aA (gP 2 t hp) λy z=>?_
 let⟨k,L⟩:=y;let⟨A,u2,u3,_⟩:=z;have ew:bl .i64 (1+k)=1+k:=jA;rw[ew];refine aA (hs (1+k) m L (h.1,h.2++[s]) (by omega) A.p (by grind)) λy z=>?_
 let⟨m2,t2,h2,l⟩:=y;let⟨k1,k2,k3,k4⟩:=z;dsimp only at k1 k2 k3 k4;refine bt (by simp) ?_;rw[k4];have el:bl .i64 ((aQ (l! (h.2++[s])))-1)=(l! h.2:Int):=by
  rw[bz,cq,jA (by simp) (by grind)];simp<;>omega
 refine cR (a? (Dl (by grind) (ak ?_)));refine ⟨by dsimp only;omega,k2,A.trans k3,?_⟩;simp_all
def GF (s:ζ) (m:MK) (t:UH) (h:HD) (hh:l! h.2<=100):Ok (fh (s,m,t,h)) λy=>y.2=(m,t,h):=by
 unfold fh eD;exact aA (BS h.2 s (by omega)) λy _=>ak rfl
def akh (rs:RS) (rt:RT) (rb:RBk) (d:Nat) (hd:d<=5) (h0:1<=d->SpS nT rs 0) (hS:1<=d->SpS nT rs (d-1)) (hB:1<=d->SpB nT rb (d-1)):SpT nT (pf rs rt rb) d:=by
 intro m t h hp hh;unfold pf bf bw bH c8 eD dQ bn bU bR kK aH eS;refine aA (gP 18 t hp) λy D=>?_
 let⟨k,t1⟩:=y;let⟨L,k0,k1,_⟩:=D;have k1:=k1 (by decide);dsimp only at L k0 k1;have hE:∀(j:Nat) (m':MK) (t':UH) (h':HD),j<=1->TP t'->Ok (fJ ((j:Int),m',t',h')) λy=>GE 4 y.1/\y.2.1=m'/\xh t' y.2.2.1/\y.2.2.2=h':=λj m' t' h' hj ht'=>(aji j (by omega) m' t' h' ht').mono λy D=>⟨D.1.le (by omega),D.2⟩
 have ed:bl .i64 ((d:Int)-1)=(d:Int)-1:=jA;have ed1:1<=d->(d:Int)-1=((d-1:Nat):Int):=λ_=>by omega
 refine aX (λx=>x.2=((m.1,bl .i64 (m.2.1-1),m.2.2),t1,(0,0,[],[],0,0,[]),h)/\(x.1=J->1<=d)) ?_ ?_
 .refine bQ (λg=>aT (bQ (λ_=>ak ⟨rfl,λ_=>?_⟩) λ_=>ak ⟨rfl,nofun⟩)) λ_=>ak ⟨rfl,nofun⟩
  dsimp only at g;omega
 generalize ((m.1,bl .i64 (m.2.1-1),m.2.2):MK)=m0;rintro⟨nest,x⟩ ⟨e,hn⟩;dsimp only at e hn;subst e;refine bQ (λ_=>?_) λg4=>?_
 .refine aO k0 (by dsimp only[aj];omega) (aO k0 (by dsimp only[aj];omega) (aT ?_));refine aA (hE 1 m0 t1 h (by omega) L.p) λy D=>?_
  let⟨e,m2,t2,h2⟩:=y;let⟨v1,v2,v3,v4⟩:=D;dsimp only at v1 v2 v3 v4;subst v2 v4;refine bt (by simp) (bc (vS _ _) (ak ?_));dsimp only;rw[gp,Cc];have hnv:∀z∈([[120],[121],[120],[118]]:Y ζ),z∈NV:=by decide
  exact⟨GS.asg (hnv _ (bP (T:=.str) k0 (by dsimp only[aj];omega))) v1,L.trans v3,rfl⟩
 dsimp only at g4;refine aK (λ_=>?_) λg5=>?_
 .refine aA (gP 2 t1 L.p) λy D=>?_
  let⟨u1,u2,u3,_⟩:=D;have u3:=u3 (by decide);refine aO u2 u3 (aO u2 u3 (aT ?_));refine aA (hE 1 m0 y.2 h (by omega) u1.p) λz hz=>?_
  let⟨e,m2,t2,h2⟩:=z;let⟨v1,v2,v3,v4⟩:=hz;dsimp only at v1 v2 v3 v4;subst v2 v4;refine bt (by simp) (bc (vS _ _) (ak ?_));dsimp only;rw[gp,Cc];have hnv:∀z∈([[97],[98]]:Y ζ),z∈NV:=by decide
  exact⟨GS.asg (hnv _ (bP (T:=.str) u2 u3)) v1,L.trans (u1.trans v3),rfl⟩
 dsimp only at g5;refine aK (λ_=>?_) λg6=>?_
 .refine aA (hE 0 m0 t1 h (by omega) L.p) λz hz=>?_
  let⟨e,m2,t2,h2⟩:=z;let⟨v1,v2,v3,v4⟩:=hz;dsimp only at v1 v2 v3 v4;subst v2 v4;refine bt (by simp) ?_;refine aA (hE 1 m2 t2 h2 (by omega) v3.p) λz hz=>?_
  let⟨e',m3,t3,h3⟩:=z;let⟨w1,w2,w3,w4⟩:=hz;dsimp only at w1 w2 w3 w4;subst w2 w4;refine bt (by simp) (ak ?_);dsimp only;rw[gp,gp];exact⟨GS.aix v1 w1,L.trans (v3.trans w3),rfl⟩
 dsimp only at g6;have hz:∀(c:Prop),c->c:=λ_ h=>h
 have dd:1<=d->d-1+1=d:=λ_=>by omega
 have w8:8<=k->bl .i64 (k-8)=k-8:=λ_=>jA
 refine aX (λx=>x.2=(m0,t1,(0,0,[],[],0,0,[]),h)/\(x.1=J->1<=d)) ?_ ?_
 .refine aK (λ_=>ak ⟨rfl,λg=>?_⟩) λ_=>ak ⟨rfl,nofun⟩
  dsimp only at g;rw[r8]at g;omega
 rintro⟨b,x⟩ ⟨e,hb⟩;dsimp only at e hb;subst e;refine aP (λA=>?_) λ_=>?_
 .have d1:=hb A;refine aA (hE 1 m0 t1 h (by omega) L.p) λz hz=>?_
  let⟨e,m2,t2,h2⟩:=z;let⟨v1,v2,v3,v4⟩:=hz;dsimp only at v1 v2 v3 v4;subst v2 v4;refine bt (by simp) ?_;dsimp only;rw[ed,ed1 d1];refine aA (hS d1 1 m2 t2 h2 (by omega) v3.p (by omega)) λz hz=>?_
  let⟨m3,t3,h3,l⟩:=z;let⟨w1,w2,w3,w4⟩:=hz;dsimp only at w1 w2 w3 w4;rw[dd d1]at w2;refine bt (by simp) ?_;refine aX (λx=>x.2.2.2.1=(2,0,[],[],e.op,e.n,e.name,e.l)/\xh t1 x.2.1/\x.2.2.2.2.1.2=h2.2/\x.2.2.2.2.2.1=l/\l! x.2.2.2.2.2.2<=8/\∀s∈x.2.2.2.2.2.2,GS nT d s) ?_ ?_
  .refine aA (gP 2 t3 w3.p) λy D=>?_
   refine aK (λ_=>?_) λ_=>ak ⟨rfl,v3.trans (w3.trans D.1),w4,rfl,by simp,λs hs=>(by cases hs)⟩
   dsimp only;refine aA (hS d1 1 m3 y.2 h3 (by omega) D.1.p (by rw[w4];omega)) λz hz=>?_
   let⟨m4,t4,h4,l2⟩:=z;let⟨x1,x2,x3,x4⟩:=hz;dsimp only at x1 x2 x3 x4;rw[dd d1]at x2;exact bt (by simp) (ak ⟨rfl,v3.trans (w3.trans (D.1.trans x3)),x4.trans w4,rfl,by dsimp only;omega,x2⟩)
  rintro⟨m5,t5,z5,e5,h5,l5,l6⟩ ⟨x1,x2,x3,x4,x5,x6⟩;dsimp only at x1 x2 x3 x4 x5 x6;subst x1 x4;refine ak ?_;dsimp only;rw[gp];exact⟨GS.we v1 (by first|omega|(dsimp only;omega)) x5 w2 x6 (by constructor<;>simp[Sx.op,Sx.name,Sx.index,Sx.arg,Sx.els,Sx.body]),L.trans x2,x3⟩
 refine aX (λx=>x.2=(m0,t1,(0,0,[],[],0,0,[]),h)/\(x.1=J->1<=d)) ?_ ?_
 .refine aK (λ_=>ak ⟨rfl,λg=>?_⟩) λ_=>ak ⟨rfl,nofun⟩
  dsimp only at g;rw[r8]at g;omega
 rintro⟨b,x⟩ ⟨e,hb⟩;dsimp only at e hb;subst e;refine aP (λA=>?_) λ_=>?_
 .have d1:=hb A;refine bc (LQ _) (bc (S7 _) (bc (Jb _ _ _) ?_));dsimp only;rw[ed,ed1 d1];refine aA (hS d1 1 _ t1 h (by omega) L.p (by omega)) λz hz=>?_
  let⟨m3,t3,h3,l⟩:=z;let⟨w1,w2,w3,w4⟩:=hz;dsimp only at w1 w2 w3 w4;rw[dd d1]at w2;refine bt (by simp) ?_;refine bc (LQ _) (bc (S7 _) (bc (Jb _ _ _) (bc (vS _ _) ?_)));refine a! (ak ?_);dsimp only;rw[gp,gp,Cc];refine ⟨GS.we (GE.bin (by omega) (GE.nm (by decide) 2) (GE.num _ 2)) (by simp;omega) (by simp) (λx hx=>?_) (λx hx=>(by cases hx)) (by constructor<;>simp[Sx.op,Sx.name,Sx.index,Sx.arg,Sx.els,Sx.body]),L.trans w3,w4⟩;rcases bO.1 hx with hx|hx
  .exact w2 x hx
  .rw[aE]at hx;subst hx;rw[<- dd d1];exact GS.asg (by decide) (GE.bin (by omega) (GE.nm (by decide) 2) (GE.num _ 2))
 refine aX (λx=>x.2=(m0,t1,(0,0,[],[],0,0,[]),h)/\(x.1=J->nest=J/\(k=8\/k=9))) ?_ ?_
 .refine aK (λg=>aP (λgn=>?_) λ_=>ak ⟨rfl,nofun⟩) λ_=>aK (λg=>aP (λgn=>?_) λ_=>ak ⟨rfl,nofun⟩) λ_=>ak ⟨rfl,nofun⟩
  all_goals
   dsimp only at g ⊢;rw[w8 (by omega)];refine aO (by omega) (by simp;omega) (aO (by omega) (by simp;omega) (aT ?_));refine aA (GF _ m0 t1 h (by omega)) λy D=>?_
   let⟨yb,y2⟩:=y;dsimp only at D;subst D;exact bt (by simp) (ak ⟨rfl,λ_=>⟨gn,by omega⟩⟩)
 rintro⟨b,x⟩ ⟨e,hb⟩;dsimp only at e hb;subst e;refine aP (λA=>?_) λ_=>?_
 .obtain⟨q1,q2⟩:=hb A;have d1:=hn q1;have hnm:geti (.str) [[109],[110]] (k-8)=[109]\/geti (.str) [[109],[110]] (k-8)=[110]:=by rcases q2 with rfl|rfl<;>simp[geti]
  dsimp only;rw[w8 (by omega),ed,ed1 d1];refine aO (by omega) (by simp;omega) (aO (by omega) (by simp;omega) (aT ?_));refine aA (hB d1 _ m0 t1 h L.p (by omega)) λz hz=>?_
  let⟨l,m3,t3,h3⟩:=z;let⟨w1,w2,w3,w4⟩:=hz;dsimp only at w1 w2 w3 w4;rw[dd d1]at w2;exact bt (by simp) (ak ⟨GS.wo (by omega) (by first|omega|(dsimp only;omega)) w2 (by constructor<;>simp[Sx.op,Sx.name,Sx.index,Sx.arg,Sx.els,Sx.body];exact hnm),L.trans w3,w4⟩)
 refine aX (λx=>x.2=(m0,t1,(0,0,[],[],0,0,[]),h)/\(x.1=J->nest=J/\(k=10\/k=11))) ?_ ?_
 .refine aK (λg=>aP (λgn=>?_) λ_=>ak ⟨rfl,nofun⟩) λ_=>aK (λg=>aP (λgn=>?_) λ_=>ak ⟨rfl,nofun⟩) λ_=>ak ⟨rfl,nofun⟩
  all_goals
   dsimp only at g ⊢;refine aA (GF _ m0 t1 h (by omega)) λy D=>?_
   let⟨yb,y2⟩:=y;dsimp only at D;subst D;exact bt (by simp) (ak ⟨rfl,λ_=>⟨gn,by omega⟩⟩)
 rintro⟨b,x⟩ ⟨e,hb⟩;dsimp only at e hb;subst e;refine aP (λA=>?_) λ_=>?_
 .obtain⟨q1,q2⟩:=hb A;have d1:=hn q1;dsimp only;rw[ed,ed1 d1,jA (n:=k-10) (by omega) (by omega),jA (n:=k-10+5) (by omega) (by omega)];refine aA (hB d1 _ m0 t1 h L.p (by omega)) λz hz=>?_
  let⟨l,m3,t3,h3⟩:=z;let⟨w1,w2,w3,w4⟩:=hz;dsimp only at w1 w2 w3 w4;rw[dd d1]at w2;exact bt (by simp) (ak ⟨GS.wo (by omega) (by first|omega|(dsimp only;omega)) w2 (by constructor<;>simp[Sx.op,Sx.name,Sx.index,Sx.arg,Sx.els,Sx.body]<;>omega),L.trans w3,w4⟩)
 refine aX (λx=>x.2=(m0,t1,(0,0,[],[],0,0,[]),h)/\(x.1=J->nest=J)) ?_ ?_
 .exact aK (λ_=>ak ⟨rfl,λg=>g⟩) λ_=>ak ⟨rfl,nofun⟩
 rintro⟨b,x⟩ ⟨e,hb⟩;dsimp only at e hb;subst e;refine aP (λA=>?_) λ_=>?_
 .have d1:=hn (hb A);refine aA (gP 2 t1 L.p) λy D=>?_
  let⟨u1,u2,u3,_⟩:=D;have u3:=u3 (by decide);dsimp only;rw[jA (n:=1+y.1) (by omega) (by omega)];refine aA (h0 d1 (1+y.1) _ y.2 h (by omega) u1.p (by omega)) λz hz=>?_
  let⟨m3,t3,h3,l⟩:=z;let⟨w1,w2,w3,w4⟩:=hz;dsimp only at w1 w2 w3 w4;exact bt (by simp) (ak ⟨GS.wo (by omega) (by first|omega|(dsimp only;omega)) (λx hx=>(w2 x hx).le (by omega)) (by constructor<;>simp[Sx.op,Sx.name,Sx.index,Sx.arg,Sx.els,Sx.body]),L.trans (u1.trans w3),w4⟩)
 refine aX (λx=>x.2=(m0,t1,(0,0,[],[],0,0,[]),h)/\(x.1=J->nest=J)) ?_ ?_
 .exact aK (λ_=>aP (λgn=>ak ⟨rfl,λ_=>gn⟩) λ_=>ak ⟨rfl,nofun⟩) λ_=>ak ⟨rfl,nofun⟩
 rintro⟨b,x⟩ ⟨e,hb⟩;dsimp only at e hb;subst e;refine aP (λA=>?_) λ_=>?_
 .have d1:=hn (hb A);dsimp only;rw[ed,ed1 d1];refine aA (hS d1 2 _ t1 h (by omega) L.p (by omega)) λz hz=>?_
  let⟨m3,t3,h3,l⟩:=z;let⟨w1,w2,w3,w4⟩:=hz;dsimp only at w1 w2 w3 w4;rw[dd d1]at w2;exact bt (by simp) (ak ⟨GS.wo (by omega) (by first|omega|(dsimp only;omega)) w2 (by constructor<;>simp[Sx.op,Sx.name,Sx.index,Sx.arg,Sx.els,Sx.body]),L.trans w3,w4⟩)
 refine aX (λx=>x.2=(m0,t1,(0,0,[],[],0,0,[]),h)/\(x.1=J->nest=J)) ?_ ?_
 .refine aK (λ_=>aP (λgn=>aP (λ_=>?_) λ_=>ak ⟨rfl,nofun⟩) λ_=>ak ⟨rfl,nofun⟩) λ_=>ak ⟨rfl,nofun⟩
  refine aA (GF _ m0 t1 h (by omega)) λy D=>?_
  let⟨yb,y2⟩:=y;dsimp only at D;subst D;exact bt (by simp) (ak ⟨rfl,λ_=>gn⟩)
 rintro⟨b,x⟩ ⟨e,hb⟩;dsimp only at e hb;subst e;refine aP (λA=>?_) λ_=>?_
 .have d1:=hn (hb A);refine bc (LQ _) (bc (vS _ _) (ak ?_));dsimp only;rw[gp,Cc];refine ⟨GS.wo (by omega) (by simp) (λx hx=>?_) (by constructor<;>simp[Sx.op,Sx.name,Sx.index,Sx.arg,Sx.els,Sx.body]),L,rfl⟩;simp only[aV,b8,fo]at hx;rw[<- dd d1];rcases hx with rfl|rfl
  .exact GS.wo (by omega) (by simp) (λx hx=>(by cases hx)) (by constructor<;>simp[Sx.op,Sx.name,Sx.index,Sx.arg,Sx.els,Sx.body])
  .exact GS.asg (by decide) (GE.nm (by decide) 3)
 refine aX (λx=>x.2=(m0,t1,(0,0,[],[],0,0,[]),h)/\(x.1=J->nest=J)) ?_ ?_
 .refine aK (λ_=>aP (λgn=>?_) λ_=>ak ⟨rfl,nofun⟩) λ_=>ak ⟨rfl,nofun⟩
  refine aA (GF _ m0 t1 h (by omega)) λy D=>?_
  let⟨yb,y2⟩:=y;dsimp only at D;subst D;exact bt (by simp) (ak ⟨rfl,λ_=>gn⟩)
 rintro⟨b,x⟩ ⟨e,hb⟩;dsimp only at e hb;subst e;refine aP (λA=>?_) λ_=>?_
 .have d1:=hn (hb A);refine aA (gP 2 t1 L.p) λy D=>ak ?_
  let⟨u1,u2,u3,_⟩:=D;have u3:=u3 (by decide);dsimp only;rw[jA (n:=10+y.1) (by omega) (by omega)];refine ⟨GS.wo (by omega) (by simp) (λx hx=>?_) (by constructor<;>simp[Sx.op,Sx.name,Sx.index,Sx.arg,Sx.els,Sx.body]),L.trans u1,rfl⟩;simp only[aV,b8,fo]at hx;rw[hx,<-dd d1];exact GS.wo (by omega) (by simp) (λx hx=>(by cases hx)) (by constructor<;>simp[Sx.op,Sx.name,Sx.index,Sx.arg,Sx.els,Sx.body]<;>omega)
 refine aX (λx=>x.2=(m0,t1,(0,0,[],[],0,0,[]),h)) ?_ ?_
 .exact aK (λ_=>aP (λ_=>aP (λ_=>ak rfl) λ_=>ak rfl) λ_=>ak rfl) λ_=>ak rfl
 rintro⟨b,x⟩ e;dsimp only at e;subst e;refine aP (λA=>?_) λ_=>?_
 .refine aA (hE 1 _ t1 h (by omega) L.p) λz hz=>?_
  let⟨e,m2,t2,h2⟩:=z;let⟨v1,v2,v3,v4⟩:=hz;dsimp only at v1 v2 v3 v4;subst v2 v4;refine bt (by simp) (ak ?_);dsimp only;rw[gp];exact⟨GS.we v1 (by simp) (by simp) (λx hx=>(by cases hx)) (λx hx=>(by cases hx)) (by constructor<;>simp[Sx.op,Sx.name,Sx.index,Sx.arg,Sx.els,Sx.body]),L.trans v3,rfl⟩
 refine aX (λx=>x.2.1=m0/\xh t1 x.2.2.1/\x.2.2.2.2=h) ?_ ?_
 .refine aK (λ_=>aP (λ_=>?_) λ_=>ak ⟨rfl,xh.refl L.p,rfl⟩) λ_=>ak ⟨rfl,xh.refl L.p,rfl⟩
  exact aA (gP 2 t1 L.p) λy D=>ak ⟨rfl,D.1,rfl⟩
 rintro⟨b,m9,t9,z9,h9⟩ ⟨e1,e2,e3⟩;dsimp only at e1 e2 e3;subst e1 e3;refine aP (λA=>?_) λ_=>?_
 .exact ak ⟨GS.wo (by omega) (by simp) (λx hx=>(by cases hx)) (by constructor<;>simp[Sx.op,Sx.name,Sx.index,Sx.arg,Sx.els,Sx.body]),L.trans e2,rfl⟩
 refine aA (hE 1 _ t9 h9 (by omega) e2.p) λz hz=>?_
 let⟨e,m2,t2,h2⟩:=z;let⟨v1,v2,v3,v4⟩:=hz;dsimp only at v1 v2 v3 v4;subst v2 v4;refine bt (by simp) (bc (vS _ _) (ak ?_));dsimp only;rw[gp,Cc];exact⟨GS.asg (by decide) v1,L.trans (e2.trans v3),rfl⟩
def RB:∀(n:Nat),(∀d:Nat,d<=5->3*d+1<=n->SpT nT (e9 n) d)/\(∀d:Nat,d<=5->3*d+2<=n->SpS nT (dY n) d)/\(∀d:Nat,d<=5->3*d+3<=n->SpB nT (eJ n) d)
 |0=>⟨λd _ h=>by omega,λd _ h=>by omega,λd _ h=>by omega⟩
 |n+1=>by
  let⟨D,z,L⟩:=RB n;refine ⟨λd h1 A=>?_,λd h1 A=>?_,λd h1 A=>?_⟩
  .exact akh (dY n) (e9 n) (eJ n) d h1 (λh=>z 0 (by omega) (by omega)) (λh=>z (d-1) (by omega) (by omega)) (λh=>L (d-1) (by omega) (by omega))
  .exact afn (dY n) (e9 n) (eJ n) d (D d h1 (by omega))
  .exact afq (dY n) (e9 n) (eJ n) d (z d h1 (by omega))
def aez (d:Nat) (hd:d<=5):SpS nT rX d:=(RB fuel).2.1 d hd (by rw[lh];omega)
end
def GX:Nat->Xp->Prop
 |0,_=>False
 |d+1,e=>l! e.l<=2/\∀x∈e.l,GX d x
def GE.x:∀{d:Nat} {e:Xp},GE d e->GX d e
 |0,_,h=>h.elim
 |_+1,_,h=>⟨h.2.2.1,λx z=>(h.2.2.2.1 x z).x⟩
def ZE.x {e:Xp} (h:ZE e):GX 4 e:=by
 rcases h with h|rfl
 .exact h.x
 .exact⟨by simp[Xp.l],λx z=>(by cases z)⟩
def GT:Nat->Sx->Prop
 |0,_=>False
 |d+1,s=>l! s.index<=1/\(∀e∈s.index,GX 4 e)/\GX 4 s.expr/\l! s.body<=8/\l! s.els<=8/\(∀x∈s.body,GT d x)/\(∀x∈s.els,GT d x)
def GS.t {nT:Nat}:∀{d:Nat} {s:Sx},GS nT d s->GT d s
 |0,_,h=>h.elim
 |_+1,_,⟨_,b,c,_,f,g,i,j,k,_⟩=>⟨b,λe he=>(c e he).x,f.x,g,i,λx z=>(j x z).t,λx z=>(k x z).t⟩
def Bw (s:Sx):o_ (Sx.op s,Sx.line s,Sx.name s,Sx.arg s,Sx.index s,eP (Xp.op (Sx.expr s),Xp.n (Sx.expr s),Xp.name (Sx.expr s),Xp.l (Sx.expr s)),Sx.body s,Sx.els s)=s:=by
 rw[gp,Cc]
def Yi (k:Int):Ok (nO k) λ_=>True:=by
 unfold nO bn kY aH;with_reducible repeat' first|apply OS.ok;constructor|refine IM.mk λ_=>?_
 all_goals trivial
def sB (e:Xp):Ok (qO e) λ_=>True:=by
 unfold qO bn aH;with_reducible repeat' first|apply OS.ok;constructor|refine IM.mk λ_=>?_
 all_goals trivial
def CJ:∀(n d:Nat) (e:Xp),d<n->GX d e->Ok (iG n e) λ_=>True
 |0,_,_,h,_=>by omega
 |n+1,0,_,_,h=>h.elim
 |n+1,d+1,e,hn,h=>by
  let⟨h1,h2⟩:=h;refine aX (λx=>x.2=e) (aK (λ_=>ak (gp e)) λ_=>ak (gp e)) ?_;rintro⟨b,x⟩ L;dsimp only at L;subst L;refine aX (λy=>y.2=x) ?_ ?_
  .refine aA (Yi _) λ_ _=>?_
   with_reducible repeat' first|refine cf (λ_=>?_) λ_=>?_|refine bQ (λ_=>?_) λ_=>?_|refine dM (λ_=>?_) λ_=>?_|refine aP (λ_=>?_) λ_=>?_|exact ak (gp x)|refine aA (i_ _) λ_ _=>?_
  rintro⟨b2,y⟩ D;dsimp only at D;subst D;refine aP (λ_=>ak trivial) λ_=>?_
  refine cD (l! y.l) (λi x=>x.1=(i:Int)/\x.2=y) ?_ ?_ ⟨rfl,gp y⟩
  .rintro i ⟨a,z⟩ hi ⟨A,e2⟩;dsimp only at A e2;subst A e2;refine dB ?_;refine cH (aT ?_);refine aA (CJ n d _ (by omega) (h2 _ (bP (T:=.ex) (xs:=z.l) (j:=(i:Int)) (by omega) (by omega)))) λ_ _=>?_
   refine dM (λ_=>ak trivial) λ_=>ak ?_
   exact⟨ig,gp z⟩
  .rintro⟨a,z⟩ ⟨A,e2⟩;dsimp only at A e2;subst e2;exact dw (ak trivial)
def gL (e:Xp) (h:GX 4 e):Ok (jY e) λ_=>True:=CJ fuel 4 e (by rw[lh];omega) h
abbrev U?:=Int×Int×ζ×Int×Int×ζ
def PO (d:U?):Ok (nE d) λ_=>True:=by
 refine aX (λ_=>True) ?_ λx _=>aP (λ_=>ak trivial) λ_=>?_
 .with_reducible repeat' first|refine cf (λ_=>?_) λ_=>?_|refine bQ (λ_=>?_) λ_=>?_|refine dM (λ_=>?_) λ_=>?_|exact ak trivial|refine aA (i_ _) λ_ _=>?_
 refine aX (λ_=>True) ?_ λx _=>aP (λ_=>ak trivial) λ_=>?_
 .with_reducible repeat' first|refine cf (λ_=>?_) λ_=>?_|refine aK (λ_=>?_) λ_=>?_|refine dM (λ_=>?_) λ_=>?_|exact ak trivial|refine aA (i_ _) λ_ _=>?_
 with_reducible repeat' first|apply OS.ok;constructor|refine IM.mk λ_=>?_
 all_goals trivial
def K9 (z:Sx->M Bool) (A:Y Sx->M Bool) (l:Y Sx) (D:l! l<=1000) (h:∀s∈l,Ok (z s) λ_=>True):Ok (mA z A l) λ_=>True:=by
 refine cD (l! l) (λi x=>x=(i:Int)) ?_ ?_ rfl
 .rintro i x hi rfl;refine dB ?_;refine cH ?_;refine aA (h _ (bP (T:=.sm) (xs:=l) (j:=(i:Int)) (by omega) (by omega))) λ_ _=>?_
  exact dM (λ_=>ak trivial) λ_=>ak ig
 .rintro x rfl;exact dw (ak trivial)
def Nv (D:Sx->M Bool) (A:Y Sx->M Bool) (s:Sx) (h1:∀e∈s.index,GX 4 e) (h2:GX 4 s.expr) (L:Ok (A s.body) λ_=>True) (he:Ok (A s.els) λ_=>True):Ok (lD D A s) λ_=>True:=by
 unfold lD bn bU kY jQ bY aH eS;refine aX (λx=>x.2=s) ?_ ?_
 .with_reducible repeat' first|refine cf (λ_=>?_) λ_=>?_|refine aK (λ_=>?_) λ_=>?_|refine bQ (λ_=>?_) λ_=>?_|refine fO (λ_=>?_) λ_=>?_|refine dM (λ_=>?_) λ_=>?_|refine aP (λ_=>?_) λ_=>?_|exact ak (Bw _)|refine aA (i_ _) λ_ _=>?_|refine aA (sB _) λ_ _=>?_|refine aA (gL _ h2x) λ_ _=>?_
 rintro⟨b,x⟩ z;have z:=z.symm;subst z;refine aP (λ_=>ak trivial) λ_=>?_
 refine aX (λx=>x.2=s) ?_ ?_
 .with_reducible repeat' first|refine cf (λ_=>?_) λ_=>?_|refine aK (λ_=>?_) λ_=>?_|refine bQ (λ_=>?_) λ_=>?_|refine fO (λ_=>?_) λ_=>?_|refine dM (λ_=>?_) λ_=>?_|refine aP (λ_=>?_) λ_=>?_|exact ak (Bw _)|refine aA (i_ _) λ_ _=>?_|refine aA (sB _) λ_ _=>?_|refine aA (gL _ h2x) λ_ _=>?_
 rintro⟨b,x⟩ z;have z:=z.symm;subst z;refine aX (λx=>x.2=s) ?_ ?_
 .with_reducible repeat' first|refine cf (λ_=>?_) λ_=>?_|refine aK (λ_=>?_) λ_=>?_|refine bQ (λ_=>?_) λ_=>?_|refine fO (λ_=>?_) λ_=>?_|refine dM (λ_=>?_) λ_=>?_|refine aP (λ_=>?_) λ_=>?_|exact ak (Bw _)|refine aA (i_ _) λ_ _=>?_|refine aA (sB _) λ_ _=>?_|refine aA (gL _ h2x) λ_ _=>?_
 rintro⟨b,x⟩ z;have z:=z.symm;subst z;refine aP (λ_=>ak trivial) λ_=>?_
 refine aX (λx=>x.2=s) ?_ ?_
 .with_reducible repeat' first|refine cf (λ_=>?_) λ_=>?_|refine aK (λ_=>?_) λ_=>?_|refine bQ (λ_=>?_) λ_=>?_|refine fO (λ_=>?_) λ_=>?_|refine dM (λ_=>?_) λ_=>?_|refine aP (λ_=>?_) λ_=>?_|exact ak (Bw _)|refine aA (i_ _) λ_ _=>?_|refine aA (sB _) λ_ _=>?_|refine aA (gL _ h2x) λ_ _=>?_
 rintro⟨b,x⟩ z;have z:=z.symm;subst z;refine aP (λ_=>ak trivial) λ_=>?_
 refine aX (λx=>x.2=s) ?_ ?_
 .with_reducible repeat' first|refine cf (λ_=>?_) λ_=>?_|refine aK (λ_=>?_) λ_=>?_|refine bQ (λ_=>?_) λ_=>?_|refine fO (λ_=>?_) λ_=>?_|refine dM (λ_=>?_) λ_=>?_|refine aP (λ_=>?_) λ_=>?_|exact ak (Bw _)|refine aA (i_ _) λ_ _=>?_|refine aA (sB _) λ_ _=>?_|refine aA (gL _ h2x) λ_ _=>?_
  all_goals
   rename_i g;dsimp [ay]at g;refine cH (aT ?_);refine aA (gL _ (h1 _ (bP (T:=.ex) (xs:=Sx.index _) (j:=0) (by omega) (by omega)))) λ_ _=>ak (Bw _)
 rintro⟨b,x⟩ z;have z:=z.symm;subst z;refine aP (λ_=>ak trivial) λ_=>?_
 refine aX (λx=>x.2=s) ?_ ?_
 .with_reducible repeat' first|refine cf (λ_=>?_) λ_=>?_|refine aK (λ_=>?_) λ_=>?_|refine bQ (λ_=>?_) λ_=>?_|refine fO (λ_=>?_) λ_=>?_|refine dM (λ_=>?_) λ_=>?_|refine aP (λ_=>?_) λ_=>?_|exact ak (Bw _)|refine aA (i_ _) λ_ _=>?_|refine aA (sB _) λ_ _=>?_|refine aA (gL _ h2x) λ_ _=>?_
 rintro⟨b,x⟩ z;have z:=z.symm;subst z;refine aX (λx=>x.2=s) ?_ ?_
 .have h2x:GX 4 (eP (Xp.op (Sx.expr s),Xp.n (Sx.expr s),Xp.name (Sx.expr s),Xp.l (Sx.expr s))):=by exact h2
  with_reducible repeat' first|refine cf (λ_=>?_) λ_=>?_|refine aK (λ_=>?_) λ_=>?_|refine bQ (λ_=>?_) λ_=>?_|refine fO (λ_=>?_) λ_=>?_|refine dM (λ_=>?_) λ_=>?_|refine aP (λ_=>?_) λ_=>?_|exact ak (Bw _)|refine aA (i_ _) λ_ _=>?_|refine aA (sB _) λ_ _=>?_|refine aA (gL _ h2x) λ_ _=>?_
 rintro⟨b,x⟩ z;have z:=z.symm;subst z;refine aP (λ_=>ak trivial) λ_=>?_
 refine aX (λx=>x.2=s) ?_ ?_
 .with_reducible repeat' first|refine cf (λ_=>?_) λ_=>?_|refine aK (λ_=>?_) λ_=>?_|refine bQ (λ_=>?_) λ_=>?_|refine fO (λ_=>?_) λ_=>?_|refine dM (λ_=>?_) λ_=>?_|refine aP (λ_=>?_) λ_=>?_|exact ak (Bw _)|refine aA (i_ _) λ_ _=>?_|refine aA (sB _) λ_ _=>?_|refine aA (gL _ h2x) λ_ _=>?_
 rintro⟨b,x⟩ z;have z:=z.symm;subst z;refine aX (λx=>x.2=s) ?_ ?_
 .with_reducible repeat' first|refine cf (λ_=>?_) λ_=>?_|refine aK (λ_=>?_) λ_=>?_|refine bQ (λ_=>?_) λ_=>?_|refine fO (λ_=>?_) λ_=>?_|refine dM (λ_=>?_) λ_=>?_|refine aP (λ_=>?_) λ_=>?_|exact ak (Bw _)|refine aA (i_ _) λ_ _=>?_|refine aA (sB _) λ_ _=>?_|refine aA (gL _ h2x) λ_ _=>?_
 rintro⟨b,x⟩ z;dsimp only at z;subst z;refine aP (λ_=>ak trivial) λ_=>?_
 refine aX (λ_=>True) ?_ λ_ _=>ak trivial
 refine aA L λ_ _=>aP (λ_=>aA he λ_ _=>ak trivial) λ_=>ak trivial
def NH:∀(n:Nat),(∀(d:Nat) (s:Sx),2*d<n->GT d s->Ok (eY n s) λ_=>True)/\(∀(d:Nat) (l:Y Sx),2*d+1<n->l! l<=1000->(∀s∈l,GT d s)->Ok (dV n l) λ_=>True)
 |0=>⟨λd _ h=>by omega,λd _ h=>by omega⟩
 |n+1=>by
  let⟨L,z⟩:=NH n;refine ⟨λd s hd h=>?_,λd l hd D h=>?_⟩
  .cases d with
   |zero=>exact h.elim
   |succ d=>
    let⟨_,g2,g3,g4,g5,g6,g7⟩:=h;exact Nv (eY n) (dV n) s g2 g3 (z d _ (by omega) (by omega) g6) (z d _ (by omega) (by omega) g7)
  .exact K9 (eY n) (dV n) l D λs A=>L d s (by omega) (h s A)
def Pj (d:Nat) (hd:d<=100) (l:Y Sx) (z:l! l<=1000) (h:∀s∈l,GT d s):Ok (o8 l) λ_=>True:=(NH fuel).2 d l (by rw[lh];omega) z h
abbrev DT:Type:=U?
abbrev HT:Type:=ζ×Int×Y ζ×Y Sx
abbrev PG:Type:=Y DT×Y HT
structure PX (p:PG):Prop where
 d:l! p.1<=100
 t:l! p.2<=8
 l:∀t∈p.2,l! t.2.2.1<=100
 b:∀t∈p.2,l! t.2.2.2<=100
 s:∀t∈p.2,∀s∈t.2.2.2,GT 5 s
def agv (p:PG) (h:PX p):Ok (rc p) λ_=>True:=by
 let⟨hd,ht,hl,hb,hs⟩:=h;unfold rc bf bH dQ bU bY aZ c7 aH cV;refine cD (l! p.1) (λi x=>x.1=(i:Int)/\x.2=p) ?_ ?_ ⟨rfl,rfl⟩
 .rintro i ⟨a,x⟩ hi ⟨A,e2⟩;dsimp only at A e2;subst A e2;refine dB ?_;refine cH (aT ?_);refine aA (PO _) λ_ _=>?_
  exact dM (λ_=>ak trivial) λ_=>ak ⟨ig,rfl⟩
 rintro⟨a,x⟩ ⟨A,e2⟩;dsimp only at A e2;subst e2;refine dw ?_;refine aA (P:=λ_=>True) ?_ λ_ _=>ak trivial
 refine cD (l! x.2) (λi y=>y.1=(i:Int)/\y.2=x) ?_ ?_ ⟨rfl,rfl⟩
 .rintro i ⟨a,x⟩ hi ⟨A,e2⟩;subst A;have e2:=e2.symm;subst e2;refine dB ?_;refine cH (aT ?_);have hm:=bP (T:=uZ) (xs:=x.2) (j:=(i:Int)) (by omega) (by omega);have h1:=hl _ hm;have h2:=hb _ hm;have D:=hs _ hm;revert h1 h2 D;generalize (geti uZ x.2 (i:Int))=t;intro h1 h2 D;refine cD (l! t.2.2.1) (λk y=>y.1=(k:Int)/\y.2=(x,t)) ?_ ?_ ⟨rfl,rfl⟩
  .rintro k ⟨a,z⟩ hk ⟨f1,L⟩;subst f1 L;refine dB ?_;refine cH (aT ?_);refine aA (i_ _) λ_ _=>?_
   exact dM (λ_=>ak trivial) λ_=>ak ⟨ig,rfl⟩
  .rintro⟨a,z⟩ ⟨f1,L⟩;subst f1 L;refine dw ?_;refine aA (P:=λr=>match r with|.inl y=>y.1=((i+1:Nat):Int)/\y.2=x|.inr _=>True) ?_ ?_
   .refine aX (λy=>y.2=x) ?_ ?_
    .refine aA (i_ _) λ_ _=>dM (λ_=>ak rfl) λ_=>?_
     exact aA (Pj 5 (by omega) _ (by grind) D) λ_ _=>ak rfl
    rintro⟨b,y⟩ e;subst e;exact aP (λ_=>ak trivial) λ_=>ak ⟨ig,rfl⟩
   .rintro (y|y) hy
    .exact ak hy
    .exact ak trivial
 .rintro⟨a,y⟩ ⟨A,e2⟩;dsimp only at A e2;subst e2;exact dw (ak trivial)
def Al (l:Y DT) (s:ζ) (z:l! l<=1000):Ok (jI (l,s)) λr=> -1<=r/\r<(l! l:Int):=by
 refine cD (l! l) (λi x=>x=(i:Int)) ?_ ?_ rfl
 .rintro i x hi rfl;refine dB ?_;refine cH (aT ?_);exact aK (λ_=>ak ⟨by omega,by omega⟩) λ_=>ak ig
 .rintro x rfl;exact dw (ak ⟨by omega,by omega⟩)
def uC (l:Y HT) (s:ζ) (z:l! l<=1000):Ok (jB (l,s)) λr=> -1<=r/\r<(l! l:Int):=by
 refine cD (l! l) (λi x=>x=(i:Int)) ?_ ?_ rfl
 .rintro i x hi rfl;refine dB ?_;refine cH (aT ?_);exact aK (λ_=>ak ⟨by omega,by omega⟩) λ_=>ak ig
 .rintro x rfl;exact dw (ak ⟨by omega,by omega⟩)
def DD (p:PG) (s:ζ):Prop:=∃v,jI (p.1,s)=Z v/\0<=v/\v<(l! p.1:Int)
def ah7 (p:PG) (h:PX p) (t:Int) (s:ζ):Ok (uq (p,t,s)) λk=>k≠0->k≠7->k≠8->DD p s:=by
 have hd:=h.d;have ht:=h.t;refine aX (λx=>x.2=p) ?_ ?_
 .refine fO (λg0=>bQ (λL=>?_) λ_=>ak rfl) λ_=>ak rfl
  refine aO g0 L (aT ?_);have hm:=h.l _ (bP (T:=uZ) (xs:=p.2) (j:=t) g0 L);exact aA (BS _ s (c9 hm (by omega))) λ_ _=>ak rfl
 rintro⟨b,x⟩ e;have e:=e.symm;subst e;refine aP (λ_=>ak λ_ _ h=>(h rfl).elim) λ_=>?_
 let⟨v,D,v0,A⟩:=Al p.1 s (by omega);refine bc D ?_;refine bQ (λ_=>?_) λg=>?_
 .exact aA (uC p.2 s (by omega)) λ_ _=>fO (λ_=>ak λ_ h=>(h rfl).elim) λ_=>ak λh=>(h rfl).elim
 have z:DD p s:=⟨v,D,g,A⟩
 refine aO g A (aT ?_);refine aK (λ_=>?_) λ_=>?_
 .exact aO g A (aT (cf (λ_=>ak λ_ _ _=>z) λ_=>ak λ_ _ _=>z))
 refine aK (λ_=>ak λ_ _ _=>z) λ_=>?_
 refine aX (λx=>x.2=p) (aK (λ_=>ak rfl) λ_=>aK (λ_=>ak rfl) λ_=>aK (λ_=>ak rfl) λ_=>ak rfl) ?_;rintro⟨b,x⟩ e;dsimp only at e;subst e;exact aP (λ_=>aO g A (aT (ak λ_ _ _=>z))) λ_=>ak λ_ _ _=>z
def qa (p:PG) (h:PX p) (t:Int) (s:ζ) (a b:Int):Ok (iv (p,t,s,a,b)) λr=>r=0->(a≠7/\a≠8)->(b≠7/\b≠8)->DD p s:=by
 refine aA (ah7 p h t s) λk z=>?_
 refine aK (λ_=>ak nofun) λg=>?_
 refine aX (λx=>x=af->k=a\/k=b) ?_ ?_
 .refine cf (λ_=>ak λh=>?_) λh=>ak λ_=>.inl h
  simp at h;exact .inr h
 rintro x A;refine aP (λ_=>ak nofun) λh=>ak λ_ h1 D=>z g ?_ ?_
 .grind
 .grind
def RD:∀(n d:Nat) (e:Xp),d<n->GX d e->Ok (oM n e) λ_=>True
 |0,_,_,h,_=>by omega
 |n+1,0,_,_,h=>h.elim
 |n+1,d+1,e,L,h=>by
  let⟨h1,D⟩:=h;refine cD (l! e.l) (λi x=>x.1.2.2=(i:Int)/\x.2=e) ?_ ?_ ⟨rfl,gp e⟩
  .rintro i ⟨⟨a,b,c⟩,z⟩ hi ⟨A,e2⟩;dsimp only at A e2;subst A e2;refine dB ?_;refine cH (aT ?_);refine aA (RD n d _ (by omega) (D _ (bP (T:=.ex) (xs:=z.l) (j:=(i:Int)) (by omega) (by omega)))) λ_ _=>ak ?_
   exact⟨ig,gp z⟩
  .rintro⟨⟨a,b,c⟩,z⟩ ⟨A,e2⟩;dsimp only at A e2;subst e2;exact dw (ak trivial)
def JV (p:PG) (hp:PX p) (t:Int):∀(n d:Nat) (e:Xp),d<n->GX d e->Ok (oL n (p,t,e)) λ_=>True
 |0,_,_,h,_=>by omega
 |n+1,0,_,_,h=>h.elim
 |n+1,d+1,e,hn,h=>by
  let⟨h1,h2⟩:=h;rw[BD];unfold wL bn bU bY c7 aH cV;refine aX (λx=>x.2.1=p/\x.2.2=e) ?_ ?_
  .refine aK (λ_=>aA (qa p hp t _ _ _) λ_ _=>ak ⟨rfl,gp e⟩) λ_=>aK (λ_=>aA (qa p hp t _ _ _) λ_ _=>ak ⟨rfl,gp e⟩) λ_=>ak ⟨rfl,gp e⟩
  rintro⟨r,D,e'⟩ ⟨A,z⟩;have A:=A.symm;subst A;have z:=z.symm;subst z;refine rI (λx=>((l! e.l:Int)-x.1.2).toNat) (λx=>0<=x.1.2/\x.2.1=p/\x.2.2=e) ?_ ⟨dC _,rfl,gp e⟩;rintro⟨⟨a,(b:Int)⟩,D,e'⟩ ⟨b0,A,z⟩;dsimp only at b0 A z;have A:=A.symm;subst A;have z:=z.symm;subst z;refine aX (λx=>x.2.1=p/\x.2.2=e/\(x.1=J->b<(l! e.l:Int))) ?_ ?_
  .exact bQ (λg=>ak ⟨rfl,gp e,λ_=>g⟩) λ_=>ak ⟨rfl,gp e,nofun⟩
  rintro⟨c,D,e'⟩ ⟨A,z,f3⟩;have A:=A.symm;subst A;have z:=z.symm;subst z;refine aP (λL=>?_) λ_=>ak trivial
  have g:=f3 L;refine aO b0 g (aT ?_);refine aA (JV p hp t n d _ (by omega) (h2 _ (bP (T:=.ex) (xs:=e.l) (j:=b) b0 g))) λ_ _=>ak ?_
  dsimp only;rw[jA (n:=b+1) (by omega) (by omega)];exact⟨⟨by omega,rfl,gp e⟩,by omega⟩
def Ak (p:PG) (hp:PX p) (t:Int) (e:Xp) (h:GX 4 e):Ok (o7 (p,t,e)) λ_=>True:=by
 have z:GX 4 (eP (Xp.op e,Xp.n e,Xp.name e,Xp.l e)):=by exact h
 refine aA (gL _ z) λ_ _=>dM (λ_=>ak trivial) λ_=>?_
 refine aA (RD fuel 4 _ (by rw[lh];omega) z) λ_ _=>?_
 refine aX (λx=>x.2.1=p/\x.2.2=e) (bQ (λ_=>ak ⟨rfl,gp e⟩) λ_=>ak ⟨rfl,gp e⟩) ?_;rintro⟨r,L,e'⟩ ⟨A,D⟩;have A:=A.symm;subst A D;exact aP (λ_=>ak trivial) λ_=>aA (JV p hp t fuel 4 _ (by rw[lh];omega) z) λ_ _=>ak trivial
def fY (b:Bool):Ok (dh b) λ_=>True:=by
 unfold dh;exact aP (λ_=>ak trivial) λ_=>ak trivial
def vZ (x:ν):Ok (jV x) λr=>r=0->x.1=0/\x.2=0:=by
 unfold jV jQ;exact cf (λh=>ak λz=>(h z).elim) λh=>ak λz=>⟨h,z⟩
abbrev WK:Type:=(Y DT×Y HT×Int)×(Bool×Y Sx)×Y ζ×Y ζ
def af7 (a b:Int) (s:ζ) (w:WK) (h:l! w.2.1.2<=100):Ok (eC ((a,b,s),w)) λy=>y.2=w:=by
 unfold eC bf bn bU kK aZ c7 aH cV;refine cD (l! w.2.1.2) (λi x=>x.1=(i:Int)/\x.2=w) ?_ ?_ ⟨rfl,rfl⟩
 .rintro i ⟨c,x⟩ hi ⟨z,e2⟩;subst z;have e2:=e2.symm;subst e2;refine dB ?_;refine cH (cH (aT ?_));refine aX (λx=>x.2=w) ?_ ?_
  .refine aK (λ_=>aK (λ_=>ak rfl) λ_=>ak rfl) λ_=>aK (λ_=>aK (λ_=>ak rfl) λ_=>ak rfl) λ_=>ak rfl
  rintro⟨c,x⟩ e;dsimp only at e;subst e;exact aP (λ_=>ak rfl) λ_=>ak ⟨ig,rfl⟩
 .rintro⟨c,x⟩ ⟨z,e2⟩;subst z;have e2:=e2.symm;subst e2;exact dw (ak rfl)
def UT:Nat->Sx->Nat
 |0,_=>0
 |d+1,s=>1+(s.body.map (UT d)).sum+(s.els.map (UT d)).sum
def oS (d:Nat) (l:Y Sx):Nat:=(l.map (UT d)).sum
def KS:Nat->Nat
 |0=>0
 |d+1=>1+16*KS d
variable {R:Type} {i:Nat}
def Sy {f:R->Nat} :∀{l:Y R},(∀x∈l,f x<=i)->(l.map f).sum<=l! l*i
 |[],_=>by simp
 |x::r,h=>by
  have:=Sy (l:=r) λy z=>h y (bS _ z)
  have:=h x (cX ..);rw[b9,List.sum_cons,kn,jS];omega
def aaf:∀{d:Nat} {s:Sx},GT d s->UT d s<=KS d
 |0,_,h=>h.elim
 |d+1,s,⟨_,_,_,h4,L,D,A⟩=>by
  have a:=Sy (f:=UT d) (l:=s.body) λx z=>aaf (D x z)
  have b:=Sy (f:=UT d) (l:=s.els) λx z=>aaf (A x z)
  have c:=cJ (KS d) h4;have e:=cJ (KS d) L;show 1+_+_<=1+16*KS d;omega
def Uo:∀{d:Nat} {s:Sx},GT d s->UT (d+1) s=UT d s
 |0,_,h=>h.elim
 |d+1,s,⟨_,_,_,_,_,D,A⟩=>by
  show 1+(s.body.map (UT (d+1))).sum+(s.els.map (UT (d+1))).sum=1+(s.body.map (UT d)).sum+(s.els.map (UT d)).sum;rw[ja λx z=>Uo (D x z),ja λx z=>Uo (A x z)]
def alb {l:Y Sx} (h:∀s∈l,GT i s):oS i l<=l! l*KS i:=Sy λx z=>aaf (h x z)
variable {j:Nat}
def zV {l:Y Sx} (hi:i<l! l):oS j (l.take (i+1))=oS j (l.take i)+UT j (geti (.sm) l (i:Int)):=by
 unfold oS;rw[pl (T:=.sm) hi,cG,Jo];simp
def Up {d:Nat} (l:Y Sx) (i:Nat):oS d (l.take i)<=oS d l:=by
 conv=>rhs;rw[<- EK i l]
 unfold oS;rw[cG,Jo];omega
def IU:∀(n d:Nat) (l:Y Sx),d<n->l! l<=1000->(∀s∈l,GT d s)->KS d<=100000->oN n l=Z ((oS d l:Nat):Int)
 |0,_,_,h,_,_,_=>by omega
 |n+1,d,l,hn,A,h,L=>by
  refine cW ?_;have hb:=alb h;have D:=Nat.mul_le_mul A L;refine cD (l! l) (λi x=>x.2=(i:Int)/\x.1=(l! l:Int)-i+(oS d (l.take i):Nat)) ?_ ?_ ⟨rfl,by simp[oS]⟩
  .rintro i ⟨a,b⟩ hi ⟨z,e2⟩;subst z e2;have hp:=Up (d:=d) l (i+1);rw[zV hi]at hp;refine dB ?_;refine cH (aT ?_);rw[zV hi];have hm:=h _ (bP (T:=.sm) (xs:=l) (j:=(i:Int)) (by omega) (by omega));revert hm hp;generalize (geti (.sm) l (i:Int))=s;intro hp hm;cases d with
   |zero=>exact hm.elim
   |succ d=>
    let⟨_,_,_,g4,g5,g6,g7⟩:=hm;have hk:KS (d+1)=1+16*KS d:=rfl;have hc:UT (d+1) s=1+oS d s.body+oS d s.els:=rfl;refine bc (IU n d _ (by omega) (by omega) g6 (by omega)) ?_;refine cH (aT ?_);refine bc (IU n d _ (by omega) (by omega) g7 (by omega)) (ak ⟨ig,?_⟩);rw[jA (n:=(l! l:Int)-i+(oS (d+1) (l.take i):Nat)+(oS d s.body:Nat)) (by omega) (by omega),jA];omega
  .rintro⟨a,b⟩ ⟨z,e2⟩;subst z e2;exact dw (ak (by simp))
def ZV (l:Y DT) (L:l! l<=100):Ok (s9 l) λ_=>True:=by
 unfold s9 bf bw bH c8 eD hY bn bU kY jQ bR bY aZ c7 aH cV;refine cD (l! l) (λi x=>x.2.2.2.2=(i:Int)) ?_ ?_ rfl
 .rintro i ⟨a,b,c,d,e⟩ hi z;subst z;refine dB ?_;refine aX (λ_=>True) ?_ λx _=>ak ig
  refine cH (aT ?_);have htk:l! (dx (aN (i:Int)) l)<=100:=by grind
  refine cR (dm (by simp) (dm (by grind) ?_));refine aA (Al _ _ (c9 htk (by omega))) λv A=>?_
  refine fO (λ_=>ak trivial) λ_=>bQ (λ_=>ak trivial) λ_=>?_
  refine aX (λ_=>True) ?_ λx _=>?_
  .refine aX (λ_=>True) (aK (λ_=>ak trivial) λ_=>ak trivial) λx _=>aP (λ_=>ak trivial) λ_=>?_
   refine aX (λ_=>True) (aK (λ_=>ak trivial) λ_=>ak trivial) λx _=>aP (λ_=>ak trivial) λ_=>?_
   exact aK (λ_=>ak trivial) λ_=>ak trivial
  refine aX (λ_=>True) (bQ (λ_=>ak trivial) λ_=>bQ (λ_=>ak trivial) λ_=>bQ (λ_=>ak trivial) λ_=>ak trivial) λx _=>aP (λ_=>ak trivial) λ_=>?_
  refine aK (λ_=>?_) λ_=>ak trivial
  refine cR (dm (by simp) (dm (by grind) ?_));refine aA (Al _ _ (c9 htk (by omega))) λv A=>?_
  refine bQ (λ_=>ak trivial) λg=>?_
  have D:=A.2;rw[cg]at D;exact aO g (by omega) (aT (cf (λ_=>ak trivial) λ_=>ak trivial))
 .rintro⟨a,b,c,d,e⟩ z;subst z;exact dw (ak trivial)
def St (p:PG) (h:PX p):Ok (o6 p) λ_=>True:=by
 have hd:=h.d;have ht:=h.t;unfold o6 bf bw bH bU kY bR bY aZ c7 aH cV;refine cD (l! p.2) (λi x=>x.1=(i:Int)/\x.2=p) ?_ ?_ ⟨rfl,rfl⟩
 .rintro i ⟨a,x⟩ hi ⟨A,e2⟩;subst A;have e2:=e2.symm;subst e2;refine dB ?_;refine cH (aT ?_);refine aX (λx=>x.2.1=p) ?_ ?_
  .refine aA (Al _ _ (by grind)) λv hv=>fO (λ_=>ak rfl) λ_=>?_
   refine cR (dm (by simp) (dm (by grind) ?_));exact aA (uC _ _ (by grind)) λ_ _=>ak rfl
  rintro⟨b,x,z⟩ e;dsimp only at e;subst e;exact aP (λ_=>ak trivial) λ_=>ak ⟨ig,rfl⟩
 rintro⟨a,x⟩ ⟨A,e2⟩;subst A;have e2:=e2.symm;subst e2;refine dw ?_;refine aA (P:=λ_=>True) ?_ λ_ _=>ak trivial
 refine cD (l! p.2) (λi x=>x.1=(i:Int)/\x.2=p) ?_ ?_ ⟨rfl,rfl⟩
 .rintro i ⟨a,x⟩ hi ⟨A,e2⟩;subst A;have e2:=e2.symm;subst e2;refine dB ?_;refine cH (aT ?_);have hm:=h.l _ (bP (T:=uZ) (xs:=p.2) (j:=(i:Int)) (by omega) (by omega));revert hm;generalize (geti uZ p.2 (i:Int))=t;intro hm;refine bQ (λ_=>ak trivial) λ_=>?_
  refine cD (l! t.2.2.1) (λk y=>y.1=(k:Int)/\y.2=(p,t)) ?_ ?_ ⟨rfl,rfl⟩
  .rintro k ⟨a,z⟩ hk ⟨L,D⟩;subst L D;refine dB ?_;refine cH (aT ?_);refine aX (λx=>x.2=(p,t)) ?_ ?_
   .refine aA (Al _ _ (by grind)) λv hv=>fO (λ_=>ak rfl) λ_=>?_
    refine aA (uC _ _ (by grind)) λv hv=>fO (λ_=>ak rfl) λ_=>?_
    refine cR (dm (by simp) (dm (by grind) ?_));exact aA (BS _ _ (by grind)) λ_ _=>ak rfl
   rintro⟨b,x⟩ e;subst e;exact aP (λ_=>ak trivial) λ_=>ak ⟨ig,rfl⟩
  .rintro⟨a,z⟩ ⟨L,D⟩;subst L D;exact dw (ak ⟨ig,rfl⟩)
 .rintro⟨a,x⟩ ⟨A,e2⟩;subst A;have e2:=e2.symm;subst e2;exact dw (ak trivial)
structure WQ (w:WK) (y:Int×WK):Prop where
 p:y.2.1=w.1
 a:y.2.2.1=w.2.1
 s:l! y.2.2.2.1<=l! w.2.2.1+1
 t:l! y.2.2.2.2<=l! w.2.2.2+1
def WQ.same (w:WK) (e:Int):WQ w (e,w):=⟨rfl,rfl,Sm _,Sm _⟩
def atl (s:Sx) (D:Y DT) (T:Y HT) (t:Int) (A:Bool×Y Sx) (sp se:Y ζ) (hp:PX (D,T)) (hA:l! A.2<=100) (h1:l! sp<=100000000) (h2:l! se<=100000000) (L:∀e∈s.index,GX 4 e) (he:GX 4 s.expr):Ok (nN (s,((D,T,t),A,sp,se))) (WQ ((D,T,t),A,sp,se)):=by
 have hex:GX 4 (eP (Xp.op s.expr,Xp.n s.expr,Xp.name s.expr,Xp.l s.expr)):=by rw[gp];exact he
 have hin:∀(a b:Int) (n:ζ),Ok (eC ((a,b,n),((D,T,t),A,sp,se))) λy=>y.2=((D,T,t),A,sp,se):=λa b n=>af7 a b n _ hA
 have hth:l! T<=1000:=by have:=hp.t;dsimp only at this;omega
 have hdl:l! D<=1000:=by have:=hp.d;dsimp only at this;omega
 have sm:∀e,WQ ((D,T,t),A,sp,se) (e,((D,T,t),A,sp,se)):=WQ.same _;unfold nN bf bw bH cE c8 eD dQ hY bn kY jQ bR bY aH eS;refine aA (hin _ _ _) λy z=>?_
 let⟨b1,y2⟩:=y;dsimp only at z;subst z;refine bt (by simp) ?_;refine aA (hin _ _ _) λy z=>?_
 let⟨b2,y2⟩:=y;dsimp only at z;subst z;refine bt (by simp) ?_;refine aA (hin _ _ _) λy z=>?_
 let⟨b3,y2⟩:=y;dsimp only at z;subst z;refine bt (by simp) ?_;refine aK (λ_=>?_) λ_=>?_
 .refine aK (λ_=>?_) λg=>?_
  .exact aA (qa _ hp _ _ _ _) λ_ _=>aA (Ak _ hp _ _ hex) λ_ _=>aA (vZ _) λ_ _=>ak (sm _)
  .refine aA (qa _ hp _ _ _ _) λ_ _=>?_
   dsimp only[ay]at g;refine cH (aT ?_);refine aA (Ak _ hp _ _ (L _ (bP (T:=.ex) (xs:=s.index) (j:=0) (by omega) (by omega)))) λ_ _=>?_
   exact aA (Ak _ hp _ _ hex) λ_ _=>aA (vZ _) λ_ _=>aA (vZ _) λ_ _=>ak (sm _)
 refine aX (λx=>x.2=((D,T,t),A,s,(D,T),sp,se)) (aK (λ_=>ak (by dsimp only;rw[Bw])) λ_=>ak (by dsimp only;rw[Bw])) ?_;rintro⟨b,x⟩ e;dsimp only at e;subst e;refine aP (λ_=>aA (Ak _ hp _ _ hex) λ_ _=>ak (sm _)) λ_=>?_
 refine aK (λ_=>?_) λ_=>?_
 .refine aX (λx=>WQ ((D,T,t),A,sp,se) x) ?_ λx L=>ak L
  refine aA (qa _ hp _ _ _ _) λ_ _=>aP (λ_=>?_) λ_=>?_
  .exact aA (fY _) λ_ _=>aA (vZ _) λ_ _=>ak (sm _)
  .refine aA (hin _ _ _) λy z=>?_
   let⟨b4,y2⟩:=y;dsimp only at z;subst z;exact bt (by simp) (aA (fY _) λ_ _=>aA (vZ _) λ_ _=>ak (sm _))
 refine aX (λx=>x.2=((D,T,t),A,s,(D,T),sp,se)) (aK (λ_=>ak (by dsimp only;rw[Bw])) λ_=>ak (by dsimp only;rw[Bw])) ?_;rintro⟨b,x⟩ e;dsimp only at e;subst e;refine aP (λ_=>?_) λ_=>?_
 .refine aX (λx=>WQ ((D,T,t),A,sp,se) x) ?_ λx L=>ak L
  refine aA (qa _ hp _ _ _ _) λ_ _=>aP (λ_=>?_) λ_=>?_
  .exact aA (fY _) λ_ _=>aA (vZ _) λ_ _=>ak (sm _)
  .refine aA (hin _ _ _) λy z=>?_
   let⟨b4,y2⟩:=y;dsimp only at z;subst z;exact bt (by simp) (aA (fY _) λ_ _=>aA (vZ _) λ_ _=>ak (sm _))
 refine aK (λ_=>aA (fY _) λ_ _=>ak (sm _)) λ_=>?_
 refine aK (λ_=>?_) λ_=>?_
 .refine aX (λx=>WQ ((D,T,t),A,sp,se) x) ?_ λx L=>ak L
  exact aP (λ_=>aA (fY _) λ_ _=>ak (sm _)) λ_=>aA (fY _) λ_ _=>ak (sm _)
 refine aX (λx=>x.2=((D,T,t),A,s,(D,T),sp,se)) (aK (λ_=>ak (by dsimp only;rw[Bw])) λ_=>aK (λ_=>ak (by dsimp only;rw[Bw])) λ_=>ak (by dsimp only;rw[Bw])) ?_;rintro⟨b,x⟩ e;dsimp only at e;subst e;refine aP (λ_=>?_) λ_=>?_
 .refine aA (qa _ hp _ _ _ _) λr hr=>cf (λ_=>ak (sm _)) λg=>?_
  let⟨v,hv,v0,v1⟩:=hr g (by omega) (by omega);refine bc hv (aO v0 v1 (aT ?_));refine aA (hin _ _ _) λy z=>?_
  let⟨b4,y2⟩:=y;dsimp only at z;subst z;refine bt (by simp) ?_;refine aX (λx=>WQ ((D,T,t),A,sp,se) x) ?_ λx L=>ak L
  refine aP (λ_=>aA (fY _) λ_ _=>ak (sm _)) λ_=>dM (λ_=>aA (fY _) λ_ _=>ak (sm _)) λ_=>?_
  exact aK (λ_=>aA (fY _) λ_ _=>ak (sm _)) λ_=>aA (fY _) λ_ _=>ak (sm _)
 refine aK (λ_=>?_) λ_=>?_
 .refine aA (qa _ hp _ _ _ _) λr hr=>cf (λ_=>ak (sm _)) λg=>?_
  refine aA (uC T _ hth) λv hv=>?_
  refine aX (λx=>x.2=((D,T,t),A,s,sp,se)) ?_ ?_
  .refine aP (λ_=>ak (by dsimp only;rw[Bw])) λ_=>aP (λ_=>ak (by dsimp only;rw[Bw])) λ_=>aP (λ_=>ak (by dsimp only;rw[Bw])) λ_=>aK (λ_=>ak (by dsimp only;rw[Bw])) λ_=>ak (by dsimp only;rw[Bw])
  rintro⟨b,x⟩ e;dsimp only at e;subst e;refine aP (λ_=>ak (sm _)) λ_=>?_
  refine aA (BS sp _ (by omega)) λ_ _=>fO (λ_=>ak (sm _)) λ_=>?_
  exact a! (ak ⟨rfl,rfl,by simp,Sm _⟩)
 refine aK (λ_=>?_) λ_=>?_
 .refine aX (λx=>WQ ((D,T,t),A,sp,se) x) ?_ λx L=>ak L
  refine aA (qa _ hp _ _ _ _) λr hr=>?_
  refine aP (λ_=>aA (fY _) λ_ _=>aA (vZ _) λ_ _=>ak (sm _)) λ_=>?_
  refine aP (λ_=>aA (fY _) λ_ _=>aA (vZ _) λ_ _=>ak (sm _)) λ_=>?_
  exact aA (uC T _ hth) λv hv=>aA (fY _) λ_ _=>aA (vZ _) λ_ _=>ak (sm _)
 refine aK (λ_=>?_) λ_=>?_
 .refine aX (λx=>x.2=((D,T,t),A,s,(D,T),sp,se)) ?_ ?_
  .refine aA (qa _ hp _ _ _ _) λr hr=>?_
   exact aP (λ_=>aA (fY _) λ_ _=>aA (vZ _) λ_ _=>ak (by dsimp only;rw[Bw])) λ_=>aA (fY _) λ_ _=>aA (vZ _) λ_ _=>ak (by dsimp only;rw[Bw])
  rintro⟨b,x⟩ e;dsimp only at e;subst e;refine aX (λx=>x.2=((D,T,t),A,s,(D,T),sp,se)) ?_ ?_
  .refine aX (λx=>x.2=((D,T,t),A,s,(D,T),sp,se)) ?_ ?_
   .exact aK (λ_=>aA (BS se _ (by omega)) λ_ _=>ak (by dsimp only;rw[Bw])) λ_=>ak (by dsimp only;rw[Bw])
   rintro⟨b,x⟩ e;dsimp only at e;subst e;exact aP (λ_=>ak (by dsimp only;rw[Bw])) λ_=>ak (by dsimp only;rw[Bw])
  rintro⟨b,x⟩ e;dsimp only at e;subst e;refine a! ?_;exact aA (Ak _ hp _ _ hex) λ_ _=>aA (vZ _) λ_ _=>ak ⟨rfl,rfl,Sm _,by simp⟩
 exact aA (qa _ hp _ _ _ _) λ_ _=>aA (qa _ hp _ _ _ _) λ_ _=>aA (fY _) λ_ _=>aA (vZ _) λ_ _=>aA (vZ _) λ_ _=>ak (sm _)
abbrev RA4:Type:=(Y Sx×WK)->M (ν×WK)
structure QA (l:List Sx) (d:Nat) (w:WK) (y:ν×WK):Prop where
 p:y.2.1=w.1
 a:l! y.2.2.1.2=l! w.2.1.2
 s:l! y.2.2.2.1<=l! w.2.2.1+l! l*KS d
 t:l! y.2.2.2.2<=l! w.2.2.2+l! l*KS d
def SpA (rr:RA4) (d:Nat):Prop:=∀(l:Y Sx) (w:WK),l! l<=100->(∀s∈l,GT d s)->PX (w.1.1,w.1.2.1)->l! w.2.1.2+d<=50->l! w.2.2.1+l! l*KS d<=100000000->l! w.2.2.2+l! l*KS d<=100000000->Ok (rr (l,w)) (QA l d w)
def ap3 (rr:RA4) (d:Nat) (hr:∀d',d=d'+1->SpA rr d'):SpA (nR rr) d:=by
 rintro l ⟨⟨D,T,t⟩,A,sp,se⟩ hl hg hp hA h1 h2;dsimp only at hp hA h1 h2;have hK:∀i:Nat,i<=l! l->i*KS d<=l! l*KS d:=λi hi=>cJ _ hi
 unfold nR bf bw bH c8 eD dQ ck bn bU jQ bR bY aZ c7 aH cV eS;refine cD (l! l) (λi x=>x.1=(i:Int)/\x.2.1=(D,T,t)/\l! x.2.2.1.2=l! A.2/\l! x.2.2.2.1<=l! sp+i*KS d/\l! x.2.2.2.2<=l! se+i*KS d) ?_ ?_ ⟨rfl,rfl,rfl,by simp,by simp⟩
 .rintro i ⟨a,P,A',sp',se'⟩ hi ⟨e1,e2,e3,e4,e5⟩;dsimp only at e1 e2 e3 e4 e5;subst e1 e2;have hKi:=hK (i+1) (by omega);have hKs:=jS i (KS d);rw[Nat.succ_eq_add_one]at hKs;refine dB ?_;refine cH (aT ?_);have hm:=hg _ (bP (T:=.sm) (xs:=l) (j:=(i:Int)) (by omega) (by omega));revert hm;generalize (geti (.sm) l (i:Int))=s;intro hm;cases d with
  |zero=>exact hm.elim
  |succ d=>
   have hR:=hr d rfl;let⟨_,g2,g3,g4,g5,g6,g7⟩:=hm;have hk:KS (d+1)=1+16*KS d:=rfl;have kb:l! s.body*KS d<=8*KS d:=cJ _ g4;have ke:l! s.els*KS d<=8*KS d:=cJ _ g5;dsimp only;rw[Bw];refine aA (atl s D T t A' sp' se' hp (by omega) (by omega) (by omega) g2 g3) λy hy=>?_
   let⟨e,P2,A2,sp2,se2⟩:=y;let⟨q1,z,q3,q4⟩:=hy;dsimp only at q1 z q3 q4;subst q1 z;refine bt (by simp) ?_;refine aX (λx=>x.2=((D,T,t),s,A2,sp2,se2)) (bQ (λ_=>ak rfl) λ_=>ak rfl) ?_;rintro⟨e,x⟩ ex;dsimp only at ex;subst ex;refine cf (λ_=>ak ⟨rfl,e3,by dsimp only;omega,by dsimp only;omega⟩) λ_=>?_
   refine a! (aO (by simp) (by simp;omega) (aO (by simp) (by simp;omega) ?_));dsimp only;rw[Bw];refine aA (hR s.body ((D,T,t),(A2.1,ch (A2.2++[_]) _ s),sp2,se2) (by omega) g6 hp ?_ ?_ ?_) λy hy=>?_
   .dsimp only;rw[bT];simp;omega
   .dsimp only;omega
   .dsimp only;omega
   let⟨e6,P6,A6,sp6,se6⟩:=y;let⟨q1,z,q5,q6⟩:=hy;dsimp only at q1 z q5 q6;subst q1;rw[bT,bz,cq]at z;refine bt (by simp) ?_;refine aX (λx=>x.2.1=(D,T,t)/\l! x.2.2.1.2=l! A2.2+1/\l! x.2.2.2.1<=l! sp2+16*KS d/\l! x.2.2.2.2<=l! se2+16*KS d) ?_ ?_
   .refine aK (λ_=>?_) λ_=>ak ⟨rfl,z,by dsimp only;omega,by dsimp only;omega⟩
    refine aA (hR s.els ((D,T,t),A6,sp6,se6) (by omega) g7 hp (by dsimp only;omega) (by dsimp only;omega) (by dsimp only;omega)) λy hy=>?_
    let⟨e7,P7,A7,sp7,se7⟩:=y;let⟨r1,L,r5,r6⟩:=hy;dsimp only at r1 L r5 r6;subst r1;exact bt (by simp) (ak ⟨rfl,L.trans z,by dsimp only;omega,by dsimp only;omega⟩)
   rintro⟨e8,P8,A8,sp8,se8⟩ ⟨r1,L,r5,r6⟩;dsimp only at r1 L r5 r6;subst r1;have el:bl .i64 ((aQ (l! A8.2))-1)=(l! A2.2:Int):=by
    rw[L,jA (by simp<;>omega) (by simp<;>omega)];simp<;>omega
   dsimp only;rw[el];have tk:l! (dx (aN (l! A2.2:Int)) A8.2)=l! A2.2:=by rw[cg];omega
   refine cR (a? (Dl (by rw[L];omega) ?_));refine cf (λ_=>ak ⟨rfl,by dsimp only;omega,by dsimp only;omega,by dsimp only;omega⟩) λ_=>ak ?_
   exact⟨ig,rfl,by dsimp only;omega,by dsimp only;omega,by dsimp only;omega⟩
 .rintro⟨a,P,A',sp',se'⟩ ⟨e1,e2,e3,e4,e5⟩;dsimp only at e1 e2 e3 e4 e5;subst e1 e2;exact dw (ak ⟨rfl,e3,e4,e5⟩)
def ad9:∀(n d:Nat),d<n->SpA (jD n) d
 |0,_,h=>by omega
 |n+1,d,h=>ap3 (jD n) d λz hd=>ad9 n z (by omega)
def HO (p:PG) (h:PX p):Ok (gm p) λr=>r.1=0->(p.2.map λt=>oS 5 t.2.2.2).sum<=60:=by
 have hd:=h.d;have ht:=h.t;refine aA (agv p h) λ_ _=>dM (λ_=>ak nofun) λ_=>?_
 refine aA (ZV p.1 hd) λ_ _=>cf (λhn=>ak λh=>(hn h).elim) λ_=>bQ (λ_=>ak nofun) λ_=>?_
 refine aA (St p h) λ_ _=>cf (λhn=>ak λh=>(hn h).elim) λ_=>?_
 have hk5:KS 5=69905:=rfl;refine cD (l! p.2) (λi x=>x.1.2=(i:Int)/\x.2=p/\x.1.1=((((p.2.take i).map λt=>oS 5 t.2.2.2).sum:Nat):Int)/\(x.1.1:Int)<=((i*6990500:Nat):Int)) ?_ ?_ ⟨rfl,rfl,by simp,by simp⟩
 .rintro i ⟨⟨(c:Int),a⟩,x⟩ hi ⟨z,e2,L,e4⟩;dsimp only at z e2 L e4;subst z;have e2:=e2.symm;subst e2;refine dB ?_;refine cH (aT ?_);have hm:=bP (T:=uZ) (xs:=p.2) (j:=(i:Int)) (by omega) (by omega);have hb:=h.b _ hm;have hcb:=alb (h.s _ hm);have hcb2:=cJ (KS 5) hb;rw[hk5]at hcb hcb2;refine bc (IU fuel 5 _ (by rw[lh];omega) (c9 hb (by omega)) (h.s _ hm) (by omega)) (ak ⟨ig,rfl,?_,?_⟩)
  .dsimp only;rw[pl (T:=uZ) hi,cG,Jo,jA,L];simp
  .dsimp only;rw[jA];omega
 rintro⟨⟨(c:Int),a⟩,x⟩ ⟨z,e2,L,e4⟩;dsimp only at z e2 L e4;subst z;have e2:=e2.symm;subst e2;rw[cQ]at L;refine dw ?_;refine aA (P:=λr=>r.1=0->(p.2.map λt=>oS 5 t.2.2.2).sum<=60) ?_ λ_ h=>ak h
 refine bQ (λ_=>ak nofun) λg60=>?_
 have g60:c<=60:=g60;refine cD (l! p.2) (λi x=>x.1=(i:Int)/\x.2.1=p/\x.2.2.1.1=p.1/\x.2.2.1.2.1=p.2/\l! x.2.2.2.1.2=0/\l! x.2.2.2.2.1<=i*6990500/\l! x.2.2.2.2.2<=i*6990500) ?_ ?_ ⟨rfl,rfl,rfl,rfl,rfl,by simp,by simp⟩
 .rintro i ⟨a,x,⟨D,T,t⟩,A,sp,se⟩ hi ⟨z,e2,L,e4,e5,e6,e7⟩;dsimp only at z e2 L e4 e5 e6 e7;subst z;have e2:=e2.symm;subst e2 L e4;refine dB ?_;refine cH (aT ?_);have hm:=bP (T:=uZ) (xs:=p.2) (j:=(i:Int)) (by omega) (by omega);have hb:=h.b _ hm;have hs:=h.s _ hm;revert hb hs;dsimp only;generalize (geti uZ p.2 (i:Int))=th;intro hb hs;have hk:KS 5=69905:=rfl;have hle:l! th.2.2.2*KS 5<=100*KS 5:=cJ _ hb;rw[hk]at hle;refine aA (ad9 fuel 5 (by rw[lh];omega) th.2.2.2 ((p.1,p.2,(i:Int)),A,sp,se) hb hs h (by grind) (by grind) (by grind)) λy hy=>?_
  let⟨e,P2,A2,sp2,se2⟩:=y;let⟨q1,q2,q3,q4⟩:=hy;dsimp only at q1 q2 q3 q4;subst q1;rw[hk]at q3 q4;refine bt (by simp) (cf (λhn=>ak λh=>(hn h).elim) λ_=>ak ?_);exact⟨ig,rfl,rfl,rfl,by dsimp only;omega,by dsimp only;omega,by dsimp only;omega⟩
 .rintro⟨a,x,P,w⟩ ⟨z,e2,_⟩;dsimp only at z e2;subst z;have e2:=e2.symm;subst e2;exact dw (ak λ_=>by omega)
def dj {o z:M R} {Q:R->Prop} (h:o=z) (A:Ok z Q):Ok o Q:=h▸A
def D0:Y DT:=[(1,0,[120],0,0,[]),(1,0,[121],0,1,[]),(2,0,[118],0,0,[]),(1,0,[113],2,0,[]),(3,0,[109],0,0,[]),(3,0,[110],0,0,[]),(4,0,[114],0,0,[]),(5,0,[99],0,0,[109]),(6,0,[102],0,0,[])]
def L0:Y ζ:=[[97],[98]]
set_option maxHeartbeats 20000000 in
def axs:∃r,gm (D0,[([109,97,105,110],0,L0,[o_ (1,0,[120],[],[],eP (1,1,[],[]),[],[])])])=Z r/\r.1=0:=by
 suffices h:Ok (gm (D0,[([109,97,105,110],0,L0,[o_ (1,0,[120],[],[],eP (1,1,[],[]),[],[])])])) λr=>r.1=0 by
  obtain⟨y,h1,h2⟩:=h;exact⟨y,h1,h2⟩
 unfold gm bf bw bH c8 dQ bU jQ bR bY aZ c7 aH cV;with_reducible repeat' first|exact ak rfl|refine ace ?_|refine acd ?_|refine acb ?_|refine ac9 ?_|refine VG ?_|refine ao2 ?_|refine aT ?_|refine qV rfl ?_|refine j7 rfl ?_|refine bt rfl ?_|refine aca ?_|refine VH ?_|refine dj (rc.eq_1 ..) ?_|refine dj (nE.eq_1 ..) ?_|refine dj (fZ.eq_1 ..) ?_|refine dj (mq.eq_1 ..) ?_|refine dj (lP.eq_1 ..) ?_|refine dj (mO.eq_1 ..) ?_|refine dj (qP.eq_1 ..) ?_|refine dj (s_.eq_1 ..) ?_|refine dj (o8.eq_1 ..) ?_|refine dj (mA.eq_1 ..) ?_|refine dj (lD.eq_1 ..) ?_|refine dj (qA.eq_1 ..) ?_|refine dj (jY.eq_1 ..) ?_|refine dj (nO.eq_1 ..) ?_|refine dj (qO.eq_1 ..) ?_|refine dj (s9.eq_1 ..) ?_|refine dj (jI.eq_1 ..) ?_|refine dj (o6.eq_1 ..) ?_|refine dj (jB.eq_1 ..) ?_|refine dj (ku.eq_1 ..) ?_|refine dj (Fb.eq_1 ..) ?_|refine dj (AW.eq_1 ..) ?_|refine dj (yh.eq_1 ..) ?_|refine dj (nR.eq_1 ..) ?_|refine dj (nN.eq_1 ..) ?_|refine dj (eC.eq_1 ..) ?_|refine dj (iv.eq_1 ..) ?_|refine dj (uq.eq_1 ..) ?_|refine dj (o7.eq_1 ..) ?_|refine dj (Fa.eq_1 ..) ?_|refine dj (AU.eq_1 ..) ?_|refine dj (E_.eq_1 ..) ?_|refine dj (wL.eq_1 ..) ?_|refine dj (jV.eq_1 ..) ?_|refine dj (dh.eq_1 ..) ?_|refine dj (ck.eq_1 ..) ?_|refine dj (congrFun (eR dV lh) _) ?_|refine dj (BZ _ _) ?_|refine dj (congrFun (eR eY lh) _) ?_|refine dj (CD _ _) ?_|refine dj (congrFun (eR iG lh) _) ?_|refine dj (CE _ _) ?_|refine dj (congrFun (eR oN lh) _) ?_|refine dj (Lb _ _) ?_|refine dj (congrFun (eR jD lh) _) ?_|refine dj (Fo _ _) ?_|refine dj (congrFun (eR oM lh) _) ?_|refine dj (La _ _) ?_|refine dj (congrFun (eR oL lh) _) ?_|refine dj (BD _ _) ?_
 all_goals trace_state
structure TM (nT:Nat) (t:HT):Prop where
 l:t.2.2.1=L0
 b:l! t.2.2.2<=8
 s:∀s∈t.2.2.2,GS nT 3 s
structure PJ (p:PG):Prop where
 d:p.1=D0
 t0:1<=l! p.2
 t:l! p.2<=4
 m:∀t∈p.2,TM (l! p.2) t
 n:p.2.map Prod.fst=Ah.take (l! p.2)
def PJ.x {p:PG} (h:PJ p):PX p:=⟨by rw[h.d];decide,by have:=h.t;omega,λt ht=>by rw[(h.m t ht).l];decide,λt ht=>by have:=(h.m t ht).b;omega,λt ht s z=>((h.m t ht).s s z).le (by omega:3<=5) |>.t⟩
def Xg:ur ()=Z D0:=rfl
def am5:∀m:Nat,m<5->∀j:Nat,j<m->geti (.str) Ah (j:Int)∈Ah.take m:=by decide
def U_ {nT:Nat} (op:Int) {n:ζ} (A:op=12\/op=13) (D:n∈Ah.take nT):GS nT 3 (o_ (op,0,n,[],[],eP (0,0,[],[]),[],[])):=GS.wo (by omega) (by simp) (λx z=>(by cases z)) (by rcases A with rfl|rfl<;>(constructor<;>simp[Sx.op,Sx.name,Sx.index,Sx.arg,Sx.els,Sx.body]<;>exact D))
def KU (x:η) (hl:l! x<=9223372036854775807) (hx:∀z∈x,0<=z/\z<=255):Ok (pR x) λp=>PJ p/\∃r,gm p=Z r/\r.1=0:=by
 unfold pR bf bw bH cE dJ gf iK c8 hY xm vu Prod.w bn bU jQ bR kK c7 aH cV eS;refine bc Xg ?_;refine aA (gP 3 (x,0) ⟨hl,hx,by dsimp only;omega,by dsimp only;omega⟩) λy hy=>?_
 let⟨n,t0⟩:=y;let⟨s0,n0,n1,_⟩:=hy;have n1:=n1 (by decide);dsimp only at s0 n0 n1;have ew:bl .i64 (2+n)=2+n:=jA;obtain⟨nT,hnT⟩:∃m:Nat,2+n=(m:Int):=⟨(2+n).toNat,by omega⟩
 refine cD nT (λi x=>x.1=(i:Int)/\x.2.2.1=D0/\x.2.2.2.1=Ah/\TP x.2.2.2.2.1/\x.2.2.2.2.2.1.2=[]/\x.2.2.2.2.2.2.map Prod.fst=Ah.take i/\∀t∈x.2.2.2.2.2.2,TM nT t) ?_ ?_ ⟨rfl,rfl,rfl,s0.p,rfl,rfl,λt ht=>(by cases ht)⟩
 .rintro i ⟨a,m,D,N,t,h,th⟩ hi ⟨e1,e2,e3,e4,e5,e6,e7⟩;dsimp only at e1 e2 e3 e4 e5 e6 e7;subst e1 e2;refine bQ (λg=>?_) λg=>(by dsimp only at g;rw[ew]at g;omega)
  have l4:l! N=4:=by rw[e3];rfl
  refine cH (cH (aT ?_));have hthl:l! th=i:=by have:=eR aj e6;rw[bM,cg]at this;have q4:Ah.length=4:=rfl;omega
  refine aX (λx=>x.2.2.2.1.1=geti (.str) N (i:Int)/\x.2.1=D0/\x.2.2.1=Ah/\TP x.2.2.2.2.1/\x.2.2.2.2.2.1.2=[]/\x.2.2.2.2.2.2.1=th/\x.2.2.2.2.2.2.2.1=L0/\l! x.2.2.2.2.2.2.2.2<=3/\∀s∈x.2.2.2.2.2.2.2.2,GS nT 3 s) ?_ ?_
  .refine aK (λ_=>?_) λ_=>ak ⟨rfl,rfl,e3,e4,e5,rfl,rfl,by simp,λs A=>(by cases A)⟩
   refine cD (1+n).toNat (λk x=>x.2.2.2.2.1.1=geti (.str) N (i:Int)/\x.1=1+(k:Int)/\x.2.2.1=D0/\x.2.2.2.1=Ah/\TP x.2.2.2.2.2.1/\x.2.2.2.2.2.2.1.2=[]/\x.2.2.2.2.2.2.2.1=th/\x.2.2.2.2.2.2.2.2.1=L0/\l! x.2.2.2.2.2.2.2.2.2<=k/\∀s∈x.2.2.2.2.2.2.2.2.2,GS nT 3 s) ?_ ?_ ⟨rfl,rfl,rfl,e3,e4,e5,rfl,rfl,by simp,λs A=>(by cases A)⟩
   .rintro k ⟨c,m1,D1,N1,z1,t1,h1,th1,l1,b1⟩ hk ⟨fz,f1,f2,L,f4,f5,f6,f7,f8,f9⟩;dsimp only at fz f1 f2 L f4 f5 f6 f7 f8 f9;subst f1;refine bQ (λ_=>?_) λg=>(by dsimp only at g;rw[ew]at g;omega)
    have l41:l! N1=4:=by rw[L];rfl
    refine cH (cH (aT ?_));refine a! (ak ?_);dsimp only;rw[jA (n:=1+(k:Int)+1) (by omega) (by omega)];refine ⟨fz,by omega,f2,L,f4,f5,f6,f7,by simp;omega,λs A=>?_⟩;rcases bO.1 A with A|A
    .exact f9 s A
    .rw[aE]at A;rw[A];refine U_ 12 (.inl rfl) ?_;rw[L,show 1+(k:Int)=((1+k:Nat):Int) by omega];exact am5 nT (by omega) (1+k) (by omega)
   .rintro⟨c,m1,D1,N1,z1,t1,h1,th1,l1,b1⟩ ⟨fz,f1,f2,L,f4,f5,f6,f7,f8,f9⟩;dsimp only at fz f1 f2 L f4 f5 f6 f7 f8 f9;subst f1;refine bQ (λg=>(by dsimp only at g;rw[ew]at g;omega)) λ_=>ak ?_
    exact⟨fz,f2,L,f4,f5,f6,f7,by dsimp only;omega,f9⟩
  rintro⟨m1,D1,N1,z1,t1,h1,th1,l1,b1⟩ ⟨fz,f2,L,f4,f5,f6,f7,f8,f9⟩;dsimp only at fz f2 L f4 f5 f6 f7 f8 f9;subst f2 f6 f7;refine aA (gP 3 t1 f4) λy hy=>?_
  let⟨k2,t2⟩:=y;let⟨u1,u2,u3,_⟩:=hy;have u3:=u3 (by decide);dsimp only at u1 u2 u3;dsimp only;rw[jA (n:=1+k2) (by omega) (by omega)];refine aA (aez (nT:=nT) 2 (by omega) (1+k2) m1 t2 h1 (by omega) u1.p (by rw[f5];simp)) λy hy=>?_
  let⟨m3,t3,h3,l3⟩:=y;let⟨w1,w2,w3,w4⟩:=hy;dsimp only at w1 w2 w3 w4;refine bt (by simp) (a! ?_);have hbody:∀s∈b1++l3,GS nT 3 s:=λs A=>by
   rcases bO.1 A with A|A
   .exact f9 s A
   .exact w2 s A
  have hlen:l! (b1++l3)<=6:=by rw[bz];omega
  refine aX (λx=>x.2.2.2.1.1=geti (.str) N (i:Int)/\x.2.1=D0/\x.2.2.1=Ah/\TP x.2.2.2.2.1/\x.2.2.2.2.2.1.2=[]/\x.2.2.2.2.2.2.1=th1/\x.2.2.2.2.2.2.2.1=L0/\l! x.2.2.2.2.2.2.2.2<=8/\∀s∈x.2.2.2.2.2.2.2.2,GS nT 3 s) ?_ ?_
  .refine aX (λx=>x.2.2.2.2.1.1=geti (.str) N (i:Int)/\x.2.2.1=D0/\x.2.2.2.1=Ah/\TP x.2.2.2.2.2.1/\x.2.2.2.2.2.2.1.2=[]/\x.2.2.2.2.2.2.2.1=th1/\x.2.2.2.2.2.2.2.2.1=L0/\x.2.2.2.2.2.2.2.2.2=b1++l3) ?_ ?_
   .refine aK (λ_=>?_) λ_=>ak ⟨fz,rfl,L,w3.p,w4.trans f5,rfl,rfl,rfl⟩
    exact aA (gP 3 t3 w3.p) λy hy=>ak ⟨fz,rfl,L,hy.1.p,w4.trans f5,rfl,rfl,rfl⟩
   rintro⟨b,m4,D4,N4,z4,t4,h4,th4,l4,b4⟩ ⟨pz,p2,p3,p4,p5,p6,p7,p8⟩;dsimp only at pz p2 p3 p4 p5 p6 p7 p8;subst p2 p6 p7 p8;have l44:l! N4=4:=by rw[p3];rfl
   refine aP (λ_=>?_) λ_=>ak ⟨pz,rfl,p3,p4,p5,rfl,rfl,by dsimp only;omega,hbody⟩
   refine cH (cH (aT ?_));refine bN (by simp at hlen ⊢;omega) (by omega) (ak ⟨pz,rfl,p3,p4,p5,rfl,rfl,by dsimp only;rw[bz,cq];omega,λs A=>?_⟩);rcases bO.1 A with A|A
   .exact hbody s A
   .rw[aE]at A;rw[A];refine U_ 13 (.inr rfl) ?_;rw[p3];exact am5 nT (by omega) 1 (by omega)
  rintro⟨m4,D4,N4,z4,t4,h4,th4,l4,b4⟩ ⟨pz,p2,p3,p4,p5,p6,p7,p8,p9⟩;dsimp only at pz p2 p3 p4 p5 p6 p7 p8 p9;subst p2 p6 p7;refine a! (ak ?_);dsimp only;refine ⟨ig,rfl,p3,p4,p5,by rw[pl (T:=.str) (xs:=Ah) (i:=i) (by have q4:Ah.length=4:=rfl;omega),cG,e6,<-e3];show _++[z4.1]=_;rw[pz],λt ht=>?_⟩;rcases bO.1 ht with ht|ht
  .exact e7 t ht
  .rw[aE]at ht;rw[ht];exact⟨rfl,p8,p9⟩
 .rintro⟨a,m,D,N,t,h,th⟩ ⟨e1,e2,e3,e4,e5,e6,e7⟩;dsimp only at e1 e2 e3 e4 e5 e6 e7;subst e1 e2;refine bQ (λg=>(by dsimp only at g;rw[ew]at g;omega)) λ_=>?_
  have hthl:l! th=nT:=by have:=eR aj e6;rw[bM,cg]at this;have q4:Ah.length=4:=rfl;omega
  have hpm:PJ (D0,th):=⟨rfl,by dsimp only;omega,by dsimp only;omega,by dsimp only;rw[hthl];exact e7,by dsimp only;rw[hthl];exact e6⟩
  refine aA (P:=λp=>PJ p/\∃r,gm p=Z r/\r.1=0) ?_ λr hr=>ak hr
  let⟨y,hy,_⟩:=HO (D0,th) hpm.x;refine bc hy (cf (λ_=>?_) λh=>ak ⟨hpm,y,hy,h⟩);refine bc Xg (bc (S7 _) (bc (vS _ _) (ak ?_)));refine ⟨⟨rfl,by simp,by simp,λt ht=>?_,rfl⟩,axs⟩;simp only[aE]at ht;rw[ht];refine ⟨rfl,by simp,λs A=>?_⟩;simp only[aE]at A;rw[A,gp,Cc];exact GS.asg (by decide) (GE.num _ 3)
abbrev iA (l:Y IT) (k:Nat):IT:=geti sK l (k:Int)
def JT (l:Y IT) (ρ:Nat->Nat) (a e k:Nat):Prop:=(iA l k).1=5->∃z:Nat,(iA l k).2.1=(z:Int)/\(z=e\/a<=z/\z<e/\ρ z<ρ k)
def sF (l:Y IT) (a e:Nat):Prop:=a<=e/\∃ρ:Nat->Nat,∀k,a<=k->k<e->1<=ρ k/\ρ k<=e-a/\JT l ρ a e k/\((iA l k).1<5->k+1=e\/ρ (k+1)<ρ k)
def sF.nil (l:Y IT) (a:Nat):sF l a a:=⟨bK _,λ_=>0,λk h1 z=>by omega⟩
def sF.one {l:Y IT} (h:¬(iA l i).1=5):sF l i (i+1):=⟨by omega,λ_=>1,λk h1 A=>⟨bK 1,by show 1<=i+1-i;omega,λz=>by rw[show k=i by omega]at z;exact (h z).elim,λ_=>.inl (by omega)⟩⟩
def sF.congr {l l':Y IT} (h:sF l i j) (D:∀k,i<=k->k<j->iA l' k=iA l k):sF l' i j:=by
 let⟨h1,ρ,L⟩:=h;exact⟨h1,ρ,λk A z=>by unfold JT;rw[D k A z];exact L k A z⟩
def sF.app {l:Y IT} {c:Nat} (h:sF l i j) (k:sF l j c):sF l i c:=by
 let⟨h1,ρ,h2⟩:=h;let⟨k1,σ,k2⟩:=k;refine ⟨by omega,λk=>if k<j then ρ k+(c-j) else σ k,λk g1 g2=>?_⟩;by_cases D:k<j
 .obtain⟨q1,q2,q3,q4⟩:=h2 k g1 D;simp only[aD D];refine ⟨by omega,by omega,?_,λz=>?_⟩
  .intro z;simp only[aD D];let⟨A,e,r⟩:=q3 z;refine ⟨A,e,?_⟩;rcases r with r|⟨r1,r2,r3⟩
   .subst r;by_cases L:A=c
    .exact .inl L
    .have:=(k2 A (bK _) (by omega)).2.1;rw[av (FG _)];exact .inr ⟨by omega,by omega,by omega⟩
   .rw[aD r2];exact .inr ⟨r1,by omega,by omega⟩
  .rcases q4 z with r|r
   .by_cases L:k+1=c
    .exact .inl L
    .have:=(k2 (k+1) (by omega) (by omega)).2.1;rw[av (by omega)];exact .inr (by omega)
   .by_cases hb:k+1<j
    .rw[aD hb];exact .inr (by omega)
    .rw[av hb];by_cases L:k+1=c
     .exact .inl L
     .have:=(k2 (k+1) (by omega) (by omega)).2.1;exact .inr (by omega)
 .obtain⟨q1,q2,q3,q4⟩:=k2 k (by omega) g2;simp only[av D];refine ⟨q1,by omega,?_,λz=>?_⟩
  .intro z;simp only[av D];let⟨A,e,r⟩:=q3 z;refine ⟨A,e,r.imp id λ⟨r1,r2,r3⟩=>⟨by omega,r2,?_⟩⟩;rw[av (by omega)];exact r3
  .rw[av (by omega)];exact q4 z
def sF.ite {l:Y IT} {e:Nat} (h:sF l i j) (hj:(iA l j).1=5) (hx:(iA l j).2.1=(e:Int)) (k:sF l (j+1) e):sF l i e:=by
 let⟨h1,ρ,h2⟩:=h;let⟨k1,σ,k2⟩:=k;refine ⟨by omega,λk=>if k<j then ρ k+(e-j) else if k=j then e-j else σ k,λk g1 g2=>?_⟩;by_cases A:k<j
 .obtain⟨q1,q2,q3,q4⟩:=h2 k g1 A;simp only[aD A];refine ⟨by omega,by omega,?_,λz=>?_⟩
  .intro z;simp only[aD A];let⟨L,e',r⟩:=q3 z;refine ⟨L,e',.inr ?_⟩;rcases r with r|⟨r1,D,r3⟩
   .rw[r,av (FG _),aD rfl];exact⟨by omega,by omega,by omega⟩
   .rw[aD D];exact⟨r1,by omega,by omega⟩
  .refine .inr ?_;by_cases hb:k+1<j
   .rw[aD hb];rcases q4 z with r|r<;>omega
   .rw[av hb,aD (by omega)];omega
 .by_cases hkj:k=j
  .subst hkj;simp only[av A,aD];exact⟨by omega,by omega,λ_=>⟨e,hx,.inl rfl⟩,λz=>by rw[hj]at z;omega⟩
  .obtain⟨q1,q2,q3,q4⟩:=k2 k (by omega) g2;simp only[av A,av hkj];refine ⟨q1,by omega,?_,λz=>?_⟩
   .intro z;simp only[av A,av hkj];let⟨L,e',r⟩:=q3 z;refine ⟨L,e',r.imp id λ⟨r1,D,r3⟩=>⟨by omega,D,?_⟩⟩;rw[av (by omega),av (by omega)];exact r3
   .rw[av (by omega),av (by omega)];exact q4 z
def sF.whl {l:Y IT} {c:Nat} (h:sF l i c) (hc:(iA l c).1=10) (k:sF l (c+1) j) (hj:(iA l j).1=5) (hx:(iA l j).2.1=(i:Int)):sF l i (j+1):=by
 let⟨h1,ρ,h2⟩:=h;let⟨k1,σ,k2⟩:=k;refine ⟨by omega,λk=>if k<c then ρ k+1 else if k=c then 1 else if k<j then σ k+(c-i)+2 else c-i+2,λk g1 g2=>?_⟩;by_cases A:k<c
 .obtain⟨q1,q2,q3,q4⟩:=h2 k g1 A;simp only[aD A];refine ⟨by omega,by omega,?_,λz=>?_⟩
  .intro z;simp only[aD A];let⟨k',e',r⟩:=q3 z;refine ⟨k',e',.inr ?_⟩;rcases r with r|⟨r1,L,r3⟩
   .rw[r,av (FG _),aD rfl];exact⟨by omega,by omega,by omega⟩
   .rw[aD L];exact⟨r1,by omega,by omega⟩
  .refine .inr ?_;by_cases D:k+1<c
   .rw[aD D];rcases q4 z with r|r<;>omega
   .rw[av D,aD (by omega)];omega
 .by_cases hkc:k=c
  .subst hkc;simp only[av A,aD];exact⟨by omega,by omega,λz=>by rw[hc]at z;omega,λz=>by rw[hc]at z;omega⟩
  .simp only[av A,av hkc];by_cases hkj:k<j
   .obtain⟨q1,q2,q3,q4⟩:=k2 k (by omega) hkj;simp only[aD hkj];refine ⟨by omega,by omega,?_,λz=>?_⟩
    .intro z;simp only[av A,av hkc,aD hkj];let⟨k',e',r⟩:=q3 z;refine ⟨k',e',.inr ?_⟩;rcases r with r|⟨r1,L,r3⟩
     .rw[r,av (by omega),av (by omega),av (FG _)];exact⟨by omega,by omega,by omega⟩
     .rw[av (by omega),av (by omega),aD L];exact⟨by omega,by omega,by omega⟩
    .refine .inr ?_;rw[av (by omega),av (by omega)];by_cases D:k+1<j
     .rw[aD D];rcases q4 z with r|r<;>omega
     .rw[av D];omega
   .have hkj:k=j:=by omega
    subst hkj;simp only[av (FG _)];refine ⟨by omega,by omega,λ_=>⟨i,hx,.inr ⟨bK _,by omega,?_⟩⟩,λz=>by rw[hj]at z;omega⟩;simp only[av A,av hkc,av (FG _)];by_cases ha:i<c
    .rw[aD ha];have:=(h2 i (bK _) ha).2.1;omega
    .rw[av ha,aD (by omega)];omega
def OB (nT:Nat) (i:IT):Prop:=
 if i.1=6 then 0<=i.2.2.1/\i.2.2.1<=2 else if i.1=8 then 0<=i.2.1/\i.2.1<=2 else if i.1=7 then i.2.2.1=3/\i.2.2.2.2.1=2 else if i.1=9 then i.2.1=3/\i.2.2.2.2.1=2 else if i.1=11\/i.1=12 then i.2.1=0\/i.2.1=1 else if 13<=i.1/\i.1<=16 then i.2.1=2 else if 21<=i.1/\i.1<=23 then i.2.1=0 else if i.1=24\/i.1=25 then 0<=i.2.1/\i.2.1<(nT:Int) else if i.1=26 then i.2.1=0 else if i.1=27 then i.2.2.1=0 else if i.1=4 then 6<=i.2.2.2.2.1/\i.2.2.2.2.1<=18 else ¬i.1=3
structure GO (nT:Nat) (i:IT):Prop where
 o1:1<=i.1
 o2:i.1<=27
 r:∀j:Int,j∈jP i->0<=j/\j<32
 b:OB nT i
def SO (ss:Y π) (t s:Int):Prop:=0<=s/\s<l! ss/\(geti pW ss s).1=t
structure GI (nT:Nat) (ss:List π) (t:Int) (i:IT):Prop where
 o:GO nT i
 s:SO ss t i.2.2.2.2.2
def Y_ (l:Y IT) (hl:l! l<=1000000) (h1:1<=l! l) (hb:sF l 0 (l! l-1)) (he:(iA l (l! l-1)).1=28) (k:Nat) (hk:k<l! l):qM (l,(k:Int))=Z J:=by
 let⟨_,ρ,hρ⟩:=hb;refine cW ?_;unfold qM bn bU kY bY aZ c7 aH cV;refine rI (λx=>((l! l:Int)+1-x.2).toNat) (λx=>0<=x.2/\∃q:Nat,x.1=(q:Int)/\q<l! l/\((if q<l! l-1 then ρ q else 0:Nat):Int)+x.2<=(l! l:Int)) ?_ ⟨by dsimp only;omega,k,rfl,hk,?_⟩
 .rintro⟨a,(n:Int)⟩ ⟨n0,q,e,hq,hr⟩;dsimp only at n0 e hr;subst e;refine fO (λ_=>?_) λg=>(by dsimp only[ay]at g;omega)
  refine ij ?_;refine ij (bQ (λg=>by dsimp only at g;omega) λ_=>ak ?_);refine j7 (by rw[nH];dsimp only[ay];omega) ?_;refine cH (aT ?_);refine bc (Jh _) ?_;refine dM (λ_=>ak rfl) λL=>?_
  have L:1<=(iA l q).1/\(iA l q).1<=5:=bF L;have A:q<l! l-1:=ya λh=>by rw[show q=l! l-1 by omega]at L;rw[he]at L;omega
  let⟨r1,r2,r3,r4⟩:=hρ q (lm _) A;rw[aD A]at hr;refine cH (aT ?_);have fin:∀z:Nat,z=l! l-1\/z<l! l-1/\ρ z<ρ q->0<=n+1/\∃D:Nat,(z:Int)=(D:Int)/\D<l! l/\((if D<l! l-1 then ρ D else 0:Nat):Int)+(n+1)<=(l! l:Int):=λz h=>⟨by omega,z,rfl,by omega,by
   rcases h with h|⟨h,h'⟩
   .rw[av (by omega)];omega
   .rw[aD h];omega⟩
  refine aK (λh5=>?_) λh5=>ak (ak ?_)
  .obtain⟨z,e,hq'⟩:=r3 h5;refine aO (fd _) (by dsimp only;omega) (aT (ak (ak ?_)));dsimp only;rw[jA (n:=n+1) (by omega) (by omega)];have:=fin z (hq'.imp id λh=>⟨h.2.1,h.2.2⟩);rw[<- e]at this;exact⟨this,by omega⟩
  .dsimp only;have h5:¬(iA l q).1=5:=h5;rw[jA (n:=n+1) (by omega) (by omega),ig];refine ⟨fin (q+1) ?_,by omega⟩;rcases r4 (by omega) with h|h
   .exact .inl h
   .by_cases hb:q+1=l! l-1
    .exact .inl hb
    .exact .inr ⟨by omega,h⟩
 .dsimp only;split
  next h=>have:=(hρ k (lm _) h).2.1;omega
  .omega
def O5 (w:WT) (z:w.1=C0):qN (w,3,2)=Z J:=by
 refine cW ?_;have h0:(0:Int)<=3:=by decide
 have h1:(3:Int)<(l! w.1:Int):=by rw[z];decide
 have A:geti lZ w.1 3=([113],0,2,af,0):=by rw[z];rfl
 unfold qN bn jQ bY aZ aH;refine ij (bc (tV _ _) (aK (λ_=>?_) λh=>(h ⟨h0,h1⟩).elim));rw[A];refine aO h0 h1 (aT (aK (λ_=>?_) λh=>(h rfl).elim));refine aO h0 h1 (aT (cf (λ_=>?_) λh=>cu h (by decide)));exact aO h0 h1 (aT (ak (ak rfl)))
def S4 {nT:Nat} (w:WT) (i:IT) (hw:WX w) (hT:l! w.2.2.2.2.1=nT) (z:OB nT i):mW (w,i)=Z J:=by
 let⟨D,hl,hd,hf,_,_,_⟩:=hw;refine cW ?_;unfold mW bf bw bH cE dJ bn kY bY aZ aH;unfold OB at z;simp only[tV,obs];refine aK (λh=>?_) λn6=>?_
 .rw[aD h]at z;have hz:(geti lZ w.1 i.2.2.1).2.2.1=(0:Int):=by
   rw[D];rcases (by omega:i.2.2.1=0\/i.2.2.1=1\/i.2.2.1=2) with h|h|h<;>rw[h]<;>rfl
  have hi:0<=i.2.2.1/\i.2.2.1<(l! w.1:Int):=⟨z.1,by rw[D];have:=z.2;show i.2.2.1<5;omega⟩
  exact ij (aK (λ_=>aO hi.1 hi.2 (aT (ak (ak (aS hz))))) λh=>(h hi).elim)
 rw[av n6]at z;refine aK (λh=>?_) λn8=>?_
 .rw[aD h]at z;have hz:(geti lZ w.1 i.2.1).2.2.1=(0:Int):=by
   rw[D];rcases (by omega:i.2.1=0\/i.2.1=1\/i.2.1=2) with h|h|h<;>rw[h]<;>rfl
  have hi:0<=i.2.1/\i.2.1<(l! w.1:Int):=⟨z.1,by rw[D];have:=z.2;show i.2.1<5;omega⟩
  exact ij (aK (λ_=>aO hi.1 hi.2 (aT (ak (ak (aS hz))))) λh=>(h hi).elim)
 rw[av n8]at z;refine aK (λh=>?_) λn7=>?_
 .rw[aD h]at z;rw[z.1,z.2];exact bc (O5 w D) (ak rfl)
 rw[av n7]at z;refine aK (λh=>?_) λn9=>?_
 .rw[aD h]at z;rw[z.1,z.2];exact bc (O5 w D) (ak rfl)
 rw[av n9]at z;refine aX (λx=>x.2=(w,i)/\(x.1=J↔i.1=11\/i.1=12)) (aK (λh=>ak ⟨rfl,λ_=>.inl h,λ_=>aS h⟩) λh=>ak ⟨rfl,λA=>.inr (bF A),λA=>aS (A.resolve_left h)⟩) ?_;rintro⟨b,x⟩ ⟨e,hx⟩;dsimp only at e hx;subst e;refine aP (λh=>?_) λh=>?_
 .rw[aD (hx.1 h)]at z;have hz:(geti tM w.2.1 i.2.1).2=af:=by
   rw[hl];rcases z with h|h<;>rw[h]<;>rfl
  have hi:0<=i.2.1/\i.2.1<(l! w.2.1:Int):=⟨by omega,by rw[hl];show i.2.1<3;omega⟩
  exact ij (aK (λ_=>aO hi.1 hi.2 (aT (ak (ak (by dsimp only;rw[hz];rfl))))) λh=>(h hi).elim)
 rw[av λA=>by rw[hx.2 A]at h;cases h]at z;have hj:∀{p:Prop} {b:Bool},(b=J->p)->(p->b=J)->b=af->¬p:=λ_ A h3 L=>by rw[A L]at h3;cases h3
 refine aX (λx=>x.2=(w,i)/\(x.1=J->13<=i.1/\i.1<=16)/\(13<=i.1/\i.1<=16->x.1=J)) (aK (λh=>ak ⟨rfl,λ_=>by first|omega|(dsimp only at h;omega),λ_=>aS h⟩) λ_=>aK (λh=>ak ⟨rfl,λ_=>by first|omega|(dsimp only at h;omega),λ_=>aS h⟩) λ_=>aK (λh=>ak ⟨rfl,λ_=>by first|omega|(dsimp only at h;omega),λ_=>aS h⟩) λ_=>ak ⟨rfl,λh=>by have:=bF h;first|omega|(dsimp only at this;omega),λh=>aS (by first|omega|(dsimp only at *;omega))⟩) ?_;rintro⟨b,x⟩ ⟨e,h1,A⟩;dsimp only at e h1 A;subst e;refine aP (λh=>?_) λh=>?_
 .rw[aD (h1 h)]at z;have hi:0<=i.2.1/\i.2.1<(l! w.2.1:Int):=⟨by omega,by rw[hl];show i.2.1<3;omega⟩
  exact ij (aK (λ_=>aO hi.1 hi.2 (aT (ak (ak (by dsimp only;rw[z,hl];rfl))))) λh=>(h hi).elim)
 rw[av (hj h1 A h)]at z;refine aX (λx=>x.2=(w,i)/\(x.1=J->21<=i.1/\i.1<=23)/\(21<=i.1/\i.1<=23->x.1=J)) (aK (λh=>ak ⟨rfl,λ_=>by first|omega|(dsimp only at h;omega),λ_=>aS h⟩) λ_=>aK (λh=>ak ⟨rfl,λ_=>by first|omega|(dsimp only at h;omega),λ_=>aS h⟩) λ_=>ak ⟨rfl,λh=>by have:=bF h;first|omega|(dsimp only at this;omega),λh=>aS (by first|omega|(dsimp only at *;omega))⟩) ?_;rintro⟨b,x⟩ ⟨e,h1,A⟩;dsimp only at e h1 A;subst e;refine aP (λh=>?_) λh=>?_
 .rw[aD (h1 h)]at z;exact ak (aS ⟨by dsimp only;omega,by dsimp only;rw[hd];show i.2.1<1;omega⟩)
 rw[av (hj h1 A h)]at z;refine aX (λx=>x.2=(w,i)/\(x.1=J->i.1=24\/i.1=25)/\(i.1=24\/i.1=25->x.1=J)) (aK (λh=>ak ⟨rfl,λ_=>.inl h,λ_=>aS h⟩) λh=>ak ⟨rfl,λA=>.inr (bF A),λA=>aS (A.resolve_left h)⟩) ?_;rintro⟨b,x⟩ ⟨e,h1,A⟩;dsimp only at e h1 A;subst e;refine aP (λh=>?_) λh=>?_
 .rw[aD (h1 h)]at z;exact ak (aS ⟨z.1,by dsimp only;rw[hT];exact z.2⟩)
 rw[av (hj h1 A h)]at z;refine aK (λh=>?_) λn=>?_
 .rw[aD h]at z;exact ak (aS ⟨by dsimp only;omega,by dsimp only;rw[hf];show i.2.1<1;omega⟩)
 rw[av n]at z;refine aK (λh=>?_) λn=>?_
 .rw[aD h]at z;exact ak (aS ⟨by dsimp only;omega,by dsimp only;rw[hf];show i.2.2.1<1;omega⟩)
 rw[av n]at z;by_cases L:i.1=4
 .rw[aD L]at z;refine aK (λh=>by have h:i.1=3:=h;omega) λ_=>aK (λ_=>?_) λh=>(h L).elim
  refine ij (fO (λ_=>ak (ak (To.2 z.2))) λh=>by dsimp only at h;omega)
 .rw[av L]at z;exact aK (λh=>(z h).elim) λ_=>aK (λh=>(L h).elim) λ_=>ak rfl
structure GC (nT:Nat) (ss:List π) (k:Int) (c:Int×List IT):Prop where
 r0:1<=c.1
 r1:c.1<=32
 n:1<=l! c.2
 u:l! c.2<=1000000
 e:(iA c.2 (l! c.2-1)).1=28/\(iA c.2 (l! c.2-1)).2.2.2.2.2= -1
 b:sF c.2 0 (l! c.2-1)
 i:∀q:Nat,q<l! c.2-1->GI nT ss k (iA c.2 q)
 r:∀q:Nat,q<l! c.2-1->(iA c.2 q).1=10->0<=(iA c.2 q).2.2.1/\(iA c.2 q).2.2.1<(l! c.2:Int)
 g:∀q:Nat,q<l! c.2-1->∀j:Int,j∈jP (iA c.2 q)->j<c.1
variable {a:Int}
def H5 {nT:Nat} {w:WT} {c:Int×Y IT} (hw:WX w) (hT:l! w.2.2.2.2.1=nT) (hc:GC nT w.2.2.2.2.2 a c):iU (w,a,c)=Z J:=by
 let⟨r0,r1,n1,hu,he,hb,hi,hr,hg⟩:=hc;refine cW ?_;unfold iU bf bw bH cE c8 dQ vu bn bU jQ bY aZ c7 aH cV;refine aX (λx=>x.2=(w,c)/\x.1=af) ?_ ?_
 .refine bQ (λh=>by have h:c.1<0:=h;omega) λ_=>bQ (λh=>by have h:32<c.1:=h;omega) λ_=>ak ⟨rfl,cK λh=>by have h:aQ (l! c.2)=0:=h;dsimp only[ay]at h;omega⟩
 rintro⟨b,x⟩ ⟨e,hb'⟩;dsimp only at e hb';subst e hb';refine kB ?_;refine cD (l! c.2) (λi x=>x.1=(i:Int)/\x.2=(w,c)) ?_ ?_ ⟨rfl,rfl⟩
 .rintro i ⟨k,x⟩ hi2 ⟨e1,e2⟩;dsimp only at e1 e2;subst e1 e2;have hla:=Y_ c.2 hu n1 hb he.1 i hi2;have hz:∀z:IT,z=iA c.2 i->(i<l! c.2-1->GI nT w.2.2.2.2.2 a z/\(z.1=10->0<=z.2.2.1/\z.2.2.1<(l! c.2:Int))/\(z.1=5->0<=z.2.1/\z.2.1<(l! c.2:Int))/\∀j:Int,j∈jP z->j<c.1)/\(i=l! c.2-1->z.1=28/\z.2.2.2.2.2= -1):=λz hz=>by
   subst hz;refine ⟨λh=>⟨hi i h,hr i h,λh5=>?_,hg i h⟩,λh=>by rw[h];exact he⟩;let⟨_,ρ,hρ⟩:=hb;let⟨q',e,hq'⟩:=(hρ i (lm _) h).2.2.1 h5;rw[e];omega
  refine dB ?_;refine cH (aT ?_);generalize hzz:(geti sK c.2 (i:Int))=z;let⟨A,D⟩:=hz z hzz.symm;have hcs:i<l! c.2-1\/i=l! c.2-1:=by omega
  have o1:1<=z.1:=by
   rcases hcs with h|h
   .exact (A h).1.o.o1
   .rw[(D h).1];decide
  have o2:z.1<=28:=by
   rcases hcs with h|h
   .exact xv (A h).1.o.o2 (by decide)
   .rw[(D h).1];decide
  have o28:z.1=28->i=l! c.2-1:=λh=>hcs.resolve_left λg=>by have:=(A g).1.o.o2;rw[h]at this;exact cu this (by decide)
  have hob:OB nT z:=by
   rcases hcs with h|h
   .exact (A h).1.o.b
   .unfold OB;rw[(D h).1];simp
  have hrg:∀j:Int,j∈jP z->0<=j/\j<c.1:=λj L=>by
   rcases hcs with h|h
   .exact⟨((A h).1.o.r j L).1,(A h).2.2.2 j L⟩
   .unfold jP at L;rw[(D h).1]at L;simp at L
  have hwr:bl .i64 (aQ (l! c.2)-1)=((l! c.2-1:Nat):Int):=by rw[jA (by dsimp only[ay];omega) (by dsimp only[ay];omega)];dsimp only[ay];omega
  have hcd:((decide (z.1=28)==decide ((i:Int)=bl .i64 (aQ (l! c.2)-1))) !=J)=af:=by grind
  refine aX (λx=>x=(af,w,c,z)) ?_ ?_
  .refine bQ (λh=>cu h (Bs.2 o1)) λ_=>bQ (λh=>cu h (Bs.2 o2)) λ_=>j7 hcd ?_
   refine bc (S4 w z hw hT hob) (j7 rfl (bc hla (ak rfl)))
  rintro x rfl;refine kB (aX (λx=>x=(af,w,c,z)) ?_ ?_)
  .simp only[tV,obs];refine aK (λh=>?_) λh=>?_
   .have h5:=(D (o28 h)).2;exact cf (λg=>(g h5).elim) λ_=>cf (λg=>(g h).elim) λ_=>ak rfl
   .have hsi:=(A (hcs.resolve_right λg=>h (D g).1)).1.s;refine cf (λ_=>cf (λg=>(g ⟨hsi.1,hsi.2.1⟩).elim) λg=>aO g.1 g.2 (aT (ak ?_))) λg=>(h g).elim
    rw[aS hsi.2.2];rfl
  rintro x rfl;refine kB (aX (λx=>x=(af,w,c,z)) ?_ ?_)
  .simp only[tV,obs];have n28:z.1=5\/z.1=10->i<l! c.2-1:=λh=>hcs.resolve_right λg=>by rw[(D g).1]at h;exact cu h (by decide)
   refine aK (λh=>?_) λh=>?_
   .have h2:=(A (n28 (.inl h))).2.2.1 h;refine cf (λg=>(g h2).elim) λ_=>aK (λg=>?_) λ_=>ak rfl
    rw[h]at g;exact cu g (by decide)
   .refine aK (λg=>ak ?_) λ_=>ak rfl
    have h2:=(A (n28 (.inr g))).2.1 g;rw[aS (show 0<=z.2.2.1/\z.2.2.1<aQ (l! c.2) from h2)];rfl
  rintro x rfl;refine kB (bc (vI z) ?_);have hrl:=F8 z;refine cD (l! (jP z)) (λj x=>x=((j:Int),w,c)) ?_ ?_ rfl
  .rintro j x L rfl;refine dB ?_;refine cH (aT ?_);refine bc (tV _ _) (cf (λg=>(g (hrg _ (bP (T:=aM) (xs:=jP z) (j:=(j:Int)) (by omega) (by omega)))).elim) λ_=>ak ?_);dsimp only;rw[ig]
  .rintro x rfl;exact dw (ak ⟨ig,rfl⟩)
 .rintro⟨k,x⟩ ⟨e1,e2⟩;dsimp only at e1 e2;subst e1 e2;exact dw (ak rfl)
section
abbrev GN:Type:=Y (ζ×Int×Int×Bool×Int)×Y (ζ×Bool)×Y (ζ×Int)×Y ζ×Y ζ×Y π×Y ζ×j?
def Rt (l:Y H!) (s:ζ) (D:l! l<=1000):Ok (mN (l,s)) λr=> -1<=r/\r<l! l/\(0<=r->(geti tM l r).1=s)/\(r<0->∀c∈l,c.1≠s):=by
 refine cD (l! l) (λi x=>x=(i:Int)/\∀k:Nat,k<i->(geti tM l (k:Int)).1≠s) ?_ ?_ ⟨rfl,λk A=>by omega⟩
 .rintro i x hi ⟨rfl,z⟩;refine dB ?_;refine cH (aT ?_);refine aK (λh=>ak ⟨by omega,by omega,λ_=>h,λh=>by omega⟩) λh=>ak ⟨ig,λk A=>?_⟩
  grind
 .rintro x ⟨rfl,z⟩;exact dw (ak ⟨by omega,by omega,λh=>by omega,λ_=>iY (T:=tM) (p:=λc=>c.1≠s) z⟩)
def ars {s:ζ} (h: -1<=a/\a<KF.length/\(0<=a->(geti tM KF a).1=s)/\(a<0->∀c∈KF,c.1≠s)):(s=[109]->a=0)/\(s=[110]->a=1)/\(s=[114]->a=2):=by
 let⟨h0,h1,z,A⟩:=h;have h1:a<3:=h1;rcases (by omega:a= -1\/a=0\/a=1\/a=2) with rfl|rfl|rfl|rfl
 .have A:=A (by decide);exact⟨λh=>(A ([109],af) (by decide) h.symm).elim,λh=>(A ([110],af) (by decide) h.symm).elim,λh=>(A ([114],J) (by decide) h.symm).elim⟩
 .have z:[109]=s:=z (by decide)
  grind
 .have z:[110]=s:=z (by decide)
  grind
 .have z:[114]=s:=z (by decide)
  grind
def DG (w:WT) (s:ζ) (D:w.1=C0):Ok (oJ (w,s)) λr=>(s∈NV->s∉L0->0<=r/\r<=2)/\(s=[113]->r=3):=by
 have hl:l! w.1=5:=by rw[D];rfl
 refine cD (l! w.1) (λi x=>x.1=(i:Int)/\x.2=w/\∀k:Nat,k<i->(geti lZ w.1 (k:Int)).1≠s) ?_ ?_ ⟨rfl,rfl,λk hk=>by omega⟩
 .rintro i ⟨a,x⟩ hi ⟨L,e2,A⟩;subst L;have e2:=e2.symm;subst e2;refine dB ?_;refine cH (aT ?_);refine aK (λh=>ak ?_) λg=>ak ?_
  .rw[D]at h A;rcases (by omega:i=0\/i=1\/i=2\/i=3\/i=4) with rfl|rfl|rfl|rfl|rfl
   .have h:[120]=s:=h
    grind
   .have h:[121]=s:=h
    grind
   .have h:[118]=s:=h
    grind
   .have h:[113]=s:=h
    grind
   .have h:[113]=s:=h;exact (A 3 (by omega) h).elim
  .refine ⟨ig,rfl,λk hk=>?_⟩
   grind
 .rintro⟨a,x⟩ ⟨L,e2,A⟩;subst L;have e2:=e2.symm;subst e2;refine dw (ak ?_);have z:=iY (T:=lZ) (p:=λc=>c.1≠s) A;rw[D]at z;have a1:=z ([120],0,0,af,0) (by decide);have a2:=z ([121],0,0,af,1) (by decide);have a3:=z ([118],0,0,J,0) (by decide);have a4:=z ([113],0,2,af,0) (by decide);refine ⟨λh hx=>?_,λh=>(a4 h.symm).elim⟩;simp[aV,b8,fo,L0]at h hx
  grind
def Mo (i:IT) (g:GN) (out:Y IT) (h:l! out<=100000000):Ok (cO (i,g,out)) λy=>y.1=g/\y.2=out++[(i.1,i.2.1,i.2.2.1,i.2.2.2.1,i.2.2.2.2.1,g.2.2.2.2.2.2.2.1)]:=by
 exact bN (by grind) (by omega) (ak ⟨rfl,rfl⟩)
def VE:Nat->Nat
 |0=>0
 |d+1=>1+2*VE d
def M4 {l m:Y IT} (h:i<l! l):iA (l++m) i=iA l i:=by
 unfold iA;rw[tI,tI,aw,aw,bL h]
def AM (l:Y IT) (x:IT):iA (l++[x]) (l! l)=x:=by
 unfold iA;rw[tI,aw,b_ (bK _)];simp
structure QC (nT:Nat) (ss:List π) (t:Int) (n:Nat) (out o:List IT):Prop where
 l:l! out<=l! o
 u:l! o<=l! out+n
 p:∀k:Nat,k<l! out->iA o k=iA out k
 b:sF o (l! out) (l! o)
 i:∀k:Nat,l! out<=k->k<l! o->GI nT ss t (iA o k)
 r:∀k:Nat,l! out<=k->k<l! o->(iA o k).1=10->0<=(iA o k).2.2.1/\(iA o k).2.2.1<=(l! o:Int)
variable {nT:Nat} {ss:Y π} {t:Int}
def QC.nil (n:Nat) (out:Y IT):QC nT ss t n out out:=⟨bK _,by omega,λ_ _=>rfl,sF.nil _ _,λk h1 z=>by omega,λk h1 z=>by omega⟩
def QC.trans {c:Nat} {x y z:Y IT} (h:QC nT ss t i x y) (k:QC nT ss t j y z) (hc:i+j<=c):QC nT ss t c x z:=by
 let⟨h1,h2,L,D,h5,h6⟩:=h;let⟨k1,k2,k3,k4,k5,k6⟩:=k;refine ⟨by omega,by omega,λq A=>(k3 q (by omega)).trans (L q A),(D.congr λq _ A=>k3 q A).app k4,λq g1 g2=>?_,λq g1 g2 g3=>?_⟩
 .grind
 .grind
def QC.one {out:Y IT} {i:IT} (h:GI nT ss t i) (z:¬i.1=5/\¬i.1=10):QC nT ss t 1 out (out++[i]):=by
 have D:l! (out++[i])=l! out+1:=by simp
 refine ⟨by omega,by omega,λk L=>M4 L,?_,λk h1 h2=>?_,λk h1 h2 A=>?_⟩
 .rw[D];exact sF.one (by rw[AM];exact z.1)
 .rw[show k=l! out by omega,AM];exact h
 .rw[show k=l! out by omega,AM]at A;exact (z.2 A).elim
structure GK (ss:List π) (t:Int) (g:GN):Prop where
 c:g.1=C0
 l:g.2.2.2.2.2.2.1=L0
 s:SO ss t g.2.2.2.2.2.2.2.1
def goI {nT:Nat} {op B C N y:Int} (h1:1<=op) (L:op<=27) (z:∀j:Int,j∈jP (op,a,B,C,N,y)->0<=j/\j<32) (D:OB nT (op,a,B,C,N,y)):GO nT (op,a,B,C,N,y):=⟨h1,L,z,D⟩
def Ic {op:Int} {r:υ} {g:GN} {out:Y IT} (h:l! out<=100000000) (A:GK ss t g) (hi:GO nT (op,r)) (D:¬op=5/\¬op=10):Ok (cO ((op,r),g,out)) λy=>y.1=g/\QC nT ss t 1 out y.2:=(Mo (op,r) g out h).mono λy z=>⟨z.1,by rw[z.2];exact QC.one ⟨⟨hi.o1,hi.o2,hi.r,hi.b⟩,A.s⟩ D⟩
abbrev z!:=GN×Y IT
def Rz:∀(n d:Nat),d<n->∀(e:Xp) (k:Int) (g:GN) (out:Y IT),GE d e->GK ss t g->0<=k->k+d<=31->l! out+VE d<=100000000->Ok (jK n ((e,k),g,out)) λy=>y.1=g/\QC nT ss t (VE d) out y.2
 |0,_,h,_,_,_,_,_,_,_,_,_=>by omega
 |n+1,0,_,e,_,_,_,h,_,_,_,_=>h.elim
 |n+1,d+1,hn,e,k,g,out,h,hg,k0,k1,hb=>by
  obtain⟨h1,h2,h3,h4,h5,h6⟩:=h;obtain⟨gc,gl,gs⟩:=id hg;have hv:VE (d+1)=1+2*VE d:=rfl;rw[DZ];unfold sh bf bw bH cE dJ bn kY bR bY aH cV;refine aX (λy=>y.1=g/\QC nT ss t (VE (d+1)) out y.2) ?_ λx hx=>ak hx
  have fin:∀{y:z!},(y.1=g/\QC nT ss t 1 out y.2)->y.1=g/\QC nT ss t (VE (d+1)) out y.2:=λh=>⟨h.1,(QC.nil 0 out).trans h.2 (by omega)⟩
  refine aK (λ_=>?_) λn1=>?_
  .refine aA (Ic (nT:=nT) (by omega) hg (goI (by decide) (by decide) (by simp[jP];omega) ((by decide:¬(1:Int)=3))) (by decide)) λy z=>bt (by simp) (ak (fin z))
  refine aK (λn2=>?_) λn2=>?_
  .refine aA (BS _ _ (by dsimp only;rw[gl];decide)) λv hv=>fO (λg0=>?_) λg0=>?_
   .have A:=hv.2.1;dsimp only at A g0;rw[gl]at A;have A:v<2:=A;refine aA (Ic (nT:=nT) (by omega) hg (goI (by decide) (by decide) (by simp[jP];omega) ((by decide:¬(2:Int)=3))) (by decide)) λy z=>bt (by simp) (ak (fin z))
   .have A:=hv.2.2.2 g0;dsimp only at A;rw[gl]at A;refine aA (DG _ _ gc) λv hv2=>?_
    have v2:=hv2.1 (h5 n2) A;refine aA (Ic (nT:=nT) (by omega) hg (goI (by decide) (by decide) (by simp[jP];omega) (v2)) (by decide)) λy z=>bt (by simp) (ak (fin z))
  have hl:=h2 n1 n2;have hrec:∀(j:Nat),j<l! e.l->∀(k':Int) (o:Y IT),0<=k'->k'+d<=31->l! o+VE d<=100000000->Ok (jK n ((geti (.ex) e.l (j:Int),k'),g,o)) λy=>y.1=g/\QC nT ss t (VE d) o y.2:=λj hj k' o q0 L ho=>Rz n d (by omega) _ k' g o (h4 _ (bP (T:=.ex) (xs:=e.l) (j:=(j:Int)) (by omega) (by omega))) hg q0 L ho
  refine aK (λn3=>?_) λn3=>?_
  .refine cH (aT ?_);refine aA (hrec 0 hl k out k0 (by omega) (by omega)) λy z=>?_
   obtain⟨g2,o2⟩:=y;obtain⟨L,D⟩:=z;dsimp only at L D;subst L;have q3:=D.u;refine bt (by simp) ?_;refine aA (DG _ _ gc) λv hv2=>?_
   have v3:=hv2.2 (h1 n3);have v3:v=3:=v3;subst v3;refine aO (by decide) (by dsimp only;rw[gc];decide) (aT ?_);refine aA (Ic (nT:=nT) (by omega) hg (goI (by decide) (by decide) (by simp[jP];omega) (⟨rfl,by dsimp only;rw[gc];rfl⟩)) (by decide)) λy z=>bt (by simp) (ak ⟨z.1,D.trans z.2 (by omega)⟩)
  obtain⟨h7,h8,h9⟩:=h6 n1 n2 n3;refine aK (λn4=>?_) λn4=>?_
  .dsimp only[ay]at n4;omega
  .have hl2:1<l! e.l:=by omega
   refine cH (aT ?_);refine aA (hrec 0 hl k out k0 (by omega) (by omega)) λy z=>?_
   obtain⟨g2,o2⟩:=y;obtain⟨L,D⟩:=z;dsimp only at L D;subst L;have q3:=D.u;refine bt (by simp) ?_;refine cH (aT ?_);dsimp only;rw[jA (n:=k+1) (by omega) (by omega)];refine aA (hrec 1 hl2 _ o2 (by omega) (by omega) (by omega)) λy z=>?_
   obtain⟨g3,o3⟩:=y;obtain⟨r1,r2⟩:=z;dsimp only at r1 r2;subst r1;have r3:=r2.u;refine bt (by simp) ?_;refine aA (Ic (nT:=nT) (by omega) hg (goI (by decide) (by decide) (by simp[jP];omega) (⟨h8,h9⟩)) (by decide)) λy z=>bt (by simp) (ak ⟨z.1,(D.trans r2 (bK _)).trans z.2 (by omega)⟩)
def YF (e:Xp) (k:Int) (g:GN) (out:Y IT) (he:GE 4 e) (A:GK ss t g) (z:0<=k) (k1:k<=27) (h:l! out<=99999900):Ok (jH ((e,k),g,out)) λy=>y.1=g/\QC nT ss t 15 out y.2:=Rz fuel 4 (by rw[lh];omega) e k g out he A z (by omega) (by have:VE 4=15:=rfl;omega)
end
section
structure GB (nT:Nat) (g:GN):Prop where
 c:g.1=C0
 l:g.2.1=KF
 d:g.2.2.1=PI
 f:g.2.2.2.1=Yt
 t:g.2.2.2.2.1=Ah.take nT
 h:g.2.2.2.2.2.2.1=L0
structure GQ (g y:GN):Prop where
 a:y.1=g.1
 b:y.2.1=g.2.1
 c:y.2.2.1=g.2.2.1
 d:y.2.2.2.1=g.2.2.2.1
 e:y.2.2.2.2.1=g.2.2.2.2.1
 h:y.2.2.2.2.2.2.1=g.2.2.2.2.2.2.1
def GQ.refl (g:GN):GQ g g:=⟨rfl,rfl,rfl,rfl,rfl,rfl⟩
def GQ.trans {a b c:GN} (h:GQ a b) (k:GQ b c):GQ a c:=⟨k.a.trans h.a,k.b.trans h.b,k.c.trans h.c,k.d.trans h.d,k.e.trans h.e,k.h.trans h.h⟩
variable {nT:Nat} {ss:Y π} {t:Int}
def GB.of {g y:GN} (h:GB nT g) (q:GQ g y):GB nT y:=⟨q.a.trans h.c,q.b.trans h.l,q.c.trans h.d,q.d.trans h.f,q.e.trans h.t,q.h.trans h.h⟩
def GQ.site (g:GN) (x:Y π) (a b:Int):GQ g (g.1,g.2.1,g.2.2.1,g.2.2.2.1,g.2.2.2.2.1,x,g.2.2.2.2.2.2.1,a,b):=⟨rfl,rfl,rfl,rfl,rfl,rfl⟩
abbrev gS (g:GN):Int:=g.2.2.2.2.2.2.2.1
abbrev gN (g:GN):Int:=g.2.2.2.2.2.2.2.2
structure QG (nT:Nat) (ss:List π) (t:Int) (n m:Nat) (g:GN) (out:List IT) (y:GN×List IT):Prop where
 q:GQ g y.1
 c:QC nT ss t n out y.2
 x:gN y.1=gN g+(m:Int)
def Ax {op:Int} {r:υ} {g:GN} {out:Y IT} (h:l! out<=100000000) (z:GB nT g) (A:SO ss t (gS g)) (hi:GO nT (op,r)) (D:¬op=5/\¬op=10):Ok (cO ((op,r),g,out)) λy=>y.1=g/\QC nT ss t 1 out y.2:=Ic h ⟨z.c,z.h,A⟩ hi D
def FN (e:Xp) (k:Int) (g:GN) (out:Y IT) (he:GE 4 e) (z:GB nT g) (D:SO ss t (gS g)) (A:0<=k) (k1:k<=27) (h:l! out<=99999000):Ok (jH ((e,k),g,out)) λy=>y.1=g/\QC nT ss t 15 out y.2:=YF e k g out he ⟨z.c,z.h,D⟩ A k1 (by omega)
def GB.len {g:GN} (h:GB nT g):aQ (aj g.2.2.2.2.2.2.1)=2:=by rw[h.h];rfl
def ab0 (s:Sx) (g:GN) (out:Y IT) (h1:s.index≠[]->s.name=[113]) (h2:∀e∈s.index,GE 4 e) (h3:GE 4 s.expr) (h4:s.index=[]->s.name∈NV) (z:GB nT g) (hs:SO ss t (gS g)) (h:l! out<=99990000):Ok (nD (s,g,out)) λy=>y.1=g/\QC nT ss t 40 out y.2:=by
 have hex:GE 4 (eP (Xp.op s.expr,Xp.n s.expr,Xp.name s.expr,Xp.l s.expr)):=by exact h3
 have e3:bl .i64 ((2:Int)+1)=3:=jA (by decide) (by decide);unfold nD bf bw bH cE dJ bU kY bR bY aZ;refine bQ (λL=>?_) λL=>?_
 .dsimp [ay]at L;refine cH (aT ?_);refine aA (FN _ _ g out (h2 _ (bP (T:=.ex) (xs:=s.index) (j:=0) (by omega) (by omega))) z hs (by simp) (by rw[z.len];decide) (by omega)) λy A=>?_
  let⟨g2,o2⟩:=y;let⟨q1,D⟩:=A;dsimp only at q1 D;subst q1;have q3:=D.u;refine bt (by simp) ?_;rw[z.len,e3];refine aA (FN _ _ g2 o2 hex z hs (by decide) (by decide) (by omega)) λy A=>?_
  let⟨g3,o3⟩:=y;let⟨r1,r2⟩:=A;dsimp only at r1 r2;subst r1;have r3:=r2.u;refine bt (by simp) ?_;refine aA (DG _ _ z.c) λv hv=>?_
  have v3:=hv.2 (h1 (λh=>by rw[h]at L;simp at L));subst v3;refine aO (by decide) (by dsimp only;rw[z.c];decide) (aT ?_);refine aA (Ax (by omega) z hs (goI (by decide) (by decide) (by simp[jP,z.h,L0]) (⟨rfl,by dsimp only;rw[z.c];rfl⟩)) (by decide)) λy A=>bt (by simp) (ak ⟨A.1,(D.trans r2 (bK _)).trans A.2 (by omega)⟩)
 .have hi0:s.index=[]:=dk.1 (by grind);refine aA (FN _ _ g out hex z hs (by simp) (by rw[z.len];decide) (by omega)) λy A=>?_
  let⟨g2,o2⟩:=y;let⟨q1,D⟩:=A;dsimp only at q1 D;subst q1;have q3:=D.u;refine bt (by simp) ?_;refine aA (BS _ _ (by dsimp only;rw[z.h];decide)) λv hv=>fO (λL=>?_) λL=>?_
  .have v1:=hv.2.1;rw[z.h]at v1;have v1:v<2:=v1;refine aA (Ax (by omega) z hs (goI (by decide) (by decide) (by simp[jP,z.h,L0];omega) ((by decide:¬(2:Int)=3))) (by decide)) λy A=>bt (by simp) (ak ⟨A.1,D.trans A.2 (by omega)⟩)
  .have v1:=hv.2.2.2 L;rw[z.h]at v1;refine aA (DG _ _ z.c) λv hv2=>?_
   have v2:=hv2.1 (h4 hi0) v1;refine aA (Ax (by omega) z hs (goI (by decide) (by decide) (by simp[jP,z.h,L0]) (v2)) (by decide)) λy A=>bt (by simp) (ak ⟨A.1,D.trans A.2 (by omega)⟩)
def ala (s:ζ) (g:GN) (out:Y IT) (A:GB nT g):Ok (kD (s,g,out)) λy=>y.2=(g,out)/\(s=[99]->y.1=0):=by
 have hd:l! g.2.2.1=1:=by rw[A.d];rfl
 unfold kD bf bU bY aZ c7 aH cV;refine cD 1 (λi x=>x.1=(i:Int)/\x.2=(g,out)/\(s=[99]->i=0)) ?_ ?_ ⟨rfl,rfl,λ_=>rfl⟩
 .rintro i ⟨a,x⟩ hi ⟨z,e2,D⟩;subst z e2;refine dB ?_;refine cH (aT ?_);refine aK (λ_=>ak ⟨rfl,λ_=>by dsimp only;omega⟩) λh=>ak ⟨ig,rfl,λL=>?_⟩
  refine (h ?_).elim;rw[A.d,show i=0 by omega,L];rfl
 .rintro⟨a,x⟩ ⟨z,e2,D⟩;subst z e2;exact dw (ak ⟨rfl,λh=>by have:=D h;omega⟩)
def ME:Nat->Nat
 |0=>0
 |d+1=>50+16*ME d
def SR (ss:Y π) (t a:Int) (m:Nat):Prop:=0<=a/\a+m<=1000/\∀i:Int,a<=i->i<a+m->SO ss t i
def SpG (nT:Nat) (ss:Y π) (t:Int) (z:Sx×z!->M z!) (d:Nat):Prop:=∀(s:Sx) (g:GN) (out:Y IT),GS nT d s->GB nT g->SR ss t (gN g) (UT d s)->l! out+ME d<=90000000->Ok (z (s,g,out)) (QG nT ss t (ME d) (UT d s) g out)
def ama (nT:Nat) (ss:Y π) (t:Int) (z:Y Sx×z!->M z!) (d:Nat):Prop:=∀(l:Y Sx) (g:GN) (out:Y IT),l! l<=100->(∀s∈l,GS nT d s)->GB nT g->SR ss t (gN g) (oS d l)->l! out+l! l*ME d<=90000000->Ok (z (l,g,out)) (QG nT ss t (l! l*ME d) (oS d l) g out)
end
section
abbrev FS6:Type:=Y Sx×z!->M z!
abbrev FT6:Type:=Sx×z!->M z!
abbrev FA6:Type:=(Sx×Int×Int×Int)×z!->M z!
variable {nT:Nat} {ss:Y π} {t:Int}
def auy (nT:Nat) (ss:Y π) (t:Int) (z:FT6) (d:Nat):Prop:=∀(s:Sx) (g:GN) (out:Y IT),s.op=2\/s.op=3->GE 4 s.expr->l! s.body<=8->l! s.els<=8->(∀x∈s.body,GS nT d x)->(∀x∈s.els,GS nT d x)->(¬s.op=2->s.els=[])->GB nT g->SO ss t (gS g)->SR ss t (gN g) (oS d s.body+oS d s.els)->l! out+ME (d+1)<=90000000->Ok (z (s,g,out)) (QG nT ss t (17+16*ME d) (oS d s.body+oS d s.els) g out)
def auz (nT:Nat) (ss:Y π) (t:Int) (z:FA6) (d:Nat):Prop:=∀(s:Sx) (a b c:Int) (g:GN) (out:Y IT),l! s.body<=8->(∀x∈s.body,GS nT d x)->GO nT (a,c,0,0,0,0)->GO nT (b,c,0,0,0,0)->¬a=5/\¬a=10->¬b=5/\¬b=10->GB nT g->SO ss t (gS g)->SR ss t (gN g) (oS d s.body)->l! out+ME (d+1)<=90000000->Ok (z ((s,a,b,c),g,out)) (QG nT ss t (17+16*ME d) (oS d s.body) g out)
def SR.sub {b:Int} {n:Nat} (h:SR ss t a i) (h1:a<=b) (z:b+n<=a+i):SR ss t b n:=⟨by have:=h.1;omega,by have:=h.2.1;omega,λm D A=>h.2.2 m (by omega) (by omega)⟩
def ZM (rs:FS6) (rt:FT6) (rb:FT6) (ra:FA6) (d:Nat) (ht:SpG nT ss t rt d):ama nT ss t (wK rs rt rb ra) d:=by
 intro l g out hl hs hg hso hb;refine cD (l! l) (λi x=>x.1=(i:Int)/\QG nT ss t (i*ME d) (oS d (l.take i)) g out x.2) ?_ ?_ ⟨rfl,GQ.refl g,QC.nil _ _,by simp[oS]⟩
 .rintro i ⟨a,g2,o2⟩ hi ⟨L,A,z,q3⟩;dsimp only at L A z q3;subst L;have hK:(i+1)*ME d<=l! l*ME d:=cJ _ (by omega);have hKs:=jS i (ME d);rw[Nat.succ_eq_add_one]at hKs;have hp:=Up (d:=d) l (i+1);rw[zV hi]at hp;have q4:=z.u;refine dB ?_;refine cH (aT ?_);refine aA (ht _ g2 o2 (hs _ (bP (T:=.sm) (xs:=l) (j:=(i:Int)) (by omega) (by omega))) (hg.of A) (hso.sub (by omega) (by grind)) (by omega)) λy D=>bt (by simp) (ak ?_)
  rw[zV hi];exact⟨ig,A.trans D.q,z.trans D.c (by omega),by rw[D.x,q3];dsimp only;omega⟩
 .rintro⟨a,g2,o2⟩ ⟨L,q⟩;rw[cQ]at q;exact dw (ak q)
def Wv (rs:FS6) (rt:FT6) (rb:FT6) (ra:FA6) (d:Nat) (hS:ama nT ss t rs d):auz nT ss t (uT rs rt rb ra) d:=by
 intro s a b c g out h1 h2 ga gb na nb D hs hso hb;have hm:ME (d+1)=50+16*ME d:=rfl;have kb:l! s.body*ME d<=8*ME d:=cJ _ h1;refine aA (Ax (by omega) D hs ga na) λy z=>?_
 let⟨g2,o2⟩:=y;let⟨q1,A⟩:=z;dsimp only at q1 A;subst q1;have q3:=A.u;refine bt (by simp) ?_;refine aA (hS s.body g2 o2 (by omega) h2 D hso (by omega)) λy z=>?_
 let⟨L,o3⟩:=y;let⟨r1,r2,r3⟩:=z;have r4:=r2.u;refine bt (by simp) ?_;have qs:=r1.trans (GQ.site L L.2.2.2.2.2.1 g2.2.2.2.2.2.2.2.1 L.2.2.2.2.2.2.2.2);refine aA (Ax (by grind) (D.of qs) hs gb nb) λy z=>bt (by simp) (ak ⟨?_,?_,?_⟩)
 .rw[z.1];exact qs
 .exact (A.trans r2 (bK _)).trans z.2 (by omega)
 .rw[z.1];exact r3
def Cu {l:Y IT} {x:IT} (h:j<l! l):iA (ch l (j:Int) x) i=if i=j then x else iA l i:=Np (T:=sK) l j i x h
abbrev ptB (l:Y IT) (j:Nat) (b:Int):Y IT:=ch l (j:Int) ((iA l j).1,(iA l j).2.1,b,(iA l j).2.2.2.1,(iA l j).2.2.2.2.1,(iA l j).2.2.2.2.2)
abbrev ptA (l:Y IT) (j:Nat) (a:Int):Y IT:=ch l (j:Int) ((iA l j).1,a,(iA l j).2.2.1,(iA l j).2.2.2.1,(iA l j).2.2.2.2.1,(iA l j).2.2.2.2.2)
def GI.pb {i:IT} (h:GI nT ss t i) (h1:i.1=10):GI nT ss t (i.1,i.2.1,a,i.2.2.2.1,i.2.2.2.2.1,i.2.2.2.2.2):=by
 let⟨i1,i2,L,D,A,z⟩:=i;subst h1;exact⟨⟨h.o.o1,h.o.o2,h.o.r,(by decide:¬(10:Int)=3)⟩,h.s⟩
def QC.cbr {out A o2 L:Y IT} {D:IT} (h1:QC nT ss t i out A) (h2:o2=A++[D]) (hb:GI nT ss t D) (h10:D.1=10) (h3:QC nT ss t j o2 L) (F:Y IT) (hl:l! L<=l! F) (hF:∀k:Nat,k<l! L->¬k=l! A->iA F k=iA L k) (hFb:∃b:Int,(0<=b/\b<=(l! F:Int))/\iA F (l! A)=(D.1,D.2.1,b,D.2.2.2.1,D.2.2.2.2.1,D.2.2.2.2.2)):(∀k:Nat,k<l! out->iA F k=iA out k)/\sF F (l! out) (l! A)/\(iA F (l! A)).1=10/\sF F (l! A+1) (l! L)/\(∀k:Nat,l! out<=k->k<l! L->GI nT ss t (iA F k))/\∀k:Nat,l! out<=k->k<l! L->(iA F k).1=10->0<=(iA F k).2.2.1/\(iA F k).2.2.1<=(l! F:Int):=by
 have l2:l! o2=l! A+1:=by grind
 have l1:=h1.l;have l3:=h3.l;have e1:∀k:Nat,k<l! A->iA F k=iA A k:=λk z=>by rw[hF k (by omega) (by omega),h3.p k (by omega),h2,M4 z]
 let⟨b,hb0,eb⟩:=hFb;refine ⟨λk z=>(e1 k (by omega)).trans (h1.p k z),h1.b.congr λk _ z=>e1 k z,by rw[eb];exact h10,?_,λk g1 g2=>?_,λk g1 g2 g3=>?_⟩
 .have:=h3.b;rw[l2]at this;exact this.congr λk g1 g2=>hF k g2 (by omega)
 .rcases Sl k (l! A) with z|z|z
  .rw[e1 k z];exact h1.i k g1 z
  .rw[z,eb];exact hb.pb h10
  .rw[hF k g2 (by omega)];exact h3.i k (by omega) g2
 .rcases Sl k (l! A) with z|z|z
  .rw[e1 k z]at g3 ⊢;have:=h1.r k g1 z g3;omega
  .rw[z,eb];exact hb0
  .rw[hF k g2 (by omega)]at g3 ⊢;have:=h3.r k (by omega) g2 g3;omega
def Qp (rs:FS6) (rt:FT6) (rb:FT6) (ra:FA6) (d:Nat) (hS:ama nT ss t rs d):auy nT ss t (od rs rt rb ra) d:=by
 intro s g out hop he h1 h2 h3 h4 hel hg hs hso hb;have hm:ME (d+1)=50+16*ME d:=rfl;have kb:l! s.body*ME d<=8*ME d:=cJ _ h1;have ke:l! s.els*ME d<=8*ME d:=cJ _ h2;have hex:GE 4 (eP (Xp.op s.expr,Xp.n s.expr,Xp.name s.expr,Xp.l s.expr)):=by rw[gp];exact he
 unfold od bf bw bH cE dJ gf vu ck bn bR aZ;refine aA (FN _ _ g out hex hg hs (by rw[hg.len];decide) (by rw[hg.len];decide) (by omega)) λy hy=>?_
 let⟨g1,o1⟩:=y;let⟨p1,p2⟩:=hy;dsimp only at p1 p2;subst p1;have p3:=p2.u;have p4:=p2.l;refine bt (by simp) ?_;refine aA (Mo _ g1 o1 (by omega)) λy hy=>?_
 let⟨D,o2⟩:=y;let⟨q1,q2⟩:=hy;dsimp only at q1 q2;subst q1;rw[hg.len]at q2;have hbr:GI nT ss t ((10,2,0,0,0,D.2.2.2.2.2.2.2.1):IT):=⟨goI (by decide) (by decide) (by simp[jP]) (by decide:¬(10:Int)=3),hs⟩
 have l2:l! o2=l! o1+1:=by rw[q2,bz];rfl
 refine bt (by simp) ?_;refine aA (hS s.body D o2 (by omega) h3 hg (hso.sub (dC _) (by omega)) (by omega)) λy hy=>?_
 let⟨g3,A⟩:=y;let⟨r1,r2,r3⟩:=hy;dsimp only at r1 r2 r3;have r4:=r2.u;have r5:=r2.l;have ebr:iA A (l! o1)=(10,2,0,0,0,D.2.2.2.2.2.2.2.1):=by rw[r2.p _ (by omega),q2,AM]
 refine bt (by simp) ?_;have qs:=r1.trans (GQ.site g3 g3.2.2.2.2.2.1 D.2.2.2.2.2.2.2.1 g3.2.2.2.2.2.2.2.2);refine aK (λh3w=>?_) λh3w=>?_
 .have hels:oS d s.els=0:=by rw[hel (by have h3w:s.op=3:=h3w;omega)];rfl
  rw[hels,dK];refine aA (Mo _ _ A (by omega)) λy hy=>?_
  let⟨g4,L⟩:=y;let⟨w1,w2⟩:=hy;dsimp only at w1 w2;have l4:l! L=l! A+1:=by rw[w2,bz];rfl
  refine bt (by simp) (aO (fd _) (by dsimp only[ay];omega) (aO (fd _) (by dsimp only[ay];omega) (ak ?_)));have hat:l! o1<l! L:=by omega
  have ej:iA L (l! A)=(5,(l! out:Int),0,0,0,D.2.2.2.2.2.2.2.1):=by rw[w2,AM];rfl
  have e43:∀k:Nat,k<l! A->iA L k=iA A k:=λk hk=>by rw[w2,M4 hk]
  refine ⟨by dsimp only;rw[w1];exact qs,?_,by dsimp only;rw[w1];exact r3⟩;dsimp only;have eF:∀{z:IT} {k:Nat},¬k=l! o1->iA (ch L ((l! o1:Nat):Int) z) k=iA L k:=λh=>by rw[Cu hat,av h]
  let⟨f1,f2,f3,f4,f5,f6⟩:=p2.cbr q2 hbr rfl r2 (ptB L (l! o1) (aQ (l! L))) (by rw[bT];omega) (λk hk hn=>(eF hn).trans (e43 k hk)) ⟨_,⟨fd _,by rw[bT];exact dC _⟩,by rw[Cu hat,aD rfl,e43 _ (by omega),ebr];rfl⟩;show QC nT ss t _ out (ptB L (l! o1) (aQ (l! L)));have ejF:iA (ptB L (l! o1) (aQ (l! L))) (l! A)=(5,(l! out:Int),0,0,0,D.2.2.2.2.2.2.2.1):=(eF (by omega:¬l! A=l! o1)).trans ej;refine ⟨by rw[bT];omega,by rw[bT];omega,f1,?_,λk g1 D=>?_,λk g1 D g3=>?_⟩
  .rw[(bT _ _ _).trans l4];exact f2.whl f3 f4 (by rw[ejF]) (by rw[ejF])
  .rw[bT,l4]at D;by_cases hk:k<l! A
   .exact f5 k g1 hk
   .rw[show k=l! A by omega,ejF];exact⟨goI (by decide) (by decide) (by simp[jP]) (by decide:¬(5:Int)=3),hs⟩
  .have g2':=D;rw[bT,l4]at g2';by_cases hk:k<l! A
   .exact f6 k g1 hk g3
   .rw[show k=l! A by omega,ejF]at g3;cases g3
 refine aK (λhz=>?_) λ_=>?_
 .have hels:oS d s.els=0:=by rw[dk.1 (by dsimp only[ay]at hz;omega:l! s.els=0)];rfl
  rw[hels,dK];refine aO (fd _) (by dsimp only[ay];omega) (aO (fd _) (by dsimp only[ay];omega) (ak ⟨qs,?_,r3⟩));dsimp only;have hat:l! o1<l! A:=by omega
  let⟨f1,f2,f3,f4,f5,f6⟩:=p2.cbr q2 hbr rfl r2 (ptB A (l! o1) (aQ (l! A))) (by rw[bT];omega) (λk hk hn=>by rw[Cu hat,av hn]) ⟨_,⟨fd _,by rw[bT];exact dC _⟩,by rw[Cu hat,aD rfl,ebr];rfl⟩;show QC nT ss t _ out (ptB A (l! o1) (aQ (l! A)));refine ⟨by rw[bT];omega,by rw[bT];omega,f1,?_,λk g1 D=>?_,λk g1 D g3=>?_⟩
  .rw[bT];exact (f2.app (sF.one (by rw[f3];decide))).app f4
  .rw[bT]at D;exact f5 k g1 D
  .exact f6 k g1 (by rw[bT]at D;exact D) g3
 .refine aA (Mo _ _ A (by omega)) λy hy=>?_
  let⟨g4,L⟩:=y;let⟨w1,w2⟩:=hy;dsimp only at w1 w2;have l4:l! L=l! A+1:=by rw[w2,bz];rfl
  have qs4:GQ D g4:=by rw[w1];exact qs
  have x4:gN g4=gN D+(oS d s.body:Nat):=by rw[w1];exact r3
  have hat:l! o1<l! L:=by omega
  have ej:iA L (l! A)=(5,0,0,0,0,D.2.2.2.2.2.2.2.1):=by rw[w2,AM]
  have e43:∀k:Nat,k<l! A->iA L k=iA A k:=λk hk=>by rw[w2,M4 hk]
  refine bt (by simp) (aO (fd _) (by dsimp only[ay];omega) (aO (fd _) (by dsimp only[ay];omega) ?_));have eF:∀{z:IT} {k:Nat},¬k=l! o1->iA (ch L ((l! o1:Nat):Int) z) k=iA L k:=λh=>by rw[Cu hat,av h]
  refine aA (hS s.els g4 (ptB L (l! o1) (aQ (l! L))) (by omega) h4 (hg.of qs4) (hso.sub (by rw[x4];omega) (by rw[x4];omega)) (by rw[bT];omega)) λy hy=>?_
  let⟨g5,o5⟩:=y;let⟨z1,z2,z3⟩:=hy;dsimp only at z1 z2 z3;have z4:=z2.l;have z5:=z2.u;have zp:=z2.p;have zb:=z2.b;have zi:=z2.i;have zr:=z2.r;rw[bT]at z4 z5 zp zb zi zr;have hj5:l! A<l! o5:=by omega
  refine bt (by simp) (aO (fd _) (by dsimp only[ay];omega) (aO (fd _) (by dsimp only[ay];omega) (ak ⟨qs4.trans z1,?_,by dsimp only;rw[z3,x4];omega⟩)));dsimp only;show QC nT ss t _ out (ptA o5 (l! A) (aQ (l! o5)));have eG:∀{z:IT} {k:Nat},¬k=l! A->iA (ch o5 ((l! A:Nat):Int) z) k=iA o5 k:=λh=>by rw[Cu hj5,av h]
  have ej5:iA o5 (l! A)=(5,0,0,0,0,D.2.2.2.2.2.2.2.1):=by rw[zp _ (by omega),eF (by omega),ej]
  let⟨f1,f2,f3,f4,f5,f6⟩:=p2.cbr q2 hbr rfl r2 (ptA o5 (l! A) (aQ (l! o5))) (by rw[bT];omega) (λk hk hn=>by rw[eG (by omega),zp k (by omega),eF hn,e43 k hk]) ⟨aQ (l! L),⟨fd _,by rw[bT];dsimp only[ay];omega⟩,by rw[eG (by omega),zp _ (by omega),Cu hat,aD rfl,e43 _ (by omega),ebr]⟩;have ejF:iA (ptA o5 (l! A) (aQ (l! o5))) (l! A)=(5,aQ (l! o5),0,0,0,D.2.2.2.2.2.2.2.1):=by rw[Cu hj5,aD rfl,ej5]
  refine ⟨by rw[bT];omega,by rw[bT];omega,f1,?_,λk g1 D=>?_,λk g1 D g3=>?_⟩
  .rw[bT];refine ((f2.app (sF.one (by rw[f3];decide))).app f4).ite (by rw[ejF]) (by rw[ejF];rfl) ?_;rw[l4]at zb;exact zb.congr λk g1 D=>eG (by omega)
  .rw[bT]at D;rcases Sl k (l! A) with hk|hk|hk
   .exact f5 k g1 hk
   .rw[hk,ejF];exact⟨goI (by decide) (by decide) (by simp[jP]) (by decide:¬(5:Int)=3),hs⟩
   .rw[eG (by omega)];exact zi k (by omega) D
  .have g2':=D;rw[bT]at g2';rcases Sl k (l! A) with hk|hk|hk
   .exact f6 k g1 hk g3
   .rw[hk,ejF]at g3;cases g3
   .rw[eG (by omega)]at g3 ⊢;rw[bT];exact zr k (by omega) g2' g3
def afo (rs:FS6) (rt:FT6) (rb:FT6) (ra:FA6) (d:Nat) (hB:auy nT ss t rb d) (hA:auz nT ss t ra d):SpG nT ss t (tW rs rt rb ra) (d+1):=by
 intro s g out hs hg hso hb;have hm:ME (d+1)=50+16*ME d:=rfl;let⟨i1,i2,i3,i4,i5,i6,i7,i8,i9,hN⟩:=hs;have hcn:UT (d+1) s=1+oS d s.body+oS d s.els:=rfl;rw[hcn]at hso ⊢;let⟨so0,so1,so2⟩:=id hso;have so0:0<=g.2.2.2.2.2.2.2.2:=so0;have so1:g.2.2.2.2.2.2.2.2+((1+oS d s.body+oS d s.els:Nat):Int)<=1000:=so1;have ew:bl .i64 (g.2.2.2.2.2.2.2.2+1)=g.2.2.2.2.2.2.2.2+1:=jA;have gs:=GQ.site g g.2.2.2.2.2.1 g.2.2.2.2.2.2.2.2 (bl .i64 (g.2.2.2.2.2.2.2.2+1));unfold tW bf bw bH cE dJ c8 vu bn bR aZ aH cV eS;refine aX (λx=>QG nT ss t (ME (d+1)) (1+oS d s.body+oS d s.els) g out x) ?_ λx hx=>ak hx
 dsimp only;have hs1:SO ss t (gS ((g.1,g.2.1,g.2.2.1,g.2.2.2.1,g.2.2.2.2.1,g.2.2.2.2.2.1,g.2.2.2.2.2.2.1,g.2.2.2.2.2.2.2.2,bl .i64 (g.2.2.2.2.2.2.2.2+1)):GN)):=so2 _ (dC _) (by show g.2.2.2.2.2.2.2.2<g.2.2.2.2.2.2.2.2+((1+oS d s.body+oS d s.els:Nat):Int);omega);have hn1:gN ((g.1,g.2.1,g.2.2.1,g.2.2.2.1,g.2.2.2.2.1,g.2.2.2.2.2.1,g.2.2.2.2.2.2.1,g.2.2.2.2.2.2.2.2,bl .i64 (g.2.2.2.2.2.2.2.2+1)):GN)=gN g+1:=ew;revert gs hs1 hn1;generalize ((g.1,g.2.1,g.2.2.1,g.2.2.2.1,g.2.2.2.2.1,g.2.2.2.2.2.1,g.2.2.2.2.2.2.1,g.2.2.2.2.2.2.2.2,bl .i64 (g.2.2.2.2.2.2.2.2+1)):GN)=L;intro gs hs1 hn1;have D:=hg.of gs;have hso1:=hso.sub (b:=gN L) (n:=oS d s.body+oS d s.els) (by rw[hn1];omega) (by rw[hn1];omega);have fin:∀(n m:Nat) (y:z!),QG nT ss t n m L out y->n<=ME (d+1)->m=oS d s.body+oS d s.els->QG nT ss t (ME (d+1)) (1+oS d s.body+oS d s.els) g out y:=λn m y A hn hm=>⟨gs.trans A.q,(QC.nil 0 out).trans A.c (by omega),by rw[A.x,hn1];omega⟩
 have fin0:s.op=1\/9<=s.op->∀(n:Nat) (y:z!),y.1=L/\QC nT ss t n out y.2->n<=ME (d+1)->QG nT ss t (ME (d+1)) (1+oS d s.body+oS d s.els) g out y:=λz n y A hn=>fin n 0 y ⟨by rw[A.1];exact GQ.refl L,A.2,by rw[A.1];simp⟩ hn (by rw[hN.bo z,hN.el (by omega)];rfl)
 refine aK (λz=>?_) λ_=>?_
 .refine aA (ab0 (o_ _) L out ?_ ?_ ?_ ?_ D hs1 (by omega)) λy A=>bt (by simp) (ak (fin0 (.inl z) _ _ A (by omega)))
  .rw[Bw];exact i1
  .rw[Bw];exact i3
  .rw[Bw];exact i4 (.inl z)
  .rw[Bw];exact hN.vr z
 refine aX (λx=>x.2=(L,s,out)/\(x.1=J↔s.op=2\/s.op=3)) ?_ ?_
 .exact aK (λh=>ak ⟨by dsimp only;rw[Bw],λ_=>.inl h,λ_=>aS h⟩) λh=>ak ⟨by dsimp only;rw[Bw],λh2=>.inr (bF h2),λh2=>aS (h2.resolve_left h)⟩
 rintro⟨b,x⟩ ⟨e,hb2⟩;dsimp only at e hb2;subst e;refine aP (λhb3=>?_) λhbf=>?_
 .dsimp only;rw[Bw];refine aA (hB s L out (hb2.1 hb3) (i4 (by rcases hb2.1 hb3 with h|h;exact .inr (.inl h);exact .inr (.inr (.inl h)))) i6 i7 i8 i9 hN.el D hs1 hso1 hb) λy A=>bt (by simp) (ak (fin _ _ _ A (by omega) rfl))
 have har:∀(a b c:Int),4<=s.op->GO nT (a,c,0,0,0,0)->GO nT (b,c,0,0,0,0)->¬a=5/\¬a=10->¬b=5/\¬b=10->Ok (ra ((s,a,b,c),L,out)) λy=>QG nT ss t (ME (d+1)) (1+oS d s.body+oS d s.els) g out y:=λa b c h4 ga gb na nb=>(hA s a b c L out i6 i8 ga gb na nb D hs1 (hso1.sub (dC _) (by omega)) hb).mono λy A=>fin _ _ _ A (by omega) (by rw[hN.el (by omega)];rfl)
 have hput:∀{op:Int} {r:υ},9<=s.op->GO nT (op,r)->¬op=5/\¬op=10->Ok (cO ((op,r),L,out)) (QG nT ss t (ME (d+1)) (1+oS d s.body+oS d s.els) g out):=λh9 hi h5=>(Ax (by omega) D hs1 hi h5).mono λy A=>fin0 (.inr h9) _ _ A (by omega)
 have hlk:∀n:ζ,Ok (mN (L.2.1,n)) λr=>(n=[109]->r=0)/\(n=[110]->r=1)/\(n=[114]->r=2):=λn=>(Rt L.2.1 n (by rw[D.l];decide)).mono λr h=>ars (by rw[D.l]at h;exact h)
 have hcond:∀(n:ζ),Ok (kD (n,L,out)) λy=>y.2=(L,out)/\(n=[99]->y.1=0):=λn=>ala n L out D
 have hth:Ok (ku (L.2.2.2.2.1,s.name)) λr=>s.op=12\/s.op=13->0<=r/\r<(nT:Int):=(BS L.2.2.2.2.1 s.name (by rw[D.t,cg];have q4:Ah.length=4:=rfl;omega)).mono λr hr z=>by
  have hn:=hN.sp z;have hl:l! (Ah.take nT)<=nT:=yF ..;let⟨_,h2,_,h4⟩:=hr;rw[D.t]at h2 h4;exact⟨Bs.1 λh=>h4 h hn,by omega⟩
 have hft:∀n:ζ,Ok (ku (L.2.2.2.1,n)) λr=>n=[102]->r=0:=λn=>(BS L.2.2.2.1 n (by rw[D.f];decide)).mono λr hr hn=>by
  let⟨h1,h2,_,h4⟩:=hr;rw[D.f]at h2 h4;have h2:r<1:=h2;have:¬r<0:=λh=>h4 h (by rw[hn];decide)
  omega
 dsimp only;rw[Bw];have gor:∀{a c:Int},1<=a->a<=27->jP (a,c,0,0,0,0)=[]->OB nT (a,c,0,0,0,0)->GO nT (a,c,0,0,0,0):=λh1 h2 h3 h4=>⟨h1,h2,by rw[h3];exact λj hj=>(by cases hj),h4⟩
 refine aK (λz=>aA (hlk _) λv hv=>aA (har _ _ _ (by have z:s.op=4:=z;omega) (gor (by decide) (by decide) rfl ?_) (gor (by decide) (by decide) rfl ?_) (by decide) (by decide)) λy A=>bt (by simp) (ak A)) λ_=>?_
 .exact (hN.lk z).imp hv.1 hv.2.1
 .exact (hN.lk z).imp hv.1 hv.2.1
 refine aK (λz=>aA (hlk _) λv hv=>aA (har _ _ _ (by have z:s.op=5:=z;omega) (gor (by decide) (by decide) rfl ?_) (gor (by decide) (by decide) rfl ?_) (by decide) (by decide)) λy A=>bt (by simp) (ak A)) λ_=>?_
 .exact hv.2.2 (hN.rw (.inl z))
 .exact hv.2.2 (hN.rw (.inl z))
 refine aK (λz=>aA (hlk _) λv hv=>aA (har _ _ _ (by have z:s.op=6:=z;omega) (gor (by decide) (by decide) rfl ?_) (gor (by decide) (by decide) rfl ?_) (by decide) (by decide)) λy A=>bt (by simp) (ak A)) λ_=>?_
 .exact hv.2.2 (hN.rw (.inr z))
 .exact hv.2.2 (hN.rw (.inr z))
 refine aK (λz=>aA (har _ _ _ (by have z:s.op=7:=z;omega) (gor (by decide) (by decide) rfl (by decide:¬(17:Int)=3)) (gor (by decide) (by decide) rfl (by decide:¬(18:Int)=3)) (by decide) (by decide)) λy A=>bt (by simp) (ak A)) λ_=>?_
 refine aK (λz=>aA (har _ _ _ (by have z:s.op=8:=z;omega) (gor (by decide) (by decide) rfl (by decide:¬(19:Int)=3)) (gor (by decide) (by decide) rfl (by decide:¬(20:Int)=3)) (by decide) (by decide)) λy A=>bt (by simp) (ak A)) λ_=>?_
 refine aK (λz=>aA (hcond _) λy A=>?_) λ_=>?_
 .obtain⟨v,y2⟩:=y;let⟨y3,y4⟩:=A;dsimp only at y3;subst y3;exact bt (by simp) (aA (hput (by have z:s.op=9:=z;omega) (gor (by decide) (by decide) rfl (y4 (hN.cn (.inl z)))) (by decide)) λy A=>bt (by simp) (ak A))
 refine aK (λz=>aA (hcond _) λy A=>?_) λ_=>?_
 .obtain⟨v,y2⟩:=y;let⟨y3,y4⟩:=A;dsimp only at y3;subst y3;exact bt (by simp) (aA (hput (by have z:s.op=10:=z;omega) (gor (by decide) (by decide) rfl (y4 (hN.cn (.inr (.inl z))))) (by decide)) λy A=>bt (by simp) (ak A))
 refine aK (λz=>aA (hcond _) λy A=>?_) λ_=>?_
 .obtain⟨v,y2⟩:=y;let⟨y3,y4⟩:=A;dsimp only at y3;subst y3;exact bt (by simp) (aA (hput (by have z:s.op=11:=z;omega) (gor (by decide) (by decide) rfl (y4 (hN.cn (.inr (.inr z))))) (by decide)) λy A=>bt (by simp) (ak A))
 refine aK (λz=>aA hth λv hv=>aA (hput (by have z:s.op=12:=z;omega) (gor (by decide) (by decide) rfl (hv (.inl z))) (by decide)) λy A=>bt (by simp) (ak A)) λ_=>?_
 refine aK (λz=>aA hth λv hv=>aA (hput (by have z:s.op=13:=z;omega) (gor (by decide) (by decide) rfl (hv (.inr z))) (by decide)) λy A=>bt (by simp) (ak A)) λ_=>?_
 refine aK (λz=>?_) λn14=>?_
 .have hex:GE 4 (eP (Xp.op s.expr,Xp.n s.expr,Xp.name s.expr,Xp.l s.expr)):=by rw[gp];exact i4 (.inr (.inr (.inr z)))
  refine aA (FN _ _ L out hex D hs1 (by rw[hg.len];decide) (by rw[hg.len];decide) (by omega)) λy A=>?_
  let⟨g2,o2⟩:=y;let⟨q1,q2⟩:=A;dsimp only at q1 q2;subst q1;have q3:=q2.u;refine bt (by simp) (aA (hft _) λv hv=>?_);refine aA (Ax (by omega) D hs1 (goI (by decide) (by decide) (by simp[jP,hg.h,L0]) (hv (hN.se z))) (by decide)) λy A=>bt (by simp) (ak (fin0 (.inr (by have z:s.op=14:=z;omega)) 16 _ ⟨A.1,q2.trans A.2 (bK _)⟩ (by omega)))
 refine aK (λz=>?_) λn15=>?_
 .refine aA (BS _ _ (by rw[D.h];decide)) λv hv=>aA (hft _) λv2 hv2=>?_
  have hge:=hN.ge z;have hl:(0:Int)<=v/\v<2:=by
   let⟨_,h2,_,h4⟩:=hv;rw[D.h]at h2 h4;exact⟨Bs.1 λh=>h4 h (by rw[hge.1];decide),h2⟩
  exact aA (hput (by have z:s.op=15:=z;omega) (goI (by decide) (by decide) (by simp[jP];omega) (hv2 hge.2)) (by decide)) λy A=>bt (by simp) (ak A)
 .exfalso;have h1:=hN.o0;have h2:=hN.o1;have h3:¬(s.op=2\/s.op=3):=λh=>by have hbf:b=af:=hbf;rw[hb2.2 h]at hbf;cases hbf
  omega
end
section
variable {nT:Nat} {ss:Y π} {t:Int}
def ad6:∀(n:Nat),(∀d:Nat,3*d<n->SpG nT ss t (fk n) d)/\(∀d:Nat,3*d+1<n->ama nT ss t (ec n) d)/\(∀d:Nat,3*d+2<n->auy nT ss t (dt n) d)/\(∀d:Nat,3*d+2<n->auz nT ss t (dX n) d)
 |0=>⟨λd h=>by omega,λd h=>by omega,λd h=>by omega,λd h=>by omega⟩
 |n+1=>by
  let⟨D,z,L,hA⟩:=ad6 n;refine ⟨λd h=>?_,λd h=>?_,λd h=>?_,λd h=>?_⟩
  .cases d with
   |zero=>exact λs g out A=>A.elim
   |succ d=>exact afo (ec n) (fk n) (dt n) (dX n) d (L d (by omega)) (hA d (by omega))
  .exact ZM (ec n) (fk n) (dt n) (dX n) d (D d (by omega))
  .exact Qp (ec n) (fk n) (dt n) (dX n) d (z d (by omega))
  .exact Wv (ec n) (fk n) (dt n) (dX n) d (z d (by omega))
def TW (d:Nat) (hd:d<=100):ama nT ss t wu d:=(ad6 fuel).2.1 d (by rw[lh];omega)
structure SL (t k:Int) (m:Nat) (S:List π):Prop where
 l:l! S=m
 v:∀i:Nat,i<m->(geti pW S (i:Int)).1=t/\(geti pW S (i:Int)).2.1=k+i
def Nr {T:Ty} {l m:Y T.den} (h:i<l! l):geti _ (l++m) (i:Int)=geti _ l (i:Int):=by
 rw[tI,tI,aw,aw,bL h]
def Nq {T:Ty} {l m:Y T.den} (h:l! l<=i):geti _ (l++m) (i:Int)=geti _ m ((i-l! l:Nat):Int):=by
 rw[tI,tI,aw,aw,b_ h]
def SL.nil (t k:Int):SL t k 0 []:=⟨rfl,λi h=>by omega⟩
def SL.one (t k z:Int):SL t k 1 [(t,k,z)]:=⟨rfl,λi h=>by rw[show i=0 by omega];exact⟨rfl,by show k=k+((0:Nat):Int);omega⟩⟩
def SL.app {z:Int} {k:Nat} {S S':Y π} (h:SL t a k S) (h':SL t z i S') (L:z=a+k):SL t a (k+i) (S++S'):=by
 let⟨h1,D⟩:=h;let⟨h3,h4⟩:=h';refine ⟨by rw[bz];omega,λb hi=>?_⟩;by_cases A:b<l! S
 .rw[Nr (T:=pW) A];exact D b (by omega)
 .rw[Nq (T:=pW) (by omega)]
  grind
def IL:∀(n d:Nat),d<n->∀(t k:Int) (l:Y Sx) (out:Y π),l! l<=100->(∀s∈l,GT d s)->0<=k->k+oS d l<=100000000->l! out+oS d l<=100000000->Ok (qT n ((t,k,l),out)) λy=>y.1=k+oS d l/\∃S,y.2=out++S/\SL t k (oS d l) S
 |0,_,h,_,_,_,_,_,_,_,_,_=>by omega
 |n+1,d,hn,t,k,l,out,hl,hs,k0,hkb,hb=>by
  rw[K_];unfold AT bU mK bR aZ c7 aH cV;refine cD (l! l) (λi x=>x.1.2=(i:Int)/\x.1.1=k+oS d (l.take i)/\∃S,x.2=out++S/\SL t k (oS d (l.take i)) S) ?_ ?_ ⟨rfl,by simp[oS],[],by simp,by simp[oS];exact SL.nil t k⟩
  .rintro i ⟨⟨a,b⟩,o⟩ hi ⟨D,e2,S,z,e4⟩;subst D e2 z;have hp:=Up (d:=d) l (i+1);rw[zV hi]at hp;rw[zV hi];refine dB ?_;have hin:((i:Nat):Int)<(l! l:Int):=by omega
   have hm:=hs _ (bP (T:=.sm) (xs:=l) (j:=(i:Int)) (by omega) (by omega));have hSl:=e4.l;cases d with
   |zero=>exact hm.elim
   |succ d=>
    let⟨_,_,_,g4,g5,g6,g7⟩:=hm;have hc:UT (d+1) (geti (.sm) l (i:Int))=1+oS d (Sx.body (geti (.sm) l (i:Int)))+oS d (Sx.els (geti (.sm) l (i:Int))):=rfl;rw[hc]at hp ⊢;dsimp only;refine aO (by omega) hin (aT (bN (by grind) (by omega) (aO (by omega) hin (aT ?_))));rw[jA (n:=k+(oS (d+1) (l.take i):Nat)+1) (by omega) (by omega)];refine aA (IL n d (by omega) _ _ _ _ (by omega) g6 (by omega) (by omega) (by grind)) λy A=>bt (by simp) ?_
    let⟨a2,o2⟩:=y;let⟨y1,S2,y2,L⟩:=A;subst y1 y2;have hSl2:=L.l;refine aO (by omega) hin (aT ?_);refine aA (IL n d (by omega) _ _ _ _ (by omega) g7 (by omega) (by omega) (by grind)) λy A=>bt (by simp) (ak ?_)
    let⟨a3,o3⟩:=y;let⟨z1,S3,z2,z3⟩:=A;subst z1 z2;refine ⟨ig,by dsimp only;omega,S++([_]++(S2++S3)),by simp[ju];rfl,?_⟩;refine e4.app ?_ rfl;rw[uJ];exact (SL.one t _ _).app (L.app z3 rfl) (by simp)
  .rintro⟨⟨a,b⟩,o⟩ ⟨D,e2,z⟩;subst D e2;rw[cQ]at z ⊢;exact dw (ak ⟨rfl,z⟩)
def abq {A D k:Int} {l S:Y π} (h:Py a l=Z (A,D)) (L:SL t k i S) (hk:(A=t/\D=k)\/(A<t/\t<a/\k=0)):∀m:Nat,m<=i->Py a (l++S.take m)=Z (if m=0 then (A,D) else (t,k+m))
 |0,_=>by grind
 |m+1,hi=>by
  have ih:=abq h L hk m (by omega);rw[pl (T:=pW) (xs:=S) (i:=m) (by rw[L.l];omega),<-ju,abs,ih];let⟨v1,v2⟩:=L.v m (by omega);by_cases z:m=0
  .subst z;unfold Yx
   grind
  .rw[av z];unfold Yx
   grind
end
abbrev CE6:Type:=ζ×o?
abbrev W4T:Type:=Y CE6×Y (ζ×Bool)×Y (ζ×Int)×Y ζ
def ceD (z:DT):Y CE6:=(eA (aN (j6 z.2.2.2.1 1))).map λ(k:Nat)=>(z.2.2.1,(k:Int),z.2.2.2.1,decide (z.1=2),z.2.2.2.2.1)
def adD (y:W4T) (z:DT):W4T:=
 if z.1=1\/z.1=2 then (y.1++ceD z,y.2) else if z.1=3\/z.1=4 then (y.1,y.2.1++[(z.2.2.1,decide (z.1=4))],y.2.2) else if z.1=5 then (y.1,y.2.1,y.2.2.1++[(z.2.2.1,0)],y.2.2.2) else (y.1,y.2.1,y.2.2.1,y.2.2.2++[z.2.2.1])
def W4 (i:Nat):W4T:=(D0.take i).foldl adD ([],[],[],[])
def W4_9:W4 9=(C0,KF,PI,Yt):=rfl
def W4_s (hi:i<9):W4 (i+1)=adD (W4 i) (geti KH D0 (i:Int)):=by
 unfold W4;rw[pl (T:=KH) (xs:=D0) hi,dT];rfl
def D0_c:∀i:Nat,i<9->(geti KH D0 (i:Int)).1=5->i=7:=by decide
def ay1:∀i:Nat,i<9->(W4 i).1.length<=5/\(W4 i).2.1.length<=3/\(W4 i).2.2.1.length<=1/\(W4 i).2.2.2.length<=1/\j6 (geti KH D0 (i:Int)).2.2.2.1 1<=2/\1<=j6 (geti KH D0 (i:Int)).2.2.2.1 1:=by decide
def bsN (p:PG) (i:Nat):Nat:=((p.2.take i).map λt=>oS 5 t.2.2.2).sum
def boN (p:PG) (i:Nat):Nat:=oS 5 (geti uZ p.2 (i:Int)).2.2.2
def asa {p:PG} (hi:i<l! p.2):bsN p (i+1)=bsN p i+boN p i:=by
 unfold bsN boN;rw[pl (T:=uZ) hi,cG,Jo];simp
def aav {p:PG} (i:Nat) (h:(p.2.map λt=>oS 5 t.2.2.2).sum<=60):bsN p i<=60:=by
 refine c9 ?_ h
 conv=>rhs;rw[<- EK i p.2]
 unfold bsN;rw[cG,Jo];omega
structure SW (p:PG) (i:Nat) (S:List π):Prop where
 l:l! S=bsN p i
 f:∃a b,Py (l! p.2) S=Z (a,b)/\(a<i\/a=0/\b=0)
 s:∀j:Nat,j<i->SR S (j:Int) (bsN p j:Nat) (boN p j)
structure WW (p:PG) (w:WT):Prop where
 x:WX w
 t:w.2.2.2.2.1=Ah.take (l! p.2)
 s:∀j:Nat,j<l! p.2->SR w.2.2.2.2.2 (j:Int) (bsN p j:Nat) (boN p j)
def SO.app {S S':Y π} {t:Int} (h:SO S t a):SO (S++S') t a:=by
 let⟨h0,h1,z⟩:=h;obtain⟨a,rfl⟩:∃n:Nat,a=(n:Int):=⟨a.toNat,by omega⟩
 exact⟨h0,by rw[bz];omega,by rw[Nr (T:=pW) (by omega)];exact z⟩
def ab3 (p:PG) (hp:PJ p) (r:ν) (hr:gm p=Z r) (h0:r.1=0) (hc:(p.2.map λt=>oS 5 t.2.2.2).sum<=60):Ok (wv p) (WW p):=by
 have hpt:=hp.t;unfold wv bf bw bH cE dJ c8 eD dQ hY xm bn bU jQ bR bY aZ c7 aH cV;refine bc hr (cf (λh=>(h h0).elim) λ_=>?_);have hD:p.1=D0:=hp.d;have hlen:l! p.1=9:=by rw[hD];rfl
 refine cD 9 (λi x=>x.1=(i:Int)/\x.2.1=p/\x.2.2=W4 i) ?_ ?_ ⟨rfl,rfl,rfl⟩
 .rintro i ⟨a,p',y⟩ hi ⟨e1,e2,e3⟩;dsimp only at e1 e2 e3;subst e1;have e2:=e2.symm;subst e2;let⟨b1,b2,b3,b4,b5,b6⟩:=ay1 i hi;rw[<- e3]at b1 b2 b3 b4;have hW:=W4_s hi;rw[<- e3]at hW;have hcd:=D0_c i hi;have hlk:i=7->y.2.1=KF/\(geti KH D0 (i:Int)).2.2.2.2.2=[109]:=λh=>by subst h;rw[e3];exact⟨rfl,rfl⟩
  refine dB ?_;refine cH (aT ?_);dsimp only;rw[hD];revert hW hcd hlk b5 b6;generalize (geti KH D0 (i:Int))=z;intro b5 b6 hW hcd hlk;refine aX (λx=>x=(p,W4 (i+1))) ?_ ?_
  .rw[hW];unfold adD;refine aX (λx=>x.2=(p,z,y)/\(x.1=J↔(z.1=1\/z.1=2))) ?_ ?_
   .exact aK (λh=>ak ⟨rfl,λ_=>.inl h,λ_=>aS h⟩) λh=>ak ⟨rfl,λA=>.inr (bF A),λA=>aS (A.resolve_left h)⟩
   rintro⟨b,x⟩ ⟨e,hb⟩;dsimp only at e hb;subst e;refine aP (λD=>?_) λD=>?_
   .rw[aD (hb.1 D)];unfold ceD;obtain⟨m,hm⟩:∃m:Nat,j6 z.2.2.2.1 1=(m:Int):=⟨(j6 z.2.2.2.1 1).toNat,by omega⟩
    rw[hm,bh];refine cD m (λk x=>x=((k:Int),p,z,y.1++(eA k).map (λ(k:Nat)=>(z.2.2.1,(k:Int),z.2.2.2.1,decide (z.1=2),z.2.2.2.2.1)),y.2)) ?_ ?_ (by simp)
    .rintro k x hk rfl;refine bQ (λ_=>?_) λg=>(by dsimp only at g;rw[hm]at g;omega)
     refine a! (ak ?_);dsimp only;rw[ig,List.range_succ,cG,<-ju];rfl
    .rintro x rfl;exact bQ (λg=>(by dsimp only at g;rw[hm]at g;omega)) λ_=>ak rfl
   rw[av λh=>by have D:b=af:=D;rw[hb.2 h]at D;cases D];refine aX (λx=>x.2=(p,z,y)/\(x.1=J↔(z.1=3\/z.1=4))) ?_ ?_
   .exact aK (λh=>ak ⟨rfl,λ_=>.inl h,λ_=>aS h⟩) λh=>ak ⟨rfl,λA=>.inr (bF A),λA=>aS (A.resolve_left h)⟩
   rintro⟨c,x⟩ ⟨e,hc2⟩;dsimp only at e hc2;subst e;refine aP (λh=>?_) λh=>?_
   .rw[aD (hc2.1 h)];exact a! (ak rfl)
   rw[av λA=>by have h:c=af:=h;rw[hc2.2 A]at h;cases h];refine aK (λh5=>?_) λh5=>?_
   .obtain⟨l1,l2⟩:=hlk (hcd h5);rw[aD h5];refine aA (Rt _ _ (by dsimp only;rw[l1];decide)) λv hv=>?_
    have hv:=(ars (by dsimp only at hv;rw[l1]at hv;exact hv)).1 l2;subst hv;exact a! (ak rfl)
   .rw[av h5];exact a! (ak rfl)
  rintro x rfl;exact ak ⟨ig,rfl,rfl⟩
 .rintro⟨a,p',y⟩ ⟨e1,e2,j⟩;dsimp only at e1 e2 j;subst e1;have e2:=e2.symm;subst e2;rw[W4_9]at j;subst j;refine dw ?_;refine aA (P:=WW p) ?_ λr hr=>ak hr
  refine cD (l! p.2) (λi x=>x.1=(i:Int)/\x.2.1=p/\x.2.2.1=C0/\x.2.2.2.1=KF/\x.2.2.2.2.1=PI/\x.2.2.2.2.2.1=Yt/\x.2.2.2.2.2.2.1=Ah.take i/\SW p i x.2.2.2.2.2.2.2) ?_ ?_ ⟨rfl,rfl,rfl,rfl,rfl,rfl,rfl,rfl,⟨0,0,rfl,.inr ⟨rfl,rfl⟩⟩,λj hj=>by omega⟩
  .rintro i ⟨a,p2,c2,l2,d2,f2,t2,s2⟩ hi ⟨e1,e2,e3,e4,e5,e6,e7,hl8,⟨fa,fb,f8,f9⟩,L⟩;dsimp only at e1 e2 e3 e4 e5 e6 e7 hl8 f8 L;subst e1;have e2:=e2.symm;subst e2;have hb8:=aav (i+1) hc;have hbs:=asa hi;refine dB ?_;have hin:((i:Nat):Int)<(l! p.2:Int):=by omega
   have hm:=hp.m _ (bP (T:=uZ) (xs:=p.2) (j:=(i:Int)) (by omega) hin);have hnm:(geti uZ p.2 (i:Int)).1=geti (.str) Ah (i:Int):=by
    have h1:=pl (T:=uZ) hi;have A:=eR (gM Prod.fst) h1;rw[cG,gQ,gQ,hp.n,List.take_take,List.take_take,Jn (by omega),Jn (by omega),pl (T:=.str) (xs:=Ah) (i:=i) (by have q4:Ah.length=4:=rfl;omega)]at A;exact ((List.cons.inj (List.append_cancel_left A)).1).symm
   have htl:l! t2=i:=by rw[e7,cg];have q4:Ah.length=4:=rfl;omega
   dsimp only;refine aO (by omega) hin (aT (a! (aO (by omega) hin (aT ?_))));refine aA (IL fuel 5 (by rw[lh];omega) _ _ _ s2 (by have:=hm.b;omega) (λs hs=>((hm.s s hs).le (by omega:3<=5)).t) (dC _) ?_ ?_) λy hy=>bt (by simp) (ak ?_)
   .show (0:Int)+(boN p i:Nat)<=_;omega
   .show (l! s2)+boN p i<=_;omega
   let⟨_,S,A,h3⟩:=hy;have h3:SL (i:Int) 0 (boN p i) S:=h3;refine ⟨ig,rfl,e3,e4,e5,e6,?_,?_⟩
   .dsimp only;rw[e7,hnm,<-pl (T:=.str) (xs:=Ah) (i:=i) (by have q4:Ah.length=4:=rfl;omega)]
   .dsimp only;rw[A];refine ⟨by rw[bz,h3.l,hl8,hbs],?_,λj hj=>?_⟩
    .have hr:=abq f8 h3 (by rcases f9 with h|⟨h,h'⟩;exact .inr ⟨h,by omega,rfl⟩;rcases Nat.eq_zero_or_pos i with hi0|hi0;exact .inl ⟨by omega,h'⟩;exact .inr ⟨by omega,by omega,rfl⟩) (boN p i) (bK _);rw[<- h3.l,cQ]at hr;rw[hr];split
     .exact⟨_,_,rfl,f9.imp (λh=>by omega) id⟩
     .exact⟨_,_,rfl,.inl (by omega)⟩
    .rcases cF j i with h1|h1
     .obtain⟨g1,g2,g3⟩:=L j h1;exact⟨g1,g2,λq q1 q2=>(g3 q q1 q2).app⟩
     .have hj:j=i:=by omega
      subst hj;refine ⟨by omega,by omega,λq q1 q2=>?_⟩;obtain⟨q,rfl⟩:∃n:Nat,q=(n:Int):=⟨q.toNat,by omega⟩
      refine ⟨by omega,by rw[bz,h3.l];omega,?_⟩;rw[Nq (T:=pW) (by omega)];exact (h3.v _ (by omega)).1
  .rintro⟨a,p2,c2,l2,d2,f2,t2,s2⟩ ⟨e1,e2,e3,e4,e5,e6,e7,hl8,⟨fa,fb,f8,f9⟩,L⟩;dsimp only at e1 e2 e3 e4 e5 e6 e7 hl8 f8 L;subst e1;have e2:=e2.symm;subst e2 e3 e4 e5 e6 e7;refine dw (ak ?_);have hb8:=aav (l! p.2) hc;refine ⟨⟨rfl,rfl,rfl,rfl,⟨l! p.2,hp.t0,hp.t,rfl⟩,by dsimp only;omega,?_⟩,rfl,L⟩;unfold SV0;have hTl:l! (Ah.take (l! p.2))=l! p.2:=by rw[cg];have q4:Ah.length=4:=rfl;omega
   dsimp only;rw[hTl,f8];simp
def NM9:Y ζ:=[[120],[121],[118],[113],[109],[110],[114],[99],[102]]
set_option maxHeartbeats 20000000 in
def aj9 (t:Y ζ) (ht:l! t<=4) (s:Y π):qL (C0,KF,PI,Yt,t,s)=Z (NM9++t,J):=by
 refine cW ?_;unfold qL bf bw bH cE eD xm bn bU jQ bR bY aZ c7 aH cV;with_reducible repeat' first|exact ak rfl|refine ace ?_|refine acd ?_|refine acb ?_|refine ac9 ?_|refine ao2 ?_|refine aT ?_|refine qV rfl ?_|refine j7 rfl ?_|refine bt rfl ?_|refine aca ?_|refine VH ?_|refine VG ?_
 refine bN (by show 9+l! t<=1073741824;omega) (by decide) ?_;with_reducible repeat' first|exact ak rfl|refine ace ?_|refine acd ?_|refine acb ?_|refine ac9 ?_|refine ao2 ?_|refine aT ?_|refine qV rfl ?_|refine j7 rfl ?_|refine bt rfl ?_|refine aca ?_|refine VH ?_|refine VG ?_
def Yq:∀x∈NM9++Ah,Ok (fZ x) λb=>b=J:=by
 intro x z;simp only[NM9,Ah,gR,lq,aV,b8,fo]at z;rcases z with rfl|rfl|rfl|rfl|rfl|rfl|rfl|rfl|rfl|rfl|rfl|rfl|rfl;all_goals with_reducible repeat' first|exact ak rfl|refine ace ?_|refine acd ?_|refine acb ?_|refine ac9 ?_|refine VG ?_|refine ao2 ?_|refine aT ?_|refine qV rfl ?_|refine j7 rfl ?_|refine bt rfl ?_|refine aca ?_|refine VH ?_|refine dj (fZ.eq_1 ..) ?_|refine dj (mq.eq_1 ..) ?_|refine dj (lP.eq_1 ..) ?_|refine dj (mO.eq_1 ..) ?_|refine dj (qP.eq_1 ..) ?_|refine dj (s_.eq_1 ..) ?_
def GT.up:∀{d:Nat} {s:Sx},GT d s->GT (d+1) s
 |0,_,h=>h.elim
 |_+1,_,⟨a,b,c,e,f,g,i⟩=>⟨a,b,c,e,f,λx z=>GT.up (g x z),λx z=>GT.up (i x z)⟩
def au7 {l:Y Sx} (h:∀s∈l,GT 3 s):oS 5 l=oS 3 l:=by
 unfold oS;rw[ja λx z=>(Uo (GT.up (h x z))).trans (Uo (h x z))]
def av1:∀i:Nat,i<13->∀r:Nat,r<i->geti (.str) (NM9++Ah) (r:Int)≠geti (.str) (NM9++Ah) (i:Int):=by decide
def E3 {b:Int} {t f:M R} {Q:R->Prop} (h:b<=a) (hf:Ok f Q):Ok (aI (gC a b) t f) Q:=j7 (kg.2 h) hf
def Lu {w:WT} (hx:WX w):iF w=Z J:=by
 let⟨w1,w2,w3,w4,A,D⟩:=w;let⟨hc,hl,hd,hf,⟨n,n1,n4,ht⟩,hs,hv⟩:=hx;dsimp only at hc hl hd hf ht hs;subst hc hl hd hf;have hT:l! A=n:=by rw[ht,cg];have q4:Ah.length=4:=rfl;omega
 have hv:Py (l! A) D≠U:=hv;refine cW ?_;unfold iF bf bw bH cE dQ hY bn bU kY jQ bR bY aZ c7 aH cV;refine aX (λx=>x=(af,C0,KF,PI,Yt,A,D)) ?_ ?_
 .refine E3 (show (5:Int)<=12 by decide) (E3 (show (3:Int)<=4 by decide) (E3 (show (1:Int)<=2 by decide) (E3 (show (1:Int)<=2 by decide) (E3 (show (1:Int)<=(l! A:Int) by omega) (E3 (show (l! A:Int)<=4 by omega) (ak ?_))))));dsimp only[ay];rw[kg.2 (show (l! D:Int)<=60 by omega)]
 rintro x rfl;refine kB (bc (aj9 A (by omega) D) (j7 rfl ?_));have hN:NM9++A=(NM9++Ah).take (9+n):=by rw[ht];rcases (by omega:n=1\/n=2\/n=3\/n=4) with rfl|rfl|rfl|rfl<;>rfl
 have hNl:l! (NM9++A)=9+n:=by rw[bz,hT];rfl
 have hNg:∀i:Nat,i<9+n->geti (.str) (NM9++A) (i:Int)=geti (.str) (NM9++Ah) (i:Int):=λi hi=>by
  rw[hN,tI,tI,aw,aw,List.getElem?_take_of_lt hi]
 refine cD (9+n) (λi x=>x=((i:Int),C0,KF,PI,Yt,A,D)) ?_ ?_ rfl
 .rintro i x hi rfl;refine bQ (λ_=>?_) λg=>(by dsimp only[ay]at g;rw[hNl]at g;omega)
  refine aX (λx=>x=(af,C0,KF,PI,Yt,A,D)) ?_ ?_
  .refine aO (by dsimp only;omega) (by dsimp only;rw[hNl];omega) (aT ?_);have hmem:geti (.str) (NM9++A) (i:Int)∈NM9++Ah:=by rw[hNg i hi];exact bP (T:=.str) (by omega) (by have:l! (NM9++Ah)=13:=rfl;omega)
   refine aA (Yq _ hmem) λb hb=>?_
   refine j7 (by rw[hb];rfl) (cR (a? (dm (by dsimp only;rw[hNl];omega) ?_)));refine aO (by dsimp only;omega) (by dsimp only;rw[hNl];omega) (aT ?_);refine aA (BS _ _ (by dsimp only;rw[cg,hNl];omega)) λr hr=>ak ?_
   let⟨_,h2,h3,_⟩:=hr;dsimp only at h2 h3;rw[cg,hNl]at h2;have hr0:¬0<=r:=λh0=>by
    have h3:=h3 h0;obtain⟨r,rfl⟩:∃m:Nat,r=(m:Int):=⟨r.toNat,by omega⟩
    rw[tI,aw,List.getElem?_take_of_lt (by omega),<-aw,<-tI (T:=.str),hNg r (by omega),hNg i hi]at h3;exact av1 i (by omega) r (by omega) h3
   rw[nH.2 (by omega)]
  .rintro x rfl;exact kB (ak (by dsimp only;rw[ig]))
 rintro x rfl;refine bQ (λg=>(by dsimp only[ay]at g;rw[hNl]at g;omega)) λ_=>?_
 refine aA (P:=λb=>b=J) ?_ λy hy=>ak hy
 refine cD 1 (λi x=>x=((i:Int),C0,KF,PI,Yt,A,D)) ?_ ?_ rfl
 .rintro i x hi rfl;have hi0:i=0:=by omega
  subst hi0;refine qV rfl (bt rfl (aT (aX (λx=>x=(af,C0,KF,PI,Yt,A,D)) ?_ ?_)))
  .exact j7 rfl (j7 rfl (bt rfl (aT (ak rfl))))
  .rintro x rfl;exact kB (ak (by dsimp only;rw[ig]))
 rintro x rfl;refine bQ (λg=>(by have g:(1:Int)<1:=g;omega)) λ_=>?_
 refine aA (P:=λb=>b=J) ?_ λy hy=>ak hy
 refine cD (l! D) (λi x=>x=((i:Int),C0,KF,PI,Yt,A,D)/\∃t k:Int,Py (l! A) (D.take i)=Z (t,k)/\0<=t/\t<(l! A:Int)/\(i=0->t=0/\k=0)/\(¬i=0->(geti pW D ((i-1:Nat):Int)).1=t/\(geti pW D ((i-1:Nat):Int)).2.1+1=k/\0<k/\k<=i)) ?_ ?_ ⟨rfl,0,0,rfl,by omega,by omega,λ_=>⟨rfl,rfl⟩,λh=>(h rfl).elim⟩
 .rintro i x hi ⟨rfl,t,k,hF,t0,tT,hz,hp⟩;have hw:¬(i:Int)=0->bl .i64 ((i:Int)-1)=((i-1:Nat):Int):=λh=>by rw[jA];omega
  have hnx:=Mi (T:=l! A) hi;have hne:=abr hv (i+1);rw[hnx,hF]at hne;let⟨hs1,L⟩:=aia hne;rw[hF,hs1]at hnx;refine dB ?_;refine aX (λx=>x=(C0,KF,PI,Yt,A,D)) ?_ ?_
  .refine cH (aT ?_);revert L;generalize (geti pW D (i:Int))=z;obtain⟨(z1:Int),(z2:Int),z3⟩:=z;intro L;dsimp only at L;refine aX (λx=>x=(af,(C0,KF,PI,Yt,A,D),z1,z2,z3)) ?_ ?_
   .refine E3 (show (0:Int)<=z1 by omega) (ak ?_);dsimp only[ay];rw[nH.2 (show z1<(l! A:Int) by omega)]
   rintro x rfl;refine kB (aX (λx=>x.2=((C0,KF,PI,Yt,A,D),z1,z2,z3)/\(x.1=J->i=0\/¬t=z1)/\(x.1=af->¬i=0/\t=z1)) ?_ ?_)
   .refine aK (λh=>ak ⟨rfl,λ_=>.inl (by have h:((i:Nat):Int)=0:=h;omega),nofun⟩) λh=>?_
    have h:¬((i:Nat):Int)=0:=h;dsimp only;rw[hw h];have hq:=(hp (by omega)).1;exact aO (by omega) (by first|omega|(dsimp only;omega)) (aT (ak ⟨rfl,λh2=>.inr (by rw[<- hq];simpa using h2),λh2=>⟨by omega,by rw[<- hq];simpa using h2⟩⟩))
   rintro⟨c,x⟩ ⟨e,hc1,hc⟩;dsimp only at e hc1 hc;subst e;refine aP (λhct=>?_) λhcf=>?_
   .have hz2:z2=0:=by
     rcases hc1 hct with h|h
     .have:=hz h;omega
     .omega
    refine aX (λx=>x=(af,C0,KF,PI,Yt,A,D)) ?_ ?_
    .refine cf (λh=>(h hz2).elim) λ_=>bQ (λh=>?_) λ_=>ak rfl
     have h:(0:Int)<((i:Nat):Int):=h;dsimp only;rw[hw (by omega)];have hq:=(hp (by omega)).1;refine aO (by omega) (by first|omega|(dsimp only;omega)) (aT (ak ?_));dsimp only;rw[hq,kg.2 (show t<=z1 by omega)]
    rintro x rfl;exact kB (ak rfl)
   .obtain⟨h1,h2⟩:=hc hcf;let⟨_,p2,p3,p4⟩:=hp h1;dsimp only;rw[hw (by omega)];refine aO (by omega) (by first|omega|(dsimp only;omega)) (aT ?_);refine cf (λh=>(h ?_).elim) λ_=>ak rfl
    try dsimp only
    rw[p2,jA];omega
  .rintro x rfl;refine ak ⟨by dsimp only;rw[ig],_,_,hnx,?_⟩;revert L;rw[show i+1-1=i by omega];generalize (geti pW D (i:Int))=z;obtain⟨(z1:Int),(z2:Int),z3⟩:=z;intro L;dsimp only at L ⊢;refine ⟨by omega,by omega,λh=>by omega,λ_=>⟨rfl,rfl,?_,?_⟩⟩
   .by_cases h0:i=0
    .have:=hz h0;omega
    .have:=hp h0;omega
   .by_cases h0:i=0
    .have:=hz h0;omega
    .have:=hp h0;omega
 .rintro x ⟨rfl,_⟩;exact dw (ak rfl)
def ab5 {c:CT} (z:WX c.1) (A:l! c.2=l! c.1.2.2.2.2.1) (h:∀k:Nat,k<l! c.2->GC (l! c.2) c.1.2.2.2.2.2 (k:Int) (geti Aj c.2 (k:Int))):kN c=Z J:=by
 let⟨w,l⟩:=c;have L:l! l<=4:=by
  let⟨n,_,D,ht⟩:=z.t
  grind
 refine cW ?_;unfold kN bH bU bY aZ c7 aH cV;refine aX (λx=>x=(af,w,l)) ?_ ?_
 .refine bc (Lu z) (j7 rfl (ak ?_));rw[A];simp
 rintro x rfl;refine kB (cD (l! l) (λi x=>x=((i:Int),w,l)) ?_ ?_ rfl)
 .rintro i x hi rfl;refine dB ?_;refine cH (aT (bc (H5 z A.symm (h i hi)) (j7 rfl (ak ?_))));rw[ig]
 .rintro x rfl;exact dw (ak rfl)
def UK (p:PG) (hp:PJ p) (hr4:∃r,gm p=Z r/\r.1=0):Ok (rV p) λy=>CB y.1:=by
 have hpt:=hp.t;let⟨r,hr,h0⟩:=hr4;let⟨r',hr',h60⟩:=HO p hp.x;rw[hr]at hr';cases hr';have h60:=h60 h0;unfold rV bf bw bH cE dJ c8 dQ hY vu bU jQ bR bY kK aZ c7 aH cV;refine bc hr (cf (λh=>(h h0).elim) λ_=>?_);refine aA (ab3 p hp r hr h0 h60) λw hw=>?_
 have hwT:l! w.2.2.2.2.1=l! p.2:=by rw[hw.t,cg];have q4:Ah.length=4:=rfl;omega
 refine cD (l! p.2) (λi x=>x.1.1=((bsN p i:Nat):Int)/\x.1.2=(i:Int)/\x.2.1=p/\x.2.2.1=w/\l! x.2.2.2=i/\∀j:Nat,j<i->GC (l! p.2) w.2.2.2.2.2 (j:Int) (geti Aj x.2.2.2 (j:Int))) ?_ ?_ ⟨rfl,rfl,rfl,rfl,rfl,λj L=>by omega⟩
 .rintro i ⟨⟨a,b⟩,p2,w2,cs⟩ hi ⟨e0,e1,e2,e3,e4,e5⟩;dsimp only at e0 e1 e2 e3 e4 e5;subst e0 e1;have e2:=e2.symm;subst e2;have e3:=e3.symm;subst e3;have hin:((i:Nat):Int)<(l! p.2:Int):=by omega
  refine dB ?_;have hm:=hp.m _ (bP (T:=uZ) (xs:=p.2) (j:=(i:Int)) (by omega) hin);have hsr:=hw.s i hi;have hbs:=asa hi;have hb1:=aav (i+1) h60;have hbo:boN p i=oS 3 (geti uZ p.2 (i:Int)).2.2.2:=au7 λs hs=>(hm.s s hs).t
  rw[hbo]at hsr hbs;dsimp only;refine aO (by omega) hin (aT (aO (by omega) hin (aT ?_)));revert hm hsr hbs;generalize (geti uZ p.2 (i:Int))=t;intro hm hsr hbs;have hk:ME 3=50+16*(50+16*50):=rfl;have hle:=cJ (ME 3) hm.b;rw[hk]at hle;have hll:l! t.2.2.1=2:=by rw[hm.l];rfl
  refine aA (TW (nT:=l! p.2) (ss:=w.2.2.2.2.2) (t:=(i:Int)) 3 (by omega) _ _ [] (by have:=hm.b;omega) hm.s ⟨hw.x.c,hw.x.l,hw.x.d,hw.x.f,hw.t,hm.l⟩ hsr (by rw[hk,pK];omega)) λy hy=>bt (by simp) ?_
  let⟨g2,o2⟩:=y;let⟨q1,q2,q3⟩:=hy;dsimp only at q1 q2 q3;have q4:=q2.u;rw[hk,pK]at q4;refine aA (Mo _ _ o2 (by omega)) λy hy=>bt (by simp) ?_
  let⟨g3,A⟩:=y;let⟨hg3,ho3⟩:=hy;dsimp only at hg3 ho3;have hL:aQ (aj g3.2.2.2.2.2.2.1)=2:=by
   rw[hg3];show aQ (aj g2.2.2.2.2.2.2.1)=2;rw[q1.h];show aQ (aj t.2.2.1)=2;rw[hll];rfl
  have l3:l! A=l! o2+1:=by rw[ho3,bz];rfl
  have l31:l! A-1=l! o2:=by omega
  have iq:∀q:Nat,q<l! o2->iA A q=iA o2 q:=λq D=>by rw[ho3,M4 D]
  have iend:iA A (l! o2)=(28,0,0,0,0,-1):=by rw[ho3,AM]
  have hreg:∀q:Nat,q<l! A->∀j:Int,j∈jP (iA A q)->0<=j/\j<32:=λq D j L=>by
   by_cases h:q<l! o2
   .rw[iq q h]at L;exact (q2.i q (lm _) h).o.r j L
   .rw[show q=l! o2 by omega,iend]at L;simp[jP]at L
  dsimp only;rw[hL];refine cD (l! A) (λk x=>∃rg:Int,x=((k:Int),p,w,g3,rg,cs,A)/\2<=rg/\rg<=32/\∀q:Nat,q<k->∀j:Int,j∈jP (iA A q)->j<rg) ?_ ?_ ⟨2,rfl,by omega,by omega,λq D=>by omega⟩
  .rintro k x hk2 ⟨rg,rfl,r0,r1,r2⟩;refine dB ?_;dsimp only;refine cH (cH (aT (bc (vI _) ?_)));have hrk:=hreg k hk2;have hrl:=F8 (iA A k);revert hrk hrl;generalize hins:(geti sK A (k:Int))=ins;rw[show iA A k=ins from hins];intro hrk hrl;refine cD (l! (jP ins)) (λj x=>∃rg':Int,x=((j:Int),p,w,g3,rg',cs,A)/\rg<=rg'/\rg'<=32/\∀q:Nat,q<j->rg'>geti aM (jP ins) (q:Int)) ?_ ?_ ⟨rg,rfl,dC _,r1,λq D=>by omega⟩
   .rintro j x L ⟨rg',rfl,s0,s1,s2⟩;refine dB ?_;refine cH (aT (ak ?_));have hz:=hrk _ (bP (T:=aM) (xs:=jP ins) (j:=(j:Int)) (by omega) (by omega));dsimp only;obtain⟨z,hzj⟩:∃z:Int,geti aM (jP ins) (j:Int)=z:=⟨_,rfl⟩
    rw[hzj]at hz ⊢;have hz0:(0:Int)<=z:=hz.1;have hz1:(32:Int)>z:=hz.2;rw[ig,jA (n:=z+1) (by omega) (by omega)];have him:rg'<=j6 rg' (z+1)/\z+1<=j6 rg' (z+1)/\j6 rg' (z+1)<=32:=by
     unfold j6;split
     next h=>have h:=r8.1 h;omega
     next h=>have h:=kg.1 (So.2 h);omega
    refine ⟨_,rfl,by omega,him.2.2,λq D=>?_⟩;rcases cF q j with h1|h1
    .have:=s2 q h1;omega
    .rw[show q=j by omega,hzj];exact Int.lt_of_lt_of_le (show z<z+1 by omega) him.2.1
   .rintro x ⟨rg',rfl,s0,s1,s2⟩;refine dw (ak ?_);refine ⟨rg',by dsimp only;rw[ig],by omega,s1,λq D j L=>?_⟩;rcases cF q k with h1|h1
    .have:=r2 q h1 j L;omega
    .rw[show q=k by omega,show iA A k=ins from hins]at L;exact iY (T:=aM) (p:=λc=>rg'>c) s2 j L
  .rintro x ⟨rg,rfl,r0,r1,r2⟩;refine dw (VH (a! (VG (ak ?_))));dsimp only;have q3':(g2.2.2.2.2.2.2.2.2:Int)=(bsN p i:Nat)+(oS 3 t.2.2.2:Nat):=q3;refine ⟨by rw[q3',hbs];omega,ig,rfl,rfl,by simp;omega,λj L=>?_⟩;rcases cF j i with h1|h1
   .rw[Nr (T:=Aj) (by rw[e4];exact h1)];exact e5 j h1
   .rw[show j=i by omega,Nq (T:=Aj) (by rw[e4];omega),e4,LC];refine ⟨show (1:Int)<=rg by omega,r1,show 1<=l! A by omega,show (l! A)<=1000000 by omega,?_,?_,?_,?_,?_⟩
    .show (iA A (l! A-1)).1=28/\(iA A (l! A-1)).2.2.2.2.2= -1;rw[l31,iend];exact⟨rfl,rfl⟩
    .show sF A 0 (l! A-1);rw[l31];exact q2.b.congr λq _ D=>iq q D
    .show ∀q:Nat,q<l! A-1->GI (l! p.2) w.2.2.2.2.2 (i:Int) (iA A q);rw[l31];exact λq D=>by rw[iq q D];exact q2.i q (lm _) D
    .show ∀q:Nat,q<l! A-1->(iA A q).1=10->0<=(iA A q).2.2.1/\(iA A q).2.2.1<(l! A:Int)
     rw[l31];intro q D h10;rw[iq q D]at h10 ⊢;have:=q2.r q (lm _) D h10;omega
    .exact λq D j L=>r2 q (show q<l! A by have D:q<l! A-1:=D;omega) j L
 .rintro⟨⟨a,b⟩,p2,w2,cs⟩ ⟨e0,e1,e2,e3,e4,e5⟩;dsimp only at e0 e1 e2 e3 e4 e5;subst e1 e2 e3;refine dw (ak ?_);have hgc:∀t∈cs,∃k:Nat,GC p2.2.length w2.2.2.2.2.2 (k:Int) t:=iY (T:=Aj) λk hk=>⟨k,e5 k (by omega)⟩
  refine ⟨by dsimp only;omega,λt ht=>?_,λt ht=>?_,hw.x,ab5 hw.x ?_ ?_⟩
  .obtain⟨k,hk⟩:=hgc t ht;exact hk.u
  .obtain⟨k,hk⟩:=hgc t ht;exact hk.r0
  .dsimp only;rw[e4,hwT]
  .dsimp only;rw[e4];exact e5
def P1 (a b:η) (ha:l! a<=9223372036854775807) (D:∀z∈a,0<=z/\z<=255) (hb:l! b<=1000000):Ok (xE (a,b)) TR:=by
 refine aA (P:=CB) ?_ λc L=>aA (abe b hb) λl hl=>?_
 .unfold AE;exact aA (KU a ha D) λp hp=>aA (UK p hp.1 hp.2) λy A=>ak A
 .exact aA (av0 c l L (by omega)) λy A=>ak A
def UJ (a b c:η) (n:Int) (n0:0<=n) (n1:n<=1000000) (ha:l! a<=9223372036854775807) (D:∀z∈a,0<=z/\z<=255) (L:l! c<=9223372036854775807) (A:∀z∈c,0<=z/\z<=255):Ok (oX ((a,b,c),n)) TR:=by
 refine bQ (λ_=>aA (Mk c n L A) λy h=>ak h) λ_=>?_
 have h0:0<=KY (aQ (l! b)) n/\KY (aQ (l! b)) n<=(l! b:Int)/\KY (aQ (l! b)) n<=n:=by
  unfold KY;split
  next h=>rw[r8]at h;dsimp [ay]at h;exact⟨n0,by omega,dC _⟩
  next h=>have h:=kg.1 (So.2 h);dsimp [ay]at h ⊢;exact⟨by omega,dC _,h⟩
 refine cR (dm h0.1 (dm h0.2.1 ?_));have h1:l! (dx (aN (KY (aQ (l! b)) n)) b)<=1000000:=by grind
 exact aA (P1 a _ ha D h1) λy h=>ak h
def ahy (P:Program) (f:Ty->TypeId->Bool):Y Field->Nat->Ty->Bool
 |[],_,.un=>J
 |[x],off,T=>ax x.offset off&&f T x.type&&ax (P.cellsOf x.type) T.size
 |x::y::r,off,.pr a b=>ax x.offset off&&f a x.type&&ax (P.cellsOf x.type) a.size&&ahy P f (y::r) (off+a.size) b
 |_,_,_=>af
def aei (P:Program) (f:Ty->TypeId->Bool) (e:TypeId):Nat->Ty->Bool
 |1,T=>f T e&&ax (P.cellsOf e) T.size
 |m+2,.pr a b=>f a e&&ax (P.cellsOf e) a.size&&aei P f e (m+1) b
 |_,_=>af
def EP (P:Program):Nat->Ty->TypeId->Bool
 |0,_,_=>af
 |n+1,T,t=>match T,P.underlying t with
  |.int k,Z (.int z)=>k==z
  |.bool,Z .bool=>J
  |.str,Z .string=>J
  |.sl y,Z (.slice e)=>EP P n y e&&ax (P.cellsOf e) y.size&&eE 0 y.size
  |.st y,Z (.struct A)=>ahy P (EP P n) A.toList 0 y&&ax (P.cellsOf t) y.size
  |.st y,Z (.array m e)=>aei P (EP P n) e m y&&ax (P.cellsOf t) y.size
  |_,_=>af
def wfT:(T:Ty)->T.den->Prop
 |.int k,n=>(Lit.int k n).wf=J
 |.str,s=>aj s<=maxLen
 |.sl y,xs=>aj xs<=maxLen/\∀x∈(xs:Y y.den),wfT y x
 |.st t,v=>wfT t v
 |.pr a b,v=>wfT a v.1/\wfT b v.2
 |_,_=>True
def Pk (W:World) (T:Ty) (x:T.den) (cs:ξ):Prop:=l! cs=T.size/\∀(j:Nat) y v,(bE T x)[j]? =Z y->cs[j]? =Z v->ny (λ_=>False) W y v
def OV (z:R) (P:Nat->R->Prop):∀n:Nat,(∀i,i<n->∃a,P i a)->∃l:Y R,l! l=n/\∀i x,l[i]? =Z x->P i x
 |0,_=>⟨[],rfl,λi x h=>by simp at h⟩
 |n+1,h=>by
  let⟨l,A,hp⟩:=OV z P n (λi hi=>h i (by omega));let⟨a,L⟩:=h n (by omega);refine ⟨l++[a],by simp[A],λi x D=>?_⟩
  grind
def Addr.add_plain {a:Addr} (h:a.spot=U) (n:Nat):a.add n=⟨a.block,a.off+n,U⟩:=by
 unfold Addr.add;split
 next h0=>subst h0;cases a;subst h;rfl
 .rfl
variable {v:Value}
def agn {w:World} {a:Addr} (h:w.cell? a=Z v):a.spot=U:=by
 unfold Sk at h;split at h
 .simp_all
 .cases h
variable {K:Ty} {L:ξ}
def Pk.sub {W:World} {x:K.den} {n:Nat} (h:Pk W K x ((L.drop i).take n)) (D:n=K.size) (cs:i+n<=l! L):∀(j:Nat) y v,(bE K x)[j]? =Z y->L[i+j]? =Z v->ny (λ_=>False) W y v:=λj y v z A=>by
 refine h.2 j y v z ?_;have hj:j<K.size:=by have:=(bC.1 z).1;rwa [bm]at this
 grind
section
variable {H:Type} {enc:TypeId×Value->H} {P:Program} {W:World} {base:Nat} {sp:Nat->Bool} {hd:Bool}
def ac7 {f:Ty->TypeId->Bool} {m:Nat} (ih:∀(T:Ty) (t:TypeId) (cs:ξ) x,f T t=J->DataW.trod enc P W base sp hd m t cs=Z x->∃v,Pk W T v cs/\wfT T v) (cs:ξ) (ts:Y (DataW H×Y MemPlace)):
 ∀(fs:Y Field) (off k:Nat) (T:Ty),ahy P f fs off T=J->off+T.size<=l! cs->(∀(i:Nat) (fl:Field),fs[i]? =Z fl->∃z,DataW.trod enc P W base sp hd m fl.type ((cs.drop fl.offset).take (P.cellsOf fl.type))=Z z)->
 ∃v,(∀(j:Nat) y u,(bE T v)[j]? =Z y->cs[off+j]? =Z u->ny (λ_=>False) W y u)/\wfT T v
 |[],off,k,.un,_,_,_=>⟨(),λj y u L=>by simp[bE]at L,trivial⟩
 |[x],off,k,T,h,hl,hg=>by
  simp only[ahy,al]at h;let⟨⟨h1,h2⟩,D⟩:=h;have h1:=au h1;have D:=au D;let⟨z,hz⟩:=hg 0 x rfl;let⟨v,A,hw⟩:=ih T _ _ _ h2 hz;rw[h1]at A;exact⟨v,A.sub D (by omega),hw⟩
 |x::x'::r,off,k,.pr a b,h,hl,hg=>by
  simp only[ahy,al]at h;let⟨⟨⟨h1,h2⟩,D⟩,h4⟩:=h;have h1:=au h1;have D:=au D;simp[Ty.size]at hl;let⟨z,hz⟩:=hg 0 x rfl;let⟨v,A,hw⟩:=ih a _ _ _ h2 hz;rw[h1]at A;have A:=A.sub D (by omega);let⟨v',hv',hw'⟩:=ac7 ih cs ts (x'::r) (off+a.size) (k+1) b h4 (by omega) (λi fl hi=>hg (i+1) fl (by grind));refine ⟨(v,v'),λj y u L hu=>?_,hw,hw'⟩;simp[bE]at L;by_cases hj:j<a.size
  .rw[bL (by rw[bm];exact hj)]at L;exact A j y u L hu
  .rw[b_ (by rw[bm];omega),bm]at L
   grind
variable {s:TypeId}
def ac8 {f:Ty->TypeId->Bool} {m:Nat} (ih:∀(T:Ty) (t:TypeId) (cs:ξ) x,f T t=J->DataW.trod enc P W base sp hd m t cs=Z x->∃v,Pk W T v cs/\wfT T v) (cs:ξ):
 ∀(n i:Nat) (T:Ty),aei P f s n T=J->i*P.cellsOf s+T.size<=l! cs->(∀j,j<n->∃z,DataW.trod enc P W base sp hd m s ((cs.drop ((i+j)*P.cellsOf s)).take (P.cellsOf s))=Z z)->
 ∃v,(∀(j:Nat) y u,(bE T v)[j]? =Z y->cs[i*P.cellsOf s+j]? =Z u->ny (λ_=>False) W y u)/\wfT T v
 |0,i,T,h,_,_=>by cases h
 |1,i,T,h,hl,L=>by
  simp only[aei,al]at h;have h3:=au h.2;let⟨z,hz⟩:=L 0 (by omega);let⟨v,A,hw⟩:=ih T _ _ _ h.1 hz;rw[dK]at A;exact⟨v,A.sub h3 (by omega),hw⟩
 |n+2,i,T,h,hl,L=>by
  cases T with
  |pr a b=>
   simp only[aei,al]at h;let⟨⟨h1,h2⟩,h4⟩:=h;have h3:=au h2;simp[Ty.size]at hl;let⟨z,hz⟩:=L 0 (by omega);let⟨v,A,hw⟩:=ih a _ _ _ h1 hz;rw[dK]at A;have A:=A.sub h3 (by omega);let⟨v',hv',hw'⟩:=ac8 ih cs (n+1) (i+1) b h4 (by grind) (λj hj=>by have:=L (j+1) (by omega);rwa [show i+(j+1)=i+1+j from by omega]at this);refine ⟨(v,v'),λj y u D hu=>?_,hw,hw'⟩;simp[bE]at D;by_cases hj:j<a.size
   .rw[bL (by rw[bm];exact hj)]at D;exact A j y u D hu
   .rw[b_ (by rw[bm];omega),bm]at D
    grind
  |_=>unfold aei at h;cases h
def LN:∀(n:Nat) (T:Ty) (t:TypeId) (fuel:Nat) (cs:ξ) x,EP P n T t=J->(∀b,sp b=J)->DataW.trod enc P W base sp hd fuel t cs=Z x->∃v,Pk W T v cs/\wfT T v
 |0,_,_,_,_,_,h,_,_=>by unfold EP at h;cases h
 |n+1,T,t,fuel,cs,x,h,hsp,ht=>by
  unfold EP at h;split at h
  .rename_i k k' hu;have hk:=eq_of_beq h;subst hk;obtain⟨m,rfl,_,hw⟩:=DataW.trod_int hu ht;refine ⟨m,⟨rfl,λj y v z L=>?_⟩,hw⟩;cases j with
   |zero=>simp[bE]at z L;subst z L;exact .raw _
   |succ j=>simp[bE]at z
  .rename_i hu;obtain⟨b,rfl,_⟩:=DataW.trod_bool hu ht;refine ⟨b,⟨rfl,λj y v z L=>?_⟩,trivial⟩;cases j with
   |zero=>simp[bE]at z L;subst z L;exact .raw _
   |succ j=>simp[bE]at z
  .rename_i hu;obtain⟨s,rfl,_,hs⟩:=DataW.trod_string hu ht;refine ⟨s.data.toList,⟨rfl,λj y v z L=>?_⟩,by simpa[wfT] using hs⟩;cases j with
   |zero=>simp[bE]at z L;subst z L;exact .raw _
   |succ j=>simp[bE]at z
  .rename_i A e hu;simp only[al]at h;let⟨⟨h1,h2⟩,h3⟩:=h;have h2:=au h2;have h3:0<A.size:=aU h3;rcases Go.Deep.open_slice hu ht with ⟨rfl,_⟩|⟨a,len,cap,m,k,D,Pl,rfl,hb,hl,hm,hmm,_,hi⟩
   .refine ⟨[],⟨rfl,λj y v z L=>?_⟩,by simp[wfT]⟩;cases j with
    |zero=>simp[bE]at z L;subst z L;exact .nil _ _ (by unfold maxLen;omega)
    |succ j=>simp[bE]at z
   .rw[hsp,aD rfl]at hmm;rw[h2]at hi;let⟨xs,hx1,hx2⟩:=OV A.zero (λi (v:A.den)=>∃cs',W.cells? base (a.add (i*A.size)) A.size=Z cs'/\Pk W A v cs'/\wfT A v) len (λi hil=>by
     let⟨cs',hc,htt⟩:=hi i (by omega);let⟨v,L,hw⟩:=LN n A e k cs' _ h1 hsp htt;exact⟨v,cs',hc,L,hw⟩)
    refine ⟨xs,⟨rfl,λj y v z L=>?_⟩,by show aj xs<=maxLen;omega,λy z=>?_⟩
    .cases j with
     |succ j=>simp[bE]at z
     |zero=>
      simp[bE]at z L;subst z L;by_cases h0:len=0
      .have:xs=[]:=dk.1 (by omega);subst this h0;exact .nil _ _ hm
      .obtain⟨x0,hx0⟩:∃x0,xs[0]? =Z x0:=⟨xs[0]'(by omega),aG (by omega)⟩
       let⟨cs0,hc0,_⟩:=hx2 0 x0 hx0;let⟨_,hcl0,hat0⟩:=World.cells?_some hc0;have hca:=hat0 0 h3;rw[aG (by omega)]at hca;have hspot:a.spot=U:=by
        have:=agn hca;simpa[Addr.add] using this
       have hblk:=World.block_lt_of_cell? W _ hca;rw[Nat.zero_mul,Addr.add_plain hspot,Addr.add_plain rfl]at hca hblk;have hcell:∀(i j:Nat) x,xs[i]? =Z x->j<A.size->∃cs',W.cell? ⟨a.block,a.off+(i*A.size+j),U⟩=cs'[j]? /\j<l! cs'/\Pk W A x cs':=λi j x hx hj=>by
        let⟨cs',hc,hr,_⟩:=hx2 i x hx;let⟨_,hcl,hat⟩:=World.cells?_some hc;have:=hat j hj;rw[Addr.add_plain hspot,Addr.add_plain rfl,uJ]at this;exact⟨cs',this,by omega,hr⟩
       have hflat:∀j,j<l! xs*A.size->∃x,xs[j/A.size]? =Z x/\j%A.size<A.size/\j=j/A.size*A.size+j%A.size:=λj hj=>by
        have h5:j/A.size<l! xs:=Nat.div_lt_of_lt_mul (by rw[Nat.mul_comm];exact hj);exact⟨xs[j/A.size],aG h5,Nat.mod_lt _ h3,by rw[Nat.mul_comm];exact (Nat.div_add_mod j A.size).symm⟩
       have hlen:l! (List.flatMap (bE A) xs)=l! xs*A.size:=eK (bm A) xs;let⟨ab,ao,az⟩:=a;cases hspot;rw[<- hx1];refine .sl (List.flatMap (bE A) xs) (l! xs) cap ab ao (λj=>(W.cell? ⟨ab,ao+j,U⟩).getD undef) (by omega) hm (λh=>h) hblk (mD A xs) (λj hj=>?_) (λj y z=>?_)
       .obtain⟨x,hx,hjs,hje⟩:=hflat j (by omega);let⟨cs',g1,g2,_⟩:=hcell _ _ x hx hjs;rw[<- hje]at g1;simp only[g1,aG g2,sH]
       .have hj:j<l! xs*A.size:=by rw[<- hlen];exact (bC.1 z).1
        let⟨x,hx,hjs,hje⟩:=hflat j hj;let⟨cs',g1,g2,g3⟩:=hcell _ _ x hx hjs;rw[<- hje]at g1;simp only[g1];rw[aG g2];refine g3.2 (j%A.size) y _ ?_ (aG g2);let⟨r,hr⟩:=IQ (bm A) xs (j/A.size) x hx;have:((List.flatMap (bE A) xs).drop (j/A.size*A.size))[j%A.size]? =Z y:=by rw[tP,<-hje];exact z
        rw[hr,bL (by rw[bm];exact hjs)]at this;exact this
    .obtain⟨i,hi'⟩:=fH z;let⟨_,_,_,hw⟩:=hx2 i y hi';exact hw
  .rename_i A fs hu;simp only[al]at h;have h2:=au h.2;obtain⟨xs,m,rfl,_,hl,hxl,hg⟩:=DataW.trod_struct hu ht;let⟨v,L,hw⟩:=ac7 (f:=EP P n) (m:=m) (λT t cs x h1 h2=>LN n T t m cs x h1 hsp h2) cs xs fs.toList 0 0 A h.1 (by omega) (λi fl hi=>by
    have hi':fs[i]? =Z fl:=by simpa using hi
    have:=hg i fl hi';have hlt:i<l! xs:=by rw[hxl];exact (dE.1 hi').1
    rw[aG hlt]at this;exact⟨_,this⟩)
   exact⟨v,⟨by rw[hl,h2];rfl,λj y u z hu=>L j y u z (by rw[bX];exact hu)⟩,hw⟩
  .rename_i A m e hu;simp only[al]at h;have h2:=au h.2;obtain⟨xs,q,rfl,_,hl,hxl,hg⟩:=DataW.trod_array hu ht;let⟨v,L,hw⟩:=ac8 (f:=EP P n) (m:=q) (λT t cs x h1 h2=>LN n T t q cs x h1 hsp h2) cs m 0 A h.1 (by omega) (λj hj=>by
    have:=hg j hj;rw[aG (by omega)]at this;rw[bX];exact⟨_,this⟩)
   exact⟨v,⟨by rw[hl,h2];rfl,λj y u z hu=>L j y u z (by rw[Nat.zero_mul,bX];exact hu)⟩,hw⟩
  .cases h
def VK {t:TypeId} {r:Reach} (z:EP P i K t=J) (h1:K.one=J) (h:Lz P W r j t v):v.cells.toList=[v]:=by
 cases i with
 |zero=>unfold EP at z;cases z
 |succ i=>
  unfold EP at z;unfold Lz at h;cases v with
  |agg cs=>
   split at z<;>rename_i A<;>first|(rw [A]at h;simp[]at h;unfold Cell.okWide at h;rw[A]at h;unfold Cell.ok at h;rw[A]at h;simp at h)|cases h1|cases z
  |_=>rfl
def Y0 {t:TypeId} {r:Reach} (z:EP P i K t=J) (h1:K.one=af) (h:Lz P W r j t v):∃cs,v= .agg cs:=by
 cases i with
 |zero=>unfold EP at z;cases z
 |succ i=>
  unfold EP at z;unfold Lz at h;split at z<;>rename_i A<;>first|(rw [A]at h;let⟨cs,h,_⟩:=h;exact⟨cs,h⟩)|cases h1|cases z
def open_arg {n:Nat} {T:Ty} {t:TypeId} {d:DataW H} {D:Y MemPlace} {r:Reach} (A:EP P n T t=J) (hsp:∀b,sp b=J) (hok:Lz P W r i t v) (h:DataW.Trod enc P W base sp hd t v d D):∃x,ny (λ_=>False) W (gr T x) v/\wfT T x:=by
 let⟨fuel,hf⟩:=h;let⟨x,z,hw⟩:=LN n T t fuel _ _ A hsp hf;refine ⟨x,?_,hw⟩;by_cases h1:T.one=J
 .obtain⟨e1,e2⟩:=NX T x h1;exact z.2 0 _ v (by grind) (by rw[VK A h1 hok];rfl)
 .obtain⟨cs,rfl⟩:=Y0 A (by grind) hok;rw[sq T x (by grind)];have hl:l! cs.toList=l! (bE T x):=by rw[bm];exact z.1
  have:=ny.agg (O:=λ_=>False) (w:=W) (bE T x) cs.toList hl (ph T x) (λj y u L hu=>z.2 j y u L hu);simpa using this
end
def adu (h:(Lit.int .u8 a).wf=J):0<=a/\a<=255:=⟨bF (wZ.1 h).1,bF (wZ.1 h).2⟩
def as2 {w:WT} {l:Y ET} (z:TR (w,l)) (h:i<l! l):(eN l i).1=(mJ l i:Int):=by
 have:0<=(eN l i).1:=(z.ev _ (uW h)).t0;unfold mJ;omega
def UD (w:WT) (s:SY) (t k o u:Int):(pV w s t k o u).1.1=if k=6\/k=10 then VF s.1 o t else if k=7\/k=11 then VF s.1 o (-1) else if k=8 then rdP s.1 o (yJ (geti eM s.1 o).2 [t]) else if k=9 then rdP s.1 o (wo (geti eM s.1 o).2 t) else if k=16 then VF s.1 (muP w o) (-1) else if k=17 then VF s.1 (muP w o) t else s.1:=by
 cases kdI k
 case no h _=>simp[pV,h,dF,false_or]
 all_goals (simp [pV,bI,bk,dF,fo,false_or];try (split<;>rfl))
def VQ {w:WT} {z:SY} {t o:Int} (en:EN w z t a o) (h:16<=a/\a<=19):0<=muP w o/\muP w o<l! z.1:=by
 let⟨k,b⟩:=en.nm.cd h;rw[en.e1];exact en.cd _ (bP (T:=itK) k b)
def aiw {w:WT} {z:SY} {e:ET} (en:EN w z e.1 e.2.1 e.2.2.1) (rd:Yh w z e.1 e.2.1 e.2.2.1) {u:Int} (L:0<=a) (u0:0<=u) (h:(geti eM z.1 a).1=u) (A:¬(kq w e=a/\u=e.1)):(geti eM (pV w z e.1 e.2.1 e.2.2.1 e.2.2.2.1).1.1 a).1=u:=by
 let⟨t,k,o,v,s,r1,r2⟩:=e;dsimp only at en rd A ⊢;have D:6<=k/\k<=11->0<=o/\o<(l! z.1:Int):=λg=>by rw[en.e1];exact en.nm.lk g
 have ow:∀(i x:Int),0<=i->i<l! z.1->(a=i->x=u)->(geti eM (VF z.1 i x) a).1=u:=λi x h0 h1 hx=>by
  unfold VF;rw[jW _ _ _ _ h0 h1 L]
  grind
 have rr:∀(i:Int) (x:η),0<=i->i<l! z.1->(geti eM (rdP z.1 i x) a).1=u:=λi x h0 h1=>by
  unfold rdP;rw[jW _ _ _ _ h0 h1 L]
  grind
 unfold kq at A;dsimp only at A;rw[UD];split
 .rename_i g;let⟨lk,b⟩:=D (by omega);have e1:(geti eM z.1 o).1= -1:=rd.aq (by omega)
  grind
 split
 .rename_i g;let⟨lk,b⟩:=D (by omega);refine ow _ _ lk b λq=>?_
  have:=rd.rl g;rw[<- q,h]at this
  grind
 split
 .grind
 split
 .grind
 split
 .rename_i g;let⟨lk,b⟩:=VQ en (by omega);refine ow _ _ lk b λq=>?_
  have:=rd.nt (by omega);have e1:(geti eM z.1 (muP w o)).1=t:=this;rw[<- q,h]at e1;exact cu ⟨by rw[av (by omega),aD g];exact q.symm,e1⟩ A
 split
 .rename_i g;let⟨lk,b⟩:=VQ en (by omega);refine ow _ _ lk b λq=>?_
  have e1:(geti eM z.1 (muP w o)).1= -1:=(rd.wk g).2.2
  grind
 .exact h
def alx {w:WT} {z:SY} {e:ET} (en:EN w z e.1 e.2.1 e.2.2.1) {lk:Int} (A:0<=lk) (l1:lk<l! w.2.1) (h:Bl w e=lk):if e.2.1=8 then e.1∈(geti eM (pV w z e.1 e.2.1 e.2.2.1 e.2.2.2.1).1.1 lk).2 else (geti eM (pV w z e.1 e.2.1 e.2.2.1 e.2.2.2.1).1.1 lk).1=e.1:=by
 let⟨t,k,o,v,s,r1,r2⟩:=e;dsimp only at en h ⊢;have lo:6<=k/\k<=11->0<=o/\o<(l! z.1:Int):=λg=>by rw[en.e1];exact en.nm.lk g
 unfold Bl at h;dsimp only at h;rw[UD];by_cases g:k=6\/k=8\/k=10
 .rw[aD g]at h;subst h;let⟨a,b⟩:=lo (by omega);by_cases D:k=8
  .rw[aD D,av (by omega),av (by omega),aD D];unfold rdP;rw[jW _ _ _ _ a b A,aD rfl];exact FO.2 (.inr (aE.2 rfl))
  .rw[av D,aD (by omega)];unfold VF;rw[jW _ _ _ _ a b A,aD rfl]
 .rw[av g]at h;by_cases L:k=17
  .rw[aD L]at h;let⟨a,b⟩:=VQ en (by omega);have e1:muP w o=lk:=h;rw[av (by omega),av (by omega),av (by omega),av (by omega),av (by omega),av (by omega),aD L,e1];unfold VF;rw[e1]at a b;rw[jW _ _ _ _ a b A,aD rfl]
  .omega
def aog {w:WT} (z:WX w) (h0:0<=a) (h1:a<l! w.2.2.1):(geti tM w.2.1 (muP w a)).2=af:=by
 unfold muP;rw[z.d]at h1 ⊢;rw[z.l];have:a=0:=by have e:PI.length=1:=rfl;omega
 subst this;rfl
def YQ {w:WT} {e:ET} {op:Y e!} {ar:Y WO} {q:Int} (h0:0<=q) (h:q<l! ar):bx (Js w a e op ar) q=bx (Ce w a e op ar) q:=by
 unfold Js;split
 .exact LO _ (by rw[Ml];omega)
 .rfl
def GL (l:Y η):Prop:=l! l<=xY/\∀c∈l,l! c<=xY
abbrev HTp:Type:=Y η×Y η×Y η×Y η×Y η×Y η×η×Y η×η
def GH (h:HTp):Prop:=GL h.1/\GL h.2.1/\GL h.2.2.1/\GL h.2.2.2.1/\GL h.2.2.2.2.1/\GL h.2.2.2.2.2.1/\l! h.2.2.2.2.2.2.1<=xY/\GL h.2.2.2.2.2.2.2.1/\l! h.2.2.2.2.2.2.2.2<=xY
def Nt {l:Y η} (h:i<l! l):l.getD i []∈l:=by
 rw[aw,aG h];exact FB h
def GL.at {l:Y η} (h:GL l) (i:Nat):l! (l.getD i [])<=xY:=by
 by_cases hi:i<l! l
 .exact h.2 _ (Nt hi)
 .rw[aw,c_ (by omega)];simp
def agf (g:η->M η) (l:Y η) (L:l! l<=xY) (hg:∀c∈l,g c=Z c):
 f_ (σ:=X!) (λz=>(aI (gC z.1 (aQ (aj l))) (chk (dO z.1 (aj l)) λ_=>(aB (g (geti ((.sl (.int .i64))) l z.1)) λD=>(chk (dO z.1 (aj z.2)) λ_=>(chk (dO z.1 (aj z.2)) λ_=>(Z (oU ((bl .i64 (z.1+1)),(ch z.2 z.1 D)))))))) (Z (b7 z.2)))) (0,(aC (aN (aQ (aj l))) ([]:η)))=Z l:=by
 unfold xY at L;have:=Cp (σ:=X!) (R:=Y η) (l! l) (by omega) (λi=>((i:Int),(eA (l! l)).map λk=>if k<i then l.getD k [] else [])) (f:=(λz=>(aI (gC z.1 (aQ (aj l))) (chk (dO z.1 (aj l)) λ_=>(aB (g (geti ((.sl (.int .i64))) l z.1)) λD=>(chk (dO z.1 (aj z.2)) λ_=>(chk (dO z.1 (aj z.2)) λ_=>(Z (oU ((bl .i64 (z.1+1)),(ch z.2 z.1 D)))))))) (Z (b7 z.2))))) (r:=l) ?_ ?_
 .refine Eq.trans ?_ this;congr 1;simp only[FC,fX,dF,aR,EO,ay,bh];apply c5<;>simp
 .intro i hi;simp only[];rw[zE (by simp;omega),eu,cS (dz hi),zH,show (l.getD i (Ty.zero (.sl (.int .i64))))=l.getD i [] from rfl,hg _ (Nt hi),dW,cS (dz (by simpa using hi)),cS (dz (by simpa using hi)),sW hi (by omega),em];congr 3;apply c5
  .simp
  .intro k h1 A;simp only[bM,vx]at A;simp only[FA,xt,tO];by_cases e:i=k
   .subst e;simp
   .by_cases h:k<i
    .rw[av e,aD h,aD (by omega)]
    .rw[av e,av h,av (by omega)]
 .simp only[];rw[Ct (by simp),fm];congr 2;apply c5
  .simp
  .intro k h1 A;simp only[xt,tO];rw[aD A,aw,aG A];rfl
def tK (l:Y η) (h:GL l):iV l=Z l:=by
 have z:=h.1;unfold xY at z;unfold iV AY ck bU mK bR aZ c7 aH cV;rw[cS (by rw[sP (by simp),sP (by omega),Av (by simp;omega) (by simp;omega)];rfl)];exact agf Fe l h.1 λc A=>Yv c (h.2 c A)
def agh (h:HTp) (g:GH h):wB h=Z (h.2.2.2.2.2.2.1,h.1,h.2.1,h.2.2.1,h.2.2.2.1,h.2.2.2.2.1,h.2.2.2.2.2.1,h.2.2.2.2.2.2.2.1,h.2.2.2.2.2.2.2.2):=by
 let⟨g1,g2,g3,g4,g5,L,D,A,z⟩:=g;unfold wB bf bw bH cE dJ gf vu;rw[tK _ g1,dW,tK _ g2,dW,tK _ g3,dW,tK _ g4,dW,tK _ g5,dW,tK _ L,dW,Sj _ D,dW,tK _ A,dW,Sj _ z,dW]
abbrev Af:Type:=z?
def h0 (w:Af):HTp:=(aC (l! w.2.2.2.2.1) [],aC (l! w.2.2.2.2.1) [],aC (l! w.2.1) [],aC (l! w.2.1) [],aC (l! w.1) [],aC (l! w.2.2.2.1) [],[],aC (l! w.2.2.2.2.1) [],aC (l! w.2.2.2.2.1) (-1))
def am9 (w:Af) (h1:l! w.1<=xY) (A:l! w.2.1<=xY) (L:l! w.2.2.2.1<=xY) (D:l! w.2.2.2.2.1<=xY):rf w=Z (h0 w):=by
 unfold xY at h1 A L D;have c:∀n b:Nat,n<=1000000000->b<=24->(dg 0 (aQ n)&&dg (aQ n) (aQ n)&&be (aN (aQ n)) b)=J:=λn b hn hb=>by
  have:n*b<=n*24:=Nat.mul_le_mul_left n hb;rw[sP (by simp),sP (by omega),Av (by simp;omega) (by simp;omega)];rfl
 unfold rf Ds bf bw bH cE dJ gf vu ck bU bR aZ c7 aH cV;rw[cS (c _ 24 D (by omega)),cS (c _ 24 D (by omega)),cS (c _ 24 A (by omega)),cS (c _ 24 A (by omega)),cS (c _ 24 h1 (by omega)),cS (c _ 24 L (by omega)),cS (c _ 24 D (by omega)),cS (c _ 8 D (by omega))];simp only[ay,bh,cU];have:=Cp (σ:=Int×i?) (R:=HTp) (l! w.2.2.2.2.1) (by omega) (λi=>((i:Int),aC (l! w.2.2.2.2.1) [],aC (l! w.2.2.2.2.1) [],aC (l! w.2.1) [],aC (l! w.2.1) [],aC (l! w.1) [],aC (l! w.2.2.2.1) [],aC (l! w.2.2.2.2.1) [],(eA (l! w.2.2.2.2.1)).map λk=>if k<i then -1 else 0)) (f:=(λz=>(aI (gC z.1 (l! w.2.2.2.2.1:Int)) (chk (dO z.1 (aj z.2.2.2.2.2.2.2.2)) λ_=>(chk (dO z.1 (aj z.2.2.2.2.2.2.2.2)) λ_=>(Z (oU ((bl .i64 (z.1+1)),z.2.1,z.2.2.1,z.2.2.2.1,z.2.2.2.2.1,z.2.2.2.2.2.1,z.2.2.2.2.2.2.1,z.2.2.2.2.2.2.2.1,(ch z.2.2.2.2.2.2.2.2 z.1 (-1))))))) (Z (b7 (z.2.1,z.2.2.1,z.2.2.2.1,z.2.2.2.2.1,z.2.2.2.2.2.1,z.2.2.2.2.2.2.1,([]:η),z.2.2.2.2.2.2.2.1,z.2.2.2.2.2.2.2.2)))))) (r:=h0 w) ?_ ?_
 .refine Eq.trans ?_ this;congr 1;simp only[FC,fX,dF,aR,EO];apply c5<;>simp
 .intro i hi;simp only[];rw[zE (by omega),eu,cS (dz (by simpa using hi)),cS (dz (by simpa using hi)),sW hi (by omega),em];congr 3;simp only[aR,EO];apply c5
  .simp
  .intro k h1 A;simp only[bM,vx]at A;simp only[FA,xt,tO];by_cases e:i=k
   .subst e;simp
   .by_cases h:k<i
    .rw[av e,aD h,aD (by omega)]
    .rw[av e,av h,av (by omega)]
 .simp only[];rw[Ct (by omega),fm];unfold h0;congr 3;simp only[aR,EO];apply c5
  .simp
  .intro k h1 A;simp only[cU]at A;simp only[xt,tO,List.getElem_replicate];rw[aD A]
def uu (x y:Int):j6 x y=max x y:=by
 unfold j6;by_cases h:x<y
 .rw[zE h,aD rfl];omega
 .rw[Ct (by omega)];simp;omega
variable {A:η}
def Ru {b:η} (z:l! A=l! b) (h:∀i,A.getD i 0=b.getD i 0):A=b:=by
 apply c5 z;intro i h1 a;have:=h i;simpa[aw,aG h1,aG a] using this
def En (n:Int) (c:η):Prop:=l! c<=4/\∀i,0<=c.getD i 0/\c.getD i 0<=n
def En.nil (h:0<=a):En a []:=⟨by simp,λi=>by simp;exact h⟩
def En.mono {m:Int} {c:η} (h:En a c) (hm:a<=m):En m c:=⟨h.1,λi=>⟨(h.2 i).1,xv (h.2 i).2 hm⟩⟩
def En.jl {n:η} (b:En a n) (z:En a A):En a (jl n A):=⟨by rw[rk];have:=b.1;have:=z.1;omega,λi=>by
 rw[r7];let⟨h1,h2⟩:=b.2 i;let⟨L,D⟩:=z.2 i;unfold j6;split<;>exact⟨by assumption,by assumption⟩⟩
def En.tk {c:η} {t:Nat} (h:En a c) (ht:t<4):En (a+1) (tk c t):=⟨by rw[Dg];have:=h.1;omega,λi=>by
 rw[uK];let⟨h1,D⟩:=h.2 i;let⟨A,z⟩:=h.2 t;split<;>omega⟩
def atm {c:η} (h:En a c):jl [] c=c:=Ru (by simp[rk]) λi=>by
 rw[r7,uu];have:=(h.2 i).1;simp only[List.getD_nil];omega
def EI (n:Int) (l:Y η):Prop:=∀i,En n (l.getD i [])
def EI.mono {m:Int} {l:Y η} (h:EI a l) (hm:a<=m):EI m l:=λi=>(h i).mono hm
def EI.set {l:Y η} (h:EI a l) {c:η} (z:En a c) (j:Nat):EI a (l.set j c):=λi=>by
 rw[aw,ep];by_cases e:j=i
 .subst e;rw[aD rfl];split
  .exact z
  .have:=h j;simp only[aw]at this;rename_i A;rw[c_ (by omega)]at this;exact this
 .rw[av e,<-aw];exact h i
def EI.repl (h:0<=a) (k:Nat):EI a (aC k []):=λi=>by
 rw[aw,dl];split<;>exact En.nil h
structure HS where
 T:List η
 S:List η
 L:List η
 R:List η
 C:List η
 F:List η
 X:η
 N:List η
 W:η
def HS.t (h:HS):HTp:=(h.T,h.S,h.L,h.R,h.C,h.F,h.X,h.N,h.W)
structure EV where
 th:Nat
 k:Nat
 ob:Nat
 va:Int
abbrev WTc:=Y (ζ×Int)
def Pz (z:WTc) (o:Nat):Nat:=((z.getD o ([],0)).2).toNat
def PL (z:Y (ζ×o?)) (o:Nat):Bool:=(z.getD o ([],0,0,af,0)).2.2.2.1
def qG (w:Af) (h:HS) (e:EV):Y η:=
 if e.k=1 then [h.S.getD e.th []]
 else if e.k=21 then [h.T.getD e.ob []]
 else if e.k=6\/e.k=10 then [h.L.getD e.ob [],h.R.getD e.ob []]
 else if e.k=8 then [h.L.getD e.ob []]
 else if e.k=17 then [h.L.getD (Pz w.2.2.1 e.ob) [],h.R.getD (Pz w.2.2.1 e.ob) [],h.N.getD e.th []]
 else if e.k=3 then [h.C.getD e.ob []]
 else if e.k=23 then [h.F.getD e.ob []]
 else if e.k=12 then [h.X]
 else []
def OU (w:Af) (h:HS) (e:EV):η:=tk ((qG w h e).foldl jl (h.T.getD e.th [])) e.th
def jat (l:Y η) (i:Nat) (c:η):Y η:=l.set i (jl (l.getD i []) c)
def FM (p:Nat->Bool) (c:η) (h:HS):HS:={h with N:=h.N.mapIdx λu x=>if p u then c else x,W:=h.W.mapIdx λu x=>if p u then -1 else x}
def jE (w:Af) (h:HS) (e:EV) (c:η):HS:=
 let h:={h with T:=h.T.set e.th c}
 if e.k=20 then {h with S:=h.S.set e.ob c}
 else if e.k=7\/e.k=11 then {h with L:=jat h.L e.ob c}
 else if e.k=9 then {h with R:=jat h.R e.ob c}
 else if e.k=16 then {h with L:=jat h.L (Pz w.2.2.1 e.ob) c,W:=h.W.set e.th e.ob}
 else if e.k=4 then (if PL w.1 e.ob then {h with C:=jat h.C e.ob c} else h)
 else if e.k=22 then {h with F:=jat h.F e.ob c}
 else if e.k=13 then {h with X:=jl h.X c}
 else if e.k=18 then (if 0<=e.va/\e.va<l! h.N then {h with N:=h.N.set e.va.toNat c,W:=h.W.set e.va.toNat (-1)} else h)
 else if e.k=19 then FM (λu=>decide (h.W.getD u 0=(e.ob:Int))) c h
 else h
def U3 (w:Af) (h:HS) (e:EV):HS×η:=(jE w h e (OU w h e),OU w h e)
structure EOK (w:Af) (h:HS) (e:EV):Prop where
 th4:e.th<4
 th:e.th<l! h.T
 k1:1<=e.k
 k2:e.k<=23
 sp:e.k=20\/e.k=21->e.ob<l! h.T
 lk:6<=e.k/\e.k<=11->e.ob<l! h.L
 cd:e.k=16\/e.k=17->e.ob<l! w.2.2.1/\0<=(w.2.2.1.getD e.ob ([],0)).2/\Pz w.2.2.1 e.ob<l! h.L
 ce:e.k=3\/e.k=4->e.ob<l! h.C/\e.ob<l! w.1
 fu:e.k=22\/e.k=23->e.ob<l! h.F
structure YA (n:Int) (h:HS):Prop where
 n0:0<=n
 n1:n<=1000000
 T:EI n h.T
 S:EI n h.S
 L:EI n h.L
 R:EI n h.R
 C:EI n h.C
 F:EI n h.F
 X:En n h.X
 N:EI n h.N
 lT:l! h.T<=1000
 lS:l! h.S=l! h.T
 lN:l! h.N=l! h.T
 lW:l! h.W=l! h.T
 lL:l! h.L<=1000
 lR:l! h.R=l! h.L
 lC:l! h.C<=1000
 lF:l! h.F<=1000
def En.lb {c:η} (h:En a c):l! c<=xY:=by have:=h.1;unfold xY;omega
def EI.GL {l:Y η} (h:EI a l) (A:l! l<=1000):GL l:=⟨by unfold xY;omega,λc z=>by
 let⟨i,hi⟩:=fH z;have:=(h i).lb
 rwa [aw,hi]at this⟩
def YA.GH {h:HS} (o:YA a h):GH h.t:=
 ⟨o.T.GL o.lT,o.S.GL (by rw[o.lS];exact o.lT),o.L.GL o.lL,o.R.GL (by rw[o.lR];exact o.lL),o.C.GL o.lC,o.F.GL o.lF,o.X.lb,o.N.GL (by rw[o.lN];exact o.lT),by show l! h.W<=xY;have:=o.lT;rw[o.lW];unfold xY;omega⟩
def En.join {n:η} (b:En a n) (z:En a A):jJ (n,A)=Z (AI.jl n A):=L9 n A b.lb z.lb
def SA {w:Af} {h:HS} (o:YA a h) (e:EV):∀c∈qG w h e,En a c:=by
 intro c z;unfold qG at z;repeat' (split at z)
 all_goals simp only[aV,b8,fo]at z
 .subst z;exact o.S _
 .subst z;exact o.T _
 .rcases z with rfl|rfl
  .exact o.L _
  .exact o.R _
 .subst z;exact o.L _
 .rcases z with rfl|rfl|rfl
  .exact o.L _
  .exact o.R _
  .exact o.N _
 .subst z;exact o.C _
 .subst z;exact o.F _
 .subst z;exact o.X
def Dv :∀(l:Y η) (c:η),En a c->(∀x∈l,En a x)->En a (l.foldl jl c)
 |[],_,z,_=>z
 |x::r,c,z,h=>Dv r _ (z.jl (h x (cX ..))) λy A=>h y (bS _ A)
def aai {w:Af} {h:HS} (o:YA a h) {e:EV} (he:e.th<4):En (a+1) (OU w h e):=(Dv _ _ (o.T _) (SA o e)).tk he
def EI.jat {l:Y η} {c:η} (h:EI a l) (z:En a c) (i:Nat):EI a (jat l i c):=h.set ((h i).jl z) i
def EI.mapIdx {l:Y η} {c:η} (h:EI a l) (A:En a c) (p:Nat->Bool):EI a (l.mapIdx λu x=>if p u then c else x):=λi=>by
 rw[aw,HZ];have:=h i;rw[aw]at this;cases z:l[i]? with
 |none=>rw[z]at this;exact this
 |some x=>
  rw[z]at this;simp only[bi,sH];split
  .exact A
  .exact this
def apb {w:Af} {h:HS} (o:YA a h) (A:a+1<=1000000) {e:EV} {c:η} (z:En (a+1) c):YA (a+1) (jE w h e c):=by
 have m:a<=a+1:=by omega
 have oT:EI (a+1) (h.T.set e.th c):=(o.T.mono m).set z _;have b:YA (a+1) {h with T:=h.T.set e.th c}:=⟨by have:=o.n0;omega,A,oT,o.S.mono m,o.L.mono m,o.R.mono m,o.C.mono m,o.F.mono m,o.X.mono m,o.N.mono m,by simpa using o.lT,by simpa using o.lS,by simpa using o.lN,by simpa using o.lW,o.lL,o.lR,o.lC,o.lF⟩
 unfold jE;simp only[];repeat' split
 .exact {b with S:=(o.S.mono m).set z _,lS:=by simpa using b.lS}
 .exact {b with L:=(o.L.mono m).jat z _,lL:=by simpa[jat] using b.lL,lR:=by simpa[jat] using b.lR}
 .exact {b with R:=(o.R.mono m).jat z _,lR:=by simpa[jat] using b.lR}
 .exact {b with L:=(o.L.mono m).jat z _,lL:=by simpa[jat] using b.lL,lR:=by simpa[jat] using b.lR,lW:=by simpa using b.lW}
 .exact {b with C:=(o.C.mono m).jat z _,lC:=by simpa[jat] using b.lC}
 .exact b
 .exact {b with F:=(o.F.mono m).jat z _,lF:=by simpa[jat] using b.lF}
 .exact {b with X:=(o.X.mono m).jl z}
 .exact {b with N:=(o.N.mono m).set z _,lN:=by simpa using b.lN,lW:=by simpa using b.lW}
 .exact b
 .exact {b with N:=(o.N.mono m).mapIdx z _,lN:=by simpa[FM] using b.lN,lW:=by simpa[FM] using b.lW}
 .exact b
def ai6 {w:Af} {h:HS} (o:YA a h) (z:a+1<=1000000) {e:EV} (he:e.th<4):YA (a+1) (U3 w h e).1:=apb o z (aai o he)
def als (h:i=j):ax i j=J:=by subst h;exact fU i
def WZ (l:Y η) (i:Nat) (h:i<l! l):vO ((i:Int),l)=Z (l.getD i [],l):=by
 unfold vO ck bU aZ aH;simp only[];rw[Ct (by omega)];simp only[fm,oz];rw[ak3 (by simp;omega)];simp only[fm];rw[cS (dz h),cS (dz h),tH]
def vQ (l:Y η) (i:Nat) (c:η) (h:i<l! l) (z:EI a l) (A:En a c):mX ((i:Int),l,c)=Z (jat l i c,c):=by
 unfold mX ck kY aZ aH;simp only[];rw[sP (by omega)];simp only[eu,oz];rw[zE (by simp;omega)];simp only[eu];rw[cS (dz h),cS (dz h),tH,Yo _ _ (z i).lb A.lb,dW,cS (dz h),cS (dz h),em];rfl
def tD (l:Y η) (i:Nat) (c:η):l! (jat l i c)=l! l:=by simp[jat]
def abh (h:HS) (u:Nat) (c:η) (h1:u<l! h.N) (z:u<l! h.W) (A:En a c):za ((u:Int),h.X,h.T,h.S,h.L,h.R,h.C,h.F,h.N,h.W,c)=Z (h.X,h.T,h.S,h.L,h.R,h.C,h.F,h.N.set u c,h.W.set u (-1),c):=by
 unfold za bf bw bH cE dJ gf iK ji HX ck;simp only[];rw[Si c A.lb,dW,cS (dz h1),cS (dz h1),cS (dz z),cS (dz z),em,em]
def ad1 (z:WTc) (i:Nat):geti (.st (.pr .str (.int .i64))) z (i:Int)=z.getD i ([],0):=zH (T:=.st (.pr .str (.int .i64))) z i
def aoy (z:Y (ζ×o?)) (i:Nat):geti (.st (.pr .str (.pr (.int .i64) (.pr (.int .i64) (.pr .bool (.int .i64)))))) z (i:Int)=z.getD i ([],0,0,af,0):=zH (T:=.st (.pr .str (.pr (.int .i64) (.pr (.int .i64) (.pr .bool (.int .i64)))))) z i
abbrev ETp:Type:=R!
structure EvT (e:EV) (x:ETp):Prop where
 th:x.1=(e.th:Int)
 k:x.2.1=(e.k:Int)
 ob:e.k∈[3,4,6,7,8,9,10,11,16,17,18,19,20,21,22,23]->x.2.2.1=(e.ob:Int)
 va:x.2.2.2.1=e.va
def acr (A:a=(i:Int)) (h1:1<=i) (D:i<=23):(i=1/\a=1)\/(i=2/\a=2)\/(i=3/\a=3)\/(i=4/\a=4)\/(i=5/\a=5)\/(i=6/\a=6)\/(i=7/\a=7)\/(i=8/\a=8)\/(i=9/\a=9)\/(i=10/\a=10)\/(i=11/\a=11)\/(i=12/\a=12)\/(i=13/\a=13)\/(i=14/\a=14)\/(i=15/\a=15)\/(i=16/\a=16)\/(i=17/\a=17)\/(i=18/\a=18)\/(i=19/\a=19)\/(i=20/\a=20)\/(i=21/\a=21)\/(i=22/\a=22)\/(i=23/\a=23):=by
 have h:i=1\/i=2\/i=3\/i=4\/i=5\/i=6\/i=7\/i=8\/i=9\/i=10\/i=11\/i=12\/i=13\/i=14\/i=15\/i=16\/i=17\/i=18\/i=19\/i=20\/i=21\/i=22\/i=23:=by omega
 subst A;rcases h with rfl|rfl|rfl|rfl|rfl|rfl|rfl|rfl|rfl|rfl|rfl|rfl|rfl|rfl|rfl|rfl|rfl|rfl|rfl|rfl|rfl|rfl|rfl<;>simp
def aaz (a:Nat):(ax a a&&J)=J:=by rw[als rfl];rfl
def am8 {w:Af} {h:HS} (o:YA a h) {e:EV} (ok:EOK w h e) {x:ETp} (hx:EvT e x):wD (x,h.X,w,h.T,h.S,h.L,h.R,h.C,h.F,h.N,h.W)=Z (qG w h e,x,h.X,w,h.T,h.S,h.L,h.R,h.C,h.F,h.N,h.W):=by
 let⟨x1,x2,D,x4,x5,x6,x7⟩:=x;let⟨w1,w2,w3,w4,w5,w6⟩:=w;let⟨th,k,ob,va⟩:=e;let⟨q1,q2,q3,q4⟩:=hx;simp only at q1 q2 q3 q4;subst q1 q4;have t1:=ok.th;simp only at t1;have fS:dO (th:Int) (l! h.S)=J:=dz (by rw[o.lS];exact t1);have fN:dO (th:Int) (l! h.N)=J:=dz (by rw[o.lN];exact t1);have fT:k=21->dO (ob:Int) (l! h.T)=J/\D=(ob:Int):=λe=>by
  subst e;have:=ok.sp (.inr rfl);exact⟨dz this,q3 (by decide)⟩
 have fL:(k=6\/k=10\/k=8)->dO (ob:Int) (l! h.L)=J/\dO (ob:Int) (l! h.R)=J/\D=(ob:Int):=λe=>by
  have h1:ob<l! h.L:=ok.lk (by rcases e with rfl|rfl|rfl<;>(simp only[];omega));exact⟨dz h1,dz (by rw[o.lR];exact h1),q3 (by rcases e with rfl|rfl|rfl<;>decide)⟩
 have fC:k=3->dO (ob:Int) (l! h.C)=J/\D=(ob:Int):=λe=>by
  subst e;have:=(ok.ce (.inl rfl)).1;exact⟨dz this,q3 (by decide)⟩
 have fF:k=23->dO (ob:Int) (l! h.F)=J/\D=(ob:Int):=λe=>by
  subst e;have:=ok.fu (.inr rfl);exact⟨dz this,q3 (by decide)⟩
 unfold wD qG hZ bf bw bH cE dJ gf iK ji HX Prod.v dQ hY ck bn mK bR aH;rcases acr q2 ok.k1 ok.k2 with ⟨e,e'⟩|⟨e,e'⟩|⟨e,e'⟩|⟨e,e'⟩|⟨e,e'⟩|⟨e,e'⟩|⟨e,e'⟩|⟨e,e'⟩|⟨e,e'⟩|⟨e,e'⟩|⟨e,e'⟩|⟨e,e'⟩|⟨e,e'⟩|⟨e,e'⟩|⟨e,e'⟩|⟨e,e'⟩|⟨e,e'⟩|⟨e,e'⟩|⟨e,e'⟩|⟨e,e'⟩|⟨e,e'⟩|⟨e,e'⟩|⟨e,e'⟩<;>clear q2<;>subst e<;>subst e'
 case inr.inr.inr.inr.inr.inr.inr.inr.inr.inr.inr.inr.inr.inr.inr.inr.inl=>
  have q3:=q3 (by decide);subst q3;let⟨d1,d2,d3⟩:=ok.cd (.inr rfl);simp only at d1 d2 d3;have d4:Pz w3 ob<l! h.R:=by rw[o.lR];exact d3
  have e1:(w3.getD ob ([],0)).2=((Pz w3 ob:Nat):Int):=by unfold Pz;omega
  simp only[bI,dL,eT,eu,fm,oz,cS,dz d1,ad1,e1,WZ _ _ d3,WZ _ _ d4,dW,aaz,fN,tH];rfl
 case inr.inr.inl=>
  obtain⟨z,rfl⟩:=fC rfl;simp only[bI,dL,eT,eu,fm,oz,cS,z,tH];rfl
 case inr.inr.inr.inr.inr.inr.inr.inr.inr.inr.inr.inr.inr.inr.inr.inr.inr.inr.inr.inr.inr.inr=>
  obtain⟨z,rfl⟩:=fF rfl;simp only[bI,dL,eT,eu,fm,oz,cS,z,tH];rfl
 case inr.inr.inr.inr.inr.inr.inr.inr.inr.inr.inr.inr.inr.inr.inr.inr.inr.inr.inr.inr.inl=>
  obtain⟨z,rfl⟩:=fT rfl;simp only[bI,dL,eT,eu,fm,oz,cS,z,tH];rfl
 case inl=>
  simp only[bI,dL,eT,eu,fm,oz,cS,fS,tH];rfl
 case inr.inr.inr.inr.inr.inl=>
  obtain⟨z,A,rfl⟩:=fL (by decide);simp only[bI,dL,eT,eu,fm,oz,cS,z,A,tH];rfl
 case inr.inr.inr.inr.inr.inr.inr.inr.inr.inl=>
  obtain⟨z,A,rfl⟩:=fL (by decide);simp only[bI,dL,eT,eu,fm,oz,cS,z,A,tH];rfl
 case inr.inr.inr.inr.inr.inr.inr.inl=>
  obtain⟨z,A,rfl⟩:=fL (by decide);simp only[bI,dL,eT,eu,fm,oz,cS,z,A,tH];rfl
 all_goals
  simp only[bI,dL,eT,eu,fm,oz];rfl
def Rv {σ:Type} {f:σ->M (σ⊕R)} {x0:σ} {r:R} (n:Nat) (A:n<18446744073709551616) (st:Nat->σ) (z:x0=st 0) (h0:∀i,i<n->f (st i)=Z (.inl (st (i+1)))) (h1:f (st n)=Z (.inr r)):f_ f x0=Z r:=by
 subst z;exact Cp n A st h0 h1
def Pw (p:Nat->Bool) (c:R) (u:Nat) (l:Y R):Y R:=l.mapIdx λk x=>if decide (k<u)&&p k then c else x
def ahq (p:Nat->Bool) (c:R) (l:Y R):Pw p c 0 l=l:=by
 unfold Pw;apply c5
 .simp
 .intro i h1 z;simp
def Md (p:Nat->Bool) (c:R) (u:Nat) (l:Y R):l! (Pw p c u l)=l! l:=by simp[Pw]
def UZ (p:Nat->Bool) (c:R) (u:Nat) (l:Y R) (h:l! l<=u):Pw p c u l=l.mapIdx λk x=>if p k then c else x:=by
 unfold Pw;apply c5
 .simp
 .intro i h1 z;simp only[List.length_mapIdx]at h1;simp only[List.getElem_mapIdx];rw[show decide (i<u)=J from aS (by omega)];rfl
def abf (p:Nat->Bool) (c:R) (u:Nat) (l:Y R) (hp:p u=J):(Pw p c u l).set u c=Pw p c (u+1) l:=by
 unfold Pw;apply c5
 .simp
 .intro i h1 z;simp only[FA,List.getElem_mapIdx];by_cases e:u=i
  .subst e;simp[hp]
  .rw[av e];by_cases h:i<u
   .rw[aS h,aS (show i<u+1 by omega)]
   .rw[cK h,cK (show ¬i<u+1 by omega)]
def UY (p:Nat->Bool) (c:R) (u:Nat) (l:Y R) (hp:p u=af):Pw p c u l=Pw p c (u+1) l:=by
 unfold Pw;apply c5
 .simp
 .intro i h1 z;simp only[List.getElem_mapIdx];by_cases e:u=i
  .subst e;simp[hp]
  .by_cases h:i<u
   .rw[aS h,aS (show i<u+1 by omega)]
   .rw[cK h,cK (show ¬i<u+1 by omega)]
def at1 (p:Nat->Bool) (c:Int) (u:Nat) (l:η):(Pw p c u l).getD u 0=l.getD u 0:=by
 unfold Pw;rw[aw,HZ,aw];cases l[u]? with
 |none=>rfl
 |some x=>simp
def HS.e (h:HS) (c:η):η×Y η×Y η×Y η×Y η×Y η×Y η×Y η×x!:=(h.X,h.T,h.S,h.L,h.R,h.C,h.F,h.N,h.W,c)
def aky {w:Af} {h:HS} (o:YA a h) (hn:a+1<=1000000) {e:EV} (ok:EOK w h e) {x:ETp} (hx:EvT e x) {c:η} (D:En (a+1) c):tw ((w,x),h.e c)=Z ((jE w h e c).e c):=by
 let⟨x1,x2,x3,z,x5,x6,x7⟩:=x;let⟨w1,w2,w3,w4,w5,w6⟩:=w;let⟨th,k,ob,va⟩:=e;let⟨q1,q2,q3,q4⟩:=hx;simp only at q1 q2 q3 q4;subst q1 q4;have t1:=ok.th;simp only at t1;have m:a<=a+1:=by omega
 have fT:dO (th:Int) (l! h.T)=J:=dz t1;have fW:dO (th:Int) (l! h.W)=J:=dz (by rw[o.lW];exact t1);have A:=Si c D.lb;unfold tw Dr HS.e hZ iR kl wW Pu Prod.u Prod.C Prod.D bf bw bH cE dJ gf iK ji HX Prod.E Prod.F Prod.G dQ xm Prod.w ck bn bU kY mK bR aZ c7 aH cV;rcases acr q2 ok.k1 ok.k2 with ⟨e,e'⟩|⟨e,e'⟩|⟨e,e'⟩|⟨e,e'⟩|⟨e,e'⟩|⟨e,e'⟩|⟨e,e'⟩|⟨e,e'⟩|⟨e,e'⟩|⟨e,e'⟩|⟨e,e'⟩|⟨e,e'⟩|⟨e,e'⟩|⟨e,e'⟩|⟨e,e'⟩|⟨e,e'⟩|⟨e,e'⟩|⟨e,e'⟩|⟨e,e'⟩|⟨e,e'⟩|⟨e,e'⟩|⟨e,e'⟩|⟨e,e'⟩<;>clear q2<;>subst e<;>subst e'
 case inr.inr.inr.inr.inr.inr.inr.inr.inr.inr.inr.inr.inr.inr.inr.inr.inr.inr.inr.inl=>
  obtain rfl:=q3 (by decide);have f:dO (ob:Int) (l! h.S)=J:=dz (by rw[o.lS];exact ok.sp (.inl rfl));simp only[bI,dL,eT,eu,fm,oz,dW,cS,A,fT,f,em];rfl
 case inr.inr.inr.inr.inr.inr.inl=>
  obtain rfl:=q3 (by decide);have f:ob<l! h.L:=ok.lk (by simp only[];omega);simp only[bI,dL,eT,eu,fm,oz,dW,cS,A,fT,em,vQ _ _ _ f (o.L.mono m) D,tD,aaz];rfl
 case inr.inr.inr.inr.inr.inr.inr.inr.inr.inr.inl=>
  obtain rfl:=q3 (by decide);have f:ob<l! h.L:=ok.lk (by simp only[];omega);simp only[bI,dL,eT,eu,fm,oz,dW,cS,A,fT,em,vQ _ _ _ f (o.L.mono m) D,tD,aaz];rfl
 case inr.inr.inr.inr.inr.inr.inr.inr.inl=>
  obtain rfl:=q3 (by decide);have f:ob<l! h.R:=by rw[o.lR];exact ok.lk (by simp only[];omega)
  simp only[bI,dL,eT,eu,fm,oz,dW,cS,A,fT,em,vQ _ _ _ f (o.R.mono m) D,tD,aaz];rfl
 case inr.inr.inr.inr.inr.inr.inr.inr.inr.inr.inr.inr.inr.inr.inr.inl=>
  obtain rfl:=q3 (by decide);let⟨d1,d2,d3⟩:=ok.cd (.inl rfl);simp only at d1 d2 d3;have e1:(w3.getD ob ([],0)).2=((Pz w3 ob:Nat):Int):=by unfold Pz;omega
  simp only[bI,dL,eT,eu,fm,oz,dW,cS,A,fT,fW,em,dz d1,ad1,e1,vQ _ _ _ d3 (o.L.mono m) D,tD,aaz];rfl
 case inr.inr.inr.inl=>
  obtain rfl:=q3 (by decide);let⟨d1,d2⟩:=ok.ce (.inr rfl);simp only at d1 d2;simp only[bI,dL,eT,eu,fm,oz,dW,cS,A,fT,em,dz d2,aoy];cases hv:(w1.getD ob ([],0,0,af,0)).2.2.2.1 with
  |true=>
   simp only[eu,dW,cS,vQ _ _ _ d1 (o.C.mono m) D,tD,aaz,oz];have hE:jE (w1,w2,w3,w4,w5,w6) h ⟨th,4,ob,z⟩ c=if PL w1 ob then {h with T:=h.T.set th c,C:=jat h.C ob c} else {h with T:=h.T.set th c}:=rfl
   rw[hE,show PL w1 ob=J from hv];rfl
  |false=>
   simp only[fm,oz];have hE:jE (w1,w2,w3,w4,w5,w6) h ⟨th,4,ob,z⟩ c=if PL w1 ob then {h with T:=h.T.set th c,C:=jat h.C ob c} else {h with T:=h.T.set th c}:=rfl
   rw[hE,show PL w1 ob=af from hv];rfl
 case inr.inr.inr.inr.inr.inr.inr.inr.inr.inr.inr.inr.inr.inr.inr.inr.inr.inr.inr.inr.inr.inl=>
  obtain rfl:=q3 (by decide);have f:ob<l! h.F:=ok.fu (.inl rfl);simp only[bI,dL,eT,eu,fm,oz,dW,cS,A,fT,em,vQ _ _ _ f (o.F.mono m) D,tD,aaz];rfl
 case inr.inr.inr.inr.inr.inr.inr.inr.inr.inr.inr.inr.inl=>
  simp only[bI,dL,eT,eu,fm,oz,dW,cS,A,fT,em,Yo _ _ (o.X.mono m).lb D.lb];rfl
 case inr.inr.inr.inr.inr.inr.inr.inr.inr.inr.inr.inr.inr.inr.inr.inr.inr.inl=>
  simp only[bI,dL,eT,eu,fm,oz,dW,cS,A,fT,em];have hE:jE (w1,w2,w3,w4,w5,w6) h ⟨th,18,ob,z⟩ c=if 0<=z/\z<l! h.N then {h with T:=h.T.set th c,N:=h.N.set z.toNat c,W:=h.W.set z.toNat (-1)} else {h with T:=h.T.set th c}:=rfl
  rw[hE];by_cases h0:0<=z
  .by_cases h1:z<l! h.N
   .rw[sP h0];simp only[eu,oz];rw[zE (show z<aQ (l! h.N) from h1)];obtain⟨v,rfl⟩:∃v:Nat,z=(v:Int):=⟨z.toNat,by omega⟩
    have v1:v<l! h.N:=by omega
    have v2:v<l! h.W:=by rw[o.lW,<-o.lN];exact v1
    have:=abh {h with T:=h.T.set th c} v c v1 v2 D;simp only[]at this;simp only[eu,this,dW,dv,cS,als rfl,fx,oz];rw[aD ⟨h0,h1⟩];rfl
   .rw[sP h0];simp only[eu,oz];rw[Ct (show aQ (l! h.N)<=z from Bs.1 h1)];simp only[fm,oz];rw[av (λq=>h1 q.2)]
  .rw[ak3 (by omega)];simp only[fm,oz];rw[av (λq=>h0 q.1)]
 case inr.inr.inr.inr.inr.inr.inr.inr.inr.inr.inr.inr.inr.inr.inr.inr.inr.inr.inl=>
  obtain rfl:=q3 (by decide);simp only[bI,dL,eT,eu,fm,oz,dW,cS,A,fT,em];rw[Rv (r:=b7 (h.X,h.T.set th c,h.S,h.L,h.R,h.C,h.F,Pw (λu=>decide (h.W.getD u 0=(ob:Int))) c (l! h.W) h.N,Pw (λu=>decide (h.W.getD u 0=(ob:Int))) (-1) (l! h.W) h.W,c)) (l! h.W) (by have:=o.lW;have:=o.lT;omega)
   (λi=>((i:Int),h.X,h.T.set th c,h.S,h.L,h.R,h.C,h.F,Pw (λu=>decide (h.W.getD u 0=(ob:Int))) c i h.N,Pw (λu=>decide (h.W.getD u 0=(ob:Int))) (-1) i h.W,c,(th:Int),(19:Int),(ob:Int),z,x5,x6,x7)) ?_ ?_ ?_]
  .simp only[oz];rw[UZ _ _ _ h.W (bK _),UZ _ _ _ h.N (by rw[o.lN,o.lW];exact bK _)];rfl
  .simp only[ahq];rfl
  .intro i hi;simp only[];have hN:i<l! (Pw (λu=>decide (h.W.getD u 0=(ob:Int))) c i h.N):=by rw[Md,o.lN,<-o.lW];exact hi
   have hW:i<l! (Pw (λu=>decide (h.W.getD u 0=(ob:Int))) (-1) i h.W):=by rw[Md];exact hi
   rw[zE (by simp;omega),eu,cS (dz hW),cS (dz hW),atw,at1];have ws:=sW hi (show (l! h.W)<=1099511627776 by have:=o.lW;have:=o.lT;omega);by_cases hp:h.W.getD i 0=(ob:Int)
   .rw[aS hp,eu];have:=abh {h with T:=h.T.set th c,N:=Pw (λu=>decide (h.W.getD u 0=(ob:Int))) c i h.N,W:=Pw (λu=>decide (h.W.getD u 0=(ob:Int))) (-1) i h.W} i c hN hW D;simp only[]at this;rw[this,dW,cS (by simp only[dv,als rfl,fx]),oz,ws,abf _ _ _ _ (aS hp),abf _ _ _ _ (aS hp)]
   .rw[cK hp,fm,oz,ws,<-UY _ _ _ _ (cK hp),<-UY _ _ _ _ (cK hp)]
  .simp only[];rw[Ct (by simp),fm]
 all_goals
  simp only[bI,dL,eT,eu,fm,oz,dW,cS,A,fT,em];rfl
def ZN (l:Y η) (c:η) (i:Nat) (hi:i<l! l):(l.take (i+1)).foldl jl c=jl ((l.take i).foldl jl c) (l.getD i []):=by
 rw[List.take_add_one,dT,aG hi,aw,aG hi];rfl
def U6 (w:Af) (h:HS) (e:EV):l! (qG w h e)<=3:=by
 unfold qG;repeat' split
 all_goals simp
def au8 {w:Af} {h:HS} (o:YA a h) (e:EV) (i:Nat):0<=((qG w h e).foldl jl (h.T.getD e.th [])).getD i 0/\((qG w h e).foldl jl (h.T.getD e.th [])).getD i 0<9223372036854775807:=by
 have:=(Dv _ _ (o.T e.th) (SA (w:=w) o e)).2 i;have:=o.n1;omega
def JW (w:Af) (h:HS) (e:EV) (c:η):(jE w h e c).T.length=l! h.T/\(jE w h e c).S.length=l! h.S/\(jE w h e c).L.length=l! h.L/\(jE w h e c).R.length=l! h.R/\(jE w h e c).C.length=l! h.C/\(jE w h e c).F.length=l! h.F/\(jE w h e c).N.length=l! h.N/\(jE w h e c).W.length=l! h.W:=by
 unfold jE;simp only[];repeat' split
 all_goals simp[jat,FM]
def aqd {w:Af} {h:HS} (o:YA a h) (hn:a+1<=1000000) {e:EV} (ok:EOK w h e) {x:ETp} (hx:EvT e x):ut (w,h.t,x)=Z ((U3 w h e).1.t,(U3 w h e).2):=by
 have s2:=am8 o ok hx;have hce:En (a+1) (OU w h e):=aai o ok.th4;have en:=aky o hn ok hx hce;have cp:=agh h.t o.GH;have sl:=U6 w h e;have sE:=SA (w:=w) o e;have hlen:=JW w h e (OU w h e);let⟨x1,x2,x3,x4,x5,x6,x7⟩:=x;let⟨w1,w2,w3,D,A,z⟩:=w;have t1:=hx.th;simp only at t1;subst t1;unfold HS.t at cp;simp only[]at cp;have fT:dO (e.th:Int) (l! h.T)=J:=dz ok.th;unfold ut GV HS.t hZ iR bf bw bH cE dJ gf iK ji Prod.v Prod.z dQ hY vu Prod.w ck bU mK bR aZ c7 cV;simp only[];rw[cp,dW];simp only[];rw[cS fT,cS fT,s2,dW];simp only[];rw[cS (by simp only[als rfl,fx])];refine Rv (l! (qG (w1,w2,w3,D,A,z) h e)) (by omega) (λi=>((i:Int),(w1,w2,w3,D,A,z),((e.th:Int),x2,x3,x4,x5,x6,x7),h.X,((qG (w1,w2,w3,D,A,z) h e).take i).foldl jl (h.T.getD e.th []),h.T,h.S,h.L,h.R,h.C,h.F,h.N,h.W)) ?_ ?_ ?_
 .simp only[tH,List.take_zero,List.foldl_nil];rfl
 .intro i hi;simp only[];rw[zE (by simp;omega),eu,cS (dz hi),tH,(Dv _ _ (o.T e.th) (λy hy=>sE y (ip hy))).join (sE _ (Nt hi)),dW,sW hi (by omega),ZN _ _ _ hi]
 .simp only[];rw[Ct (by simp),fm,gz (bK _)];have hl:=au8 (w:=(w1,w2,w3,D,A,z)) o e e.th;rw[ae5 _ e.th (Dv _ _ (o.T e.th) sE).lb ok.th4 hl.1 hl.2,dW];unfold HS.e at en;unfold OU at en hlen;rw[en,dW];simp only[];rw[cS (by rw[hlen.1,hlen.2.1,hlen.2.2.1,hlen.2.2.2.1,hlen.2.2.2.2.1,hlen.2.2.2.2.2.1,hlen.2.2.2.2.2.2.1,hlen.2.2.2.2.2.2.2];simp only[als rfl,fx])];rfl
def HS.zero (w:Af):HS:=⟨aC (l! w.2.2.2.2.1) [],aC (l! w.2.2.2.2.1) [],aC (l! w.2.1) [],aC (l! w.2.1) [],aC (l! w.1) [],aC (l! w.2.2.2.1) [],[],aC (l! w.2.2.2.2.1) [],aC (l! w.2.2.2.2.1) (-1)⟩
def HS.zero_ok {w:Af} (h1:l! w.1<=1000) (L:l! w.2.1<=1000) (D:l! w.2.2.2.1<=1000) (A:l! w.2.2.2.2.1<=1000):YA 0 (HS.zero w):=by
 have z:(0:Int)<=0:=by omega
 exact⟨z,by omega,EI.repl z _,EI.repl z _,EI.repl z _,EI.repl z _,EI.repl z _,EI.repl z _,En.nil z,EI.repl z _,by simpa[HS.zero] using A,by simp[HS.zero],by simp[HS.zero],by simp[HS.zero],by simpa[HS.zero] using L,by simp[HS.zero],by simpa[HS.zero] using h1,by simpa[HS.zero] using D⟩
structure Fit (w:Af) (h:HS):Prop where
 T:l! h.T=l! w.2.2.2.2.1
 L:l! h.L=l! w.2.1
 C:l! h.C=l! w.1
 F:l! h.F=l! w.2.2.2.1
def Fit.zero (w:Af):Fit w (HS.zero w):=⟨by simp[HS.zero],by simp[HS.zero],by simp[HS.zero],by simp[HS.zero]⟩
def Fit.ent {w:Af} {h:HS} (f:Fit w h) (e:EV) (x:η):Fit w (jE w h e x):=by
 let⟨a,b,c,d,g,i,j,k⟩:=JW w h e x;exact⟨a.trans f.T,c.trans f.L,g.trans f.C,i.trans f.F⟩
def Fit.step {w:Af} {h:HS} (f:Fit w h) (e:EV):Fit w (U3 w h e).1:=f.ent e _
def evP (e:ET):EV:=⟨e.1.toNat,e.2.1.toNat,e.2.2.1.toNat,e.2.2.2.1⟩
def axt {w:WT} {e:ET} (f:PH w e):EvT (evP e) e:=by
 obtain⟨⟨k1,k2,ce,lk,cd,th,fu⟩,z,_,_⟩:=f;refine ⟨(yH z).symm,(yH (by omega)).symm,λh=>(yH ?_).symm,rfl⟩;unfold evP at h;simp only[aV,b8,fo]at h;by_cases h1:e.2.1=3\/e.2.1=4
 .exact (ce h1).1
 by_cases h2:6<=e.2.1/\e.2.1<=11
 .exact (lk h2).1
 by_cases L:16<=e.2.1/\e.2.1<=19
 .exact (cd L).1
 by_cases D:e.2.1=20\/e.2.1=21
 .exact (th D).1
 by_cases A:e.2.1=22\/e.2.1=23
 .exact (fu A).1
 omega
def akt {w:WT} {e:ET} (f:PH w e) (wb:WB w) {h:HS} (z:Fit w h):EOK w h (evP e):=by
 obtain⟨⟨k1,k2,ce,lk,cd,th,D⟩,t0,t1,cm⟩:=f;have b5:=wb.t;have f1:=z.T;have f2:=z.L;have f3:=z.C;have f4:=z.F;unfold evP;refine ⟨by dsimp only;omega,by dsimp only;omega,by dsimp only;omega,by dsimp only;omega,λq=>?_,λq=>?_,λq=>?_,λq=>?_,λq=>?_⟩<;>dsimp only at q ⊢
 .have:=th (by omega);omega
 .have:=lk (by omega);omega
 .have g:=cd (by omega);have A:e.2.2.1.toNat<l! w.2.2.1:=by omega
  have hm:=cm (w.2.2.1.getD e.2.2.1.toNat ([],0)) (by rw[aw,aG A];exact FB A);refine ⟨A,hm.1,?_⟩;unfold Pz;have:=hm.2;have:=hm.1;omega
 .have:=ce (by omega);omega
 .have:=D (by omega);omega
def FD (w:WT) (l:Y ET):HS:=l.foldl (λh e=>(U3 w h (evP e)).1) (HS.zero w)
def gH (l:Y ET) (i:Nat):EV:=evP (eN l i)
def sT (w:WT) (l:Y ET) (i:Nat):η:=OU w (FD w (l.take i)) (gH l i)
def Gz (w:WT) {l:Y ET} (h:i<l! l):FD w (l.take (i+1))=jE w (FD w (l.take i)) (gH l i) (sT w l i):=by
 rw[pl (T:=iZ) h];unfold FD;rw[dT];rfl
def M9 {w:WT} {l:Y ET} (z:TR (w,l)):∀i:Nat,i<=l! l->YA (i:Int) (FD w (l.take i))/\Fit w (FD w (l.take i))
 |0,_=>by
  have wb:=z.wb;dsimp only at wb;exact⟨HS.zero_ok (by have:=wb.c;omega) (by have:=wb.l;omega) (by have:=wb.f;omega) (by have:=wb.t;omega),Fit.zero w⟩
 |i+1,h=>by
  let⟨o,A⟩:=M9 z i (by omega);have D:=z.len;dsimp only at D;have ok:=akt (z.ev _ (uW (l:=l) (i:=i) (by omega))) z.wb A;rw[Gz w (by omega)];exact⟨ai6 (w:=w) (e:=gH l i) o (by omega) ok.th4,A.step (gH l i)⟩
def ZR {w:WT} {l:Y ET} (z:TR (w,l)) (h:i<l! l):EOK w (FD w (l.take i)) (gH l i):=akt (z.ev _ (uW h)) z.wb (M9 z i (by omega)).2
def WM {w:WT} {l:Y ET} (z:TR (w,l)) (h:i<l! l):EvT (gH l i) (eN l i):=axt (z.ev _ (uW h))
def LE (a b:η):Prop:=l! a<=l! b/\∀k,a.getD k 0<=b.getD k 0
def LE.refl (a:η):LE a a:=⟨bK _,λ_=>dC _⟩
def LE.trans {b c:η} (h:LE A b) (g:LE b c):LE A c:=⟨c9 h.1 g.1,λk=>xv (h.2 k) (g.2 k)⟩
def LE.jl {b:η} (h:LE A b):jl A b=b:=Ru (by rw[rk];have:=h.1;omega) λi=>by rw[r7,uu];have:=h.2 i;omega
def azd (a b:η):LE a (jl a b):=⟨by rw[rk];omega,λk=>by rw[r7,uu];omega⟩
def azc (a b:η):LE b (jl a b):=⟨by rw[rk];omega,λk=>by rw[r7,uu];omega⟩
def asz (a:η) (t:Nat):LE a (tk a t):=⟨by rw[Dg];omega,λk=>by rw[uK];split<;>(try subst k)<;>omega⟩
def HQ:∀(l:Y η) (c:η),LE c (l.foldl jl c)
 |[],c=>LE.refl c
 |x::r,c=>(azd c x).trans (HQ r _)
def amo:∀(l:Y η) (c x:η),x∈l->LE x (l.foldl jl c)
 |y::r,c,x,h=>by
  rcases aV.1 h with rfl|h
  .exact (azc c x).trans (HQ r _)
  .exact amo r _ x h
def as4 (w:Af) (h:HS) (e:EV):LE (h.T.getD e.th []) (OU w h e):=(HQ _ _).trans (asz _ _)
def mB (l:Y R) (i j:Nat) (x d:R):(l.set i x).getD j d=if i=j/\i<l! l then x else l.getD j d:=by
 rw[aw,ep];by_cases e:i=j
 .subst e;by_cases g:i<l! l
  .rw[aD rfl,aD g,aD ⟨rfl,g⟩];rfl
  .rw[aD rfl,av g,av λq=>g q.2,aw,c_ (by omega)]
 .rw[av e,av λq=>e q.1,aw]
structure pH (P:η->Prop) (h:HS):Prop where
 T:∀u,P (h.T.getD u [])
 S:∀u,P (h.S.getD u [])
 L:∀u,P (h.L.getD u [])
 R:∀u,P (h.R.getD u [])
 C:∀u,P (h.C.getD u [])
 F:∀u,P (h.F.getD u [])
 X:P h.X
 N:∀u,P (h.N.getD u [])
def pH.mono {P Q:η->Prop} {h:HS} (a:pH P h) (g:∀x,P x->Q x):pH Q h:=⟨λu=>g _ (a.T u),λu=>g _ (a.S u),λu=>g _ (a.L u),λu=>g _ (a.R u),λu=>g _ (a.C u),λu=>g _ (a.F u),g _ a.X,λu=>g _ (a.N u)⟩
def pH.set {P:η->Prop} {l:Y η} {c:η} (h:∀u,P (l.getD u [])) (z:P c) (i:Nat):∀u,P ((l.set i c).getD u []):=λu=>by
 rw[mB];split
 .exact z
 .exact h u
def pH.repl {P:η->Prop} (h:P []) (n:Nat):∀u,P ((aC n []).getD u []):=λu=>by
 rw[aw,dl];split<;>exact h
def pH.zero {P:η->Prop} (h:P []) (w:Af):pH P (HS.zero w):=⟨pH.repl h _,pH.repl h _,pH.repl h _,pH.repl h _,pH.repl h _,pH.repl h _,h,pH.repl h _⟩
def pH.step {P:η->Prop} (A:∀a b,P a->P b->P (jl a b)) {w:Af} {h:HS} (a:pH P h) (e:EV) {c:η} (z:P c):pH P (jE w h e c):=by
 have b:pH P {h with T:=h.T.set e.th c}:={a with T:=pH.set a.T z _}
 unfold jE;simp only[];repeat' split
 .exact {b with S:=pH.set a.S z _}
 .exact {b with L:=pH.set a.L (A _ _ (a.L _) z) _}
 .exact {b with R:=pH.set a.R (A _ _ (a.R _) z) _}
 .exact {b with L:=pH.set a.L (A _ _ (a.L _) z) _}
 .exact {b with C:=pH.set a.C (A _ _ (a.C _) z) _}
 .exact b
 .exact {b with F:=pH.set a.F (A _ _ (a.F _) z) _}
 .exact {b with X:=A _ _ a.X z}
 .exact {b with N:=pH.set a.N z _}
 .exact b
 .refine {b with N:=λu=>?_};have:=a.N u;simp only[FM];rw[aw]at this ⊢;rw[HZ];cases D:h.N[u]? with
  |none=>rw[D]at this;exact this
  |some x=>
   rw[D]at this;simp only[bi,sH];split
   .exact z
   .exact this
 .exact b
def pH.src {P:η->Prop} {w:Af} {h:HS} (a:pH P h) (e:EV):∀x∈qG w h e,P x:=by
 intro c z;unfold qG at z;repeat' (split at z)
 all_goals simp only[aV,b8,fo]at z
 .subst z;exact a.S _
 .subst z;exact a.T _
 .rcases z with rfl|rfl
  .exact a.L _
  .exact a.R _
 .subst z;exact a.L _
 .rcases z with rfl|rfl|rfl
  .exact a.L _
  .exact a.R _
  .exact a.N _
 .subst z;exact a.C _
 .subst z;exact a.F _
 .subst z;exact a.X
def akk {P:η->Prop} (A:∀a b,P a->P b->P (jl a b)):∀(l:Y η) (c:η),P c->(∀x∈l,P x)->P (l.foldl jl c)
 |[],_,z,_=>z
 |x::r,_,z,h=>akk A r _ (A _ _ z (h x (cX ..))) λy D=>h y (bS _ D)
def arx (w:Af) (h:HS) (e:EV) (c:η):(jE w h e c).T=h.T.set e.th c:=by
 unfold jE;simp only[];repeat' split
 all_goals rfl
def Ft (l:Y ET) (u:Nat):Nat->Nat
 |0=>0
 |i+1=>if (gH l i).th=u then Ft l u i+1 else Ft l u i
def XV (l:Y ET) (u i:Nat):∀j,Ft l u i<=Ft l u (i+j)
 |0=>bK _
 |j+1=>by
  have:=XV l u i j;show Ft l u i<=Ft l u (i+j+1);rw[Ft];split<;>omega
def Un (l:Y ET) (u:Nat) (h:i<=j):Ft l u i<=Ft l u j:=by
 obtain⟨k,rfl⟩:∃k,j=i+k:=⟨j-i,by omega⟩
 exact XV l u i k
def DB (l:Y ET) (i:Nat):Ft l (gH l i).th (i+1)=Ft l (gH l i).th i+1:=by rw[Ft,aD rfl]
structure Gd (w:WT) (l:List ET) (i:Nat) (x:η):Prop where
 le:∀u,x.getD u 0<=(Ft l u i:Int)
 dn:∀k,k<i->(Ft l (gH l k).th k:Int)+1<=x.getD (gH l k).th 0->LE (sT w l k) x
def Gd.nil (w:WT) (l:Y ET) (i:Nat):Gd w l i []:=⟨λu=>by simp,λk _ h=>by simp at h;omega⟩
def Gd.jl {w:WT} {l:Y ET} (a b:η) (D:Gd w l i a) (A:Gd w l i b):Gd w l i (jl a b):=by
 refine ⟨λu=>?_,λk z h=>?_⟩
 .rw[r7,uu];have:=D.le u;have:=A.le u;omega
 .rw[r7,uu]at h;by_cases g:(Ft l (gH l k).th k:Int)+1<=a.getD (gH l k).th 0
  .exact (D.dn k z g).trans (azd _ _)
  .exact (A.dn k z (by omega)).trans (azc _ _)
def Gd.succ {w:WT} {l:Y ET} (h:Gd w l i A):Gd w l (i+1) A:=by
 refine ⟨λu=>?_,λk z g=>?_⟩
 .have:=h.le u;have:=Un l u (show i<=i+1 by omega);omega
 .by_cases e:k=i
  .subst e;have:=h.le (gH l k).th;omega
  .exact h.dn k (by omega) g
structure GS1 (w:WT) (l:List ET) (i:Nat) (h:HS):Prop where
 a:pH (Gd w l i) h
 t:∀u,(h.T.getD u []).getD u 0=(Ft l u i:Int)
def Ut {w:WT} {l:Y ET} (g:GS1 w l i (FD w (l.take i))):Gd w l (i+1) (sT w l i)/\(sT w l i).getD (gH l i).th 0=(Ft l (gH l i).th i:Int)+1:=by
 have L:Gd w l i ((qG w (FD w (l.take i)) (gH l i)).foldl AI.jl ((FD w (l.take i)).T.getD (gH l i).th [])):=akk Gd.jl _ _ (g.a.T _) (g.a.src (w:=w) _);have hT:=g.t (gH l i).th;have hL:=HQ (qG w (FD w (l.take i)) (gH l i)) ((FD w (l.take i)).T.getD (gH l i).th []);have hD:=(g.a.T (gH l i).th).dn;have D:=as4 w (FD w (l.take i)) (gH l i);have e:(sT w l i).getD (gH l i).th 0=(Ft l (gH l i).th i:Int)+1:=by
  unfold sT OU;rw[uK,aD rfl];have:=hL.2 (gH l i).th;have:=L.le (gH l i).th;omega
 refine ⟨⟨λu=>?_,λk A h=>?_⟩,e⟩
 .by_cases z:(gH l i).th=u
  .subst z;rw[e,DB];omega
  .have:=L.le u;unfold sT OU;rw[uK,av λq=>z q.symm,Ft,av z];exact this
 .by_cases hki:k=i
  .subst hki;exact LE.refl _
  have A:k<i:=by omega
  by_cases z:(gH l k).th=(gH l i).th
  .refine (hD k A ?_).trans D;rw[z,hT];have:=Un l (gH l k).th (show k+1<=i from A);rw[DB,z]at this;omega
  .refine (L.dn k A ?_).trans (asz _ _);unfold sT OU at h;rw[uK,av z]at h;exact h
def GA {w:WT} {l:Y ET} (A:TR (w,l)):∀i:Nat,i<=l! l->GS1 w l i (FD w (l.take i))
 |0,_=>⟨pH.zero (Gd.nil w l 0) w,λu=>by have:=pH.repl (P:=λx=>x.getD u 0=0) (by simp) (l! w.2.2.2.2.1) u;exact this⟩
 |i+1,h=>by
  have g:=GA A i (by omega);let⟨L,D⟩:=Ut g;have ht:=(ZR A (show i<l! l by omega)).th;rw[Gz w (by omega)];refine ⟨pH.step Gd.jl (g.a.mono λx h=>h.succ) _ L,λu=>?_⟩;rw[arx,mB];by_cases z:(gH l i).th=u
  .subst z;rw[aD ⟨rfl,ht⟩,D,DB];omega
  .rw[av λq=>z q.1,g.t u,Ft,av z]
def adp {w:WT} {l:Y ET} (z:TR (w,l)) (h:i<l! l):(sT w l i).getD (gH l i).th 0=(Ft l (gH l i).th i:Int)+1:=(Ut (GA z i (by omega))).2
def ald {w:WT} {l:Y ET} (z:TR (w,l)) (h:i<l! l):Gd w l (i+1) (sT w l i):=(Ut (GA z i (by omega))).1
def Cov (w:WT) (l:Y ET) (k j:Nat):Prop:=(Ft l (gH l k).th k:Int)+1<=(sT w l j).getD (gH l k).th 0
def Cov.le {w:WT} {l:Y ET} (z:TR (w,l)) (D:i<=j) (A:j<l! l) (h:Cov w l i j):LE (sT w l i) (sT w l j):=(ald z A).dn i (by omega) h
def Cov.of {w:WT} {l:Y ET} (z:TR (w,l)) (A:i<l! l) (h:LE (sT w l i) (sT w l j)):Cov w l i j:=by
 have:=h.2 (gH l i).th;rw[adp z A]at this;exact this
def Cov.own {w:WT} {l:Y ET} (z:TR (w,l)) (A:i<j) (D:j<l! l) (h:(gH l i).th=(gH l j).th):Cov w l i j:=by
 unfold Cov;rw[h,adp z D];have:=Un l (gH l i).th (show i+1<=j from A);rw[DB,h]at this;omega
def Cov.trans {w:WT} {l:Y ET} (z:TR (w,l)) {k:Nat} (hi:i<=j) (D:j<=k) (A:k<l! l) (h:Cov w l i j) (g:Cov w l j k):Cov w l i k:=Cov.of z (by omega) ((h.le z hi (by omega)).trans (g.le z D A))
def PQ (w:Af) (e:EV):u!:=if e.k=7\/e.k=11 then ((e.ob:Int),af) else if e.k=9 then ((e.ob:Int),J) else if e.k=16 then ((Pz w.2.2.1 e.ob:Nat),af) else (-1,af)
def JC (c:Nat->η) (p:Nat->Bool):Nat->η
 |0=>[]
 |i+1=>if p i=J then jl (JC c p i) (c i) else JC c p i
def amp (c:Nat->η) (p:Nat->Bool):∀i,(∀k,k<i->p k=af)->JC c p i=[]
 |0,_=>rfl
 |i+1,h=>by rw[JC,h i (by omega),av (by simp)];exact amp c p i λk z=>h k (by omega)
variable {p:Nat->Bool}
def Yp {c:Nat->η} (h:p i=J):JC c p (i+1)=jl (JC c p i) (c i):=by rw[JC,aD h]
def Jk {c:Nat->η} (h:p i=af):JC c p (i+1)=JC c p i:=by rw[JC,av (by rw[h];simp)]
def ary (w:Af) (h:HS) (e:EV) (c:η):(jE w h e c).S=if e.k=20 then h.S.set e.ob c else h.S:=by
 unfold jE;simp only[];repeat' split
 all_goals first|rfl|omega
def ada (w:Af) (h:HS) (e:EV) (c:η):(jE w h e c).L=if (e.k=7\/e.k=11) then jat h.L e.ob c else if e.k=16 then jat h.L (Pz w.2.2.1 e.ob) c else h.L:=by
 unfold jE;simp only[];repeat' split
 all_goals first|rfl|omega
def al0 (w:Af) (h:HS) (e:EV) (c:η):(jE w h e c).R=if e.k=9 then jat h.R e.ob c else h.R:=by
 unfold jE;simp only[];repeat' split
 all_goals first|rfl|omega
def as1 (w:Af) (h:HS) (e:EV) (c:η):(jE w h e c).C=if e.k=4/\PL w.1 e.ob=J then jat h.C e.ob c else h.C:=by
 unfold jE;simp only[];repeat' split
 all_goals first|rfl|omega|(rename_i h1 z;exact cu ⟨by assumption,by assumption⟩ z)|(rename_i h1 z;exact cu z.2 h1)|(rename_i h1;exact cu h1.1 (by assumption))
def as0 (w:Af) (h:HS) (e:EV) (c:η):(jE w h e c).F=if e.k=22 then jat h.F e.ob c else h.F:=by
 unfold jE;simp only[];repeat' split
 all_goals first|rfl|omega
def akz (w:Af) (h:HS) (e:EV) (c:η):(jE w h e c).X=if e.k=13 then jl h.X c else h.X:=by
 unfold jE;simp only[];repeat' split
 all_goals first|rfl|omega
def AK (l:Y η) (i:Nat) (c:η) (o:Nat) (h:i<l! l):(jat l i c).getD o []=if i=o then jl (l.getD o []) c else l.getD o []:=by
 unfold jat;rw[mB];by_cases e:i=o
 .subst e;rw[aD ⟨rfl,h⟩,aD rfl]
 .rw[av λq=>e q.1,av e]
abbrev pT (l:Y ET) (u k:Nat):Bool:=decide ((gH l k).th=u)
abbrev pS (l:Y ET) (u k:Nat):Bool:=decide ((gH l k).k=20/\(gH l k).ob=u)
abbrev pL (w:WT) (l:Y ET) (x:u!) (k:Nat):Bool:=decide (PQ w (gH l k)=x)
abbrev pC (w:WT) (l:Y ET) (o k:Nat):Bool:=decide ((gH l k).k=4/\(gH l k).ob=o/\PL w.1 o=J)
abbrev pF (l:Y ET) (o k:Nat):Bool:=decide ((gH l k).k=22/\(gH l k).ob=o)
abbrev pX (l:Y ET) (k:Nat):Bool:=decide ((gH l k).k=13)
structure IN (w:WT) (l:List ET) (i:Nat) (h:HS):Prop where
 T:∀u,h.T.getD u []=JC (sT w l) (pT l u) i
 S:∀u,h.S.getD u []=JC (sT w l) (pS l u) i
 L:∀o:Nat,h.L.getD o []=JC (sT w l) (pL w l ((o:Int),af)) i
 R:∀o:Nat,h.R.getD o []=JC (sT w l) (pL w l ((o:Int),J)) i
 C:∀o,h.C.getD o []=JC (sT w l) (pC w l o) i
 F:∀o,h.F.getD o []=JC (sT w l) (pF l o) i
 X:h.X=JC (sT w l) (pX l) i
def aim {w:Af} {e:EV} (h:e.k=7\/e.k=11):PQ w e=((e.ob:Int),af):=by unfold PQ;rw[aD h]
def YX {w:Af} {e:EV} (h:e.k=9):PQ w e=((e.ob:Int),J):=by unfold PQ;rw[av (by omega),aD h]
def abx {w:Af} {e:EV} (h:e.k=16):PQ w e=((Pz w.2.2.1 e.ob:Int),af):=by unfold PQ;rw[av (by omega),av (by omega),aD h]
def ati {w:Af} {e:EV} (h:¬(e.k=7\/e.k=11)) (h1:¬e.k=9) (z:¬e.k=16):PQ w e=(-1,af):=by unfold PQ;rw[av h,av h1,av z]
def IN.zero (w:WT) (l:Y ET):IN w l 0 (HS.zero w):=
 have r:∀n:Nat,∀u,(aC n ([]:η)).getD u []=[]:=λn=>pH.repl (P:=λx=>x=[]) rfl n
 ⟨r _,r _,λ_=>r _ _,λ_=>r _ _,r _,r _,rfl⟩
def IN.step {w:WT} {l:Y ET} {h:HS} (a:IN w l i h) (n:Int) (o:YA n h) (hh:h=FD w (l.take i)) (hi:i<l! l) (ok:EOK w h (gH l i)) (z:(gH l i).k=20->∀k,k<i->pS l (gH l i).ob k=af):IN w l (i+1) (jE w h (gH l i) (sT w l i)):=by
 have hcT:LE (h.T.getD (gH l i).th []) (sT w l i):=by rw[hh];exact as4 w _ _
 have A:En (n+1) (sT w l i):=by unfold sT;rw[<- hh];exact aai o ok.th4
 refine ⟨λu=>?_,λu=>?_,λx=>?_,λx=>?_,λx=>?_,λx=>?_,?_⟩
 .rw[arx,mB];by_cases e:(gH l i).th=u
  .rw[aD ⟨e,ok.th⟩,Yp (by simpa using e),<-a.T u,LE.jl (by rw[<- e];exact hcT)]
  .rw[av λq=>e q.1,Jk (by simpa using e)];exact a.T u
 .rw[ary];by_cases k:(gH l i).k=20
  .rw[aD k,mB];by_cases e:(gH l i).ob=u
   .rw[aD ⟨e,by rw[o.lS];exact ok.sp (.inl k)⟩,Yp (by simp[k,e]),amp _ _ i (by rw[<- e];exact z k),atm A]
   .rw[av λq=>e q.1,Jk (by simp[e])];exact a.S u
  .rw[av k,Jk (by simp[k])];exact a.S u
 .rw[ada];by_cases k:(gH l i).k=7\/(gH l i).k=11
  .rw[aD k,AK _ _ _ _ (ok.lk (by omega))];by_cases e:(gH l i).ob=x
   .rw[aD e,Yp (by simp[aim k,e]),<-a.L x]
   .rw[av e,Jk (by simp[aim k];omega)];exact a.L x
  rw[av k];by_cases k2:(gH l i).k=16
  .rw[aD k2,AK _ _ _ _ (ok.cd (.inl k2)).2.2];by_cases e:Pz w.2.2.1 (gH l i).ob=x
   .rw[aD e,Yp (by simp[abx k2,e]),<-a.L x]
   .rw[av e,Jk (by simp[abx k2];omega)];exact a.L x
  rw[av k2,Jk]
  .exact a.L x
  .by_cases k3:(gH l i).k=9
   .simp[YX k3]
   .simp[ati k k3 k2]
 .rw[al0];by_cases k:(gH l i).k=9
  .rw[aD k,AK _ _ _ _ (by rw[o.lR];exact ok.lk (by omega))];by_cases e:(gH l i).ob=x
   .rw[aD e,Yp (by simp[YX k,e]),<-a.R x]
   .rw[av e,Jk (by simp[YX k];omega)];exact a.R x
  rw[av k,Jk]
  .exact a.R x
  .unfold pL PQ;repeat' split
   all_goals first|omega|simp
 .rw[as1];by_cases k:(gH l i).k=4/\PL w.1 (gH l i).ob=J
  .rw[aD k,AK _ _ _ _ (ok.ce (.inr k.1)).1];by_cases e:(gH l i).ob=x
   .rw[aD e,Yp (by simp[k.1,e];rw[<- e];exact k.2),<-a.C x]
   .rw[av e,Jk (by simp[e])];exact a.C x
  .rw[av k,Jk]
   .exact a.C x
   .refine cK λq=>k ⟨q.1,by rw[q.2.1];exact q.2.2⟩
 .rw[as0];by_cases k:(gH l i).k=22
  .rw[aD k,AK _ _ _ _ (ok.fu (.inl k))];by_cases e:(gH l i).ob=x
   .rw[aD e,Yp (by simp[k,e]),<-a.F x]
   .rw[av e,Jk (by simp[e])];exact a.F x
  .rw[av k,Jk (by simp[k])];exact a.F x
 .rw[akz];by_cases k:(gH l i).k=13
  .rw[aD k,Yp (by simp[k]),<-a.X]
  .rw[av k,Jk (by simp[k])];exact a.X
abbrev gT (th:Y d?) (u:Int):d?:=geti iI th u
def IJ (xs:Y K.den) (j k:Int) (x:K.den) (A:0<=j) (z:0<=k) (D:k<l! xs):geti _ (ch xs j x) k=if k=j then x else geti _ xs k:=by
 by_cases h:j<l! xs
 .exact jW xs j k x A h z
 .rw[av (by omega)];unfold geti ch;rw[aw,aw,ep,av (by omega)]
def As {th:Y d?} {t:Int} (s:Int) (D:0<=t) (A:0<=a) (z:a<l! th):gT (Bv th t s) a=if a=t then (s,(gT th a).2) else gT th a:=by
 unfold Bv gT;rw[IJ _ _ _ _ D A z];split
 next h=>subst h;rfl
 .rfl
def adr {th:Y d?} {t:Int} (s:Int) (D:0<=t) (A:0<=a) (z:a<l! th):gT (cdP th t s) a=if a=t then ((gT th a).1,s,(gT th a).2.2) else gT th a:=by
 unfold cdP gT;rw[IJ _ _ _ _ D A z];split
 next h=>subst h;rfl
 .rfl
def adv {th:Y d?} {t:Int} (s:Bool) (D:0<=t) (A:0<=a) (z:a<l! th):gT (atP th t s) a=if a=t then ((gT th a).1,(gT th a).2.1,s) else gT th a:=by
 unfold atP gT;rw[IJ _ _ _ _ D A z];split
 next h=>subst h;rfl
 .rfl
def axb (z:0<=a):∀(l:η) (th:Y d?),(∀x∈l,0<=x)->a<l! th->gT (Gj th l) a=if a∈l then (4,(gT th a).2) else gT th a
 |[],th,_,_=>by simp[Gj]
 |x::r,th,h,A=>by
  have e:Gj th (x::r)=Gj (Bv th x 4) r:=rfl;rw[e,axb z r _ (λy D=>h y (bS _ D)) (by unfold Bv;rw[bT];exact A),As 4 (h x (cX ..)) z A];by_cases u:a=x
  .subst u;simp
  .simp[u]
structure TH1 (k o v t u:Int) (g g':Int×Int×Bool):Prop where
 a:u=t->g.1≠0/\g.1≠3/\(k=16->g'.1=3/\g'.2.1=o)/\(k≠16->g'.1≠0/\g'.1≠3/\g'.1≠4)/\(k≠1->k≠17->g.1=2)
 b:u≠t->k=18->v=u->g.1=3/\g.2.1=o/\g'.1=4/\g'.2.1=o
 c:u≠t->k=19->g.1=3->g.2.1=o->g'.1=4/\g'.2.1=o
 d:u≠t->¬(k=18/\v=u)->¬(k=19/\g.1=3/\g.2.1=o)->g'.2.1=g.2.1/\(g'.1=g.1\/k=20/\o=u/\g.1=0/\g'.1=1)
 e:k=20->o=u->g'.1≠0
def TH1.same {o v t u:Int} {g g':d?} (h2:a≠1->a≠17->u=t->g.1=2) (A:g'.1=g.1) (e2:g'.2.1=g.2.1) (n1:a≠1) (n2:a≠17) (n3:a≠16) (D:a≠20) (n4:a=18->v=u->u=t) (L:a=19->g.1=3->g.2.1=o->u=t):TH1 a o v t u g g':=
 ⟨λh=>(by have:=h2 n1 n2 h;rw[A];omega),λh h1 z=>(h (n4 h1 z)).elim,λh h1 z h4=>(h (L h1 z h4)).elim,λ_ _ _=>⟨e2,.inl A⟩,λh=>(D h).elim⟩
def aue (w:WT) (s:SY) (t k o v:Int) (en:EN w s t k o) (rd:Yh w s t k o) (z:k=18->v=(pV w s t k o v).2) (u:Int) (D:0<=u) (A:u<l! s.2.2.2):TH1 k o v t u (gT s.2.2.2 u) (gT (pV w s t k o v).1.2.2.2 u):=by
 have t0:=en.t0;have r2:k≠1->k≠17->u=t->(gT s.2.2.2 u).1=2:=λh1 h2 h3=>by subst h3;exact rd.r h1 h2
 have nm:=en.nm;have k1:=nm.k1;have k2:=nm.k2;let⟨s1,s2,L,th⟩:=s;dsimp only at A r2;change TH1 k o v t u (gT th u) (gT (pV w (s1,s2,L,th) t k o v).1.2.2.2 u);by_cases a1:k=1
 .subst a1;have e:gT (pV w (s1,s2,L,th) t 1 o v).1.2.2.2 u=if u=t then (2,(gT th u).2) else gT th u:=As 2 t0 D A
  rw[e];refine ⟨λh=>?_,λ_ h=>by omega,λ_ h=>by omega,λh _ _=>by rw[av h];exact⟨rfl,.inl rfl⟩,λh=>by omega⟩;have b:=rd.b rfl;rw[aD h];subst h;have b:(gT th u).1=1:=b;dsimp only;omega
 by_cases a2:k=2
 .subst a2;have e:gT (pV w (s1,s2,L,th) t 2 o v).1.2.2.2 u=if u=t then (5,(gT th u).2) else gT th u:=As 5 t0 D A
  rw[e];refine ⟨λh=>?_,λ_ h=>by omega,λ_ h=>by omega,λh _ _=>by rw[av h];exact⟨rfl,.inl rfl⟩,λh=>by omega⟩;have:=r2 (by omega) (by omega) h;rw[aD h];dsimp only;omega
 by_cases a14:k=14\/k=15
 .have e:∃b,gT (pV w (s1,s2,L,th) t k o v).1.2.2.2 u=if u=t then ((gT th u).1,(gT th u).2.1,b) else gT th u:=by
   rcases a14 with rfl|rfl
   .exact⟨J,adv J t0 D A⟩
   .exact⟨af,adv af t0 D A⟩
  let⟨b,e⟩:=e;rw[e];refine TH1.same r2 (by split<;>rfl) (by split<;>rfl) a1 (by omega) (by omega) (by omega) (λh=>by omega) λh=>by omega
 by_cases a16:k=16
 .subst a16;have e:gT (pV w (s1,s2,L,th) t 16 o v).1.2.2.2 u=if u=t then (3,o,(gT th u).2.2) else gT th u:=by
   have:gT (cdP (Bv th t 3) t o) u=_:=adr o t0 D (by unfold Bv;rw[bT];exact A);refine Eq.trans this ?_;rw[As 3 t0 D A];split<;>rfl
  rw[e];refine ⟨λh=>?_,λ_ h=>by omega,λ_ h=>by omega,λh _ _=>by rw[av h];exact⟨rfl,.inl rfl⟩,λh=>by omega⟩;have:=r2 (by omega) (by omega) h;rw[aD h];exact⟨by omega,by omega,λ_=>⟨rfl,rfl⟩,λh=>(h rfl).elim,λ_ _=>this⟩
 by_cases a17:k=17
 .subst a17;have e:gT (pV w (s1,s2,L,th) t 17 o v).1.2.2.2 u=if u=t then (2,0,(gT th u).2.2) else gT th u:=by
   have:gT (cdP (Bv th t 2) t 0) u=_:=adr 0 t0 D (by unfold Bv;rw[bT];exact A);refine Eq.trans this ?_;rw[As 2 t0 D A];split<;>rfl
  rw[e];refine ⟨λh=>?_,λ_ h=>by omega,λ_ h=>by omega,λh _ _=>by rw[av h];exact⟨rfl,.inl rfl⟩,λh=>by omega⟩;have b:=(rd.wk rfl).1;rw[aD h];subst h;have b:(gT th u).1=4:=b;dsimp only;omega
 by_cases a18:k=18
 .subst a18;have z:=z rfl;rw[Fv]at z ⊢;dsimp only at z ⊢;by_cases hl:l! (wl th o (l! th))=0
  .rw[aD hl]at z ⊢;dsimp only at z ⊢;exact TH1.same r2 rfl rfl a1 (by omega) (by omega) (by omega) (λ_ h=>by omega) λh=>by omega
  .rw[av hl]at z ⊢;dsimp only at z ⊢;have hv:v∈wl th o (l! th):=by
    unfold EC at z;rw[av hl]at z;split at z
    next h=>simpa using h
    .rw[z];exact bP (T:=aM) (by omega) (by omega)
   rw[<- z];let⟨v0,v1,v2⟩:=sY.1 hv;unfold PK at v2;simp only[al,bG]at v2;rw[As 4 v0 D A];refine ⟨λh=>?_,λh _ h2=>?_,λ_ h=>by omega,λh h2 _=>?_,λh=>by omega⟩
   .have:=r2 (by omega) (by omega) h;rw[av (λq=>by rw[q]at this;exact cu (this.symm.trans v2.1) (by decide))];omega
   .subst h2;rw[aD rfl];exact⟨v2.1,v2.2,rfl,v2.2⟩
   .rw[av λq=>h2 ⟨rfl,q.symm⟩];exact⟨rfl,.inl rfl⟩
 by_cases a19:k=19
 .subst a19;have e:gT (pV w (s1,s2,L,th) t 19 o v).1.2.2.2 u=if u∈wl th o (l! th) then (4,(gT th u).2) else gT th u:=axb D _ th (λx hx=>(sY.1 hx).1) A
  rw[e];have hm:u∈wl th o (l! th)↔(gT th u).1=3/\(gT th u).2.1=o:=by
   rw[sY];unfold PK;simp only[al,bG];exact⟨λh=>h.2.2,λh=>⟨D,A,h⟩⟩
  refine ⟨λh=>?_,λ_ h=>by omega,λh _ h3 h4=>?_,λh _ h3=>?_,λh=>by omega⟩
  .have:=r2 (by omega) (by omega) h;rw[av (λq=>by have:=(hm.1 q).1;omega)];omega
  .rw[aD (hm.2 ⟨h3,h4⟩)];exact⟨rfl,h4⟩
  .rw[av λq=>h3 ⟨rfl,hm.1 q⟩];exact⟨rfl,.inl rfl⟩
 by_cases a20:k=20
 .subst a20;have sp:=rd.sp rfl;have o0:=(nm.th (.inl rfl)).1;have e:gT (pV w (s1,s2,L,th) t 20 o v).1.2.2.2 u=if u=o then (1,(gT th u).2) else gT th u:=As 1 o0 D A
  rw[e];refine ⟨λh=>?_,λ_ h=>by omega,λ_ h=>by omega,λh _ _=>?_,λ_ h=>?_⟩
  .have:=r2 (by omega) (by omega) h;rw[av (λq=>sp.1 (by omega))];omega
  .by_cases q:u=o
   .subst q;rw[aD rfl];exact⟨rfl,.inr ⟨rfl,rfl,sp.2,rfl⟩⟩
   .rw[av q];exact⟨rfl,.inl rfl⟩
  .rw[aD h.symm];show (1:Int)≠0;omega
 have e:(pV w (s1,s2,L,th) t k o v).1.2.2.2=th:=by
  unfold pV;rw[av a1,av a2];repeat' split
  all_goals first|rfl|omega
 rw[e];exact TH1.same r2 rfl rfl a1 a17 a16 a20 (λh=>(a18 h).elim) λh=>(a19 h).elim
def pvN (l:Y ET) (u:Nat):Nat->Int
 |0=> -1
 |i+1=>if (gH l i).th=u then (i:Int) else pvN l u i
def mtN (l:Y ET) (u i:Nat) (p:Int):Prop:=0<=p/\(gH l p.toNat).k=16/\((gH l i).k=18/\(gH l i).va=u\/(gH l i).k=19/\(gH l i).ob=(gH l p.toNat).ob)
def UR (l:Y ET) (u:Nat):Nat->Int
 |0=> -1
 |i+1=>if (gH l i).th=u then -1 else if 0<=UR l u i then UR l u i else @ite _ (mtN l u i (pvN l u i)) (Classical.propDecidable _) (i:Int) (-1)
def an9 {l:Y ET} (h:(gH l i).th=j):UR l j (i+1)= -1:=by rw[UR,aD h]
def ana {l:Y ET} (h:¬(gH l i).th=j) (g:0<=UR l j i):UR l j (i+1)=UR l j i:=by rw[UR,av h,aD g]
def anc {l:Y ET} (h:¬(gH l i).th=j) (g:UR l j i= -1) (m:mtN l j i (pvN l j i)):UR l j (i+1)=i:=by rw[UR,av h,av (by omega),aD m]
def anb {l:Y ET} (h:¬(gH l i).th=j) (g:UR l j i= -1) (m:¬mtN l j i (pvN l j i)):UR l j (i+1)= -1:=by rw[UR,av h,av (by omega),av m]
def JU (l:Y R) (f:Nat->R->R) (u:Nat) (d:R) (h:u<l! l):(l.mapIdx f).getD u d=f u (l.getD u d):=by
 rw[aw,HZ,aG h,aw,aG h];rfl
def arw (w:Af) (h:HS) (e:EV) (c:η) (u:Nat) (z:u<l! h.W) (A:l! h.N=l! h.W):(jE w h e c).W.getD u 0=if e.k=16/\e.th=u then (e.ob:Int) else if e.k=18/\e.va=u\/e.k=19/\h.W.getD u 0=e.ob then -1 else h.W.getD u 0:=by
 let⟨th,k,ob,va⟩:=e;dsimp only;by_cases k16:k=16
 .subst k16;have e:(jE w h ⟨th,16,ob,va⟩ c).W=h.W.set th ob:=rfl;rw[e,mB];by_cases q:th=u
  .rw[aD ⟨q,by omega⟩,aD ⟨rfl,q⟩]
  .rw[av λx=>q x.1,av λx=>q x.2,av (by omega)]
 rw[av λx=>k16 x.1];by_cases k18:k=18
 .subst k18;have e:jE w h ⟨th,18,ob,va⟩ c=if 0<=va/\va<l! h.N then {h with T:=h.T.set th c,N:=h.N.set va.toNat c,W:=h.W.set va.toNat (-1)} else {h with T:=h.T.set th c}:=rfl
  rw[e];split
  .show (h.W.set va.toNat (-1)).getD u 0=_;rw[mB];by_cases q:va=u
   .rw[aD ⟨by omega,by omega⟩,aD (.inl ⟨rfl,q⟩)]
   .rw[av (by omega),av (by omega)]
  .rw[av (by omega)]
 by_cases k19:k=19
 .subst k19;have e:(jE w h ⟨th,19,ob,va⟩ c).W=h.W.mapIdx λu x=>if decide (h.W.getD u 0=(ob:Int))=J then -1 else x:=rfl
  rw[e,JU _ _ _ _ z];by_cases q:h.W.getD u 0=ob
  .rw[aD (aS q),aD (.inr ⟨rfl,q⟩)]
  .rw[av (by simpa using q),av (by omega)]
 rw[av (by omega)];have e:(jE w h ⟨th,k,ob,va⟩ c).W=h.W:=by
  unfold jE;simp only[];repeat' split
  all_goals first|rfl|omega
 rw[e]
def arz (w:Af) (h:HS) (e:EV) (c:η) (u:Nat) (z:u<l! h.N):(jE w h e c).N.getD u []=if e.k=18/\e.va=u\/e.k=19/\h.W.getD u 0=e.ob then c else h.N.getD u []:=by
 let⟨th,k,ob,va⟩:=e;dsimp only;by_cases k18:k=18
 .subst k18;have e:jE w h ⟨th,18,ob,va⟩ c=if 0<=va/\va<l! h.N then {h with T:=h.T.set th c,N:=h.N.set va.toNat c,W:=h.W.set va.toNat (-1)} else {h with T:=h.T.set th c}:=rfl
  rw[e];split
  .show (h.N.set va.toNat c).getD u []=_;rw[mB];by_cases q:va=u
   .rw[aD ⟨by omega,by omega⟩,aD (.inl ⟨rfl,q⟩)]
   .rw[av (by omega),av (by omega)]
  .rw[av (by omega)]
 by_cases k19:k=19
 .subst k19;have e:(jE w h ⟨th,19,ob,va⟩ c).N=h.N.mapIdx λu x=>if decide (h.W.getD u 0=(ob:Int))=J then c else x:=rfl
  rw[e,JU _ _ _ _ z];by_cases q:h.W.getD u 0=ob
  .rw[aD (aS q),aD (.inr ⟨rfl,q⟩)]
  .rw[av (by simpa using q),av (by omega)]
 rw[av (by omega)];have e:(jE w h ⟨th,k,ob,va⟩ c).N=h.N:=by
  unfold jE;simp only[];repeat' split
  all_goals first|rfl|omega
 rw[e]
abbrev gN9 (w:WT) (l:Y ET) (i u:Nat):d?:=gT (Je w (l.take i)).1.2.2.2 (u:Int)
structure WI (w:WT) (l:List ET) (i:Nat) (h:HS) (u:Nat) (g:Int×Int×Bool):Prop where
 W:h.W.getD u 0=if g.1=3 then g.2.1 else -1
 p:g.1=3\/g.1=4->0<=pvN l u i/\(gH l (pvN l u i).toNat).k=16/\((gH l (pvN l u i).toNat).ob:Int)=g.2.1
 a:g.1=3->UR l u i= -1
 n:g.1=4->0<=UR l u i/\h.N.getD u []=sT w l (UR l u i).toNat
 s:g.1=0->∀k,k<i->pS l u k=af
def at7:∀n,∀x∈thP n,x.1=0\/x.1=1
 |0,x,h=>by cases h
 |n+1,x,h=>by
  rcases aV.1 h with rfl|h
  .exact .inr rfl
  .rw[Ao h];exact .inl rfl
def WI.zero (w:WT) (l:Y ET) (u:Nat) (z:u<l! w.2.2.2.2.1):WI w l 0 (HS.zero w) u (gN9 w l 0 u):=by
 have h1:(gN9 w l 0 u).1=0\/(gN9 w l 0 u).1=1:=at7 _ _ (bP (T:=iI) (xs:=thP (l! w.2.2.2.2.1)) (j:=(u:Int)) (by omega) (by rw[LG];omega));have hW:(HS.zero w).W.getD u 0= -1:=by
  have:(aC (l! w.2.2.2.2.1) (-1:Int)).getD u 0= -1:=by rw[aw,dl,aD z];rfl
  exact this
 exact⟨by rw[hW,av (by omega)],λh=>by omega,λh=>by omega,λh=>by omega,λ_ k A=>by omega⟩
def WI.step {w:WT} {l:Y ET} {h:HS} (a:WI w l i h j (gN9 w l i j)) (hi:i<l! l) (sc:SCx w (l.take i) (Je w (l.take i)).1 (Je w (l.take i)).2.1 (Je w (l.take i)).2.2 (eN l i)) (et:EvT (gH l i) (eN l i)) (hu:j<l! w.2.2.2.2.1) (h1:l! h.W=l! w.2.2.2.2.1) (h2:l! h.N=l! w.2.2.2.2.1):WI w l (i+1) (jE w h (gH l i) (sT w l i)) j (gN9 w l (i+1) j):=by
 have en:=sc.en;have eg:gN9 w l (i+1) j=gT (pV w (Je w (l.take i)).1 (eN l i).1 (eN l i).2.1 (eN l i).2.2.1 (eN l i).2.2.2.1).1.2.2.2 (j:Int):=by unfold gN9;rw[Pb w hi]
 have T1:TH1 (eN l i).2.1 (eN l i).2.2.1 (eN l i).2.2.2.1 (eN l i).1 (j:Int) (gN9 w l i j) (gN9 w l (i+1) j):=by
  rw[eg];exact aue w (Je w (l.take i)).1 (eN l i).1 (eN l i).2.1 (eN l i).2.2.1 (eN l i).2.2.2.1 en sc.rd (λh=>sc.va.el (by omega) (by omega) (by omega) (by omega) (by omega)) (j:Int) (by omega) (by rw[en.e3];omega)
 clear eg;have eW:=arw w h (gH l i) (sT w l i) j (by omega) (by omega);have eN9:=arz w h (gH l i) (sT w l i) j (by omega);have qt:=et.th;have qk:=et.k;have qv:=et.va;have qo:(gH l i).k=16\/(gH l i).k=19\/(gH l i).k=20->(eN l i).2.2.1=((gH l i).ob:Int):=λh=>et.ob (by rcases h with h|h|h<;>rw[h]<;>decide)
 have pv':pvN l j (i+1)=if (gH l i).th=j then (i:Int) else pvN l j i:=rfl
 have ps:pS l j i=decide ((gH l i).k=20/\(gH l i).ob=j):=rfl;clear en sc;let⟨aW,ap,aa,an,as'⟩:=a;let⟨ta,tb,tc,td,te⟩:=T1;generalize gN9 w l (i+1) j=g' at*
 generalize gN9 w l i j=g at*
 by_cases z:(gH l i).th=j
 .obtain⟨b1,b2,b3,b4,_⟩:=ta (by rw[qt,z]);have w0:UR l j (i+1)= -1:=an9 z;have hW':h.W.getD j 0= -1:=by rw[aW,av b2]
  by_cases k16:(gH l i).k=16
  .obtain⟨c1,c2⟩:=b3 (by rw[qk,k16];rfl);refine ⟨by rw[eW,aD ⟨k16,z⟩,aD c1,c2,qo (.inl k16)],λ_=>?_,λ_=>w0,λh=>by omega,λh=>by omega⟩;rw[pv',aD z,bh];exact⟨by omega,k16,by rw[c2,qo (.inl k16)]⟩
  .obtain⟨c1,c2,c3⟩:=b4 (by rw[qk];omega);refine ⟨?_,λh=>by omega,λh=>by omega,λh=>by omega,λh=>by omega⟩;rw[eW,av (λx=>k16 x.1),av c2,hW'];split<;>rfl
 have hut:(j:Int)≠(eN l i).1:=by rw[qt];omega
 rw[av z]at pv';rw[av (λx=>z x.2)]at eW;by_cases A:(gH l i).k=18/\(gH l i).va=j\/(gH l i).k=19/\h.W.getD j 0=(gH l i).ob
 .have B:g.1=3/\g'.1=4/\g'.2.1=g.2.1/\((gH l i).k=19->g.2.1=(gH l i).ob):=by
   rcases A with ⟨k,v⟩|⟨k,v⟩
   .obtain⟨L,D,d3,d4⟩:=tb hut (by rw[qk,k];rfl) (by rw[qv,v]);exact⟨L,d3,by rw[D,d4],λq=>by omega⟩
   .have g3:g.1=3:=by
     rw[aW]at v;split at v
     .assumption
     .omega
    rw[aW,aD g3]at v;let⟨L,D⟩:=tc hut (by rw[qk,k];rfl) g3 (by rw[v,qo (.inr (.inl k))]);exact⟨g3,L,by rw[D,v,qo (.inr (.inl k))],λ_=>v⟩
  let⟨L,D,d3,d4⟩:=B;let⟨p1,p2,p3⟩:=ap (.inl L);have hw:=anc z (aa L) ⟨p1,p2,by
   rcases A with A|⟨k,_⟩
   .exact .inl A
   .exact .inr ⟨k,by have:=d4 k;omega⟩⟩
  rw[aD A]at eW eN9;refine ⟨by rw[eW,av (by omega)],λ_=>by rw[pv',d3];exact⟨p1,p2,p3⟩,λh=>by omega,λ_=>by rw[hw,bh];exact⟨by omega,eN9⟩,λh=>by omega⟩
 rw[av A]at eW eN9;have nv:¬((eN l i).2.1=18/\(eN l i).2.2.2.1=(j:Int)):=λq=>A (.inl ⟨by omega,by rw[<- qv];exact q.2⟩)
 have nw:¬((eN l i).2.1=19/\g.1=3/\g.2.1=(eN l i).2.2.1):=λq=>A (.inr ⟨by omega,by rw[aW,aD q.2.1,q.2.2,qo (.inr (.inl (by omega)))]⟩)
 let⟨L,D⟩:=td hut nv nw;have nm:g.1=3->¬mtN l j i (pvN l j i):=λq ⟨_,_,m⟩=>by
  let⟨_,_,p3⟩:=ap (.inl q);rcases m with m|⟨k,m⟩
  .exact A (.inl m)
  .exact nw ⟨by omega,q,by rw[qo (.inr (.inl k)),m,p3]⟩
 refine ⟨?_,λq=>?_,λq=>?_,λq=>?_,λq k hk=>?_⟩
 .rw[eW,aW,L];rcases D with D|D
  .rw[D]
  .rw[av (by omega),av (by omega)]
 .rw[pv',L];exact ap (by omega)
 .have q:g.1=3:=by omega
  exact anb z (aa q) (nm q)
 .have q:g.1=4:=by omega
  let⟨n1,n2⟩:=an q;rw[ana z n1,eN9];exact⟨n1,n2⟩
 .have q0:g.1=0:=by omega
  by_cases e:k=i
  .subst e;rw[ps];exact cK λr=>te (by rw[qk,r.1];rfl) (by rw[qo (.inr (.inr r.1)),r.2]) q
  .exact as' q0 k (by omega)
def ai7 {w:WT} {l:Y ET} (z:TR (w,l)):rf w=Z (HS.zero w).t:=by
 have wb:=z.wb;dsimp only at wb;exact am9 w (by have:=wb.c;unfold xY;omega) (by have:=wb.l;unfold xY;omega) (by have:=wb.f;unfold xY;omega) (by have:=wb.t;unfold xY;omega)
def ani {w:WT} {l:Y ET} (z:TR (w,l)) (hi:i<l! l):ut (w,(FD w (l.take i)).t,eN l i)=Z ((FD w (l.take (i+1))).t,sT w l i):=by
 have A:=z.len;dsimp only at A;have:=aqd (M9 z i (by omega)).1 (by omega) (ZR z hi) (WM z hi);rw[Gz w hi];exact this
def tA (n:Nat) (f:Nat->R) (z:R) (i:Nat):Y R:=(eA n).map λk=>if k<i then f k else z
def Sw (n:Nat) (f:Nat->R) (z:R) (i:Nat):l! (tA n f z i)=n:=by simp[tA]
def ai3 {f:Nat->R} {z:R} (h:i<j):(tA j f z i).set i (f i)=tA j f z (i+1):=by
 unfold tA;apply c5
 .simp
 intro k h1 A;simp only[dv,bM,vx]at h1;rw[FA];simp only[xt,tO];by_cases e:i=k
 .subst e;rw[aD rfl,aD (by omega)]
 .rw[av e];by_cases g:k<i
  .rw[aD g,aD (by omega)]
  .rw[av g,av (by omega)]
def abi (n:Nat) (f:Nat->R) (z:R):tA n f z 0=aC n z:=by unfold tA;simp[List.map_const']
def ai4 (n:Nat) (f:Nat->R) (z:R):tA n f z n=(eA n).map f:=ja λk A=>by rw[aD (oR.1 A)]
abbrev csN (w:WT) (l:Y ET):Y η:=(eA (l! l)).map (sT w l)
def apg {w:WT} {l:Y ET} (h:i<l! l):(csN w l).getD i []=sT w l i:=by
 rw[aw,bB,KI h];rfl
def al3 {w:WT} {l:Y ET} (h:i<l! l):geti (.sl (.int .i64)) (csN w l) (i:Int)=sT w l i:=by rw[tH];exact apg h
def ahc {w:WT} {l:Y ET} (z:TR (w,l)):qS (w,l)=Z (csN w l,0):=by
 have A:=z.len;dsimp only at A;refine cW ?_;unfold qS AZ bf c8 ck bU jQ bR bY aZ c7 aH cV;refine bc (amv z) (kB (bc (ai7 z) (cR (cR (dm (by dsimp only[ay];omega) (a? (a! ?_)))))));refine gi (l! l) (by omega) (λi x=>x=((i:Int),(w,l),(FD w (l.take i)).t,tA (l! l) (sT w l) [] i)) ?_ ?_ ?_
 .rintro i x hi rfl;refine dB ?_;refine cH (aT ?_);refine bc (ani z hi) ?_;refine aO (by dsimp only;omega) (by dsimp only;rw[Sw];omega) (aO (by dsimp only;omega) (by dsimp only;rw[Sw];omega) (ak ?_));dsimp only;rw[ig,em,ai3 hi]
 .rintro x rfl;refine dw (ak ?_);dsimp only;rw[ai4]
 .show _=_;rw[abi];rfl
def LE.lec {b:η} (h:LE A b):lec A b:=h.2
def acu {b d:η} (h:lec A d) (g:lec b d):lec (jl A b) d:=λu=>by
 rw[r7];rcases Tn (A.getD u 0) (b.getD u 0) with e|e<;>rw[e]
 .exact h u
 .exact g u
def aom {b z b':η} (h:lec A z) (g:lec b b'):lec (jl A b) (jl z b'):=λu=>by
 rw[r7,r7,uu,uu];have:=h u;have:=g u;omega
def cD0 (w:WT) (l:Y ET) (j:Nat):η:=(qG w (FD w (l.take j)) (gH l j)).foldl jl ((FD w (l.take j)).T.getD (gH l j).th [])
def au9 (w:WT) (l:Y ET) (j:Nat):sT w l j=tk (cD0 w l j) (gH l j).th:=rfl
def ang {b:η} (h:lec A b) (t:Nat):lec (tk A t) (tk b t):=λu=>by
 rw[uK,uK];have:=h u;have:=h t;split<;>omega
def Su {w:WT} {l:Y ET} (z:TR (w,l)) (h:i<l! l):mJ l i=(gH l i).th:=by
 have:=as2 z h;have:=(WM z h).th;omega
def ay4 {w:WT} {l:Y ET} (z:TR (w,l)) (D:j<=l! l) (A:i<j):lec (sT w l i) ((FD w (l.take j)).T.getD (mJ l i) []):=by
 have g:=GA z j D;have e:=Su z (show i<l! l by omega);refine ((g.a.T (mJ l i)).dn i A ?_).lec;have ht:=g.t (mJ l i);rw[e]at ht ⊢;rw[ht];have:=Un l (gH l i).th (show i+1<=j from A);rw[DB]at this;omega
def aAd (w:WT) (l:Y ET) (j:Nat):lec ((FD w (l.take j)).T.getD (gH l j).th []) (cD0 w l j):=(HQ _ _).lec
def ahb {w:WT} {l:Y ET} (h:A∈qG w (FD w (l.take j)) (gH l j)):lec A (cD0 w l j):=(amo _ _ _ h).lec
def amb (w:WT) (l:Y ET) (h:HS) (P:WO):Prop:=(∀lk:Nat,P.lk=(lk:Int)->lk<l! w.2.1->if P.rd=J then lec (sT w l P.en.toNat) (jl (h.L.getD lk []) (h.R.getD lk [])) else lec (sT w l P.en.toNat) (h.L.getD lk []))/\(P.lk=(l! w.2.1:Int)->lec (sT w l P.en.toNat) h.X)
structure UI (w:WT) (l:List ET) (j:Nat) (h:HS) (sy:SY) (sp wa wt:η) (op:List (ν×Int)) (re:η) (ar:List WO) (si ei:List η):Prop where
 S:∀u:Nat,u<l! w.2.2.2.2.1->0<=sp.getD u 0->lec (sT w l (sp.getD u 0).toNat) (h.S.getD u [])
 N:∀u:Nat,u<l! w.2.2.2.2.1->0<=wa.getD u 0->lec (sT w l (wa.getD u 0).toNat) (h.N.getD u [])
 W:∀u:Nat,u<l! w.2.2.2.2.1->wt.getD u 0=h.W.getD u 0
 C:∀o:Nat,o<l! w.1->PL w.1 o=J->∀i∈si.getD o [],lec (sT w l i.toNat) (h.C.getD o [])
 F:∀o:Nat,o<l! w.2.2.2.1->∀i∈ei.getD o [],lec (sT w l i.toNat) (h.F.getD o [])
 L:∀p∈re,amb w l h (bx ar p)
 O:∀x∈op,∀p∈re,pU (bx ar p) (bx ar x.2)=J->lec (sT w l (bx ar p).en.toNat) (sT w l (bx ar x.2).bg.toNat)
 B:∀x∈op,(mJ l (bx ar x.2).bg.toNat:Int)=x.1.1
 K:∀x∈op,∀lk:Nat,x.1.2=(lk:Int)->lk<l! w.2.1->(bx ar x.2).rd=af->(geti eM sy.1 (lk:Int)).1=x.1.1
 R:∀lk:Nat,lk<l! w.2.1->((geti eM sy.1 (lk:Int)).1≠ -1->(geti eM sy.1 (lk:Int)).2=[])/\((geti tM w.2.1 (lk:Int)).2=af->(geti eM sy.1 (lk:Int)).2=[])
def UI.zero (w:WT) (l:Y ET):UI w l 0 (HS.zero w) (SJ w) (aC (l! w.2.2.2.2.1) (-1)) (aC (l! w.2.2.2.2.1) (-1)) (aC (l! w.2.2.2.2.1) (-1)) [] [] [] (aC (l! w.1) []) (aC (l! w.2.2.2.1) []):=by
 have m1:∀u n:Nat,u<n->(aC n (-1:Int)).getD u 0= -1:=λu n h=>by
  rw[aw,dl,aD h];rfl
 have nl:∀(o n:Nat),(aC n ([]:η)).getD o []=[]:=λo n=>by
  rw[aw,dl];split<;>rfl
 refine ⟨λu A h=>?_,λu A h=>?_,λu A=>rfl,λo _ _ i hi=>?_,λo _ i hi=>?_,λp hp=>(by cases hp),λx z=>(by cases z),λx z=>(by cases z),λx z=>(by cases z),λlk D=>?_⟩
 .rw[m1 u _ A]at h;omega
 .rw[m1 u _ A]at h;omega
 .rw[nl]at hi;cases hi
 .rw[nl]at hi;cases hi
 .have:geti eM (SJ w).1 (lk:Int)=(-1,[]):=by
   rw[tI];unfold SJ;rw[aw,dl,aD D];rfl
  rw[this];exact⟨λh=>cu rfl h,λ_=>rfl⟩
def UI.clk {w:WT} {l:Y ET} (D:TR (w,l)) (hj:j<l! l) {c:Y η} {tm:Y ν} {la sp wa wt st se:η} {op:Y e!} {re:η} {ar:Y WO} {si ei:Y η} (g:WkG w l j c tm la sp wa wt st se op re ar si ei)
 (h:UI w l j (FD w (l.take j)) (Je w (l.take j)).1 sp wa wt op re ar si ei) (hc:∀i:Nat,i<j->lec (c.getD i []) (sT w l i)) (hk:CKj w l j c tm la sp wa op re ar si ei A):lec A (cD0 w l j):=by
 have hev:PH w (eN l j):=D.ev _ (uW hj);have L:=WM D hj;have t0:=hev.t0;have t1:=hev.t1;have sc:=D.sc hj;have en:=g.ws.en;have jcl:∀i:Int,0<=i->i<(j:Int)->lec (jc c i) (sT w l i.toNat):=λi h0 h1=>hc i.toNat (by omega)
 have et:=L.th;have ek:=L.k;have tl:(gH l j).th<l! w.2.2.2.2.1:=by omega
 have two:∀lk:Int,sL ((eN l j).1,lk) op=J->∀p∈re,pU (bx ar p) (bx ar (eH ((eN l j).1,lk) op))=J->lec (jc c (bx ar p).en) (cD0 w l j):=λlk ho p hp m=>by
  have clk:=mg _ ho;obtain⟨_,_,n0,n1⟩:=en p hp;have hb:=g.ws.o _ clk;dsimp only at hb;have ha:=g.ws.a (eH ((eN l j).1,lk) op).toNat (by omega);rw[<- VO]at ha;have e1:=h.O _ clk p hp m;have e2:=h.B _ clk;dsimp only at e1 e2;have e3:=ay4 D (Nat.le_of_lt hj) (show (bx ar (eH ((eN l j).1,lk) op)).bg.toNat<j by omega);have e4:mJ l (bx ar (eH ((eN l j).1,lk) op)).bg.toNat=(gH l j).th:=by omega
  rw[e4]at e3;exact (jcl _ n0 n1).trans (e1.trans (e3.trans (aAd w l j)))
 refine hk.js (λx=>lec x (cD0 w l j)) ⟨λu=>?_,λx i hi i0 clk=>?_,λx lk p _ _ _ ho hp m _ clk=>?_,λx p ho hp m _ clk=>?_⟩
 .have z:(aC (l! w.2.2.2.2.1) (0:Int)).getD u 0=0:=by
   rw[aw,dl];split<;>rfl
  rw[z];have hcn:=(M9 D j (by omega)).1;have:En (j:Int) (cD0 w l j):=by
   unfold cD0;exact Dv _ _ (hcn.T _) (SA hcn _)
  exact (this.2 u).1
 .refine acu clk ?_;have lt:=abm hev g.la g.sp g.wa g.st g.se i hi;refine (jcl i i0 lt).trans ?_;unfold vW at hi;have gT_:∀{x:η} {v:Int},0<=v->geti aM x v=x.getD v.toNat 0:=λ{x v} h0=>by
   have e:v=((v.toNat:Nat):Int):=by omega
   rw[e,Fm,bh]
  have last:∀{v:Int},0<=v->v<l! w.2.2.2.2.1->i=geti aM la v->lec (sT w l i.toNat) ((FD w (l.take j)).T.getD v.toNat []):=λ{v} v0 v1 e=>by
   rw[gT_ v0]at e;obtain⟨q1,q2,_⟩:=(g.ci.lav v.toNat (by omega)).1 (by omega);rw[<- e]at q1 q2;have:=ay4 D (Nat.le_of_lt hj) (show i.toNat<j by omega);rw[q2]at this;exact this
  rcases bO.1 hi with hi|hi
  .rw[aE]at hi;have:=last t0 t1 hi;have e:(eN l j).1.toNat=(gH l j).th:=by omega
   rw[e]at this;exact this.trans (aAd w l j)
  split at hi
  .rename_i k1;rw[aE,gT_ t0]at hi;have e:(eN l j).1.toNat=(gH l j).th:=by omega
   rw[e]at hi;have:=h.S _ tl (by omega);rw[<- hi]at this;exact this.trans (ahb (by unfold qG;rw[aD (by omega)];simp))
  split at hi
  .rename_i k1;rw[aE]at hi;obtain⟨o0,o1⟩:=hev.nm.th (.inr k1);have eo:=L.ob (by rw[show (gH l j).k=21 from by omega];decide);have:=last o0 o1 hi;have e:(eN l j).2.2.1.toNat=(gH l j).ob:=by omega
   rw[e]at this;exact this.trans (ahb (by unfold qG;rw[av (by omega),aD (by omega)];simp))
  split at hi
  next k1=>obtain⟨o0,o1⟩:=hev.nm.fu (.inr k1);have eo:=L.ob (by rw[show (gH l j).k=23 from by omega];decide);rw[eo,xA]at hi;exact (h.F _ (by omega) i hi).trans (ahb (by unfold qG;rw[av (by omega),av (by omega),av (by omega),av (by omega),av (by omega),av (by omega),aD (by omega)];simp))
  split at hi
  .rename_i k1;obtain⟨o0,o1⟩:=hev.nm.ce (.inl k1);have eo:=L.ob (by rw[show (gH l j).k=3 from by omega];decide);split at hi
   .rename_i vol;rw[eo]at vol;rw[eo,xA]at hi;have vol:PL w.1 (gH l j).ob=J:=by
     rw[tI]at vol;exact vol
    exact (h.C _ (by omega) vol i hi).trans (ahb (by unfold qG;rw[av (by omega),av (by omega),av (by omega),av (by omega),av (by omega),aD (by omega)];simp))
   .cases hi
  split at hi
  .rename_i k1;rw[aE,gT_ t0]at hi;have e:(eN l j).1.toNat=(gH l j).th:=by omega
   rw[e]at hi;have:=h.N _ tl (by omega);rw[<- hi]at this;exact this.trans (ahb (by unfold qG;rw[av (by omega),av (by omega),av (by omega),av (by omega),aD (by omega)];simp))
  .cases hi
 .exact acu clk (two lk ho p hp m)
 .exact acu clk (two _ ho p hp m)
def ao6 {op:Y e!} {x:e!} (h:x∈op):sL x.1 op=J:=by
 induction op with
 |nil=>cases h
 |cons e r z=>
  simp only[sL];rcases aV.1 h with rfl|h
  .rw[Cm.2 rfl];rfl
  .rw[z h,Bool.or_true]
def aex {k:ν} {x:e!} {op:Y e!} (z:Ai op) (h:x∈yV k a op):x=(k,a)\/x∈op:=(MG z h).imp id And.left
def Fg (l:Y η) (i:Nat) (c:η) (o:Nat):lec (l.getD o []) ((jat l i c).getD o []):=by
 by_cases h:i<l! l
 .rw[AK l i c o h];split
  .exact AJ _ _
  .exact lec.rfl
 .unfold jat;rw[List.set_eq_of_length_le (by omega)];exact lec.rfl
def Gu {l:Y η} (c:η) (h:i<l! l):lec c ((jat l i c).getD i []):=by
 rw[AK l i c i h,aD rfl];exact Ff _ _
def ajg (w:WT) (h:HS) (e:EV) (c:η) (o:Nat):lec (h.L.getD o []) ((jE w h e c).L.getD o []):=by
 rw[ada];split
 .exact Fg _ _ _ _
 split
 .exact Fg _ _ _ _
 .exact lec.rfl
def atq (w:WT) (h:HS) (e:EV) (c:η) (o:Nat):lec (h.R.getD o []) ((jE w h e c).R.getD o []):=by
 rw[al0];split
 .exact Fg _ _ _ _
 .exact lec.rfl
def atp (w:WT) (h:HS) (e:EV) (c:η):lec h.X (jE w h e c).X:=by
 rw[akz];split
 .exact AJ _ _
 .exact lec.rfl
def amb.mono {w:WT} {l:Y ET} {h:HS} {P:WO} (a:amb w l h P) (e:EV) (c:η):amb w l (jE w h e c) P:=by
 refine ⟨λlk h1 z=>?_,λh1=>(a.2 h1).trans (atp w h e c)⟩;have:=a.1 lk h1 z;split
 next d=>rw[aD d]at this;exact this.trans (aom (ajg w h e c lk) (atq w h e c lk))
 next d=>rw[av d]at this;exact this.trans (ajg w h e c lk)
def ans {w:WT} {A:SY} (hw:WX w) {e:ET} (en:EN w A e.1 e.2.1 e.2.2.1) (rd:Yh w A e.1 e.2.1 e.2.2.1) (R:∀lk:Nat,lk<l! w.2.1->((geti eM A.1 (lk:Int)).1≠ -1->(geti eM A.1 (lk:Int)).2=[])/\((geti tM w.2.1 (lk:Int)).2=af->(geti eM A.1 (lk:Int)).2=[])):
 ∀lk:Nat,lk<l! w.2.1->((geti eM (pV w A e.1 e.2.1 e.2.2.1 e.2.2.2.1).1.1 (lk:Int)).1≠ -1->(geti eM (pV w A e.1 e.2.1 e.2.2.1 e.2.2.2.1).1.1 (lk:Int)).2=[])/\((geti tM w.2.1 (lk:Int)).2=af->(geti eM (pV w A e.1 e.2.1 e.2.2.1 e.2.2.2.1).1.1 (lk:Int)).2=[]):=by
 intro lk hl;let⟨L,D⟩:=R lk hl;let⟨t,k,o,v,s,x1,x2⟩:=e;dsimp only at en rd ⊢;have l0:(0:Int)<=(lk:Int):=by omega
 have lo:6<=k/\k<=11->0<=o/\o<(l! A.1:Int):=λg=>by rw[en.e1];exact en.nm.lk g
 have ow:∀(i x:Int),0<=i->i<l! A.1->((lk:Int)=i->x≠ -1->(geti eM A.1 (lk:Int)).2=[])->((geti eM (VF A.1 i x) (lk:Int)).1≠ -1->(geti eM (VF A.1 i x) (lk:Int)).2=[])/\((geti tM w.2.1 (lk:Int)).2=af->(geti eM (VF A.1 i x) (lk:Int)).2=[]):=λi x h0 h1 hx=>by
  unfold VF;rw[jW _ _ _ _ h0 h1 l0];split
  next g=>rw[<- g];exact⟨hx g,D⟩
  .exact⟨L,D⟩
 have rr:∀(i:Int) (x:η),0<=i->i<l! A.1->((lk:Int)=i->((geti eM A.1 (lk:Int)).1≠ -1->x=[])/\((geti tM w.2.1 (lk:Int)).2=af->x=[]))->((geti eM (rdP A.1 i x) (lk:Int)).1≠ -1->(geti eM (rdP A.1 i x) (lk:Int)).2=[])/\((geti tM w.2.1 (lk:Int)).2=af->(geti eM (rdP A.1 i x) (lk:Int)).2=[]):=λi x h0 h1 hx=>by
  unfold rdP;rw[jW _ _ _ _ h0 h1 l0];split
  next g=>have:=hx g;rw[<- g];exact this
  .exact⟨L,D⟩
 rw[UD];split
 .rename_i g;let⟨a,b⟩:=lo (by omega);refine ow _ _ a b λq _=>?_
  rcases g with g|g
  .exact D (by rw[q];exact en.nm.mu (.inl g))
  .have:=rd.wr g;rw[<- q]at this;exact dk.1 this
 split
 .obtain⟨a,b⟩:=lo (by omega);exact ow _ _ a b λ_ z=>cu rfl z
 split
 .rename_i g;let⟨a,b⟩:=lo (by omega);refine rr _ _ a b λq=>⟨λz=>?_,λz=>?_⟩
  .have:=rd.aq (by omega);rw[<- q]at this;exact cu this z
  .have:=en.nm.rw (by omega);rw[<- q,z]at this;cases this
 split
 .rename_i g;let⟨a,b⟩:=lo (by omega);refine rr _ _ a b λq=>⟨λz=>?_,λz=>?_⟩
  .rw[<- q,L z];rfl
  .have:=en.nm.rw (by omega);rw[<- q,z]at this;cases this
 split
 .obtain⟨a,b⟩:=VQ en (by omega);exact ow _ _ a b λ_ z=>cu rfl z
 split
 .rename_i g;let⟨a,b⟩:=VQ en (by omega);refine ow _ _ a b λq _=>D ?_
  let⟨c,d⟩:=en.nm.cd ⟨by omega,by omega⟩;rw[q];exact aog hw c d
 .exact⟨L,D⟩
def UI.next {w:WT} {l:Y ET} (tr:TR (w,l)) (hj:j<l! l) {c:Y η} {tm:Y ν} {la sp wa wt st se:η} {op:Y e!} {re:η} {ar:Y WO} {si ei:Y η} (g:WkG w l j c tm la sp wa wt st se op re ar si ei)
 (h:UI w l j (FD w (l.take j)) (Je w (l.take j)).1 sp wa wt op re ar si ei):UI w l (j+1) (FD w (l.take (j+1))) (Je w (l.take (j+1))).1 (FL (j:Int) (eN l j) sp) (FK (j:Int) (eN l j) wt wa) (KK (eN l j) wt) (YP w (eN l j) op (uB w (eN l j) op ar)) (Cd w (eN l j) op re) (Js w (j:Int) (eN l j) op (uB w (eN l j) op ar)) (PD 4 (j:Int) (eN l j) si) (PD 22 (j:Int) (eN l j) ei):=by
 have hev:PH w (eN l j):=tr.ev _ (uW hj);have vt:=WM tr hj;have sc:=tr.sc hj;have en:=sc.en;have rd:=sc.rd;have wx:WX w:=tr.wx;have ok:=ZR tr hj;let⟨o,ft⟩:=M9 tr j (Nat.le_of_lt hj);have hsy:(Je w (l.take (j+1))).1=(pV w (Je w (l.take j)).1 (eN l j).1 (eN l j).2.1 (eN l j).2.2.1 (eN l j).2.2.2.1).1:=by rw[Pb w hj]
 have thj:=as2 tr hj;have src:∀x,x∈qG w (FD w (l.take j)) (gH l j)->lec x (sT w l j):=λx A=>(ahb A).trans (YG _ _)
 rw[hsy,Gz w hj];have ws:=g.ws;have glen:=g.wt;have gwa:=g.wa.1;have gsp:=g.sp.1;have gsi:=g.st.2.1;have gei:=g.se.2.1;have hNl:=o.lN;have hWl:=o.lW;have hSl:=o.lS;have fT:=ft.T;have fL:=ft.L;have fC:=ft.C;have fF:=ft.F;have rL:=o.lR;clear g sc hsy;generalize FD w (l.take j)=hh at*
 generalize (Je w (l.take j)).1=sy at*
 generalize hck:sT w l j=cj at*
 generalize he:eN l j=e at*
 generalize gH l j=e' at*
 have sam:=Pa (w:=w) (e:=e) ws.op ws.oo;have ws1:=ws.sam sam;have hln:=sam.ln;generalize uB w e op ar=ar1 at*
 have ek:=vt.k;have et:=vt.th;have k1:=ok.k1;have k2:=ok.k2;have ob:∀k:Nat,e'.k=k->k∈[3,4,6,7,8,9,10,11,16,17,18,19,20,21,22,23]->e.2.2.1=(e'.ob:Int):=λk hk hm=>vt.ob (hk▸hm)
 have va:=vt.va;have hN:∀p∈re,bx (Js w (j:Int) e op ar1) p=bx ar p:=λp hp=>by
  let⟨⟨p0,p1⟩,p2⟩:=ws.r p hp;rw[YQ p0 (by omega),yR ws1.op,av,sam.eq p p2];rintro⟨hq,hz⟩;have h1:=ws1.oo _ (mg _ hq);have e1:bx ar1 p=bx ar1 (eH (e.1,kq w e) op):=by unfold bx dZ;rw[hz]
  dsimp only at h1;rw[<- e1,sam.eq p p2]at h1;exact p2 h1
 have hNo:∀x∈FZ w e op,(bx (Js w (j:Int) e op ar1) x.2).1=(bx ar x.2).1:=λx A=>by
  have hr:=ws1.op _ (yQ ws1.ks A).1;rw[YQ hr.1 hr.2,abt ws1 A (j:Int)];exact sam.hd x.2
 have hNq:scQ w e op=J->bx (Js w (j:Int) e op ar1) (eH (e.1,kq w e) op)=Lf (j:Int) (bx ar1 (eH (e.1,kq w e) op)):=λhq=>by
  have hm:=ws1.op _ (mg _ hq);dsimp only at hm;rw[YQ hm.1 hm.2,yR ws1.op,aD ⟨hq,rfl⟩]
 have hNn:0<=Bl w e->bx (Js w (j:Int) e op ar1) (l! ar1:Int)=((e.1,Bl w e,(j:Int),-1,decide (e.2.1=8)),[],[]):=λg0=>by
  unfold Js;rw[aD g0,<-Ml w (j:Int) e op ar1];exact ach _ _
 have hre:∀p,p∈Cd w e op re->p∈re\/scQ w e op=J/\p=eH (e.1,kq w e) op:=λp hp=>by
  unfold Cd at hp;split at hp
  .rename_i hq;rcases bO.1 hp with hp|hp
   .exact .inl hp
   .exact .inr ⟨hq,aE.1 hp⟩
  .exact .inl hp
 have hop:∀x,x∈YP w e op ar1->(0<=Bl w e/\x=((e.1,Bl w e),(l! ar1:Int)))\/x∈FZ w e op:=λx A=>by
  unfold YP at A;split at A
  .rename_i g0;rcases aex (Rc ws1.ks) A with A|A
   .exact .inl ⟨g0,A⟩
   .exact .inr A
  .exact .inr A
 have mup:e'.k=16\/e'.k=17->muP w e.2.2.1=(Pz w.2.2.1 e'.ob:Int)/\Pz w.2.2.1 e'.ob<l! w.2.1:=λhk=>by
  let⟨a,b,d⟩:=ok.cd hk;have eo:e.2.2.1=(e'.ob:Int):=by rcases hk with hk|hk<;>exact ob _ hk (by decide)
  unfold muP Pz;rw[eo,tI];refine ⟨(yH b).symm,?_⟩;unfold Pz at d;omega
 refine ⟨λu hu h0=>?_,λu hu h0=>?_,λu hu=>?_,λo' ho hv i hi=>?_,λo' ho i hi=>?_,λp hp=>?_,λx A p hp m=>?_,λx A=>?_,λx A lk h1 h2 h3=>?_,ans wx en rd h.R⟩
 .rw[ary];unfold FL at h0 ⊢;by_cases k20:e.2.1=20
  .rw[aD k20]at h0 ⊢;have D:e'.k=20:=by omega
   rw[ob _ D (by decide),em,mB]at h0 ⊢;rw[aD D,mB];by_cases q:e'.ob=u
   .rw[aD ⟨q,by omega⟩,aD ⟨q,by omega⟩,bh,hck];exact lec.rfl
   .rw[av λz=>q z.1]at h0 ⊢;rw[av λz=>q z.1];exact h.S u hu h0
  .rw[av k20]at h0 ⊢;rw[av (by omega)];exact h.S u hu h0
 .rw[arz w hh e' cj u (by omega)];unfold FK at h0 ⊢;by_cases k18:e.2.1=18
  .rw[aD k18]at h0 ⊢;by_cases v0:0<=e.2.2.2.1
   .rw[aD v0]at h0 ⊢;have ev:e.2.2.2.1=((e.2.2.2.1.toNat:Nat):Int):=by omega
    rw[ev,em,mB]at h0 ⊢;by_cases q:e.2.2.2.1.toNat=u
    .rw[aD ⟨q,by omega⟩,aD (.inl ⟨by omega,by omega⟩),bh,hck];exact lec.rfl
    .rw[av λz=>q z.1]at h0 ⊢;rw[av (by omega)];exact h.N u hu h0
   .rw[av v0]at h0 ⊢;rw[av (by omega)];exact h.N u hu h0
  .rw[av k18]at h0 ⊢;by_cases k19:e.2.1=19
   .rw[aD k19]at h0 ⊢;rw[acl _ _ _ _ _ (by omega)]at h0 ⊢;have D:e'.k=19:=by omega
    have eo:=ob _ D (by decide);have hw:=h.W u hu;by_cases q:wt.getD u 0=e.2.2.1
    .rw[aD ⟨by omega,q⟩,aD (.inr ⟨D,by omega⟩),bh,hck];exact lec.rfl
    .rw[av λz=>q z.2]at h0 ⊢;rw[av (by omega)];exact h.N u hu h0
   .rw[av k19]at h0 ⊢;rw[av (by omega)];exact h.N u hu h0
 .rw[arw w hh e' cj u (by omega) (by omega)];have hw:=h.W u hu;unfold KK;by_cases k16:e.2.1=16
  .have D:e'.k=16:=by omega
   rw[aD k16,et,em,mB,ob _ D (by decide)];by_cases q:e'.th=u
   .rw[aD ⟨q,by omega⟩,aD ⟨D,q⟩]
   .rw[av λz=>q z.1,av λz=>q z.2,av (by omega)];exact hw
  rw[av k16,av λz:e'.k=16/\e'.th=u=>k16 (by omega)];by_cases k18:e.2.1=18
  .rw[aD k18];by_cases v0:0<=e.2.2.2.1
   .rw[aD v0];have ev:e.2.2.2.1=((e.2.2.2.1.toNat:Nat):Int):=by omega
    rw[ev,em,mB];by_cases q:e.2.2.2.1.toNat=u
    .rw[aD ⟨q,by omega⟩,aD (.inl ⟨by omega,by omega⟩)]
    .rw[av λz=>q z.1,av (by omega)];exact hw
   .rw[av v0,av (by omega)];exact hw
  rw[av k18];by_cases k19:e.2.1=19
  .have D:e'.k=19:=by omega
   have eo:=ob _ D (by decide);rw[aD k19,ack _ _ _ (by omega)];by_cases q:wt.getD u 0=e.2.2.1
   .rw[aD ⟨by omega,q⟩,aD (.inr ⟨D,by omega⟩)]
   .rw[av λz=>q z.2,av (by omega)];exact hw
  .rw[av k19,av (by omega)];exact hw
 .rw[UG _ _ _ _ (by omega) λz=>(hev.nm.ce (.inr z)).1]at hi;rw[as1];by_cases q:e.2.1=4/\e.2.2.1=(o':Int)
  .rw[aD q]at hi;have D:e'.k=4:=by omega
   have eo:=ob _ D (by decide);have e1:e'.ob=o':=by omega
   rw[aD ⟨D,by rw[e1];exact hv⟩,e1];rcases bO.1 hi with hi|hi
   .exact (h.C o' ho hv i hi).trans (Fg _ _ _ _)
   .rw[aE]at hi;rw[hi,bh,hck];exact Gu _ (by omega)
  .rw[av q]at hi;refine (h.C o' ho hv i hi).trans ?_;split
   .exact Fg _ _ _ _
   .exact lec.rfl
 .rw[UG _ _ _ _ (by omega) λz=>(hev.nm.fu (.inl z)).1]at hi;rw[as0];by_cases q:e.2.1=22/\e.2.2.1=(o':Int)
  .rw[aD q]at hi;have D:e'.k=22:=by omega
   have eo:=ob _ D (by decide);have e1:e'.ob=o':=by omega
   rw[aD D,e1];rcases bO.1 hi with hi|hi
   .exact (h.F o' ho i hi).trans (Fg _ _ _ _)
   .rw[aE]at hi;rw[hi,bh,hck];exact Gu _ (by omega)
  .rw[av q]at hi;refine (h.F o' ho i hi).trans ?_;split
   .exact Fg _ _ _ _
   .exact lec.rfl
 .rcases hre p hp with hp|⟨hq,rfl⟩
  .rw[hN p hp];exact (h.L p hp).mono e' cj
  .rw[hNq hq];have A:=mg _ hq;have ho:=ws1.o _ A;have hK:=h.K _ A;dsimp only at ho hK;have hd:=sam.hd (eH (e.1,kq w e) op);have elk:(Lf (j:Int) (bx ar1 (eH (e.1,kq w e) op))).lk=kq w e:=ho.2.2.1;have een:(Lf (j:Int) (bx ar1 (eH (e.1,kq w e) op))).en=(j:Int):=rfl;have erd:(Lf (j:Int) (bx ar1 (eH (e.1,kq w e) op))).rd=(bx ar (eH (e.1,kq w e) op)).rd:=by
    show (bx ar1 _).1.2.2.2.2=_;rw[hd]
   unfold amb;rw[elk,een,erd,bh,hck];generalize (bx ar (eH (e.1,kq w e) op)).rd=b at*
   have lo:∀k:Nat,e'.k=k->k∈[7,9,11]->e'.ob<l! w.2.1:=λk hk hm=>by
    have:=ok.lk (by simp at hm;omega);omega
   unfold kq;by_cases kA:e.2.1=7\/e.2.1=9\/e.2.1=11
   .rw[aD kA];have k6:e'.k=7\/e'.k=9\/e'.k=11:=by omega
    have eo:e.2.2.1=(e'.ob:Int):=by rcases k6 with k|k|k<;>exact ob _ k (by decide)
    have ol:e'.ob<l! w.2.1:=by rcases k6 with k|k|k<;>exact lo _ k (by decide)
    rw[eo];refine ⟨λlk h1 h2=>?_,λh1=>by omega⟩;have el:lk=e'.ob:=by omega
    subst el;by_cases k9:e'.k=9
    .have R9:lec cj ((jE w hh e' cj).R.getD e'.ob []):=by
      rw[al0,aD k9];exact Gu _ (by omega)
     split
     .exact R9.trans (Ff _ _)
     .rename_i d;have erel:kq w e=(e'.ob:Int):=by unfold kq;rw[aD kA,eo]
      have d':b=af:=by
       cases b with
       |false=>rfl
       |true=>exact cu rfl d
      have hown:=hK e'.ob erel h2 d';have rr:=rd.rr (by omega);rw[eo,(h.R e'.ob h2).1 (by rw[hown];intro z;have z:e.1= -1:=z;have t0:=en.t0;omega)]at rr;cases rr
    .have L7:lec cj ((jE w hh e' cj).L.getD e'.ob []):=by
      rw[ada,aD (by omega)];exact Gu _ (by omega)
     split
     .exact L7.trans (AJ _ _)
     .exact L7
   rw[av kA];by_cases k16:e.2.1=16
   .rw[aD k16];have D:e'.k=16:=by omega
    let⟨m1,m2⟩:=mup (.inl D);have m1:(geti itK w.2.2.1 e.2.2.1).2=(Pz w.2.2.1 e'.ob:Int):=m1;rw[m1];refine ⟨λlk h1 h2=>?_,λh1=>by omega⟩;have el:lk=Pz w.2.2.1 e'.ob:=by omega
    subst el;have L7:lec cj ((jE w hh e' cj).L.getD (Pz w.2.2.1 e'.ob) []):=by
     rw[ada,av (by omega),aD D];exact Gu _ (by omega)
    split
    .exact L7.trans (AJ _ _)
    .exact L7
   rw[av k16];by_cases k13:e.2.1=13
   .rw[aD k13];refine ⟨λlk h1 h2=>by omega,λ_=>?_⟩;rw[akz,aD (by omega)];exact Ff _ _
   .rw[av k13];exact⟨λlk h1 h2=>by omega,λh1=>by omega⟩
 .have mm:∀{P Q:WO},pU P Q=J->P.lk=Q.lk/\(P.rd&&Q.rd)=af/\P.en<Q.bg:=λ{P Q} m=>by
   unfold pU at m;simp only[al,bG,ca]at m;exact⟨m.1,m.2.2.1,r8.1 m.2.2.2⟩
  let⟨m1,m2,m3⟩:=mm m;have en_:=ws.en;rcases hop x A with ⟨g0,rfl⟩|A
  .dsimp only at m1 m2 m3 ⊢;rw[hNn g0]at m1 m2 m3 ⊢;have m1:(bx (Js w (j:Int) e op ar1) p).lk=Bl w e:=m1;have m2:((bx (Js w (j:Int) e op ar1) p).rd&&decide (e.2.1=8))=af:=m2;have m3:(bx (Js w (j:Int) e op ar1) p).en<(j:Int):=m3;show lec _ (sT w l (j:Int).toNat);rw[bh,hck];rcases hre p hp with hp|⟨hq,rfl⟩
   .rw[hN p hp]at m1 m2 m3 ⊢;let⟨s1,s2⟩:=h.L p hp;have zZ:∀lk:Nat,Bl w e=(lk:Int)->lk<l! w.2.1->hh.L.getD lk []∈qG w hh e'->(e.2.1=8\/hh.R.getD lk []∈qG w hh e')->lec (sT w l (bx ar p).en.toNat) cj:=λlk h1 h2 hL hR=>by
     have:=s1 lk (m1.trans h1) h2;split at this
     .rename_i d;rcases hR with k8|hR
      .rw[d,aS k8]at m2;cases m2
      .exact this.trans (acu (src _ hL) (src _ hR))
     .exact this.trans (src _ hL)
    unfold Bl at m1 zZ;by_cases kA:e.2.1=6\/e.2.1=8\/e.2.1=10
    .rw[aD kA]at m1 zZ;have k6:e'.k=6\/e'.k=8\/e'.k=10:=by omega
     have eo:e.2.2.1=(e'.ob:Int):=by rcases k6 with k|k|k<;>exact ob _ k (by decide)
     have ol:e'.ob<l! w.2.1:=by have:=ok.lk (by omega);omega
     refine zZ e'.ob eo ol ?_ ?_
     .unfold qG;rcases k6 with k|k|k
      .rw[av (by omega),av (by omega),aD (by omega)];simp
      .rw[av (by omega),av (by omega),av (by omega),aD (by omega)];simp
      .rw[av (by omega),av (by omega),aD (by omega)];simp
     .rcases k6 with k|k|k
      .right;unfold qG;rw[av (by omega),av (by omega),aD (by omega)];simp
      .left;omega
      .right;unfold qG;rw[av (by omega),av (by omega),aD (by omega)];simp
    rw[av kA]at m1 zZ;by_cases k17:e.2.1=17
    .rw[aD k17]at m1 zZ;have D:e'.k=17:=by omega
     let⟨q1,q2⟩:=mup (.inr D);refine zZ (Pz w.2.2.1 e'.ob) q1 q2 ?_ (.inr ?_)
     .unfold qG;rw[av (by omega),av (by omega),av (by omega),av (by omega),aD (by omega)];simp
     .unfold qG;rw[av (by omega),av (by omega),av (by omega),av (by omega),aD (by omega)];simp
    rw[av k17]at m1;by_cases k12:e.2.1=12
    .rw[aD k12]at m1;refine (s2 m1).trans (src _ ?_);unfold qG;rw[av (by omega),av (by omega),av (by omega),av (by omega),av (by omega),av (by omega),av (by omega),aD (by omega)];simp
    .unfold Bl at g0;rw[av kA,av k17,av k12]at g0;omega
   .rw[hNq hq]at m3;have m3:(j:Int)<(j:Int):=m3;omega
  .have hd:=hNo x A;have hxo:=(yQ ws1.ks A).1;have eb:(bx (Js w (j:Int) e op ar1) x.2).bg=(bx ar x.2).bg:=by show (bx _ _).1.2.2.1=_;rw[hd]
   have bj:(bx ar x.2).bg<(j:Int):=by
    have hr:=ws.op _ hxo;have ha:=ws.a x.2.toNat (by omega);rw[<- VO]at ha;exact ha.1.2
   rcases hre p hp with hp|⟨hq,rfl⟩
   .rw[eb,hN p hp];refine h.O x hxo p hp ?_;rw[hN p hp]at m;unfold pU at m ⊢;unfold WO.lk WO.th WO.rd WO.en WO.bg at m ⊢;rw[hd]at m;exact m
   .rw[hNq hq,eb]at m3;have m3:(j:Int)<(bx ar x.2).bg:=m3;omega
 .rcases hop x A with ⟨g0,rfl⟩|A
  .dsimp only;rw[hNn g0];show (mJ l (j:Int).toNat:Int)=e.1;rw[bh];exact thj.symm
  .have hd:=hNo x A;have eb:(bx (Js w (j:Int) e op ar1) x.2).bg=(bx ar x.2).bg:=by show (bx _ _).1.2.2.1=_;rw[hd]
   rw[eb];exact h.B x (yQ ws1.ks A).1
 .rcases hop x A with ⟨g0,rfl⟩|A
  .dsimp only at h1 h3 ⊢;rw[hNn g0]at h3;have q:=alx en (lk:=(lk:Int)) (by omega) (by omega) h1;rw[av (qE h3)]at q;exact q
  .have hd:=hNo x A;let⟨hxo,hne⟩:=yQ ws1.ks A;have er:(bx (Js w (j:Int) e op ar1) x.2).rd=(bx ar x.2).rd:=by show (bx _ _).1.2.2.2.2=_;rw[hd]
   rw[er]at h3;have ho:=h.K x hxo lk h1 h2 h3;have x0:0<=x.1.1:=by have:=h.B x hxo;omega
   refine aiw en rd (by omega) x0 ho λz=>?_
   have e1:x.1=(e.1,kq w e):=sG z.2 (h1.trans z.1.symm);refine hne ?_ e1;unfold scQ;rw[<- e1];exact ao6 hxo
def HBl (w:WT) (l:Y ET):WkH:=λj c _ _ sp wa wt _ _ op re ar si ei=>UI w l j (FD w (l.take j)) (Je w (l.take j)).1 sp wa wt op re ar si ei/\∀i:Nat,i<j->lec (c.getD i []) (sT w l i)
def awb {w:WT} {l:Y ET} (z:TR (w,l)):HK w l (HBl w l):=by
 refine ⟨⟨UI.zero w l,λi hi=>cu hi (fX _)⟩,λj c tm la sp wa wt st se op re ar si ei clk A g h D=>⟨h.1.next z A g,λi hi=>?_⟩⟩;have hcl:=g.ci.k.cl;by_cases e:i=j
 .subst e;rw[aw,<-hcl,n_,hcl,sH,au9,Su z A];exact ang (h.1.clk z A g h.2 D) _
 .rw[aw,bL (by omega),<-aw];exact h.2 i (by omega)
def al2 {w:WT} {l:Y ET} (z:TR (w,l)) (u:Nat):∀n:Nat,n<=l! l->ct l u n=Ft l u n
 |0,_=>rfl
 |n+1,h=>by
  have A:=al2 z u n (by omega);have e:=Su z (show n<l! l by omega);rw[ct,Ft,A,e];split<;>rfl
def Mn (P:Nat->Nat->Bool) (b:Nat):Nat->Y ν
 |0=>[]
 |i+1=>if P i b=J then Mn P b i++[((i:Int),(b:Int))] else Mn P b i
def KP (P:Nat->Nat->Bool):Nat->Y ν
 |0=>[]
 |b+1=>KP P b++Mn P b b
def LL (P:Nat->Nat->Bool) (b:Nat):∀i,l! (Mn P b i)<=i
 |0=>bK _
 |i+1=>by
  have:=LL P b i;rw[Mn];split
  .rw[bz,cq];omega
  .omega
def LK (P:Nat->Nat->Bool):∀b,b<=400->l! (KP P b)<=b*400
 |0,_=>lm _
 |b+1,h=>by
  have:=LK P b (by omega);have:=LL P b b;rw[KP,bz];omega
def Vu {P:Nat->Nat->Bool} (h:∀b,P b i=af):∀b,Mn P i b=[]
 |0=>rfl
 |b+1=>by rw[Mn,av (by rw[h];decide)];exact Vu h b
def ywB (w:WT) (l:Y ET) (b:Nat):Bool:=decide ((eN l b).2.1=3\/(eN l b).2.1=4)&& !(geti lZ w.1 (eN l b).2.2.1).2.2.2.1
def cwB (l:Y ET) (a b:Nat):Bool:=decide ((eN l a).2.1=3\/(eN l a).2.1=4)&&(decide ((eN l a).2.2.1=(eN l b).2.2.1)&& !decide ((eN l a).1=(eN l b).1))
def swB (l:Y ET) (a b:Nat):Bool:=decide ((eN l a).2.1=4)||decide ((eN l b).2.1=4)
def vwB (l:Y ET) (cs:Y η) (a b:Nat):Bool:=decide ((ct l (mJ l a) (a+1):Int)<=(cs.getD b []).getD (mJ l a) 0)
def Mb (w:WT) (l:Y ET) (cs:Y η) (a b:Nat):Bool:=ywB w l b&&(cwB l a b&&(swB l a b&& !vwB l cs a b))
set_option maxRecDepth 10000 in
def YB {w:WT} {l:Y ET} (tr:TR (w,l)) {H:WkH} (hH:HK w l H):Ok (lI (w,l)) λy=>y.2=0/\∃cs tm la sp wa wt st se op re ar si ei,WkG w l (l! l) cs tm la sp wa wt st se op re ar si ei/\H (l! l) cs tm la sp wa wt st se op re ar si ei/\y.1=KP (Mb w l cs) (l! l):=by
 have hl:l! l<=400:=tr.len;unfold lI xN hZ iR kl bf bw bH cE dJ gf iK ji Prod.B eD dQ hY bn bU jQ bR bY kK aZ c7 aH cV;refine bc (amv tr) (kB (aA (afs tr hH) ?_));rintro y ⟨c,tm,la,sp,wa,wt,st,se,op,re,ar,si,ei,rfl,g,h⟩;dsimp only;have hcl:=g.ci.k.cl;have htl:=g.ci.k.tl;refine gi (l! l) (by omega) (λb x=>x=((b:Int),(w,l),(w,l),KP (Mb w l c) b,c,tm,la,sp,wa,wt,st,se,op,re,si,ei,ar)) ?_ ?_ rfl
 .rintro b x hb rfl;have hev:PH w (eN l b):=tr.ev _ (uW hb);have hlo:=LK (Mb w l c) b (by omega);refine dB ?_;refine aX (λx=>x=((w,l),(w,l),KP (Mb w l c) (b+1),c,tm,la,sp,wa,wt,st,se,op,re,si,ei,ar)) ?_ ?_
  .refine cH (aT ?_);dsimp only;have hge:geti iZ l (b:Int)=eN l b:=rfl;rw[hge];refine aX (λx=>x=(!ywB w l b,(w,l),(w,l),KP (Mb w l c) b,eN l b,c,tm,la,sp,wa,wt,st,se,op,re,si,ei,ar)) ?_ ?_
   .unfold ywB;refine bc (Ab _) (dM (λh=>ak ?_) λh=>?_)
    .rw[h];rfl
    .have hc:=hev.nm.ce (bF h);refine aO hc.1 hc.2 (aT (ak ?_));rw[h,cY,Bool.not_not]
   rintro x rfl;dsimp only;rw[KP];refine dM (λhy=>ak ?_) λhy=>?_
   .rw[Vu (λi=>by unfold Mb;rw[hy];rfl),jU]
   refine cR (a? (a? ?_));have htk:l! (dx (aN (b:Int)) l)=b:=by rw[cg,bh];omega
   refine gi b (by omega) (λj x=>x=((j:Int),(w,l),(w,l),KP (Mb w l c) b++Mn (Mb w l c) b j,eN l b,c,tm,la,sp,wa,wt,st,se,op,re,si,ei,ar)) ?_ ?_ (by rw[Mn,jU];rfl)
   .rintro j x hj rfl;have hli:=LL (Mb w l c) b j;refine dB ?_ (by dsimp only;rw[htk];simp only[ay];omega);have hgj:geti iZ (dx (aN (b:Int)) l) (j:Int)=eN l j:=by
     rw[bh];show geti iZ (dx b l) (j:Int)=geti iZ l (j:Int);rw[tI,tI,aw,aw,List.getElem?_take_of_lt hj]
    refine aX (λx=>x=((w,l),(w,l),KP (Mb w l c) b++Mn (Mb w l c) b (j+1),eN l b,c,tm,la,sp,wa,wt,st,se,op,re,si,ei,ar)) ?_ ?_
    .refine aO (by dsimp only;omega) (by dsimp only;rw[htk];omega) (aT ?_);dsimp only;rw[hgj,Mn];refine aX (λx=>x=(!cwB l j b,(w,l),(w,l),KP (Mb w l c) b++Mn (Mb w l c) b j,eN l b,eN l j,c,tm,la,sp,wa,wt,st,se,op,re,si,ei,ar)) ?_ ?_
     .unfold cwB;refine bc (Ab _) (dM (λh=>ak ?_) λh=>cf (λh2=>ak ?_) λh2=>ak ?_)
      .rw[h];rfl
      .have h2:¬(eN l j).2.2.1=(eN l b).2.2.1:=h2;rw[cK h2,gO,Bool.and_false];rfl
      .have h2:(eN l j).2.2.1=(eN l b).2.2.1:=h2;rw[h,aS h2,cY,cY,Bool.not_not]
     rintro x rfl;dsimp only;refine dM (λhc=>ak ?_) λhc=>?_
     .rw[av (by unfold Mb;rw[hc,gO,Bool.and_false];decide)]
     refine aX (λx=>x=(swB l j b,(w,l),(w,l),KP (Mb w l c) b++Mn (Mb w l c) b j,eN l b,c,tm,la,sp,wa,wt,st,se,op,re,si,ei,ar)) ?_ ?_
     .unfold swB;refine aK (λh=>ak ?_) λh=>ak ?_
      .have h:(eN l j).2.1=4:=h;rw[aS h,Bool.true_or]
      .have h:¬(eN l j).2.1=4:=h;rw[cK h,FH]
     rintro x rfl;dsimp only;refine aX (λx=>x=(swB l j b&& !vwB l c j b,(w,l),(w,l),KP (Mb w l c) b++Mn (Mb w l c) b j,eN l b,c,tm,la,sp,wa,wt,st,se,op,re,si,ei,ar)) ?_ ?_
     .refine aP (λh=>?_) λh=>ak (by rw[h];rfl)
      refine cH (cH (aT (cH (cH (aT ?_)))));have e1:geti eU tm (j:Int)=((ct l (mJ l j) (j+1):Int),(mJ l j:Int)):=by
       have:=g.ci.tv j (by omega);rw[g.ci.own j (by omega)]at this;exact (tI (T:=eU) tm j).trans this
      have e2:geti (.sl aM) c (b:Int)=c.getD b []:=tI (T:=.sl aM) c b;rw[e1,e2];refine bc (adm _ _ _) (ak ?_);rw[h];rfl
     rintro x rfl;dsimp only;have hw:Mb w l c j b=(swB l j b&& !vwB l c j b):=by unfold Mb;rw[hy,hc,cY,cY]
     rw[hw];refine aP (λh=>bN ?_ (by omega) (ak ?_)) λh=>ak ?_
     .rw[cq,bz];omega
     .rw[aD h,ju]
     .rw[av (by rw[h];decide)]
    rintro x rfl;refine ak ?_;show (bl .i64 ((j:Int)+1),_)=_;rw[ig]
   .rintro x rfl;exact dw (ak rfl) (by dsimp only;rw[htk];simp only[ay];omega)
  rintro x rfl;refine ak ?_;show (bl .i64 ((b:Int)+1),_)=_;rw[ig]
 .rintro x rfl;exact dw (ak ⟨rfl,c,tm,la,sp,wa,wt,st,se,op,re,ar,si,ei,g,h,rfl⟩)
def Rq (k j v:Int):∀m:Y ν,wE (K:=.int .i64) (V:=.int .i64) j (uP (K:=.int .i64) (V:=.int .i64) k v m)=if j=k then Z v else wE (K:=.int .i64) (V:=.int .i64) j m
 |[]=>by
  show (if decide (j=k)=J then Z v else U)=_;by_cases h:j=k<;>simp[h,wE]
 |(a,b)::r=>by
  have z:=Rq k j v r;show wE (K:=.int .i64) (V:=.int .i64) j (if decide (k=a)=J then (k,v)::r else (a,b)::uP (K:=.int .i64) (V:=.int .i64) k v r)=if j=k then Z v else if decide (j=a)=J then Z b else wE (K:=.int .i64) (V:=.int .i64) j r
  by_cases h:k=a
  .subst h;rw[aD (aS rfl)];show (if decide (j=k)=J then Z v else wE (K:=.int .i64) (V:=.int .i64) j r)=_;by_cases g:j=k<;>simp[g]
  .rw[av (by simpa using h)];show (if decide (j=a)=J then Z b else wE (K:=.int .i64) (V:=.int .i64) j (uP (K:=.int .i64) (V:=.int .i64) k v r))=_;rw[z];by_cases g:j=a
   .subst g;rw[aD (aS rfl),av λq=>h q.symm,aD (aS rfl)]
   .simp only[g,dL,cL,dF]
def Rp (k j v d:Int) (m:Y ν):rh (K:=.int .i64) (V:=.int .i64) j (uP (K:=.int .i64) (V:=.int .i64) k v m) d=if j=k then v else rh (K:=.int .i64) (V:=.int .i64) j m d:=by
 unfold rh;rw[Rq];by_cases h:j=k<;>simp[h]
def epN (l:Y ET) (i:Nat):ν:=((Ft l (gH l i).th i:Int)+1,((gH l i).th:Int))
def XW (l:Y ET) (u:Nat):∀i,Ft l u i<=i
 |0=>bK _
 |i+1=>by have:=XW l u i;rw[Ft];split<;>omega
def ag1 {w:WT} {l:Y ET} (A:TR (w,l)):qR l=Z ((eA (l! l)).map (epN l)):=by
 have hl:=A.len;dsimp only at hl;refine cW ?_;unfold qR AX ck bU bR bY aZ c7 aH cV;refine cR (cR (dm (by dsimp only[ay];omega) (a? (a! ?_))));refine gi (l! l) (by omega) (λi x=>x.1=(i:Int)/\(∀u:Nat,rh (K:=.int .i64) (V:=.int .i64) (u:Int) x.2.1 0=(Ft l u i:Int))/\x.2.2=tA (l! l) (epN l) (0,0) i) ?_ ?_ ⟨rfl,λu=>rfl,by rw[abi];rfl⟩
 .rintro i ⟨x,m,r⟩ hi ⟨z,hm,e2⟩;dsimp only at z hm e2;subst z e2;refine dB ?_;refine cH (aT ?_);have et:=WM A hi;refine aO (by dsimp only;omega) (by dsimp only;rw[Sw];omega) (aO (by dsimp only;omega) (by dsimp only;rw[Sw];omega) (ak ?_));have hc:=XW l (gH l i).th i;have D:(geti iZ l (i:Int)).1=((gH l i).th:Int):=et.th;have L:bl .i64 (rh (K:=.int .i64) (V:=.int .i64) ((gH l i).th:Int) m 0+1)=(Ft l (gH l i).th i:Int)+1:=by rw[hm];exact jA
  dsimp only;refine ⟨ig,λu=>?_,?_⟩
  .rw[D,L,Rp,Ft];by_cases q:(gH l i).th=u
   .subst q;rw[aD rfl,aD rfl];rfl
   .rw[av (by omega),av q];exact hm u
  .rw[D,L,Rp,aD rfl,em];exact ai3 (f:=epN l) hi
 .rintro⟨x,m,r⟩ ⟨z,hm,e2⟩;dsimp only at z hm e2;subst z e2;refine dw (ak ?_);dsimp only;rw[ai4]
def akw {l:Y ET} (h:i<l! l):geti (.st (.pr (.int .i64) (.int .i64))) ((eA (l! l)).map (epN l)) (i:Int)=epN l i:=by
 rw[tI,aw,bB,KI h];rfl
def abd (c:η) (a:Int) (u:Nat):gI (c,a,(u:Int))=Z (decide (a<=c.getD u 0)):=by
 unfold gI;dsimp only;rw[Jm];rfl
def ay0:wC=mV:=rfl
def cfH (w:WT) (l:Y ET) (a b:Nat):Bool:=cwB l a b&&(ywB w l b&&swB l a b)
def aad {w:WT} {l:Y ET} (tr:TR (w,l)) (ha:i<l! l) (hb:j<l! l):rY ((w,l),(i:Int),(j:Int))=Z (cfH w l i j):=by
 have hev:PH w (eN l j):=tr.ev _ (uW hb);refine cW ?_;unfold rY bf bw c8 bn bY aH;refine cH (aT (cH (aT ?_)));have ga:geti iZ l (i:Int)=eN l i:=rfl;have gb:geti iZ l (j:Int)=eN l j:=rfl;dsimp only;rw[ga,gb,ay0];refine aX (λx=>x=(decide ((eN l i).1=(eN l j).1)|| !decide ((eN l i).2.2.1=(eN l j).2.2.1),(w,l),eN l i,eN l j)) ?_ ?_
 .refine aK (λh=>ak ?_) λh=>ak ?_
  .have h:(eN l i).1=(eN l j).1:=h;rw[aS h,Bool.true_or]
  .have h:¬(eN l i).1=(eN l j).1:=h;rw[cK h,FH]
 rintro x rfl;refine aP (λh=>ak ?_) λh=>?_
 .unfold cfH cwB;rcases Bool.or_eq_true_iff.1 h with h|h
  .rw[h];simp
  .rw[(ca _).mp h];simp
 let⟨h1,z⟩:=Bool.or_eq_false_iff.1 h;have z:decide ((eN l i).2.2.1=(eN l j).2.2.1)=J:=by simpa using z
 have eo:=bF z;refine aX (λx=>x=(!decide ((eN l i).2.1=3\/(eN l i).2.1=4)|| !ywB w l j,eN l i,eN l j)) ?_ ?_
 .refine bc (Ab _) (dM (λg=>ak ?_) λg=>bc (Ab _) (dM (λA=>ak ?_) λA=>?_))
  .rw[g];rfl
  .unfold ywB;rw[A];simp
  .have hc:=hev.nm.ce (bF A);refine aO (by dsimp only;rw[eo];exact hc.1) (by dsimp only;rw[eo];exact hc.2) (aT (ak ?_));dsimp only;rw[eo,g];unfold ywB;rw[A,cY,Bool.not_not];rfl
 rintro x rfl;unfold cfH cwB;refine aP (λh=>ak ?_) λh=>?_
 .rcases Bool.or_eq_true_iff.1 h with h|h
  .rw[(ca _).mp h];rfl
  .rw[(ca _).mp h];simp
 let⟨L,D⟩:=Bool.or_eq_false_iff.1 h;have L:decide ((eN l i).2.1=3\/(eN l i).2.1=4)=J:=(Bool.not_eq_false' _).mp L;have D:ywB w l j=J:=by simpa using D
 rw[L,D,z,h1];refine aX (λx=>x=swB l i j) ?_ (by rintro x rfl;exact ak (by simp));unfold swB;refine aK (λh=>ak ?_) λh=>ak ?_
 .have h:(eN l i).2.1=4:=h;rw[aS h,Bool.true_or]
 .have h:¬(eN l i).2.1=4:=h;rw[cK h,FH]
def YV (w:WT) (l:Y ET) (a b:Nat):Bool:=cfH w l a b&& !decide ((Ft l (gH l a).th a:Int)+1<=(sT w l b).getD (gH l a).th 0)
def aqg {w:WT} {l:Y ET} (z:TR (w,l)):tB (w,l)=Z (KP (YV w l) (l! l),0):=by
 have D:l! l<=400:=z.len;refine cW ?_;unfold tB Dt bU jQ bR bY aZ c7 aH cV;refine bc (ahc z) (kB (bc (ag1 z) ?_));refine gi (l! l) (by omega) (λb x=>x=((b:Int),(w,l),KP (YV w l) b)) ?_ ?_ rfl
 .rintro b x A rfl;have L:=LK (YV w l) b (by omega);refine dB ?_;refine gi b (by omega) (λi x=>x=((i:Int),(w,l),KP (YV w l) b++Mn (YV w l) b i)) ?_ ?_ ?_
  .rintro i x hi rfl;have hI:=LL (YV w l) b i;refine dB ?_;refine aX (λx=>x=((w,l),KP (YV w l) b++Mn (YV w l) b (i+1))) ?_ ?_
   .refine aX (λx=>x=(YV w l i b,(w,l),KP (YV w l) b++Mn (YV w l) b i)) ?_ ?_
    .refine bc (aad z (show i<l! l by omega) A) ?_;unfold YV;refine aP (λh=>?_) λh=>ak ?_
     .refine aO (by dsimp only;omega) (by dsimp only;rw[bM,vx];omega) (aT (aO (by dsimp only;omega) (by dsimp only;rw[bM,vx];omega) (aT ?_)));dsimp only;rw[al3 A,akw (show i<l! l by omega)];refine bc (abd _ _ _) (ak ?_);rw[h];rfl
     .rw[h];rfl
    rintro x rfl;rw[Mn];refine aP (λh=>bN ?_ (by omega) (ak ?_)) λh=>ak ?_
    .dsimp only;rw[bz,cq];omega
    .dsimp only;rw[aD h,ju]
    .dsimp only at h ⊢;rw[av (by rw[h];decide)]
   rintro x rfl;refine ak ?_;dsimp only;rw[ig]
  .rintro x rfl;refine dw (ak ?_);dsimp only;rw[ig];rfl
  .rw[Mn,jU];rfl
 .rintro x rfl;exact dw (ak rfl)
def ac0 {P Q:Nat->Nat->Bool} :∀b,(∀a,a<b->P a i=J->Q a i=J)->(Mn P i b).Sublist (Mn Q i b)
 |0,_=>List.Sublist.refl _
 |b+1,h=>by
  have z:=ac0 b λa A=>h a (by omega)
  rw[Mn,Mn];by_cases hp:P b i=J
  .rw[aD hp,aD (h b (by omega) hp)];exact z.append (List.Sublist.refl _)
  .rw[av hp];split
   .exact z.trans (List.sublist_append_left _ _)
   .exact z
def abz {P Q:Nat->Nat->Bool}:∀n,(∀a b,a<b->b<n->P a b=J->Q a b=J)->(KP P n).Sublist (KP Q n)
 |0,_=>List.Sublist.refl _
 |n+1,h=>by
  rw[KP,KP];exact (abz n λa b h1 A=>h a b h1 (by omega)).append (ac0 n λa z=>h a n z (by omega))
def ajf {w:WT} {l:Y ET} (D:TR (w,l)) {cs:Y η} (L:∀i:Nat,i<l! l->lec (cs.getD i []) (sT w l i)):(KP (YV w l) (l! l)).Sublist (KP (Mb w l cs) (l! l)):=by
 refine abz _ λa b hab hb h=>?_
 unfold YV cfH at h;unfold Mb;simp only[al]at h;let⟨⟨h1,h2,h3⟩,A⟩:=h;rw[h1,h2,h3,cY,cY,cY,ca];have A:=qE ((ca _).mp A);refine cK λz=>A ?_
 have e:=Su D (show a<l! l by omega);have:=L b hb (mJ l a);rw[al2 D _ (a+1) (by omega),e,DB]at z;rw[e]at this;omega
def Pc (a b c:η) (ha:l! a<=9223372036854775807) (hx:∀z∈a,0<=z/\z<=255) (hc:l! c<=9223372036854775807) (hy:∀z∈c,0<=z/\z<=255):Ok (nG (a,b,c)) λy=>y=J:=by
 unfold nG bn bU jQ bY aZ c7 aH cV;refine aA (P:=TR) (UJ a b c 50 (by omega) (by omega) ha hx hc hy) ?_;rintro⟨w,l⟩ L;have hl:l! l<=400:=L.len;refine aA (YB L (awb L)) ?_;rintro⟨A,e⟩ ⟨he,cs,tm,la,sp,wa,wt,st,se,op,re,ar,si,ei,g,D,hys⟩;dsimp only at he g D hys;subst he;refine bc (aqg L) ?_;have sub:=ajf L D.2;have ly:=LK (Mb w l cs) (l! l) (by omega);rw[<- hys]at sub ly;have lx:=sub.length_le;generalize KP (YV w l) (l! l)=xs at*
 refine aX (λx=>x=af) (kB (ak (by simp))) ?_;rintro x rfl;refine kB (cD (l! xs) (λi x=>∃k:Nat,x=((k:Int),(i:Int))/\(xs.drop i).Sublist (A.drop k)) ?_ ?_ ⟨0,rfl,by simpa using sub⟩)
 .rintro i x hi ⟨k,rfl,hk⟩;refine dB (cH (aT ?_));obtain⟨p,hp⟩:∃p:ν,geti eU xs (i:Int)=p:=⟨_,rfl⟩
  dsimp only;rw[hp];have e1:xs.drop i=p::xs.drop (i+1):=by
   rw[Q1 hi,<-hp];rw[tI (T:=eU) xs i,aw,aG hi];rfl
  rw[e1]at hk;refine cD (l! A-k) (λm x=>x=(((k+m:Nat):Int),p)/\(p::xs.drop (i+1)).Sublist (A.drop (k+m))) ?_ ?_ ⟨rfl,hk⟩
  .rintro m x hm ⟨rfl,D⟩;have hkm:k+m<l! A:=by omega
   have e2:A.drop (k+m)=A.getD (k+m) (0,0)::A.drop (k+m+1):=by
    rw[Q1 hkm,aw,aG hkm];rfl
   have g2:geti eU A ((k+m:Nat):Int)=A.getD (k+m) (0,0):=tI (T:=eU) A (k+m);generalize A.getD (k+m) (0,0)=q at*
   refine aX (λx=>x=(!decide (q=p),p)) ?_ ?_
   .refine dB (cH (aT (ak ?_)));dsimp only;rw[g2];have:Qr (.pr aM (.pr aM .un)) (q.1,q.2,()) (p.1,p.2,())=decide (q=p):=by
     let⟨q1,q2⟩:=q;let⟨p1,p2⟩:=p;by_cases h1:q1=p1<;>by_cases h2:q2=p2<;>simp[Qr,h1,h2]
    rw[this];cases decide (q=p)<;>rfl
   rintro x rfl;dsimp only;refine dM (λh=>ak ⟨?_,?_⟩) λh=>?_
   .rw[ig];rfl
   .have h:=qE h;rw[e2]at D;cases D with
    |cons _ D=>exact D
    |cons_cons _ D=>exact cu rfl h
   .refine aA (P:=λr=>r=oU (((k+m:Nat):Int),((i+1:Nat):Int))) ?_ ?_
    .refine aK (λg=>(by have g:((k+m:Nat):Int)=(l! A:Int):=g;omega)) λ_=>ak ?_
     rw[ig]
    rintro r rfl;exact ak ⟨k+m,rfl,(List.sublist_cons_self _ _).trans D⟩
  .rintro x ⟨rfl,D⟩;have:A.drop (k+(l! A-k))=[]:=List.drop_eq_nil_of_le (by omega);rw[this]at D;cases D
 .rintro x ⟨k,rfl,_⟩;exact dw (bc (x:=J) (by rw[aq0];rfl) (ak rfl))
def WeakMore_law (x:η×x!) (w:wfT (.st (.pr (.sl (.int .u8)) (.pr (.sl (.int .u8)) (.sl (.int .u8))))) x):nG x=Z J:=by
 let⟨a,b,c⟩:=x;let⟨⟨l0,w0⟩,_,⟨L,D⟩⟩:=w;obtain⟨y,h,rfl⟩:=Pc a b c l0 (λz A=>adu (w0 z A)) L (λz A=>adu (D z A));exact h
def ſ (n:Nat)(k l:Y Nat)(a:Y PV)(b:Y PB):Nat×amq:=(n,.j ⟨k,l,⟨a,b⟩,[]⟩)
def FS (n:Nat)(k l:Y Nat)(a:Y PV)(b:Y PB)(z:Y Adj):Nat×amq:=(n,.j ⟨k,l,⟨a,b⟩,z⟩)
abbrev abg (a:Y PV)(b:Y PB)(c:Y PV)(d:Y PB)(h:PT amq):FT:=⟨⟨a,b⟩,⟨c,d⟩,h⟩
def acg (a:Y PV)(b:Y PB)(c:Y PV)(d:Y PB)(h:PT amq)(m:(abg a b c d h).pre.ty.den->M (abg a b c d h).post.ty.den):cw:=cn (abg a b c d h) m
def Z!:PV:=.d aM
def Z?:PV:=.d .bool
def À:PB:=.H 2 J aM
def Á:PB:=.H 40 af (.sl aM)
def Â:PV:=.P 0 0
def Ã:PB:=.H 40 J (.sl aM)
def Ä:PB:=.G 42 [.d iZ]
def Å:PB:=.H 3 af aM
def Æ:PB:=.H 3 J aM
def Ç:PB:=.G 102 [.d wV]
def È:PV:=.d fB
def É:PB:=.G 147 [.d eU]
def Ê:PB:=.Q (.ir 3 aM) 0
def Ë:PV:=.d iZ
def Ì:PB:=.G 31 [.d oA]
def Í:PV:=.P 1 0
def Ï:PV:=.d oA
def Ð:PV:=.d (.sl aM)
def Ñ:PV:=.d (.sl .str)
def Ó:PB:=.H 9 J .str
def Ô:PB:=.G 89 [.d nY]
def Õ:PB:=.G 206 [.d sK]
def Ö:PB:=.H 4 J .bool
def Ø:PB:=.Q (.ar 162 l_) 0
def Ù:PV:=.P 2 0
def Ú:PV:=.d (.sl iI)
def Û:PV:=.nil
def Ü:PB:=.H 174 J iI
def Ý:PV:=.d wV
def Þ:PB:=.G 80 [.d B8]
def ß:PV:=.P 3 0
def à:PB:=.H 172 J eM
def á:PV:=.I 3
def â:PV:=.I 4
def ã:PV:=.d eU
def ä:PV:=.I 6
def å:PV:=.d nY
def æ:PV:=.I 0
def ç:PV:=.d (.sl eM)
def è:PV:=.d .str
def é:PV:=.I 7
def ê:PV:=.I 11
def ë:PV:=.d rB
def ì:PV:=.I 2
def í:PB:=.Q (.ir 4 .bool) 0
def î:PB:=.Q (.rr 40 1) 13
def ï:PB:=.G 34 [.d rB]
def ð:PV:=.I 1
def ñ:PB:=.G 144 [.d Sg]
def ò:PB:=.G 193 [.d fB]
def ó:PB:=.H 75 J eU
def ô:PV:=.I 5
def õ:PV:=.P 4 0
def ö:PV:=.d (.sl KH)
def ø:PV:=.d sK
def ú:PV:=.d uE
def û:PV:=.d Lw
def ü:PB:=.Q (.rr 40 1) 12
def ý:PV:=.ob 12 0
def þ:PV:=.qy 79 [(15,0),(16,0),(0,0)]
def ÿ:PV:=.qy 82 [(15,0),(0,0),(16,0)]
def ā:PV:=.d .ex
def Ă:PV:=.d yC
def ă:PB:=.qp 9 .str
def Ą:PV:=.I 8
def ą:PV:=.d Sg
def Ć:PB:=.qf
def ć:PV:=.d (.sl lZ)
def Ĉ:PV:=.d (.sl tM)
def ċ:PV:=.d (.sl itK)
def Č:PV:=.d B8
def č:PB:=.Q (.qn 158) 11
def Ď:PV:=.d (.sl pW)
def ď:PV:=.d (.sl uZ)
def Đ:PV:=.I 10
def đ:PB:=.G 86 [.I 2,.d aM,.I 3,.I 4]
def Ē:PB:=.G 3 [.d aM]
def ē:PB:=.G 86 [.qg 4 2 3,.d aM,.d uE,.d (.sl iI)]
def Ĕ:PB:=.Q (.rr 40 1) 14
def ĕ:PV:=.d .sm
def Ė:PB:=.G 86 [.d Lw]
def ė:PB:=.qp 216 .sm
def Ę:PV:=.P 16 0
def ę:PV:=.I 9
def Ě:PB:=.G 216 [.d .sm]
def ě:PB:=.G 214 [.d .ex]
def Ĝ:PV:=.qy 124 [(1,0)]
def ĝ:PV:=.P 6 0
def Ğ:PB:=.H 9 af .str
def ğ:PV:=.d (.sl .sm)
def Ġ:PB:=.H 172 af eM
def Ģ:PV:=.P 15 0
def Ĥ:PV:=.P 5 0
def ĥ:PV:=.d (.sl eU)
def Ħ:PV:=.d yB
def Ī:PV:=.P 14 0
def ī:PV:=.I 12
def Ĭ:PB:=.H 216 J .sm
def ĭ:PB:=.G 193 [.d aM,.I 3,.I 4,.d aM]
def Į:PV:=.qy 78 [(14,0)]
def į:PV:=.d (.st (.pr HR (.pr HR HR)))
def İ:PB:=.G 189 [.d Aj]
def ı:PB:=.G 124 [.d pW]
def Ĳ:PB:=.G 86 [.I 4,.d aM,.I 5,.I 6]
def ĳ:PB:=.H 124 J pW
def ĵ:PV:=.qg 1 1 4
def Ķ:PB:=.Q .qr 11
def ķ:PV:=.P 7 0
def ĸ:PB:=.Q (.rr 40 1) 15
def ĺ:PV:=.qg 4 1 4
def Ļ:PB:=.H 206 J sK
def ļ:PV:=.d (.sl iZ)
def Ľ:PB:=.mp itK .un
def Ŀ:PB:=.H 42 J iZ
def Ł:PB:=.H 52 J eU
def Ń:PB:=.G 97 [.d yC]
def ń:PB:=.G 72 [.d lZ]
def Ņ:PV:=.d (.int .u8)
def ň:PB:=.H 113 J itK
def Ō:PV:=.d HR
def ō:PB:=.H 122 J tM
def Ű:PB:=.G 102 [Ý]
def Ŷ:PB:=.G 147 [ã]
def Ů:PB:=.G 42 [Ë]
def Ų:PB:=.G 206 [ø]
def Ŕ:Y PV:=[Â,Í,Ù]
def ŕ:Y PV:=[ç,Z!,ú,Ú]
def Ŗ:Y PB:=[à,Ö,Ü,À,À]
def Ř:Y PV:=[ć,Ĉ,ċ,Ñ,Ñ,Ď]
def ř:Y PV:=[Z!,Z!]
def Ś:Y PB:=[À,Ã]
def ų:PB:=.G 80 [Č]
def Ū:Y PB:=[Æ,Æ,Æ]
def ş:Y PB:=[Á,Á,Á,Á,Á,Á,Á,Æ]
def ű:PB:=.G 89 [å]
def ů:PB:=.G 31 [Ï]
def Š:Y PB:=[ų,ű,ů]
def ŷ:PB:=.G 34 [ë]
def Ţ:Y PB:=[ŷ,ű]
def ţ:Y PV:=[Z!,Z!,Z!,Z!,Z!]
def Ť:Y PV:=[Í,Z!,Z!,Z?,Z?,Z?,Z?]
def Ź:PB:=.G 3 [Z!]
def ŧ:Y PB:=[ű,Ů]
def Ũ:Y PB:=[ů,Ů]
def ũ:Y PV:=[Z!,È,È]
def ū:Y PV:=[Û,Û,Û,Û,Û]
def Ŭ:Y PB:=[ů,ı]
def Ŵ:PB:=.G 144 [ą]
def ŵ:PB:=.G 193 [È]
def Ÿ:PB:=.G 86 [û]
def ź:PB:=.G 216 [ĕ]
def Ż:PB:=.G 214 [ā]
def ż:PB:=.G 86 [ì,Z!,á,â]
def ž:PB:=.G 193 [Z!,á,â,Z!]
abbrev xk:Y PV:=(ţ++[Û,Û])
def Î:PB:=.G 42 xk
abbrev yA:Y PV:=(Û::Z!::ū)
def Ò:PB:=.G 97 yA
def ľ:PB:=.G 89 yA
def š:Y PB:=[Ŷ,Ò,Î,Ů]
abbrev asu:Y PV:=(Ť++[â])
abbrev asy:Y PV:=[Z!,Z!,è,è,Û,Z!,Z!,è,Û,Û,Û]
abbrev La2:Y PB:=[.G 210 asu,ų,Ć,.G 216 asy,ă]
abbrev Sf:Y PV:=(Ŕ++[ß,õ,Ĥ,ĝ,ķ,Z?])
abbrev La4:Y PB:=[.G 202 (Ř++Ñ::ì::ř),Ć,Ļ]
abbrev La5:Y PB:=[.G 202 (Ř++Ñ::ð::ř),Ļ]
abbrev La6:Y PV:=[Z!,ê,ī,Z!]
def Ā:PB:=.G 193 La6
def Ŝ:Y PB:=[Ŷ,Ò,Î,Ů,Ā,Ų,À,À]
abbrev La7:Y PB:=[.G 144 [Û,Û],.G 210 [Ĥ,Z!,Z!,Z?,Z?,Z?,Z?,ä],.G 144 [ö,é],Ğ,.G 200 [è,Z!,Ą,ę],ų,ă,.H 200 J uZ,Ğ,Ĭ]
abbrev La8:Y PB:=[.G 241 [ö,ď,Z!,ð,ä,é],ė,Ć,Ć,ź,Ŵ,Ó,Ó]
abbrev La9:Y PV:=(ŕ++[Ą,ę,.qg 10 4 4])
def ņ:PB:=.G 97 La9
def Ő:Y PB:=(Ű::ņ::Ŝ)
abbrev aqt:Y PB:=[.G 97 (ŕ++[ä,é,.qg 8 4 4]),Ŷ,Ò,Î,Ů,ŵ,À,À,.G 193 [È,È,È,È]]
abbrev asv:Y PV:=(Ť++[ì])
abbrev UO:Y PV:=[Ō,Z!]
def ħ:PB:=.G 80 UO
abbrev abb:Y PB:=[.G 210 asv,ħ,ă]
abbrev QZ:Y PV:=(Ŕ++[ß,õ,Ĥ,ĝ,ķ,Z!])
abbrev ave:Y PV:=(ŕ++[Ą,ę,.qg 10 4 3])
def ő:Y PB:=(Ű::.G 97 ave::Ŝ)
abbrev avy:Y PB:=(ő++.G 193 (Z!::ê::ī::ũ)::Ś)
abbrev avx:Y PB:=(ő++.G 193 [È,Z!,ê,ī,Z!,È]::Ś)
abbrev avw:Y PB:=(ő++.G 193 [È,È,Z!,ê,ī,Z!]::Ś)
abbrev asx:Y PV:=(ŕ++[Ą,ę,.qg 10 4 2])
def ś:Y PB:=(Ű::.G 97 asx::Ŝ)
abbrev avv:Y PB:=(ś++.G 193 [Z!,ê,ī,Z!,È]::Ś)
abbrev avu:Y PB:=(ś++.G 193 [È,Z!,ê,ī,Z!]::Ś)
abbrev ah6:Y PB:=[.G 241 [ö,ď,Z!,ð,â,ô],ė,Ć,Ć,Ó,Ó]
abbrev QY:Y PV:=(Ŕ++[ß,õ,Ĥ,ĝ,Z?])
abbrev iC:Y PV:=[Â,Z?]
abbrev ah5:Y PB:=[.G 241 [ö,ď,Z!,ð,ì,á],ė,Ó,Ó]
abbrev avt:Y PB:=(Ű::.G 97 (ŕ++[Ą,ę,.qg 10 4 1])::Ŷ::Ò::Î::Ů::Ā::Ų::À::À::Ā::Ś)
abbrev QX:Y PV:=(Ŕ++[ß,õ,Ĥ,ĝ])
abbrev avs:Y PB:=(Ő++.G 193 [Z!,ê,ī,Z!,È,È,È]::Ś)
abbrev avr:Y PB:=(Ő++.G 193 (È::Z!::ê::ī::ũ)::Ś)
abbrev avq:Y PB:=(Ő++.G 193 [È,È,Z!,ê,ī,Z!,È]::Ś)
abbrev avp:Y PB:=(Ő++.G 193 [È,È,È,Z!,ê,ī,Z!]::Ś)
abbrev Pq:Y PB:=[ů,ű,Ů,ľ]
abbrev QW:Y PV:=(Ŕ++[ß,õ,Ĥ])
abbrev avo:Y PB:=[.G 97 (ŕ++[ä,é,.qg 8 4 3]),Ŷ,Ò,Î,Ů,ŵ,À,À,.G 193 [È,È,È]]
abbrev Yl:Y PV:=(ŕ++[é,Ą,.qg 9 4 4])
def Ĩ:PB:=.G 97 Yl
def Ŏ:Y PB:=(Ű::Ĩ::š)
abbrev sD:Y PV:=[Â,Í,Z?]
abbrev C':Y PV:=(Ŕ++[ß,Z?])
abbrev aql:Y PV:=(Û::ū)
def Ň:PB:=.G 31 aql
abbrev avn:Y PB:=[Ŵ,Ň,.G 31 [â,ô,ä,é,Û,Û],.G 244 [.d KH],.H 72 J lZ,ō,ň,Ó]
abbrev ah3:Y PV:=(Û::Û::ū)
def ŉ:PB:=.G 34 ah3
abbrev ayz:Y PV:=(Ř++[ô])
abbrev azb:Y PB:=[Ŵ,.G 102 ah3,.G 102 ayz,.G 202 (Ř++Ñ::ä::ř),.G 189 [Z!,ä],.H 189 J Aj,Ļ]
abbrev Lv:Y PV:=[æ,Z!,ð,ì]
def ġ:PV:=.agg Lv
def ģ:PV:=.agg [.agg Lv,.I 3,.I 4,.qg 5 4 2]
def Ž:PV:=.agg [ġ,á,â,.qg 5 4 2]
abbrev avm:Y PB:=(Š++Ŀ::.G 40 [ô,ä,é,Ą]::Æ::Ū)
abbrev Jj:Y PV:=(Ŕ++[Z!])
abbrev Pp:Y PV:=[Z!,Ð,Ħ,Z!]
def Ċ:PB:=.G 193 Pp
abbrev ah4:Y PV:=(ŕ++[é,Ą,.qg 9 4 3])
def Ĵ:PB:=.G 97 ah4
def ŏ:Y PB:=(Ű::Ĵ::š)
abbrev avl:Y PB:=(Š++.G 40 [â,ô,ä,é]::Æ::Ū)
abbrev HP:Y PV:=(Ŕ++[Z?])
abbrev yz:Y PV:=[Â,Í,Z!]
abbrev Po:Y PV:=[Z!,Đ,ê,Z!]
def ĉ:PB:=.G 193 Po
abbrev aqk:Y PV:=[Z!,æ,ð,Z!]
abbrev aeb:Y PV:=[Z!,Û,Û,Z!]
def ŀ:PB:=.G 193 aeb
abbrev avk:Y PB:=[À,Ã,Ų,.G 193 aqk,ŀ]
abbrev avj:Y PB:=[.G 241 [ö,ď,Z!,â,ô,ä],Ć,Ć,Ć,ė,Ó,Ó]
abbrev Fx:Y PV:=[Û,Z!,Û,Û]
def ù:PB:=.G 86 Fx
def Ŧ:Y PB:=[ů,.G 86 [.qg 4 2 3,Z!,ú,Ú],Ź,ù]
abbrev avi:Y PB:=[ż,ù,à,Ö,Ü]
abbrev Pn:Y PV:=[Â,ß,Z?]
abbrev aza:Y PB:=[ŉ,ų,.G 34 ayz,ű,.H 42 af iZ,Ŀ]
abbrev rA:Y PB:=[ů]
abbrev az9:Y PB:=[.G 97 (ŕ++[ä,é,.qg 8 4 2]),Ŷ,Ò,Î,Ů,ŵ,À,À,.G 193 [È,È]]
abbrev az8:Y PB:=(Š++Ŀ::.G 40 [é,Ą,ę,Đ]::Ů::ű::Æ::Ū)
abbrev aqs:Y PB:=[Ň,.G 31 [ì,á,â,ô,ä,é],.H 72 af lZ,.H 122 af tM,.H 113 af itK,Ğ,Ğ,ĳ]
abbrev xi:Y PV:=[Â,Z!]
abbrev amf:Y PV:=[ì,á,â,ô]
def Ĺ:PB:=.G 40 amf
def ŝ:Y PB:=(ų::Ĺ::Æ::Ū)
abbrev az7:Y PB:=(ŝ++[Î,.G 42 (ţ++[Ð,Û])])
abbrev aqr:Y PV:=(ŕ++[é,Ą,.qg 9 4 2])
def Ŋ:PB:=.G 97 aqr
def œ:Y PB:=(Ű::Ŋ::š)
abbrev QV:Y PV:=[Ă,Ë,Z?]
abbrev az6:Y PB:=(ŝ++[ű,ů,Î,Î])
abbrev az5:Y PB:=[Ŵ,Ň,.G 31 [á,â,ô,ä,Û,Û],.H 72 J lZ,ō,ň,Ó]
abbrev avh:Y PV:=(ŕ++[á,â,ô])
abbrev QU:Y PV:=[Ý,Ă,ã]
abbrev avg:Y PB:=[à,Ö,Ü,.G 86 Lv,Æ]
abbrev ami:Y PV:=[á,Z!,â,ô]
abbrev az4:Y PB:=[ů,.G 86 ami,ù,à,Ö,Ü]
abbrev Bp:Y PV:=ř
abbrev az3:Y PB:=(İ::ž::ŀ::Ś)
abbrev az2:Y PB:=[.G 210 asu,ų,Ć,Ĭ,ă]
abbrev avf:Y PB:=[Ŀ,Ű,.G 97 [Ă],Ò]
abbrev avd:Y PV:=(Ť++[á])
abbrev az1:Y PB:=[Î,ŵ,Ų,.G 42 (ţ++[â,Û]),Æ]
abbrev UN:Y PB:=[ź]
abbrev aqq:Y PV:=[.agg [ġ,á,â,.qg 5 4 4]]
abbrev Yk:Y PB:=[Ŵ]
abbrev avc:Y PB:=[ů,İ,Ų]
abbrev aqp:Y PB:=[Ŵ,.G 200 [.d uZ]]
abbrev aqo:Y PB:=[Ŵ,Ż]
abbrev avb:Y PB:=[à,Ö,Ü]
abbrev ava:Y PB:=[ů,Ó,ń]
abbrev aqn:Y PB:=[ů,Ų]
abbrev aqm:Y PV:=[Â,õ,Ĥ,Z?]
abbrev av9:Y PV:=(Ŕ++[ß,õ,Z!])
abbrev aba:Y PB:=[ů,Ÿ]
abbrev av8:Y PB:=[ų,Æ,Æ]
abbrev ah2:Y PB:=[ů,Ó]
abbrev av7:Y PB:=[Ů,ľ,.G 89 avh,À,À,Æ]
abbrev az0:Y PB:=(ħ::Ĺ::Æ::Ū)
abbrev Pm:Y PV:=[Ð,Z!]
abbrev UM:Y PV:=[Â,ð,Z!]
abbrev ah1:Y PB:=[.G 244 [.d KH]]
abbrev ah0:Y PB:=[ų]
abbrev av6:Y PV:=[.agg [ġ,á,â,.qg 5 4 3]]
abbrev Yj:Y PB:=[ħ]
abbrev amn:Y PB:=Ś
abbrev amm:Y PB:=[ů,İ]
abbrev aml:Y PB:=[Ű,.G 97 [Ă]]
abbrev ox:Y PV:=[Ð]
def ł:PB:=.G 40 ox
abbrev amk:Y PV:=(Ŕ++[ß])
abbrev asw:Y PV:=(ŕ++[é,Ą,.qg 9 4 1])
def ť:Y PB:=[Ű,.G 97 asw,Ŷ,Ò,Î,Ů]
abbrev amj:Y PB:=[Ÿ,Æ]
abbrev Ym:Y PV:=(Â::ř)
def tyT:PT Ty:=ef [(2,aM),(3,aM),(4,.bool),(9,.str),(40,(.sl aM)),(42,iZ),(52,eU),(72,lZ),(75,eU),(83,uE),(113,itK),(122,tM),(124,pW),(147,eU),(172,eM),(174,iI),(189,Aj),(193,fB),(200,uZ),(206,sK),(214,.ex),(216,.sm),(244,KH)]
def bZ (t:TypeId):M Ty:=tyT.get t
def QE:=acg [] [] [Ñ] [] .leaf lP
def OM:=acg [è] [] [Z?] [] (ef [ſ 8 [0,3] [4] [Z!] []]) mq
def XR:=acg [Ņ] [] [Z?] [] (ef [ſ 2 [] [2] [Z?] []]) mO
def aab:=acg [Ņ] [] [Z?] [] (ef [ſ 2 [] [2] [Z?] []]) s_
def aaa:=acg [Ņ] [] [Z?] [] (ef [ſ 2 [] [2] [Z?] []]) qP
def XS:=acg [è] [] [Z?] [] (ef [ſ 3 [0] [21] [Z?] [],ſ 14 [0] [3] [Z!] []]) fZ
def aa2:=acg [Z?] [] [Z!] [] .leaf gw
def aa3:=acg Bp [] [Z!,Z?] [] .leaf ww
def XN:=acg (Z!::ř) [] [Z!,Z?] [] (ef [ſ 91 [] [6,7] [Z!,Z?] [],ſ 97 [] [6,7] [Z!,Z?] []]) xD
def aa4:=acg Bp [] [Z!] [] (ef [ſ 12 [] [5] [Z!] []]) wy
def QD:=acg [Z!] [] [Z!] [] (ef [ſ 4 [0] [3] [Z?] [],ſ 10 [0] [10] [Z?] [],ſ 16 [] [17] [Z?] []]) nO
def qD:=abg [ā] [] [Z?] [] (ef [ſ 2 [] [1,3] iC [Ż],ſ 5 [] [1,50] iC [Ż],ſ 16 [] [1,4] xi [Ż]])
def Lj:cw:=cn qD jY
def KX (n:Nat):cw:=cn qD (iG n)
def aa9:=acg [ā] [] [Z?] [] (ef [ſ 2 [] [2] [Z?] []]) qO
def uY:=abg [ĕ] [] [Z?] [] (ef [ſ 3 [] [1,13] iC UN,ſ 10 [] [1,3] iC UN,ſ 13 [] [1,47] iC UN,ſ 21 [] [1,66] iC UN,ſ 29 [] [1,95] iC UN,ſ 36 [] [1,4] iC UN,ſ 39 [] [1,130] iC UN,ſ 46 [] [1,5] iC UN,ſ 49 [] [1,157] iC UN,ſ 56 [] [2] [Z?] []])
def KW (n:Nat):cw:=cn uY (eY n)
def pi:=abg [ğ] [] [Z?] [] (ef [ſ 6 [0] [3] [Z!] []])
def I7:cw:=cn pi o8
def It (n:Nat):cw:=cn pi (dV n)
def Li:=acg [.d KH] [] [Z?] [] (ef [ſ 3 [] [1,31] iC ah1,ſ 11 [] [1,50] iC ah1,ſ 18 [] [2] [Z?] []]) nE
def XQ:=acg [ą] [] [Z?] [] (ef [ſ 6 [] [1,3] xi Yk,ſ 27 [] [1,4] xi Yk,ſ 42 [4] [1,5,6] yz aqp,ſ 59 [4] [1,56] iC Yk]) rc
def apl:=acg [Ñ,è] [] [Z!] [] (ef [ſ 6 [0,1] [5] [Z!] []]) ku
def XP:=acg [ö,è] [] [Z!] [] (ef [ſ 6 [0,1] [5] [Z!] []]) jI
def Qz:=acg [ď,è] [] [Z!] [] (ef [ſ 6 [0,1] [5] [Z!] []]) jB
def XO:=acg [ą,Z!,è] [] [Z!] [] (ef [ſ 3 [2] [3,27] iC Yk,ſ 52 [7] [3,56] iC Yk]) uq
def agd:=acg (ą::Z!::è::ř) [] [Z!] [] (ef [ſ 13 [] [25] [Z?] []]) iv
def Bf:=abg [ā] [] Bp [] (ef [ſ 8 [] [1,4,5,6] (Â::Z!::ř) [Ż]])
def aa7:cw:=cn Bf Fa
def Zb (n:Nat):cw:=cn Bf (oM n)
def Be:=abg [ą,Z!,ā] [] [Z!] [] (ef [ſ 7 [1] [3,5,7] yz aqo,ſ 21 [1] [3,5,7,8] (Â::Í::ř) aqo,ſ 23 [1,7,8] [3,5,33] sD aqo])
def aa5:cw:=cn Be E_
def Za (n:Nat):cw:=cn Be (oL n)
def age:=acg [ą,Z!,ā] [] [Z!] [] (ef [ſ 13 [1] [3,5,22] sD aqo]) o7
def Uj:=acg [Z?] [] [Z!] [] .leaf dh
def apk:=acg Bp [] [Z!] [] .leaf jV
def I6:=acg [Â,Z!,Z!,è] ah5 [Z?] ah5 (ef [ſ 6 [1,2,3] [0,9] xi ah5,ſ 17 [1,2,3,9] [0,46] iC ah5]) eC
def Qx:=acg [Â,ĕ] ah5 [Z!] ah6 (ef [(1,(.a [.qx 0 4,.qx 0 5])),ſ 28 [6,7,8,9,30] [0,3,5,67] aqm La8,ſ 41 [] [4] [Z!] ah6,ſ 44 [6,7,8,9,30] [0,3,5,91] aqm La8,ſ 51 [] [4] [Z!] ah6,ſ 63 [] [4] [Z!] ah6,ſ 66 [6,7,8,9,30] [0,3,5,119] aqm La8,ſ 89 [] [4] [Z!] ah6,ſ 108 [] [0,3,187] [Â,õ,Z?] [.G 241 [ö,ď,Z!,ð,ô,ä],ė,Ć,Ć,ź,Ó,Ó],ſ 131 [] [4] [Z!] ah6,ſ 137 [6] [0,3,5,14] [Â,õ,Ĥ,Z!] La8,ſ 139 [6] [0,3,5,14] [Â,õ,Ĥ,Z!] La8,ſ 140 [6,14] [0,3,5,253] aqm La8]) nN
def tY:=abg [Â,ğ] ah5 Bp avj (ef [(1,(.a [.qx 0 3,.qx 0 4,.qx 0 5])),ſ 6 [1] [0,6] xi avj,ſ 19 [1,6] [0,7,8] [Â,õ,Z!] [.G 241 [ö,ď,Z!,ô,ä,é],Ć,Ć,Ć,ź,ė,Ó,Ó],ſ 37 [1,6] [0,8,9] Ym avj])
def Qy:cw:=cn tY yh
def P5 (n:Nat):cw:=cn tY (jD n)
def Bg:=abg [ğ] [] [Z!] [] (ef [ſ 8 [0] [3,4] Bp []])
def aa8:cw:=cn Bg Fb
def Zc (n:Nat):cw:=cn Bg (oN n)
def aa6:=acg [ö] [] Bp [] (ef [ſ 8 [0] [4,5,6,7,8] (Z!::Z!::Z!::ř) [],ſ 16 [0,8] [4,5,6,7] (Z!::Z!::ř) [],ſ 38 [0,8] [4,5,6,7,9] [Z!,Z!,Z!,Z!,Â] ah1,ſ 39 [0,4,5,6,7,8,36] [9,39] iC ah1,ſ 47 [0,4,5,6,7,8,36] [9,47] iC ah1,ſ 61 [0,4,5,6,7,8] [9,69] iC ah1]) s9
def Ui:=acg [ą] [] Bp [] (ef [ſ 6 [] [1,4] xi Yk,ſ 17 [4] [1,5,37] sD aqp,ſ 29 [] [1,6] xi Yk,ſ 51 [6] [1,7,8] yz aqp,ſ 62 [6,8] [1,7,90] sD aqp]) o6
def Uk:=acg [ą] [] Bp [] (ef [ſ 44 [] [1,8,9] Ym Yk,(67,(.a [.qh 10 3 216 .sm,.qh 10 4 9 .str,.qh 10 5 9 .str])),ſ 69 [] [1,10,11] yz [Ŵ,.G 241 [ö,ď,Z!,ì,á,â],ė,Ó,Ó]]) gm
def Bd:=abg [æ,Z!,Z!,ğ] [ĳ] [ð,Z!] [Ć,ĳ] (ef [(1,(.a [.qx 0 0])),ſ 6 [1,3] [0,2,10] (ð::ř) [Ć,ĳ],(25,(.a [.nil 8 124 pW]))])
def Z8:cw:=cn Bd ML
def Y' (n:Nat):cw:=cn Bd (qT n)
def XK:=acg [Ĉ,è] [] [Z!] [] (ef [ſ 6 [0,1] [5] [Z!] []]) mN
def XM:=acg [Ï,è] [] [Z!] [] (ef [ſ 6 [1] [2,5] xi rA]) oJ
def aa0:=acg [ą] [] [Ï] [] (ef [FS 18 [] [1,2,3,6] Jj az5 [.qh 3 0 72 lZ,.qh 3 1 122 tM,.qh 3 2 113 itK,.qh 3 3 9 .str],ſ 31 [6] [1,2,3] Ŕ az5,ſ 32 [6,31] [1,2,3,7,39] C' avn,ſ 42 [6] [1,2,3,7,8] (Ŕ++[ß,Z!]) avn,ſ 53 [6,31] [1,2,3,7,65] C' avn,(69,(.a [.qh 3 5 124 pW])),FS 71 [] [1,2,3,9] Jj [Ŵ,Ň,.G 31 [á,â,ô,ä,é,Ą],.H 72 J lZ,ō,ň,Ó,Ó,ĳ] [.qh 3 4 9 .str]]) wv
def Z9:=acg [Ï] [] [Ñ,Z?] [] (ef [FS 8 [] [1,4,5] UM ah2 [.nil 4 9 .str],ſ 15 [] [1,4,5] UM ah2,ſ 37 [5] [1,4,6,51] [Â,ð,Ù,Z?] ava,ſ 48 [5] [1,4,6,7] [Â,ð,Ù,Z!] ava,ſ 59 [5,7] [1,4,6,93] [Â,ð,Ù,Z?] ava,ſ 72 [] [1,4,9] UM ah2,ſ 87 [] [1,4,10] UM ah2]) qL
def Lh:=acg [Ï] [] [Z?] [] (ef [ſ 3 [] [1,49] iC rA,ſ 24 [3] [1,5] xi rA,ſ 33 [3,5] [1,79] iC rA,ſ 45 [] [1,6] xi rA,ſ 56 [6] [1,109] iC rA,ſ 68 [] [1,8] xi rA,ſ 76 [8] [1] [Â] rA,ſ 80 [8] [1,9,132] sD Ŭ,ſ 87 [8] [1,9,146] sD Ŭ,ſ 90 [8] [1,165] iC rA]) iF
def OL:=acg [ø] [] ox [] (ef [ſ 6 [4] [1,5] iC [Ų],ſ 24 [4] [1,13] iC [Ų],ſ 46 [4] [1,37] iC [Ų]]) kO
def XL:=acg [Z!] [] [Z?] [] (ef [ſ 2 [] [2] [Z?] []]) q_
def Z_:=acg [.d (.sl sK),Z!] [] [Z?] [] (ef [ſ 6 [0] [1,5] Bp [],ſ 14 [0,5] [1] [Z!] [],ſ 16 [0,1,5] [19] [Z?] []]) qM
def apj:=acg Bp [] [Z?] [] (ef [ſ 2 [] [4] [Z?] []]) kr
def Z':=acg (Ï::ř) [] [Z?] [] (ef [ſ 2 [] [6] [Z?] []]) qN
def Uf:=acg [Ï,ø] [] [Z?] [] (ef [ſ 9 [] [4] [Z?] [],ſ 15 [] [4] [Z?] [],ſ 30 [6] [2,3,59] sD aqn,ſ 37 [] [4] [Z?] [],ſ 40 [6] [2,3,78] sD aqn,ſ 55 [] [4] [Z?] [],ſ 58 [6] [2,3,98] sD aqn,ſ 72 [6] [2,3,108] sD aqn,ſ 97 [] [4] [Z?] [],ſ 103 [] [4] [Z?] []]) mW
def I5:=acg [Ï,Z!,.d Aj] [] [Z?] [] (ef [ſ 5 [1,7] [3,5,26] sD amm,ſ 16 [1,7] [3,5,8] yz amm,ſ 28 [1,7,8] [3,5,9,67] HP avc,ſ 36 [1,7,8] [3,5,9,100] HP avc,ſ 44 [1,7,8] [3,5,9,122] HP avc,ſ 56 [1,7,8,10] [3,5,11] yz amm]) iU
def aa1:=acg [Ý] [] [Z?] [] (ef [ſ 3 [] [1,17] iC [Ű],ſ 14 [] [1,3] xi [Ű]]) kN
def Ug:=acg [Â,ø] La5 [] La4 .leaf cO
def su:=abg [Â,ā,Z!] La5 [] La4 (ef [ſ 2 [] [] [] La4])
def OJ:cw:=cn su jH
def MV (n:Nat):cw:=cn su (jK n)
def Lg:=acg [Â,ĕ] La5 [] La4 .leaf nD
def Qw:=acg [Â,è] La5 [Z!] La5 (ef [ſ 6 [1] [0,5] xi La5]) kD
def sw:=abg [Â,ğ] La5 [] La4 (ef [(1,(.a [.qx 0 7])),ſ 3 [1] [0,4] xi La4])
def OK:cw:=cn sw wu
def MW (n:Nat):cw:=cn sw (ec n)
def yq:=abg [Â,ĕ] La5 [] La4 (ef [(1,(.a [.qx 0 7])),ſ 10 [] [] [] La4,ſ 15 [4,25] [0,3,31] [Â,Ù,Z?] [.G 202 (Ř++Ñ::á::ř),Ć,ź,Ļ]])
def P4 (n:Nat):cw:=cn yq (fk n)
def sx:=abg [Â,ĕ] La5 [] La4 .leaf
def Gq (n:Nat):cw:=cn sx (dt n)
def uX:=abg (Â::ĕ::Z!::ř) La5 [] La4 .leaf
def KV (n:Nat):cw:=cn uX (dX n)
def Uh:=acg [ą] [] (Ý::ř) [] (ef [FS 20 [] [1,2,7,8,9] (Ŕ++ř) [Ŵ,.G 102 ah3,.G 102 (Ř++[á]),.H 189 J Aj] [.qh 7 6 189 Aj],(32,(.a [.qh 10 7 206 sK])),ſ 45 [8,9] [1,2,7,10,11,12] av9 azb,ſ 59 [8,9,12,13] [1,2,7,10,11,14] av9 azb]) rV
def al6:=acg Pm [] [Z?] [] (ef [ſ 6 [0,1] [5] [Z!] []]) uo
def al5:=acg Pm [] ox [] (ef [ſ 6 [0,1] [5] [Z!] [],ſ 8 [0,1,5] [18] [Z?] [],ſ 16 [0,1,5] [32] [Z?] []]) y_
def Z7:=acg [Ð,Ð] [] ox [] (ef [ſ 8 [0,1] [5,6] Pm [],ſ 23 [1] [5,7] Pm []]) wq
def Qv:=acg [Z!] [] [Z!] [] (ef [ſ 3 [0] [8] [Z?] []]) nM
def agc:=acg [È] [] [.agg aqk] amn (ef [FS 8 [] [1,2,3,4] Jj (ŵ::ŀ::ž::Ś) [.qh 3 2 40 (.sl aM)]]) cA
def agb:=acg [ø,.agg aqk] amn [.agg aqk,Z?] amn (ef [ſ 8 [6] [2,3,4,7] [Ù,ß,õ,Z!] avk,ſ 17 [6,7] [2,3,4,33] [Ù,ß,õ,Z?] avk,ſ 32 [] [2,3,4,8,9,10] [Ù,ß,õ,Z!,Z?,Ð] avk]) yZ
def XJ:=acg [.d Aj,È] [] [È,Z?] [] (ef [ſ 3 [] [2,3,4,23] HP [İ,ŵ,ŀ],ſ 16 [] [2,3,4,6] Jj az3,ſ 26 [6] [2,3,4,44] HP az3]) oI
def Z5:=acg [Ï] [] [û] [] (ef [FS 8 [] [1,2,3,4] Jj [ů,ù,.G 86 [á,Z!,Û,Û],à] [.qh 3 0 172 eM],FS 23 [] [1,2,3,5] Jj [ů,ù,.G 86 [á,Z!,â,Û],à,Ö] [.qh 3 2 4 .bool],FS 38 [] [1,2,3,6] Jj [ů,ù,.G 86 ami,à,Ö,Ü] [.qh 3 3 174 iI],ſ 49 [6] [1,2,3,7] amk [ů,ù,.G 86 [â,Z!,ô,ä],.G 174 [.d iI],à,Ö,Ü]]) s7
def ag9:=acg [Ï,û] [] [Z?] [] (ef [ſ 6 [] [2,3,5] yz aba,ſ 15 [5] [2,3,31] sD aba,ſ 23 [] [4] [Z?] []]) s8
def api:=acg Bp [] [Z?] [] (ef [ſ 2 [] [4] [Z?] []]) rU
def Z4:=acg (Ï::ř) [] [Z?] [] (ef [ſ 6 [2,7] [3,8] iC rA,ſ 36 [2,7] [3,18] iC rA,ſ 46 [2,7] [3,26] iC rA,ſ 53 [] [6] [Z?] [],ſ 56 [2,7] [3,43] iC rA,ſ 71 [] [6] [Z?] [],ſ 74 [2,7] [3,61] iC rA,ſ 92 [2,7] [3,71] iC rA,ſ 102 [2] [3,79] iC rA]) wn
def Ue:=acg (Ï::û::Z!::ř) [] [Z?] [] (ef [ſ 3 [2,3,4] [5,6,30] sD aba,ſ 25 [] [10] [Z?] [],ſ 50 [] [10] [Z?] [],ſ 56 [] [10] [Z?] [],ſ 59 [2,4,70] [5,6,11,119] HP [ů,Ÿ,.G 174 [.d iI]],ſ 99 [2,4,70] [5,6,160] sD aba,ſ 116 [] [10] [Z?] [],ſ 122 [] [10] [Z?] []]) lK
def Ud:=acg [û,Z!] [] ox [] (ef [FS 8 [1] [2,5,6] UM amj [.nil 5 3 aM],ſ 16 [1,6] [2,5] [Â,ð] amj,ſ 17 [1,6] [2,5,30] [Â,ð,Z?] amj]) oZ
def Uc:=acg Pm [] ox [] (ef [FS 8 [0,1] [5,6] [æ,Z!] [Æ] [.nil 5 3 aM],ſ 16 [0,1,6] [5] [æ] [Æ]]) rT
def aga:=acg [û] [] [ġ] avb (ef [FS 8 [] [1,2,3,4] Jj [Ÿ,ù,.G 86 ami,à,Ö,Ü] [.qh 3 0 172 eM]]) iT
def nS:=abg [ġ,Z!] avb ox avb (ef [FS 8 [1] [2,5,6] [ß,â,Z!] avg [.nil 5 3 aM],ſ 16 [1,6] [2,5] [ß,â] avg,ſ 17 [1,6] [2,5,30] [ß,â,Z?] avg])
def Qu:cw:=cn nS nL
def OH:cw:=⟨nS.pre,⟨nS.post.vs,[]⟩,mo⟩
def Z6:=acg (Ï::û::Z!::Z!::ř) [] [û,Z!,Z?] [] (ef [ſ 17 [] [7,12,15] yz avi,ſ 26 [2,4,5,15,30] [6,7,12,45] HP az4,ſ 34 [2,4,5,15,30] [6,7,12,54] HP az4,ſ 90 [] [7,12,17] yz avi,ſ 109 [18] [7,12,19] yz avi]) qK
def Z3:=acg [Ý] [] [Ă] [] (ef [FS 16 [] [1,2,3,4] Jj [Ű,Ò,.G 97 (ŕ++[á,Û,Û]),À] [.qh 3 4 2 aM],FS 31 [] [1,2,3,5] Jj [Ű,Ò,.G 97 (ŕ++[á,â,Û]),À,À] [.qh 3 5 2 aM],FS 46 [] [1,2,3,6] Jj [Ű,Ò,.G 97 avh,À,À,.H 193 J fB] [.qh 3 6 193 fB]]) wj
def ag7:=acg [Ý,Ă] [] [Z?] [] (ef [ſ 3 [] [2,3,46] sD aml,ſ 14 [] [2,3,5] yz aml,ſ 25 [5] [2,3,97] sD aml]) yY
def ag5:=acg [Z!] [] [Z!] [] (ef [ſ 5 [0] [3,10] [æ,Z?] [Å]]) Dn
def Xn:=acg [ø,È] [] [Z!] [] (ef [ſ 6 [6] [2,3,7] sD [Ų,ŵ],ſ 28 [] [2,40] iC [Ų]]) xC
def Ub:=acg [Ý,Ă,Z!] [] [Ë,Z?] [] (ef [ſ 3 [2] [3,4,6,25] HP [Ű,.G 97 [Ă],Î],FS 54 [] [6,8,9,10] amk az1 [.qh 10 5 3 aM],ſ 59 [] [6,8,9,10,98] C' [Î,ŵ,Ų,Î],FS 68 [] [6,10] [Â,Í] [Î,.G 42 (ţ++[ì,á]),Æ,Æ] [.qh 10 6 3 aM],ſ 69 [] [6,8,9,10,123] C' az1]) oY
def Z1:=acg [Ï] [] [å] [] (ef [FS 8 [] [1,2,3,4] Jj [ů,ľ,.G 89 avh,À,.H 2 af aM,Å] [.qh 3 4 2 aM]]) oG
def ag4:=acg [Ï,å] [] [Z?] [] (ef [ſ 2 [] [4] [Z?] []]) yW
def aph:=acg Bp [] [Z?] [] (ef [ſ 2 [] [4] [Z?] []]) Gk
def Ua:=acg Pm [] [Z?] [] (ef [ſ 6 [0,1] [5] [Z!] [],ſ 15 [0,1,5] [40] [Z?] []]) rS
def ZZ:=acg [å,Ë] [] [Z?] [] (ef [ſ 21 [] [4] [Z?] [],ſ 24 [7] [2,3,40] sD ŧ,ſ 47 [] [4] [Z?] []]) AD
def ag3:=acg [Ï,å,Ë] [] [å,Z?] [] (ef [ſ 3 [] [3,4,5,6,46] C' Pq,ſ 10 [] [3,4,5,6] amk Pq,ſ 11 [] [3,4,5,6,55] C' Pq,ſ 21 [] [3,4,5,6,78] C' Pq,ſ 28 [] [3,4,5,6,8] C' Pq,ſ 31 [] [3,4,5,6,110] C' Pq,ſ 39 [] [3,4,5,6,125] C' Pq,ſ 47 [] [3,4,5,6,154] C' Pq,ſ 58 [] [3,4,5,6,9,10] av9 [ů,ű,Ů,ľ,.G 89 [Û,Z!,Û,Û,ô,ä,é],À,À,Æ],ſ 66 [] [5,6,9] Ŕ av7,ſ 72 [] [5,6,9] Ŕ av7]) s6
def Z0:=acg [ļ,Z!,Z!,Ð] [] [Z?] [] (ef [ſ 6 [0,1,2,3] [9] [Z!] [],ſ 23 [0,1,2,3,9] [10,11,12] [Z!,Z?,Z!] [],ſ 31 [0,1,2,3,9,12] [10,11] [Z!,Z?] [],ſ 38 [0,1,2,3,9,10,12] [11] [Z?] []]) s5
def Z2:=acg [ë] [] Bp [] (ef [ſ 24 [] [1,4,5] yz Ţ,ſ 38 [5] [1,4,7,63] HP (Ţ++[ű])]) wh
def XI:=acg [Ă] [] [.agg [ġ,á,â,.qg 5 4 1]] (Ŗ++.G 193 [Z!,ä,é,Z!]::Ś) (ef [(8,(.u 2))]) um
def Xy:=acg QU [] QV [] (ef [(27,(.s 5 0 0 1)),ſ 37 [] [3,4,5,6,7,9,14,15,16] QZ avt,ſ 38 [16,77] [3,4,5,6,7,9,14,15,78] Sf avt,ſ 83 [16] [3,4,5,6,7,9,14] QX (ť++ĉ::À::À::ĉ::Ś),ſ 84 [16] [3,4,5,6,7,9,14,15,154] Sf avt,ſ 95 [] [4,5,6,7,9,14] QW [.G 97 (ŕ++[ä,é,.qg 8 4 1]),Ŷ,Ò,Î,Ů,ŵ,À,À,ŵ],ſ 96 [] [3,4,5,6,7,9,14,183] QY (ť++[Ċ,À,À,Ċ]),(102,(.s 5 0 0 1)),(104,(.a [.pk 4 6 fB]))]) gZ
def XH:=acg [Ă] [] [Ž] (Ŗ++.G 193 [Z!,ä,é,Z!,È]::Ś) (ef [(8,(.u 3))]) ul
def Xx:=acg QU [] QV [] (ef [(27,(.s 5 0 0 1)),ſ 37 [] [3,4,5,6,7,9,14,15,16] QZ avv,ſ 38 [16,77] [3,4,5,6,7,9,14,15,78] Sf avv,ſ 83 [16] [3,4,5,6,7,9,14] QX (œ++ĉ::À::À::.G 193 [Z!,Đ,ê,Z!,È]::Ś),ſ 84 [16] [3,4,5,6,7,9,14,15,154] Sf avv,ſ 95 [] [4,5,6,7,9,14] QW az9,ſ 96 [] [3,4,5,6,7,9,14,183] QY (œ++[Ċ,À,À,.G 193 [Z!,Ð,Ħ,Z!,È]]),(102,(.s 5 0 0 1)),(104,(.a [.pk 4 6 fB]))]) iE
def XG:=acg [Ă] [] [Ž] (Ŗ++.G 193 [È,Z!,ä,é,Z!]::Ś) (ef [(8,(.u 3))]) uk
def Xw:=acg QU [] QV [] (ef [(27,(.s 5 0 1 1)),ſ 37 [] [3,4,5,6,7,9,14,15,16] QZ avu,ſ 38 [16,77] [3,4,5,6,7,9,14,15,78] Sf avu,ſ 83 [16] [3,4,5,6,7,9,14] QX (œ++ĉ::À::À::.G 193 [È,Z!,Đ,ê,Z!]::Ś),ſ 84 [16] [3,4,5,6,7,9,14,15,154] Sf avu,ſ 95 [] [4,5,6,7,9,14] QW az9,ſ 96 [] [3,4,5,6,7,9,14,183] QY (œ++[Ċ,À,À,.G 193 [È,Z!,Ð,Ħ,Z!]]),(102,(.s 5 0 1 1)),(104,(.a [.pk 4 6 fB]))]) gX
def XF:=acg [Ă] [] av6 (Ŗ++.G 193 (Z!::ä::é::ũ)::Ś) (ef [(8,(.u 4))]) uj
def Xv:=acg QU [] QV [] (ef [(27,(.s 5 0 0 1)),ſ 37 [] [3,4,5,6,7,9,14,15,16] QZ avy,ſ 38 [16,77] [3,4,5,6,7,9,14,15,78] Sf avy,ſ 83 [16] [3,4,5,6,7,9,14] QX (ŏ++ĉ::À::À::.G 193 (Z!::Đ::ê::ũ)::Ś),ſ 84 [16] [3,4,5,6,7,9,14,15,154] Sf avy,ſ 95 [] [4,5,6,7,9,14] QW avo,ſ 96 [] [3,4,5,6,7,9,14,183] QY (ŏ++[Ċ,À,À,.G 193 (Z!::Ð::Ħ::ũ)]),(102,(.s 5 0 0 1)),(104,(.a [.pk 4 6 fB]))]) lJ
def XE:=acg [Ă] [] av6 (Ŗ++.G 193 [È,Z!,ä,é,Z!,È]::Ś) (ef [(8,(.u 4))]) ui
def Xu:=acg QU [] QV [] (ef [(27,(.s 5 0 1 1)),ſ 37 [] [3,4,5,6,7,9,14,15,16] QZ avx,ſ 38 [16,77] [3,4,5,6,7,9,14,15,78] Sf avx,ſ 83 [16] [3,4,5,6,7,9,14] QX (ŏ++ĉ::À::À::.G 193 [È,Z!,Đ,ê,Z!,È]::Ś),ſ 84 [16] [3,4,5,6,7,9,14,15,154] Sf avx,ſ 95 [] [4,5,6,7,9,14] QW avo,ſ 96 [] [3,4,5,6,7,9,14,183] QY (ŏ++[Ċ,À,À,.G 193 [È,Z!,Ð,Ħ,Z!,È]]),(102,(.s 5 0 1 1)),(104,(.a [.pk 4 6 fB]))]) kC
def XD:=acg [Ă] [] av6 (Ŗ++.G 193 [È,È,Z!,ä,é,Z!]::Ś) (ef [(8,(.u 4))]) uh
def Xt:=acg QU [] QV [] (ef [(27,(.s 5 0 2 1)),ſ 37 [] [3,4,5,6,7,9,14,15,16] QZ avw,ſ 38 [16,77] [3,4,5,6,7,9,14,15,78] Sf avw,ſ 83 [16] [3,4,5,6,7,9,14] QX (ŏ++ĉ::À::À::.G 193 [È,È,Z!,Đ,ê,Z!]::Ś),ſ 84 [16] [3,4,5,6,7,9,14,15,154] Sf avw,ſ 95 [] [4,5,6,7,9,14] QW avo,ſ 96 [] [3,4,5,6,7,9,14,183] QY (ŏ++[Ċ,À,À,.G 193 [È,È,Z!,Ð,Ħ,Z!]]),(102,(.s 5 0 2 1)),(104,(.a [.pk 4 6 fB]))]) jG
def XC:=acg [Ă] [] aqq (Ŗ++.G 193 [Z!,ä,é,Z!,È,È,È]::Ś) (ef [(8,(.u 5))]) ug
def dU:=abg QU [] QV [] (ef [(27,(.s 5 0 0 1)),ſ 37 [] [3,4,5,6,7,9,14,15,16] QZ avs,ſ 38 [16,77] [3,4,5,6,7,9,14,15,78] Sf avs,ſ 83 [16] [3,4,5,6,7,9,14] QX (Ŏ++ĉ::À::À::.G 193 [Z!,Đ,ê,Z!,È,È,È]::Ś),ſ 84 [16] [3,4,5,6,7,9,14,15,154] Sf avs,ſ 95 [] [4,5,6,7,9,14] QW aqt,ſ 96 [] [3,4,5,6,7,9,14,183] QY (Ŏ++[Ċ,À,À,.G 193 [Z!,Ð,Ħ,Z!,È,È,È]]),(102,(.s 5 0 0 1)),(104,(.a [.pk 4 6 fB]))])
def Xs:cw:=cn dU qZ
def XB:=acg [Ă] [] aqq (Ŗ++.G 193 (È::Z!::ä::é::ũ)::Ś) (ef [(8,(.u 5))]) uf
def Xr:=acg QU [] QV [] (ef [(27,(.s 5 0 1 1)),ſ 37 [] [3,4,5,6,7,9,14,15,16] QZ avr,ſ 38 [16,77] [3,4,5,6,7,9,14,15,78] Sf avr,ſ 83 [16] [3,4,5,6,7,9,14] QX (Ŏ++ĉ::À::À::.G 193 (È::Z!::Đ::ê::ũ)::Ś),ſ 84 [16] [3,4,5,6,7,9,14,15,154] Sf avr,ſ 95 [] [4,5,6,7,9,14] QW aqt,ſ 96 [] [3,4,5,6,7,9,14,183] QY (Ŏ++[Ċ,À,À,.G 193 (È::Z!::Ð::Ħ::ũ)]),(102,(.s 5 0 1 1)),(104,(.a [.pk 4 6 fB]))]) qY
def XA:=acg [Ă] [] aqq (Ŗ++.G 193 [È,È,Z!,ä,é,Z!,È]::Ś) (ef [(8,(.u 5))]) ue
def Xq:=acg QU [] QV [] (ef [(27,(.s 5 0 2 1)),ſ 37 [] [3,4,5,6,7,9,14,15,16] QZ avq,ſ 38 [16,77] [3,4,5,6,7,9,14,15,78] Sf avq,ſ 83 [16] [3,4,5,6,7,9,14] QX (Ŏ++ĉ::À::À::.G 193 [È,È,Z!,Đ,ê,Z!,È]::Ś),ſ 84 [16] [3,4,5,6,7,9,14,15,154] Sf avq,ſ 95 [] [4,5,6,7,9,14] QW aqt,ſ 96 [] [3,4,5,6,7,9,14,183] QY (Ŏ++[Ċ,À,À,.G 193 [È,È,Z!,Ð,Ħ,Z!,È]]),(102,(.s 5 0 2 1)),(104,(.a [.pk 4 6 fB]))]) oH
def Xz:=acg [Ă] [] aqq (Ŗ++.G 193 [È,È,È,Z!,ä,é,Z!]::Ś) (ef [(8,(.u 5))]) ud
def Xo:=acg QU [] QV [] (ef [(27,(.s 5 0 3 1)),ſ 37 [] [3,4,5,6,7,9,14,15,16] QZ avp,ſ 38 [16,77] [3,4,5,6,7,9,14,15,78] Sf avp,ſ 83 [16] [3,4,5,6,7,9,14] QX (Ŏ++ĉ::À::À::.G 193 [È,È,È,Z!,Đ,ê,Z!]::Ś),ſ 84 [16] [3,4,5,6,7,9,14,15,154] Sf avp,ſ 95 [] [4,5,6,7,9,14] QW aqt,ſ 96 [] [3,4,5,6,7,9,14,183] QY (Ŏ++[Ċ,À,À,.G 193 [È,È,È,Z!,Ð,Ħ,Z!]]),(102,(.s 5 0 3 1)),(104,(.a [.pk 4 6 fB]))]) mM
def ag8:cw:=cn dU Do
def ag6:=acg [Ý,Ă,Û,ĥ] [] [ļ,Ă] [] (ef [(1,(.a [.nil 2 42 iZ])),ſ 6 [3] [2,4,5,9,10] [æ,Í,Ù,ß,Z!] avf,ſ 8 [3,10] [2,4,5,9,22] [æ,Í,Ù,ß,Z?] avf,ſ 14 [3,10] [2,4,5,9] [æ,Í,Ù,ß] avf]) yX
def al4:=acg [Ý,ĥ] [] [ë,Ă] [] .leaf Gl
def Ln:=acg xi Yj [Z!] Yj (ef [ſ 3 [1] [0,18] iC ah0]) bD
def agi:=acg [Z!] [] [ā] [] .leaf tu
def aag:=acg [è] [] [ā] [] .leaf qQ
def Uq:=acg [Z!,ā,ā] [] [ā] [] .leaf o9
def Ur:=acg [è,ā] [] [ĕ] [] .leaf kw
def XX:=acg [] [] [ö] [] .leaf ur
def QM:=acg [Ō] [] [ĥ] [] (ef [FS 8 [0] [3,4] [æ,Z!] [.H 147 J eU] [.nil 3 147 eU]]) tS
def pj:=abg xi abb [ā] abb (ef [ſ 8 [1,6] [0,4,5,14] [Â,ß,â,Z?] [.G 210 asv,ų,ă,.G 214 [Z!,Z!,è,Û],Ğ]])
def I_:cw:=cn pj fJ
def Iv (n:Nat):cw:=cn pj (mC n)
def HB:=acg [Â,è] abb [Z?] abb .leaf fh
def ou:=abg Ym abb [â] [.G 210 avd,ħ,Ć,ă,Ĭ] (ef [(1,(.a [.qx 0 7])),FS 8 [1,2] [0,7,8] [Â,á,Z!] az2 [.nil 7 216 .sm],ſ 10 [1,2,8] [0,7,22] [Â,á,Z?] az2,(21,(.a [.nil 6 216 .sm]))])
def HA:cw:=cn ou rX
def Gr (n:Nat):cw:=cn ou (dY n)
def tJ:=abg xi abb [ĕ] [.G 210 avd,ħ,Ć,ă] (ef [(1,(.a [.qx 0 7])),ſ 6 [1,5] [0,4,6] Pn La2,ſ 28 [1,5,6] [0,4,74] Pn La2,FS 33 [] [4,7] [ß,õ] [.G 210 (Ť++[ô]),ų,Ć,.G 216 asy,.G 216 [Z!,Z!,è,è,Û,Z!,Z!,è,.d (.sl .ex),ä,é],ă,Ĭ,Ĭ] [.qh 7 10 216 .sm],ſ 42 [1,5,6] [0,4,100] Pn La2,ſ 56 [1,5,6] [0,4,133] Pn La2,ſ 64 [1,5,6] [0,4,165] Pn La2,ſ 70 [1,5,6] [0,4,188] Pn La2,ſ 82 [1,5,6] [0,4,210] Pn La2,ſ 94 [5,6] [0,4,235] Pn La2,ſ 100 [5] [0,4,258] Pn La2,ſ 106 [5] [0,4,278] Pn La2,ſ 114 [] [0,4,308] Pn La2])
def Iu (n:Nat):cw:=cn tJ (e9 n)
def sA:=abg [Â,è,Z!] abb [ğ] [.G 210 avd,ħ,Ć,ă] .leaf
def Gs (n:Nat):cw:=cn sA (eJ n)
def QL:=acg [Ō] [] [ą] [] (ef [(5,(.a [.qh 3 7 9 .str])),FS 14 [5] [2,3,4,6,7] (Ŕ++[á,Z!]) [.G 144 [Û,Û],.G 210 [õ,Z!,Z!,Z?,Z?,Z?,Z?,ô],.G 144 [ö,ä],Ğ,ų,ă,.H 200 J uZ] [.qh 4 1 200 uZ],FS 27 [5,7] [2,3,4,6,8] (Ŕ++[á,õ]) La7 [.qh 8 3 216 .sm],FS 34 [5,7] [2,3,4,6,8,9] (Ŕ++[á,õ,Z!]) La7 [.qh 8 3 216 .sm],ſ 48 [5,7] [2,3,4,6,8] (Ŕ++[á,õ]) La7,ſ 49 [5,7] [2,3,4,6,8,79] (Ŕ++[á,õ,Z?]) La7]) pR
def aah:=acg [Ō] [] [Ý] [] .leaf AE
def XY:=acg [Ō,Ō] [] [ë] [] .leaf xE
def T9:=acg [] [] [Ï] [] (ef [FS 8 [21] [0,1,22] yz aqs [.qh 1 5 124 pW],ſ 22 [2,21,22] [0,1,3] yz aqs]) oW
def OG:=acg [å] [] ox [] (ef [FS 8 [8,9] [3,10] [æ,Z!] [Æ] [.nil 3 3 aM],ſ 16 [8,9,10] [3] [æ] [Æ]]) oF
def T7:=acg [] [] ox [] .leaf vz
def Qt:=acg Ym Yj [Z!] Yj (ef [ſ 6 [2,7] [0,8] iC ah0,ſ 16 [2,7] [0,16] iC ah0,ſ 26 [2,7] [0,21] iC ah0,ſ 44 [2,7] [0,26] iC ah0,ſ 70 [2] [0,33] iC ah0]) pO
def T6:=acg (Â::å::ř) Yj [Z!] Yj (ef [ſ 18 [10] [0,5,24] sD [ų,ű]]) rP
def Xl:=acg [Â,ð] [ħ,Æ] ox [ħ,Æ] (ef [FS 8 [9] [0,1,5,8,10] [Â,ð,ì,ð,Z!] av8 [.nil 5 3 aM],ſ 16 [9,10] [0,1,5,8] [Â,ð,ì,ð] av8,ſ 19 [7,9,10] [0,1,5,8,24] [Â,ð,ì,ð,Z?] av8]) iD
def T8:=acg [Â,å,Ï,ĵ] az0 [Ë] az0 (ef [ſ 8 [9] [0,3,5,6,8,11] [Â,ĵ,ĝ,ķ,.P 8 0,.P 9 0] az6,ſ 9 [9] [0,3,5,6,8,11,36] [Â,ĵ,ĝ,ķ,.P 8 0,.P 9 0,Z?] az6,ſ 18 [9] [0,3,8,11] [Â,ĵ,ĝ,ķ] az7,ſ 19 [9] [0,3,8,11,74] [Â,ĵ,ĝ,ķ,Z?] (ŝ++[Î,Î]),(22,(.s 9 0 0 4)),ſ 24 [] [8,11] [ĝ,ķ] (ŝ++[Î,.G 42 (ţ++[Ð,Ð])]),ſ 25 [9] [0,3,8,11,89] [Â,ĵ,ĝ,ķ,Z?] az7,(28,(.s 9 0 0 4))]) rQ
def Xm:=acg [Â,å,Ï,Z!,Z?] Yj [ļ] Yj (ef [(8,(.a [.qh 12 0 3 aM,.qh 12 1 3 aM,.qh 12 2 3 aM,.qh 12 3 3 aM])),ſ 9 [3,11] [0,6,7,12] (Ŕ++[.qg 3 1 4]) avl,(10,(.u 5)),ſ 18 [3,4,11,22,23] [0,6,7,12] (Ŕ++[.qg 3 1 4]) avl,ſ 21 [3,4,11,13,22,23] [0,6,7,12,39] (Ŕ++[.qg 3 1 4,Z?]) avl,FS 29 [3] [0,6,7,11,12] (Ŕ++[á,ĺ]) avm [.nil 11 42 iZ],ſ 31 [3] [0,6,7,11,12,65] (Ŕ++[á,ĺ,Z?]) avm,ſ 36 [3] [0,6,7,11,12] (Ŕ++[á,ĺ]) avm,ſ 47 [3] [0,6,7,11,12,14,15] (Ŕ++[á,ĺ,Ĥ,ĝ]) az8,ſ 48 [3] [0,6,7,11,12,14,15,87] (Ŕ++[á,ĺ,Ĥ,ĝ,Z?]) az8,(51,(.s 14 0 0 4))]) uc
def T_:=acg UO [] [ë] [] (ef [ſ 2 [1] [0,4] [Ō,Â] [ŉ],ſ 22 [1,9] [4,5,6,7,8,10] (Ŕ++[ß,â,Z!]) [ŉ,ų,.G 34 (Ř++[Û]),ű,.H 42 af iZ],FS 37 [1,48] [4,5,6,7,47,49] (Ŕ++[ß,â,Z!]) aza [.qh 6 6 42 iZ],ſ 45 [1,48,49] [4,5,6,7,47] (Ŕ++[ß,â]) aza]) rR
def I4:=acg [į,Z!] [] [ë] [] .leaf oX
def Qg:aJ Pg 156 QE:=mk _ _ an bZ
def Ng:aJ Pg 131 OM:=mk _ _ (ac Qg an) bZ
def JN:aJ Pg 130 XR:=mk _ _ an bZ
def ZA:aJ Pg 157 aab:=mk _ _ an bZ
def Zz:aJ Pg 132 aaa:=mk _ _ (ac JN (ac ZA an)) bZ
def uv:aJ Pg 101 XS:=mk _ _ (ac JN (ac Ng (ac Zz an))) bZ
def Nf:aJ Pg 209 aa2:=mk _ _ an bZ
def Zs:aJ Pg 193 aa3:=mk _ _ (ac Nf an) bZ
def Wo:aJ Pg 195 XN:=mk _ _ (ac Nf an) bZ
def Zt:aJ Pg 192 aa4:=mk _ _ an bZ
def Qf:aJ Pg 216 QD:=mk _ _ an bZ
def zF:∀n:Nat,aJ Pg 210 (KX n)
 |0=>JE qD
 |n+1=>mk qD (qA (iG n)) (ac uv (ac (zF n) (ac Qf an))) bZ
def By:aJ Pg 210 Lj:=(zF fuel)
def Zy:aJ Pg 211 aa9:=mk _ _ an bZ
def tF:∀n:Nat,aJ Pg 196 (KW n)/\aJ Pg 166 (It n)
 |0=>⟨JE uY,JE pi⟩
 |n+1=>⟨mk uY (lD (eY n) (dV n)) (ac uv (ac (tF n).2 (ac By (ac Zy an)))) bZ,mk pi (mA (eY n) (dV n)) (ac (tF n).1 an) bZ⟩
def IE:aJ Pg 166 I7:=(tF fuel).2
def K0:aJ Pg 165 Li:=mk _ _ (ac uv an) bZ
def Wq:aJ Pg 139 XQ:=mk _ _ (ac uv (ac K0 (ac IE an))) bZ
def xK:aJ Pg 102 apl:=mk _ _ an bZ
def xJ:aJ Pg 167 XP:=mk _ _ an bZ
def yl:aJ Pg 168 Qz:=mk _ _ an bZ
def Wp:aJ Pg 212 XO:=mk _ _ (ac xK (ac xJ (ac yl an))) bZ
def Rx:aJ Pg 199 agd:=mk _ _ (ac Wp an) bZ
def JQ:∀n:Nat,aJ Pg 213 (Zb n)
 |0=>JE Bf
 |n+1=>mk Bf (AU (oM n)) (ac (JQ n) an) bZ
def Zw:aJ Pg 213 aa7:=(JQ fuel)
def JP:∀n:Nat,aJ Pg 214 (Za n)
 |0=>JE Be
 |n+1=>mk Be (wL (oL n)) (ac Rx (ac (JP n) an)) bZ
def Zu:aJ Pg 214 aa5:=(JP fuel)
def afe:aJ Pg 200 age:=mk _ _ (ac By (ac Zw (ac Zu an))) bZ
def TE:aJ Pg 201 Uj:=mk _ _ an bZ
def aos:aJ Pg 198 apk:=mk _ _ an bZ
def ID:aJ Pg 197 I6:=mk _ _ an bZ
def Qd:aJ Pg 169 Qx:=mk _ _ (ac xK (ac xJ (ac yl (ac ID (ac aos (ac Rx (ac afe (ac TE an)))))))) bZ
def Cx:∀n:Nat,aJ Pg 143 (P5 n)
 |0=>JE tY
 |n+1=>mk tY (nR (jD n)) (ac (Cx n) (ac Qd an)) bZ
def Qe:aJ Pg 143 Qy:=(Cx fuel)
def JS:∀n:Nat,aJ Pg 142 (Zc n)
 |0=>JE Bg
 |n+1=>mk Bg (AW (oN n)) (ac (JS n) an) bZ
def Zx:aJ Pg 142 aa8:=(JS fuel)
def Zv:aJ Pg 140 aa6:=mk _ _ (ac xJ an) bZ
def TD:aJ Pg 141 Ui:=mk _ _ (ac xK (ac xJ (ac yl an))) bZ
def AQ:aJ Pg 105 Uk:=mk _ _ (ac Wq (ac Zv (ac TD (ac Zx (ac Qe an))))) bZ
def JO:∀n:Nat,aJ Pg 145 (Y' n)
 |0=>JE Bd
 |n+1=>mk Bd (AT (qT n)) (ac (JO n) an) bZ
def Zn:aJ Pg 145 Z8:=(JO fuel)
def JJ:aJ Pg 144 XK:=mk _ _ an bZ
def JM:aJ Pg 202 XM:=mk _ _ an bZ
def Zr:aJ Pg 106 aa0:=mk _ _ (ac AQ (ac JJ (ac Zn an))) bZ
def Zo:aJ Pg 100 Z9:=mk _ _ an bZ
def Bx:aJ Pg 57 Lh:=mk _ _ (ac Zo (ac uv (ac xK an))) bZ
def wI:aJ Pg 109 OL:=mk _ _ an bZ
def JL:aJ Pg 159 XL:=mk _ _ an bZ
def Zp:aJ Pg 134 Z_:=mk _ _ (ac JL an) bZ
def TA:aJ Pg 135 apj:=mk _ _ an bZ
def Zq:aJ Pg 158 Z':=mk _ _ (ac TA an) bZ
def Tz:aJ Pg 133 Uf:=mk _ _ (ac TA (ac Zq an)) bZ
def IC:aJ Pg 103 I5:=mk _ _ (ac wI (ac Tz (ac Zp (ac TA an)))) bZ
def Fl:aJ Pg 59 aa1:=mk _ _ (ac Bx (ac IC an)) bZ
def pd:aJ Pg 108 Ug:=mk _ _ an bZ
def BA:∀n:Nat,aJ Pg 174 (MV n)
 |0=>JE su
 |n+1=>mk su (sh (jK n)) (ac xK (ac pd (ac (BA n) (ac JM an)))) bZ
def wH:aJ Pg 174 OJ:=(BA fuel)
def KZ:aJ Pg 170 Lg:=mk _ _ (ac xK (ac pd (ac wH (ac JM an)))) bZ
def Qc:aJ Pg 173 Qw:=mk _ _ an bZ
def lB:∀n:Nat,aJ Pg 107 (MW n)/\aJ Pg 146 (P4 n)/\aJ Pg 171 (Gq n)/\aJ Pg 172 (KV n)
 |0=>⟨JE sw,JE yq,JE sx,JE uX⟩
 |n+1=>⟨mk sw (wK (ec n) (fk n) (dt n) (dX n)) (ac (lB n).2.1 an) bZ,mk yq (tW (ec n) (fk n) (dt n) (dX n)) (ac xK (ac pd (ac JJ (ac KZ (ac (lB n).2.2.1 (ac (lB n).2.2.2 (ac Qc (ac wH an)))))))) bZ,mk sx (od (ec n) (fk n) (dt n) (dX n)) (ac (lB n).1 (ac pd (ac wH an))) bZ,mk uX (uT (ec n) (fk n) (dt n) (dX n)) (ac (lB n).1 (ac pd an)) bZ⟩
def Nd:aJ Pg 107 OK:=(lB fuel).1
def TB:aJ Pg 62 Uh:=mk _ _ (ac AQ (ac Zr (ac Nd (ac pd (ac wI an))))) bZ
def Nc:aJ Pg 91 al6:=mk _ _ an bZ
def ak5:aJ Pg 128 al5:=mk _ _ an bZ
def Nb:aJ Pg 94 Z7:=mk _ _ (ac ak5 an) bZ
def Qb:aJ Pg 194 Qv:=mk _ _ an bZ
def mz:aJ Pg 163 agc:=mk _ _ an bZ
def afd:aJ Pg 164 agb:=mk _ _ (ac Nb (ac wI (ac Zs (ac Qb (ac Wo an))))) bZ
def kE:aJ Pg 138 XJ:=mk _ _ (ac JL (ac mz (ac afd an))) bZ
def Na:aJ Pg 49 Z5:=mk _ _ an bZ
def IB:aJ Pg 88 ag9:=mk _ _ an bZ
def acy:aJ Pg 89 api:=mk _ _ an bZ
def Zm:aJ Pg 90 Z4:=mk _ _ (ac acy an) bZ
def GD:aJ Pg 52 Ue:=mk _ _ (ac IB (ac acy (ac Zm (ac Nc an)))) bZ
def Tx:aJ Pg 92 Ud:=mk _ _ an bZ
def Tw:aJ Pg 95 Uc:=mk _ _ an bZ
def my:aJ Pg 93 aga:=mk _ _ an bZ
def Qa:aJ Pg 92 Qu:=mk nS nL an bZ
def M':aJ Pg 92 OH:= @aJ.ro Pg 92 nS.pre nS.post.vs nL mo (Qa.holds rfl) rfl (λx _ h=>by rw[show mo x=aB (nL x) λy=>same y.2 x.2 (Z y.1) from rfl]at h;exact h)
def kQ:aJ Pg 55 Z6:=mk _ _ (ac GD (ac Nc (ac M' (ac my (ac Nb (ac Tw an)))))) bZ
def Zl:aJ Pg 61 Z3:=mk _ _ (ac Na (ac Fl an)) bZ
def afb:aJ Pg 160 ag7:=mk _ _ (ac Fl (ac IB an)) bZ
def af9:aJ Pg 161 ag5:=mk _ _ an bZ
def V4:aJ Pg 162 Xn:=mk _ _ (ac Zt an) bZ
def jC:aJ Pg 136 Ub:=mk _ _ (ac afb (ac af9 (ac V4 an))) bZ
def M_:aJ Pg 26 Z1:=mk _ _ (ac Na an) bZ
def af8:aJ Pg 50 ag4:=mk _ _ (ac IB an) bZ
def aor:aJ Pg 51 aph:=mk _ _ an bZ
def Tv:aJ Pg 53 Ua:=mk _ _ an bZ
def Zi:aJ Pg 54 ZZ:=mk _ _ (ac Nc (ac Tx an)) bZ
def IA:aJ Pg 28 ag3:=mk _ _ (ac af8 (ac aor (ac GD (ac Tv (ac Zi (ac kQ an)))))) bZ
def Zj:aJ Pg 58 Z0:=mk _ _ an bZ
def Zk:aJ Pg 30 Z2:=mk _ _ (ac M_ (ac IA (ac Bx (ac Zj an)))) bZ
def Q4 (t:TypeId):M Ty:=if ax t 193 then Z (.pr .un fB) else bZ t
def Wn:aJ Pg 137 XI:=mk _ _ (ac my (ac mz an)) Q4
def Wd:aJ Pg 104 Xy:=mk _ _ (ac kQ (ac jC (ac Wn (ac kE an)))) Q4
def Wm:aJ Pg 137 XH:=mk _ _ (ac my (ac mz an)) Q4
def Wc:aJ Pg 104 Xx:=mk _ _ (ac kQ (ac jC (ac Wm (ac kE an)))) Q4
def Wl:aJ Pg 137 XG:=mk _ _ (ac my (ac mz an)) Q4
def Wb:aJ Pg 104 Xw:=mk _ _ (ac kQ (ac jC (ac Wl (ac kE an)))) Q4
def Wk:aJ Pg 137 XF:=mk _ _ (ac my (ac mz an)) Q4
def Wa:aJ Pg 104 Xv:=mk _ _ (ac kQ (ac jC (ac Wk (ac kE an)))) Q4
def Wj:aJ Pg 137 XE:=mk _ _ (ac my (ac mz an)) Q4
def V_:aJ Pg 104 Xu:=mk _ _ (ac kQ (ac jC (ac Wj (ac kE an)))) Q4
def Wi:aJ Pg 137 XD:=mk _ _ (ac my (ac mz an)) Q4
def V9:aJ Pg 104 Xt:=mk _ _ (ac kQ (ac jC (ac Wi (ac kE an)))) Q4
def Wh:aJ Pg 137 XC:=mk _ _ (ac my (ac mz an)) Q4
def V8:aJ Pg 104 Xs:=mk dU qZ (ac kQ (ac jC (ac Wh (ac kE an)))) Q4
def Wg:aJ Pg 137 XB:=mk _ _ (ac my (ac mz an)) Q4
def V7:aJ Pg 104 Xr:=mk _ _ (ac kQ (ac jC (ac Wg (ac kE an)))) Q4
def Wf:aJ Pg 137 XA:=mk _ _ (ac my (ac mz an)) Q4
def V6:aJ Pg 104 Xq:=mk _ _ (ac kQ (ac jC (ac Wf (ac kE an)))) Q4
def We:aJ Pg 137 Xz:=mk _ _ (ac my (ac mz an)) Q4
def V5:aJ Pg 104 Xo:=mk _ _ (ac kQ (ac jC (ac We (ac kE an)))) Q4
def afc:aJ Pg 104 ag8:=(aJ.orE (pre:=dU.pre) (post:=dU.post) (m:=qZ) (m':=(λx=>orE (qY x) ((λx=>orE (oH x) ((λx=>orE (mM x) ((λx=>orE (lJ x) ((λx=>orE (kC x) ((λx=>orE (jG x) ((λx=>orE (iE x) ((λx=>orE (gX x) (gZ x)) x)) x)) x)) x)) x)) x)) x))) rfl V8 (aJ.orE (pre:=dU.pre) (post:=dU.post) (m:=qY) (m':=(λx=>orE (oH x) ((λx=>orE (mM x) ((λx=>orE (lJ x) ((λx=>orE (kC x) ((λx=>orE (jG x) ((λx=>orE (iE x) ((λx=>orE (gX x) (gZ x)) x)) x)) x)) x)) x)) x))) rfl V7 (aJ.orE (pre:=dU.pre) (post:=dU.post) (m:=oH) (m':=(λx=>orE (mM x) ((λx=>orE (lJ x) ((λx=>orE (kC x) ((λx=>orE (jG x) ((λx=>orE (iE x) ((λx=>orE (gX x) (gZ x)) x)) x)) x)) x)) x))) rfl V6 (aJ.orE (pre:=dU.pre) (post:=dU.post) (m:=mM) (m':=(λx=>orE (lJ x) ((λx=>orE (kC x) ((λx=>orE (jG x) ((λx=>orE (iE x) ((λx=>orE (gX x) (gZ x)) x)) x)) x)) x))) rfl V5 (aJ.orE (pre:=dU.pre) (post:=dU.post) (m:=lJ) (m':=(λx=>orE (kC x) ((λx=>orE (jG x) ((λx=>orE (iE x) ((λx=>orE (gX x) (gZ x)) x)) x)) x))) rfl Wa (aJ.orE (pre:=dU.pre) (post:=dU.post) (m:=kC) (m':=(λx=>orE (jG x) ((λx=>orE (iE x) ((λx=>orE (gX x) (gZ x)) x)) x))) rfl V_ (aJ.orE (pre:=dU.pre) (post:=dU.post) (m:=jG) (m':=(λx=>orE (iE x) ((λx=>orE (gX x) (gZ x)) x))) rfl V9 (aJ.orE (pre:=dU.pre) (post:=dU.post) (m:=iE) (m':=(λx=>orE (gX x) (gZ x))) rfl Wc (aJ.orE (pre:=dU.pre) (post:=dU.post) (m:=gX) (m':=gZ) rfl Wb Wd)))))))))
def afa:aJ Pg 60 ag6:=mk _ _ (ac afc an) bZ
def ak4:aJ Pg 31 al4:=mk _ _ (ac Fl (ac afa (ac Zl an))) bZ
def gd:aJ Pg 27 Ln:=mk _ _ an bZ
def IG:aJ Pg 113 agi:=mk _ _ an bZ
def Nm:aJ Pg 177 aag:=mk _ _ an bZ
def GR:aJ Pg 176 Uq:=mk _ _ an bZ
def GU:aJ Pg 112 Ur:=mk _ _ an bZ
def Ws:aJ Pg 110 XX:=mk _ _ an bZ
def Qm:aJ Pg 33 QM:=mk _ _ an bZ
def xL:∀n:Nat,aJ Pg 175 (Iv n)
 |0=>JE pj
 |n+1=>mk pj (zG (mC n)) (ac gd (ac IG (ac (xL n) (ac GR (ac Nm an))))) bZ
def IH:aJ Pg 175 I_:=(xL fuel)
def GP:aJ Pg 178 HB:=mk _ _ (ac xK an) bZ
def kR:∀n:Nat,aJ Pg 111 (Gr n)/\aJ Pg 147 (Iu n)/\aJ Pg 179 (Gs n)
 |0=>⟨JE ou,JE tJ,JE sA⟩
 |n+1=>⟨mk ou (og (dY n) (e9 n) (eJ n)) (ac (kR n).2.1 an) bZ,mk tJ (pf (dY n) (e9 n) (eJ n)) (ac gd (ac (kR n).1 (ac GU (ac IG (ac IH (ac GR (ac Nm (ac GP (ac (kR n).2.2 an))))))))) bZ,mk sA (oh (dY n) (e9 n) (eJ n)) (ac gd (ac (kR n).1 an)) bZ⟩
def GM:aJ Pg 111 HA:=(kR fuel).1
def Ql:aJ Pg 63 QL:=mk _ _ (ac gd (ac AQ (ac Ws (ac GM (ac GU (ac IG an)))))) bZ
def ZC:aJ Pg 32 aah:=mk _ _ (ac TB (ac Ql an)) bZ
def Wt:aJ Pg 15 XY:=mk _ _ (ac ak4 (ac ZC (ac Qm an))) bZ
def Tt:aJ Pg 25 T9:=mk _ _ an bZ
def M8:aJ Pg 129 OG:=mk _ _ an bZ
def Tr:aJ Pg 96 T7:=mk _ _ an bZ
def P':aJ Pg 97 Qt:=mk _ _ (ac gd an) bZ
def Tq:aJ Pg 98 T6:=mk _ _ (ac gd (ac M8 an)) bZ
def V0:aJ Pg 99 Xl:=mk _ _ (ac gd an) bZ
def Ts:aJ Pg 56 T8:=mk _ _ (ac gd (ac Tr (ac P' (ac Tq (ac V0 an))))) bZ
def tv1 (t:TypeId):M Ty:=if ax t 40 then Z (.pr .un (.pr .un (.pr .un (.pr .un (.pr .un (.sl aM)))))) else bZ t
def V3:aJ Pg 29 Xm:=mk _ _ (ac gd (ac IA (ac Ts an))) tv1
def Tu:aJ Pg 14 T_:=mk _ _ (ac Tt (ac M_ (ac gd (ac IA (ac V3 (ac Zk an)))))) bZ
def Iz:aJ Pg 5 I4:=mk _ _ (ac Tu (ac Wt an)) bZ
abbrev av5:Y PV:=[ð,ì,á,â,ô,ä,Ð,é,Ą]
def Ş:Y PB:=(.G 65 av5::ş)
abbrev Ld0:Y PB:=(Ş++[Å])
abbrev Ld7:Y PV:=(ţ++[Ð,Ð])
def ŋ:PB:=.G 42 Ld7
abbrev Ld8:Y PV:=Ř
abbrev Ld1:Y PB:=(ŋ::.G 65 [á,â,ô,ä,é,Ą,Ð,ę,Đ]::.G 31 Ld8::ş)
abbrev Ld2:Y PB:=(Ş++[Å,ŋ])
abbrev Ld3:Y PB:=[Ġ,Ö,Ü,.G 86 Lv]
abbrev Ld4:Y PB:=[Ġ,Ö,Ü]
abbrev Ld5:Y PB:=[ű,Ů,.G 221 [.d Kd1]]
abbrev Ld6:Y PB:=[Æ]
abbrev Ld9:Y PB:=[Æ,Ź]
abbrev ayx:Y PB:=[ů,.G 86 [â,Z!,ô,ä],Ź,ù,Ġ,Ö,Ü]
abbrev Ji:Y PB:=[Å]
abbrev ayw:Y PB:=[ù,ż,Ġ,.H 4 af .bool,.H 174 af iI]
abbrev aqj:Y PB:=[ŷ,Ł]
abbrev ame:Y PB:=[Á]
abbrev UL:Y PV:=[æ,Z!]
abbrev av4:Y PB:=[Á,Å]
abbrev agz:Y PB:=[Ů]
abbrev aqi:Y PV:=[Â,Í,ì,Z!]
abbrev av3:Y PV:=Ŕ
def agp:=acg Pm [] [Z!] [] (ef [ſ 3 [0,1] [12] [Z?] []]) kH
def Kx:=abg [Ð,Ð] [] ox [] (ef [ſ 8 [0,1,14] [5,15] UL Ji])
def X3:cw:=cn Kx jJ
def HE:=acg ox [] ox [] .leaf Tg
def aub:cw:=⟨HE.pre,HE.post,Fe⟩
def Oq:=abg [Ħ] [] [æ] ame (ef [ſ 8 [9,10] [3,11] UL ame])
def aam:cw:=cn Oq iV
def C6:=acg ox [] [æ] Ld6 (ef [(8,(.a [.nil 2 3 aM])),(12,(.a [.nil 2 3 aM]))]) MQ
def apv:cw:=⟨C6.pre,C6.post,qu⟩
def aan:=acg [.d Kd0] [] [.agg [æ,ð,ì,á,â,ô,Ð,ä,é]] ş .leaf wB
def agj:=acg UL ame ox ame (ef [ſ 3 [1] [0,12] [æ,Z?] ame]) vO
def aap:=acg av3 Ld1 [Ħ] Ld1 (ef [ſ 18 [6] [0,1,2,25] HP Ld1]) wD
def R1:=abg [Ï] [] [.d Kd0] [] (ef [ſ 8 [40] [2,3,41] yz [.G 65 (Û::Û::Û::Û::ū),.G 65 [ì,á,â,ô,ä,é,Û,Ą,ę],Á,Á,Á,Á,Á,Á,Á,Å]])
def agl:cw:=cn R1 rf
def X2:=acg Pm [] [æ] Ji (ef [ſ 4 [0,1,5] [6] [Z?] [],ſ 6 [0,1,6] [5] [Z!] [],ſ 16 [] [7] [æ] Ji,ſ 17 [1] [7,33] [æ,Z?] Ji]) ri
def zU:=abg [æ] Ji ox Ji .leaf
def aln:cw:=cn zU zu
def apu:cw:=⟨zU.pre,⟨zU.post.vs,[]⟩,xF⟩
def DA:=abg [Ð,æ] Ji ox Ji (ef [ſ 8 [0,14] [1,5,15] [æ,ð,Z!] [Å,Å]])
def aps:cw:=cn DA vB
def aua:cw:=⟨DA.pre,⟨DA.post.vs,[]⟩,Fd⟩
def aak:=acg [æ,Z!,ð] av4 [] av4 (ef [ſ 0 [1] [0,2,13] [æ,ð,Z?] av4]) mX
def alg:=acg [Â,Z!,ę] Ld0 [] Ld0 .leaf za
def RZ:=abg [Ï,Â,Ë,ę] Ld0 [] Ld0 (ef [ſ 6 [] [] [] Ld0,ſ 11 [20] [1,3,4,6,32] [Â,ę,.P 10 0,.P 11 0,Z?] (Ş++[Å,.G 31 Ld8,ŋ]),ſ 48 [] [1,3,6,129] [Â,ę,.P 10 0,Z?] Ld2,ſ 59 [141] [1,3,6,140,142] [Â,ę,.P 10 0,Ą,Z!] Ld2,ſ 67 [141,142] [1,3,6,140] [Â,ę,.P 10 0,Ą] Ld2])
def agk:cw:=cn RZ tw
def Xe:=abg [Ï,.d Kd0,Ë] [] [.d Kd0,æ] Ji (ef [ſ 14 [22,23] [3,5,6,7,24] (Ŕ++[ß,Z!]) (.G 31 Ld8::ŋ::.G 65 [â,ô,ä,é,Ą,ę,Ð,Đ,ê]::ł::ş)])
def alh:cw:=cn Xe ut
def zO:=abg [è] [] [Z?] [] (ef [ſ 6 [0,5] [6] [Z!] []])
def I3:cw:=cn zO mn
def Eh:=abg [è] [] [Z?] [] (ef [ſ 3 [0] [16] [Z?] [],ſ 14 [] [18] [Â] [Ľ],ſ 24 [] [18] [Â] [Ľ],ſ 25 [3,4] [18,23] iC [Ľ],ſ 29 [] [18,38] iC [Ľ]])
def Qs:cw:=cn Eh pN
def Ox:=abg Pm [] [Z!] [] (ef [ſ 6 [0,1,7] [8] [Z!] []])
def aau:cw:=cn Ox tC
def QP:=acg Pm [] [Z?] [] .leaf lU
def QO:=acg [Ð,ã] [] [Z?] [] .leaf gI
def aao:=acg [Ë] [] [Z?] [] (ef [ſ 2 [] [2] [Z?] []]) wC
def Uu:=acg (ë::ř) [] [Z?] [] (ef [ſ 5 [] [3,7,8,30] HP [ŷ,Ů,Ů],ſ 13 [] [7,8,48] sD [Ů,Ů],ſ 20 [] [6] [Z?] []]) rY
def Oo:=abg [ļ] [] [ĥ] [] (ef [FS 10 [11,12] [3,4,13] [.mp 0,ð,Z!] [.mp aM aM,.H 75 af eU] [.mpt 3 aM aM]])
def aal:cw:=cn Oo qR
def Lq:=acg Bp [] [Z?] [] (ef [ſ 2 [] [4] [Z?] []]) uQ
def Lr:=acg [Ï,Z!,Z?] [] [Z?] [] (ef [ſ 2 [] [6] [Z?] []]) uR
def vo:=abg [ć] [] [Ñ,Z?] [] (ef [FS 8 [0] [4,5] UL [Ó] [.nil 4 9 .str],ſ 15 [0] [4,5] UL [Ó],ſ 37 [0,5] [4,6,49] [æ,Í,Z?] [Ó,ń],ſ 48 [0,5,51] [4,6,52] [æ,Í,Z!] [Ó,ń]])
def D_:cw:=cn vo iw
def vn:=abg [Ï,Ñ] [] [Z?] [] (ef [ſ 10 [17,18] [2,5,19] UM ah2,ſ 27 [30,31] [2,5,32] UM ah2,FS 50 [52] [10,51,53] [.mp 0,ð,Z!] [.mp .str .bool,Ó] [.mpt 10 .str .bool],FS 62 [12,52,53] [10,51,64] [.mp 0,ð,Z?] [.mp .str .bool,Ó] [.mpt 10 .str .bool]])
def D9:cw:=cn vn eh
def vm:=abg [Ï] [] [Z?] [] (ef [ſ 8 [8,9] [1,3,4,10] (Â::Z!::ř) rA,ſ 20 [3,4,8,9,10] [1,6,25] sD Ŭ,ſ 27 [8,9,10] [1,3,4,6] [Â,Z!,Z!,Í] Ŭ])
def D8:cw:=cn vm gx
def vp:=abg [Ï] [] [Z?] [] (ef [ſ 3 [] [1,34] iC rA,ſ 11 [] [1,44] iC rA,ſ 21 [] [1,58] iC rA,ſ 32 [60,61] [1,62] xi rA])
def D':cw:=cn vp iy
def Ev:=abg [Ï] [] [û] [] (ef [ſ 8 [20] [2,3,21] yz ayw,ſ 21 [] [2,3] [Â,Í] ayw])
def QJ:cw:=cn Ev pQ
def xP:=abg [Ï] [] [å] [] (ef [ſ 8 [22,23] [2,3,24] yz [ľ,.G 89 (ŕ++[ì,á,â]),.H 2 af aM,.H 2 af aM,Å]])
def Ht:cw:=cn xP fg
def ON:=acg Bp [] [Z?] [] (ef [ſ 2 [] [4] [Z?] []]) fE
def Lk:=acg (Ï::ř) [] [Z?] [] (ef [ſ 6 [2,7] [3,8] iC rA,ſ 36 [2,7] [3,18] iC rA,ſ 46 [2,7] [3,26] iC rA,ſ 53 [] [6] [Z?] [],ſ 56 [2,7] [3,43] iC rA,ſ 71 [] [6] [Z?] [],ſ 74 [2,7] [3,61] iC rA,ſ 92 [2,7] [3,71] iC rA,ſ 102 [2] [3,79] iC rA]) nF
def Hl:=abg [Ï,û] [] [Z?] [] (ef [ſ 3 [] [2,31] iC rA,ſ 14 [33,34] [2,35] xi rA])
def Um:cw:=cn Hl lM
def QH:=acg (Ï::û::Z!::ř) [] [Z?] [] (ef [ſ 15 [] [10] [Z?] [],ſ 21 [] [10] [Z?] [],ſ 24 [2,4,11] [5,6,60] sD aba,ſ 64 [2,4,11] [5,6,109] sD aba,ſ 81 [] [10] [Z?] [],ſ 87 [] [10] [Z?] []]) pP
def Ll:=acg (Ï::û::Z!::ř) [] [Z?] [] (ef [ſ 3 [2,3,4] [5,6,30] sD aba,ſ 25 [] [10] [Z?] [],ſ 29 [] [10] [Z?] []]) lA
def I1:=acg [Ï,å] [] [Z?] [] (ef [ſ 2 [] [4] [Z?] []]) mh
def Fr:=acg [Ï,Ë] [] [Z?] [] (ef [ſ 3 [] [2,3,12] sD Ũ,ſ 10 [] [4] [Z?] []]) mT
def sr:=abg [Ï,å,Ë] [] [Z?] [] (ef [ſ 2 [] [4,5,7] sD ŧ,ſ 4 [] [4,5,8] av3 Ld5,ſ 10 [51] [4,5,8,52] Jj Ld5,ſ 22 [10,51,52] [4,5,8,64] HP Ld5,ſ 34 [51,52,65,66] [4,5,8,11,67] (Ŕ++ř) Ld5,ſ 46 [13,51,52,65,66,67] [4,5,8,83] HP Ld5])
def Bj:cw:=cn sr gk
def wR:=abg [å,Ë] [] [Z?] [] (ef [ſ 21 [] [4] [Z?] [],ſ 24 [13] [2,3,46] sD ŧ,ſ 43 [53,54] [3,5,6,55] [Â,Z!,Z?,Z!] agz,ſ 51 [53,54,55] [3,5,6] [Â,Z!,Z?] agz,ſ 54 [5,6,7,53,54,55] [3,69] iC agz,ſ 62 [] [4] [Z?] [],ſ 74 [94,95] [3,9,96] Ym agz,ſ 82 [94,95,96] [3,9] xi agz,ſ 85 [9,94,95,96] [3,109] iC agz])
def Fq:cw:=cn wR gU
def QF:=acg [.d iI,Z!] [] [Z?] [] (ef [ſ 2 [] [4] [Z?] []]) nP
def C7:=acg [ú] [] [ú] [] .leaf MS
def apw:cw:=⟨C7.pre,C7.post,Tf⟩
def zY:=acg [ú] [] [æ] [Ö] (ef [(8,(.a [.nil 2 4 .bool])),(12,(.a [.nil 2 4 .bool]))]) Is
def alp:cw:=⟨zY.pre,zY.post,MR⟩
def C5:=acg [Ú] [] [Ú] [] .leaf MP
def apt:cw:=⟨C5.pre,C5.post,Te⟩
def zW:=acg [Ú] [] [æ] [Ü] (ef [(8,(.a [.nil 2 174 iI])),(12,(.a [.nil 2 174 iI]))]) Iq
def alm:cw:=⟨zW.pre,zW.post,MO⟩
def zX:=acg ox [] [æ] [À] (ef [(8,(.a [.nil 2 2 aM])),(12,(.a [.nil 2 2 aM]))]) Ir
def alo:cw:=⟨zX.pre,zX.post,Cl⟩
def Eu:=abg [û] [] [ġ] Ld4 (ef [ſ 8 [11,12] [1,2,3,13] aqi [Ÿ,ù,Ġ]])
def QI:cw:=cn Eu lQ
def CV:=abg (ġ::ř) Ld4 [Z!] Ld4 (ef [ſ 8 [1,2,12] [3,7,11,13] [ß,Z!,ì,Z!] Ld3,ſ 16 [1,2,12,13] [3,7,11] [ß,Z!,ì] Ld3,ſ 19 [1,2,7,8,12,13] [3,11,29] [ß,ì,Z?] Ld3,ſ 25 [7] [] [] Ld4])
def OO:cw:=cn CV kP
def xS:=abg [ġ,Z!] Ld4 [Z!] Ld4 (ef [ſ 8 [1,10] [2,5,9,11] [ß,Z!,ì,Z!] Ld3,ſ 16 [1,10,11] [2,5,9] [ß,Z!,ì] Ld3])
def Hy:cw:=cn xS ik
def OY:=acg [Z!] [] [Z?] [] .leaf rZ
def QN:=acg Bp [] [Z?] [] (ef [ſ 2 [] [4] [Z?] []]) yi
def I9:=acg [.d (.int .u64)] [] [Z!] [] .leaf tf
def OT:=acg [.d (.int .u64)] [] [Z!] [] .leaf wz
def pm:=abg (æ::ř) Ld6 [] Ld6 (ef [ſ 3 [1,2] [0,6] UL Ld6,ſ 15 [1,2,6] [0,7] UL Ld6,ſ 17 [1,2,6,7] [0,30] [æ,Z?] Ld6])
def xf:cw:=cn pm gq
def vk:=abg (æ::Z!::ř) Ld6 [] Ld6 (ef [ſ 5 [] [0,1,2,3,8,9] [æ,Z!,Z!,Z!,Z?,Z?] Ld6])
def D7:cw:=cn vk kf
def agq:=acg [æ] Ld6 [] Ld6 .leaf zo
def Hs:=abg [æ] Ld6 [æ] Ld6 (ef [ſ 14 [] [0,3] UL Ld6])
def Ux:cw:=cn Hs mY
def Lm:=acg [Z!,Â] [Ź] [Z?] [Ź] .leaf qe
def C1:=abg [æ,Ĝ] Ld9 [Z!] Ld9 (ef [ſ 6 [7] [0,1,8] [æ,Ĝ,Z!] Ld9])
def O0:cw:=cn C1 oK
def BR:=abg [æ,Ĝ] Ld9 [ì] [Ć,Ź,Å] (ef [ſ 16 [] [0,1,5,6] (æ::Ĝ::ř) Ld9,ſ 24 [6] [0,1,5] [æ,Ĝ,Z!] Ld9])
def Ls:cw:=cn BR jZ
def oP:=abg (Ï::û::Z!::Z!::ř) [] [û,Z!,Z?] [] (ef [ſ 17 [] [7,12,15] yz [ż,ù,Ġ,Ö,Ü],ſ 26 [4,5,15,27] [6,7,8,12,42] C' ayx,ſ 34 [4,5,15,27] [6,7,8,12,51] C' ayx])
def OR:cw:=cn oP il
def OP:=acg [û] [] [.agg [.qg 0 2 3,Z!,ú,Ú]] (.G 172 [Z!,ð,Z!,ì,Z!,á]::Ū) (ef [FS 7 [] [1,2,3] [Â,Í,.qg 2 2 3] (Ÿ::ù::.G 172 [Z!,á,Z!,â,Z!,ô]::Ū) [.qh 3 1 3 aM,.qh 3 3 3 aM,.qh 3 5 3 aM],(8,(.u 4))]) rW
def OQ:=acg (Ï::û::Z!::Z!::ř) [] [û,Z!,Z?] [] (ef [ſ 17 [] [7,12,15] yz [.G 86 [.qg 2 2 3,Z!,ú,Ú],ù,.G 172 [.d eM,.d eM,Z!,á],.qp 3 aM],ſ 26 [4,5,15,27] [6,7,8,12,42] C' (Ŧ++.G 172 [Z!,ô,Z!,ä,Z!,é]::Ū),(33,(.s 4 0 0 0)),ſ 34 [4,5,15,27] [6,7,8,12,51] C' (Ŧ++[.G 172 [Z!,Ð,Z!,Ð,Z!,ô],Æ]),(41,(.s 4 0 0 0)),(46,(.s 4 0 0 3)),(53,(.s 4 0 0 3)),(74,(.s 4 0 0 0)),(80,(.s 4 0 0 0)),(100,(.a [.pk 7 0 eM]))]) mr
def QK:cw:=cn oP tR
def I2:=acg [Ï,å,Ë] [] [å,Z?] [] (ef [ſ 3 [] [3,4,5,6,39] C' Pq,ſ 11 [] [3,4,5,6,70] C' Pq,ſ 20 [] [3,4,5,6,8] (Ŕ++[ß,Z!]) Pq,ſ 41 [] [5,6,12] av3 av7]) mi
def sQ:=abg [.nr 0 1,.d iZ] [í] [Z?] [í] (ef [ſ 6 [13] [0,14] [.nr 0 1,.d aM] [í],ſ 20 [13,14,17,18] [0,19] [.nr 0 1,.d aM] [í],ſ 31 [13,14,17,18,19] [0,37] [.nr 0 1,.d .bool] [í]])
def B6:cw:=cn sQ eV
def xQ:=abg [ë] [] Bp [] (ef [ſ 26 [27,28] [1,4,5,29] aqi (Ţ++[.Q (.rr 83 1) 3,í]),ſ 40 [6,27,28,29] [1,4,5,7,8,53] [Â,Í,ì,ß,õ,Z?] (Ţ++[.Q (.rr 83 1) 5,Ů,ű,í]),FS 47 [27,28,29] [1,4,5,8] [Â,Í,ì,ß] (Ţ++[.Q (.rr 83 1) 4,ű,í]) [.jm 5 0]])
def Hu:cw:=cn xQ gA
def Ow:=abg [ë] [] [Ħ,Z!] [] (ef [ſ 20 [25,26] [1,6,7,27] aqi [ŷ,.G 65 [.d Kd0],Á]])
def aaq:cw:=cn Ow qS
def R2:=abg [ë] [] [ĥ,Z!] [] (ef [FS 20 [4,6,23] [1,7,24] UM aqj [.nil 7 52 eU],ſ 34 [4,6,8,23,24,27] [1,7,28] UM aqj,ſ 42 [4,6,8,23,24,27,28] [1,7] [Â,ð] aqj,ſ 45 [4,6,8,9,23,24,27,28] [1,7,46] [Â,ð,Z?] aqj])
def agm:cw:=cn R2 tB
def II:aJ Pg 47 agp:=mk _ _ an bZ
def VM x:l9 (jJ x) (Cj x):=by
 unfold jJ Cj xO ck bU bR aZ c7 aH cV;with_reducible repeat' first|apply OI.o;constructor|intro _
def xM:aJ Pg 44 X3:=AF Kx jJ Cj VM (ac II an) bZ
def aox:aJ Pg 76 HE:=mk _ _ an bZ
def akg:aJ Pg 76 aub:= @aJ.sub Pg 76 HE.pre HE.post Tg Fe aox rfl (λx y h=>tL (b:=8) x y h)
def Y2 x:l9 (iV x) (E7 x):=by
 unfold iV E7 AY ck bU mK bR aZ c7 aH cV;with_reducible repeat' first|apply OI.o;constructor|intro _
def ZG:aJ Pg 85 aam:=AF Oq iV E7 Y2 (ac akg an) bZ
def akc:aJ Pg 76 C6:=mk _ _ an bZ
def TO:aJ Pg 76 apv:= @aJ.sub Pg 76 C6.pre C6.post MQ qu akc rfl (λx y h=>tL (b:=8) x y h)
def ZH:aJ Pg 41 aan:=mk _ _ (ac TO (ac ZG an)) bZ
def aff:aJ Pg 43 agj:=mk _ _ an bZ
def ZJ:aJ Pg 42 aap:=mk _ _ (ac aff an) bZ
def aeu x:l9 (rf x) (Im x):=by
 unfold rf Im Ds bf bw bH cE dJ gf vu ck bU bR aZ c7 aH cV;with_reducible repeat' first|apply OI.o;constructor|intro _
def afh:aJ Pg 18 agl:=AF R1 rf Im aeu an bZ
def Wu:aJ Pg 45 X2:=mk _ _ an bZ
def akb:aJ Pg 76 aln:=mk zU zu an bZ
def acz:aJ Pg 76 apu:= @aJ.ro Pg 76 zU.pre zU.post.vs zu xF (akb.holds rfl) rfl (λx _ h=>by rw[show xF x=aB (zu x) λy=>same y.2 x (Z y.1) from eR (aB _) (funext λ_=>Ve ..)]at h;exact h)
def ao5 x:l9 (vB x) (Ta x):=by
 unfold vB Ta LZ ck bU bR aZ c7 aH cV;with_reducible repeat' first|apply OI.o;constructor|intro _
def aou:aJ Pg 44 aps:=AF DA vB Ta ao5 (ac II an) bZ
def ak8:aJ Pg 44 aua:= @aJ.ro Pg 44 DA.pre DA.post.vs vB Fd (aou.holds rfl) rfl (λx _ h=>by rw[show Fd x=aB (vB x) λy=>same y.2 x.2 (Z y.1) from eR (aB _) (funext λ_=>Ve ..)]at h;exact h)
def ZD:aJ Pg 86 aak:=mk _ _ (ac ak8 an) bZ
def ak6:aJ Pg 87 alg:=mk _ _ (ac acz an) bZ
def aet x:l9 (tw x) (Il x):=by
 unfold tw Il Dr hZ iR kl wW Pu Prod.u Prod.C Prod.D bf bw bH cE dJ gf iK ji HX Prod.E Prod.F Prod.G dQ xm Prod.w ck bn bU kY mK bR aZ c7 aH cV;with_reducible repeat' first|apply OI.o;constructor|intro _
def afg:aJ Pg 46 agk:=AF RZ tw Il aet (ac ak8 (ac acz (ac ZD (ac ak6 an)))) bZ
def aj6 x:l9 (ut x) (MJ x):=by
 unfold ut MJ GV hZ iR bf bw bH cE dJ gf iK ji Prod.v Prod.z dQ hY vu Prod.w ck bU mK bR aZ c7 cV;with_reducible repeat' first|apply OI.o;constructor|intro _
def ak7:aJ Pg 19 alh:=AF Xe ut MJ aj6 (ac ZH (ac ZJ (ac xM (ac Wu (ac afg an))))) bZ
def Ij x:l9 (mn x) (sZ x):=by
 unfold mn sZ tG hZ iR kl wW Pu Prod.u Prod.C Prod.D Prod.I Prod.K bf Prod.L bw bH cE dJ gf iK ji Prod.N bU bR c7 aH cV;with_reducible repeat' first|apply OI.o;constructor|intro _
def Iy:aJ Pg 148 I3:=AF zO mn sZ Ij an bZ
def PU x:l9 (pN x) (ye x):=by
 unfold pN ye yn bn bU kY aZ c7 aH;with_reducible repeat' first|apply OI.o;constructor|intro _
def P_:aJ Pg 114 Qs:=AF Eh pN ye PU (ac Iy an) bZ
def Y6 x:l9 (tC x) (E9 x):=by
 unfold tC E9 Ba bn bU bY aZ c7 aH cV;with_reducible repeat' first|apply OI.o;constructor|intro _
def ZL:aJ Pg 180 aau:=AF Ox tC E9 Y6 an bZ
def Qo:aJ Pg 149 QP:=mk _ _ (ac ZL an) bZ
def ym:aJ Pg 22 QO:=mk _ _ (ac II an) bZ
def ZI:aJ Pg 48 aao:=mk _ _ an bZ
def TJ:aJ Pg 24 Uu:=mk _ _ (ac ZI an) bZ
def Y1 x:l9 (qR x) (E6 x):=by
 unfold qR E6 AX ck bU bR bY aZ c7 aH cV;with_reducible repeat' first|apply OI.o;constructor|intro _
def ZF:aJ Pg 23 aal:=AF Oo qR E6 Y1 an bZ
def K5:aJ Pg 115 Lq:=mk _ _ an bZ
def K6:aJ Pg 66 Lr:=mk _ _ (ac K5 an) bZ
end
end Go.Proofs.YtpjhicegjenpeaaGreatDoor.AI
