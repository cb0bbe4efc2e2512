/-
  Texts of the proof, part 5 of 6: what is used to prove the statement. No condition.
-/
import Derived.Test.YtlmflgjjamepmaaGreatDoorSearchEnoughQ3
import Derived.Deep.Slices
import Derived.OpenShut
import Derived.Below
namespace Go.Proofs.YtlmflgjjamepmaaGreatDoor.AI
open Go.RowKit
set_option maxRecDepth 100000
set_option maxHeartbeats 4000000
set_option linter.unusedVariables false
set_option linter.unusedSimpArgs false
set_option linter.defProp false
open _root_.Bool renaming true→J,false→aa,not_eq_true→mP,not_eq_false'→nO,false_or→Da
open _root_.Int renaming ofNat_eq_natCast→ak,toNat→aS,ofNat→bC,reduceNeg→dB,reduceEq→dR,tmod→fR,toNat_natCast→lL,tmod_eq_emod_of_nonneg→u_,emod_lt_of_pos→Mk
open IntKind renaming wrap→kW
open _root_.List renaming length→l!,length→ah,length_singleton→aJ,replicate→aP,length_cons→bX,take→ca,foldl_cons→dg,length_nil→em,cons_append→fG,map→gD,filter_cons_of_pos→gK,drop→gL,nil_append→gW,map_nil→kV,filter_cons_of_neg→lK,replicate_succ→mh,set→AU,mem_of_mem_drop→EY,getElem_of_mem→HN
open _root_.Nat renaming beq→ay,blt→db,add_zero→dQ,le_of_lt→vq,le_succ→yR
open _root_.Option renaming some→Z,none→U
open _root_.Prod renaming a→ba,d→bI,b→bQ,c→b_,e→da,f→dD,h→dP,i→fX,g→ia,k→tI,j→tJ,n→AR,p8→O3
open _root_.Sum renaming inr→bV,inl→kS
open Value renaming okWide→Iv
open World renaming cell?→O1
noncomputable section
def KS:Nat->Nat
 |0=>0
 |d+1=>1+16*KS d
abbrev RA4:Type:=(Y Sx×WK)->M (ν×WK)
structure QA (l:List Sx) (d:Nat) (w:WK) (y:ν×WK):Prop where
 p:y.2.1=w.1
 a:l! y.2.2.1.2=l! w.2.1.2
 s:l! y.2.2.2.1<=l! w.2.2.1+l! l*KS d
 t:l! y.2.2.2.2<=l! w.2.2.2+l! l*KS d
def SpA (rr:RA4) (d:Nat):Prop:=∀(l:Y Sx) (w:WK),l! l<=100->(∀s∈l,GT d s)->PX (w.1.1,w.1.2.1)->l! w.2.1.2+d<=50->l! w.2.2.1+l! l*KS d<=100000000->l! w.2.2.2+l! l*KS d<=100000000->Ok (rr (l,w)) (QA l d w)
def ail (rr:RA4) (d:Nat) (hr:∀d',d=d'+1->SpA rr d'):SpA (r8 rr) d:=by
 rintro l ⟨⟨D,T,t⟩,A,sp,se⟩ hl hg hp hA h1 h2;dsimp only at hp hA h1 h2;have hK:∀i:Nat,i<=l! l->i*KS d<=l! l*KS d:=λi hi=>co _ hi
 unfold r8 ba bQ b_ bI dD dP ck bi bS gF bY bz bc cW aF cM eu;refine bn (l! l) (λi x=>x.1=(i:Int)/\x.2.1=(D,T,t)/\l! x.2.2.1.2=l! A.2/\l! x.2.2.2.1<=l! sp+i*KS d/\l! x.2.2.2.2<=l! se+i*KS d) ?_ ?_ ⟨rfl,rfl,rfl,by simp,by simp⟩
 .rintro i ⟨a,P,A',sp',se'⟩ hi ⟨e1,e2,F,N,I⟩;dsimp only at e1 e2 F N I;subst e1 e2;have hKi:=hK (i+1) (by omega);have hKs:=iN i (KS d);rw[Nat.succ_eq_add_one]at hKs;refine aY (λ_=>?_) λg=>(by dsimp only[ak]at g;omega)
  refine cG (aQ ?_);have hm:=hg _ (bE (T:=.sm) (xs:=l) (j:=(i:Int)) (by omega) (by omega));revert hm;generalize (aK (.sm) l (i:Int))=s;intro hm;cases d with
  |zero=>exact hm.elim
  |succ d=>
   have hR:=hr d rfl;let⟨_,g2,g3,g4,g5,g6,g7⟩:=hm;have hk:KS (d+1)=1+16*KS d:=rfl;have kb:l! s.body*KS d<=8*KS d:=co _ g4;have ke:l! s.els*KS d<=8*KS d:=co _ g5;dsimp only;rw[yX];refine av (amp s D T t A' sp' se' hp (by omega) (by omega) (by omega) g2 g3) λy z=>?_
   let⟨e,P2,A2,sp2,se2⟩:=y;let⟨q1,c,q3,q4⟩:=z;dsimp only at q1 c q3 q4;subst q1 c;refine bu (by simp) ?_;refine aX (λx=>x.2=((D,T,t),s,A2,sp2,se2)) (aY (λ_=>aj rfl) λ_=>aj rfl) ?_;rintro⟨e,x⟩ ex;dsimp only at ex;subst ex;refine bW (λ_=>aj ⟨rfl,F,by dsimp only;omega,by dsimp only;omega⟩) λ_=>?_
   refine a! (aG (by simp) (by simp;omega) (aG (by simp) (by simp;omega) ?_));dsimp only;rw[yX];refine av (hR s.body ((D,T,t),(A2.1,cC (A2.2++[_]) _ s),sp2,se2) (by omega) g6 hp ?_ ?_ ?_) λy z=>?_
   .dsimp only;rw[cj];simp;omega
   .dsimp only;omega
   .dsimp only;omega
   let⟨e6,P6,A6,sp6,se6⟩:=y;let⟨q1,c,q5,q6⟩:=z;dsimp only at q1 c q5 q6;subst q1;rw[cj,aD,aJ]at c;refine bu (by simp) ?_;refine aX (λx=>x.2.1=(D,T,t)/\l! x.2.2.1.2=l! A2.2+1/\l! x.2.2.2.1<=l! sp2+16*KS d/\l! x.2.2.2.2<=l! se2+16*KS d) ?_ ?_
   .refine aL (λ_=>?_) λ_=>aj ⟨rfl,c,by dsimp only;omega,by dsimp only;omega⟩
    refine av (hR s.els ((D,T,t),A6,sp6,se6) (by omega) g7 hp (by dsimp only;omega) (by dsimp only;omega) (by dsimp only;omega)) λy z=>?_
    let⟨e7,P7,A7,sp7,se7⟩:=y;let⟨r1,q,r5,r6⟩:=z;dsimp only at r1 q r5 r6;subst r1;exact bu (by simp) (aj ⟨rfl,q.trans c,by dsimp only;omega,by dsimp only;omega⟩)
   rintro⟨e8,P8,A8,sp8,se8⟩ ⟨r1,q,r5,r6⟩;dsimp only at r1 q r5 r6;subst r1;have el:aZ .i64 ((bC (l! A8.2))-1)=(l! A2.2:Int):=by
    rw[q,jA (by simp<;>omega) (by simp<;>omega)];simp<;>omega
   dsimp only;rw[el];have tk:l! (ca (aS (l! A2.2:Int)) A8.2)=l! A2.2:=by rw[bD];omega
   refine bt (a? (tN (by rw[q];omega) ?_));refine bW (λ_=>aj ⟨rfl,by dsimp only;omega,by dsimp only;omega,by dsimp only;omega⟩) λ_=>aj ?_
   exact⟨fd,rfl,by dsimp only;omega,by dsimp only;omega,by dsimp only;omega⟩
 .rintro⟨a,P,A',sp',se'⟩ ⟨e1,e2,F,N,I⟩;dsimp only at e1 e2 F N I;subst e1 e2;exact aY (λg=>(by dsimp only[ak]at g;omega)) λ_=>aj ⟨rfl,F,N,I⟩
def YS:∀(n d:Nat),d<n->SpA (mw n) d
 |0,_,h=>by omega
 |n+1,d,h=>ail (mw n) d λc hd=>YS n c (by omega)
def ES (p:PG) (h:PX p):Ok (kA p) λ_=>True:=by
 have hd:=h.d;have ht:=h.t;unfold kA ba bQ b_ bI dP bS gF bY bz bc cW aF cM;refine av (ab8 p h) λ_ _=>cH (λ_=>aj trivial) λ_=>?_
 refine av (WZ p.1 hd) λ_ _=>bW (λ_=>aj trivial) λ_=>aY (λ_=>aj trivial) λ_=>?_
 refine av (Pa p h) λ_ _=>bW (λ_=>aj trivial) λ_=>?_
 refine bn (l! p.2) (λi x=>x.1.2=(i:Int)/\x.2=p) ?_ ?_ ⟨rfl,rfl⟩
 .rintro i ⟨⟨c,a⟩,x⟩ hi ⟨e1,e2⟩;dsimp only at e1 e2;subst e1;have e2:=e2.symm;subst e2;refine aY (λ_=>?_) λg=>(by dsimp only[ak]at g;omega)
  refine cG (aQ ?_);have hm:=bE (T:=tj) (xs:=p.2) (j:=(i:Int)) (by omega) (by omega);have q:=h.b _ hm;exact av (FD fI 5 _ (by rw[po];omega) (cA q (by omega)) (h.s _ hm)) λ_ _=>aj ⟨fd,rfl⟩
 rintro⟨⟨c,a⟩,x⟩ ⟨e1,e2⟩;dsimp only at e1 e2;subst e1;have e2:=e2.symm;subst e2;refine aY (λg=>(by dsimp only[ak]at g;omega)) λ_=>?_
 refine av (P:=λ_=>True) ?_ λ_ _=>aj trivial
 refine aY (λ_=>aj trivial) λ_=>?_
 refine bn (l! p.2) (λi x=>x.1=(i:Int)/\x.2.1=p/\x.2.2.1.1=p.1/\x.2.2.1.2.1=p.2/\l! x.2.2.2.1.2=0/\l! x.2.2.2.2.1<=i*6990500/\l! x.2.2.2.2.2<=i*6990500) ?_ ?_ ⟨rfl,rfl,rfl,rfl,rfl,by simp,by simp⟩
 .rintro i ⟨a,x,⟨D,T,t⟩,A,sp,se⟩ hi ⟨e1,e2,e3,N,e5,e6,e7⟩;dsimp only at e1 e2 e3 N e5 e6 e7;subst e1;have e2:=e2.symm;subst e2 e3 N;refine aY (λ_=>?_) λg=>(by dsimp only[ak]at g;omega)
  refine cG (aQ ?_);have hm:=bE (T:=tj) (xs:=p.2) (j:=(i:Int)) (by omega) (by omega);have q:=h.b _ hm;have F:=h.s _ hm;revert q F;dsimp only;generalize (aK tj p.2 (i:Int))=I;intro q F;have z:KS 5=69905:=rfl;have hle:l! I.2.2.2*KS 5<=100*KS 5:=co _ q;rw[z]at hle;refine av (YS fI 5 (by rw[po];omega) I.2.2.2 ((p.1,p.2,(i:Int)),A,sp,se) q F h (by dsimp only;omega) (by dsimp only;rw[z];omega) (by dsimp only;rw[z];omega)) λy hy=>?_
  let⟨e,P2,A2,sp2,se2⟩:=y;let⟨q1,q2,q3,q4⟩:=hy;dsimp only at q1 q2 q3 q4;subst q1;rw[z]at q3 q4;refine bu (by simp) (bW (λ_=>aj trivial) λ_=>aj ?_);exact⟨fd,rfl,rfl,rfl,by dsimp only;omega,by dsimp only;omega,by dsimp only;omega⟩
 .rintro⟨a,x,P,w⟩ ⟨e1,e2,_⟩;dsimp only at e1 e2;subst e1;have e2:=e2.symm;subst e2;exact aY (λg=>(by dsimp only[ak]at g;omega)) λ_=>aj trivial
def D0:Y DT:=[(1,0,[120],0,0,[]),(1,0,[121],0,1,[]),(2,0,[118],0,0,[]),(1,0,[113],2,0,[]),(3,0,[109],0,0,[]),(3,0,[110],0,0,[]),(4,0,[114],0,0,[]),(5,0,[99],0,0,[109]),(6,0,[102],0,0,[])]
def L0:Y ζ:=[[97],[98]]
structure TM (t:HT):Prop where
 l:t.2.2.1=L0
 b:l! t.2.2.2<=8
 s:∀s∈t.2.2.2,GS 3 s
structure PJ (p:PG):Prop where
 d:p.1=D0
 t:l! p.2<=4
 m:∀t∈p.2,TM t
def PJ.x {p:PG} (h:PJ p):PX p:=⟨by rw[h.d];decide,by have:=h.t;omega,λt ht=>by rw[(h.m t ht).l];decide,λt ht=>by have:=(h.m t ht).b;omega,λt ht s c=>((h.m t ht).s s c).le (by omega:3<=5) |>.t⟩
def TQ:sF ()=Z D0:=rfl
def RB (op:Int) (n:ζ) (q:4<=op/\op≠14):GS 3 (oY (op,0,n,[],[],ey (0,0,[],[]),[],[])):=GS.wo q (by simp) λx c=>(by cases c)
def HS (x:η) (hl:l! x<=9223372036854775807) (hx:∀z∈x,0<=z/\z<=255):Ok (oW x) PJ:=by
 unfold oW ba bQ b_ da ia tJ O3 bI fX tI AR Prod.o bi bS gF bY kQ cW aF cM eu;refine aV TQ ?_;refine av (d8 3 (x,0) ⟨hl,hx,by dsimp only;omega,by dsimp only;omega⟩) λy hy=>?_
 let⟨n,t0⟩:=y;let⟨s0,n0,n1,_⟩:=hy;have n1:=n1 (by decide);dsimp only at s0 n0 n1;have ew:aZ .i64 (2+n)=2+n:=jA;refine bn (2+n).toNat (λi x=>x.1=(i:Int)/\x.2.2.1=D0/\l! x.2.2.2.1=4/\TP x.2.2.2.2.1/\x.2.2.2.2.2.1.2=[]/\l! x.2.2.2.2.2.2=i/\∀t∈x.2.2.2.2.2.2,TM t) ?_ ?_ ⟨rfl,rfl,rfl,s0.p,rfl,rfl,λt ht=>(by cases ht)⟩
 .rintro i ⟨a,m,D,N,t,h,th⟩ hi ⟨e1,e2,e3,e4,e5,e6,e7⟩;dsimp only at e1 e2 e3 e4 e5 e6 e7;subst e1 e2;refine aY (λg=>?_) λg=>(by dsimp only at g;rw[ew]at g;omega)
  refine cG (cG (aQ ?_));refine aX (λx=>x.2.1=D0/\l! x.2.2.1=4/\TP x.2.2.2.2.1/\x.2.2.2.2.2.1.2=[]/\x.2.2.2.2.2.2.1=th/\x.2.2.2.2.2.2.2.1=L0/\l! x.2.2.2.2.2.2.2.2<=3/\∀s∈x.2.2.2.2.2.2.2.2,GS 3 s) ?_ ?_
  .refine aL (λ_=>?_) λ_=>aj ⟨rfl,e3,e4,e5,rfl,rfl,by simp,λs q=>(by cases q)⟩
   refine bn (1+n).toNat (λk x=>x.1=1+(k:Int)/\x.2.2.1=D0/\l! x.2.2.2.1=4/\TP x.2.2.2.2.2.1/\x.2.2.2.2.2.2.1.2=[]/\x.2.2.2.2.2.2.2.1=th/\x.2.2.2.2.2.2.2.2.1=L0/\l! x.2.2.2.2.2.2.2.2.2<=k/\∀s∈x.2.2.2.2.2.2.2.2.2,GS 3 s) ?_ ?_ ⟨rfl,rfl,e3,e4,e5,rfl,rfl,by simp,λs q=>(by cases q)⟩
   .rintro k ⟨c,m1,D1,N1,z1,t1,h1,th1,l1,b1⟩ hk ⟨f1,f2,f3,f4,A,f6,I,f8,F⟩;dsimp only at f1 f2 f3 f4 A f6 I f8 F;subst f1;refine aY (λ_=>?_) λg=>(by dsimp only at g;rw[ew]at g;omega)
    refine cG (cG (aQ ?_));refine a! (aj ?_);dsimp only;rw[jA (n:=1+(k:Int)+1) (by omega) (by omega)];refine ⟨by omega,f2,f3,f4,A,f6,I,by simp;omega,λs q=>?_⟩;rcases bF.1 q with q|q
    .exact F s q
    .rw[aA]at q;rw[q];exact RB 12 _ (by omega)
   .rintro⟨c,m1,D1,N1,z1,t1,h1,th1,l1,b1⟩ ⟨f1,f2,f3,f4,A,f6,I,f8,F⟩;dsimp only at f1 f2 f3 f4 A f6 I f8 F;subst f1;refine aY (λg=>(by dsimp only at g;rw[ew]at g;omega)) λ_=>aj ?_
    exact⟨f2,f3,f4,A,f6,I,by dsimp only;omega,F⟩
  rintro⟨m1,D1,N1,z1,t1,h1,th1,l1,b1⟩ ⟨f2,f3,f4,A,f6,I,f8,F⟩;dsimp only at f2 f3 f4 A f6 I f8 F;subst f2 f6 I;refine av (d8 3 t1 f4) λy hy=>?_
  let⟨k2,t2⟩:=y;let⟨u1,u2,u3,_⟩:=hy;have u3:=u3 (by decide);dsimp only at u1 u2 u3;dsimp only;rw[jA (n:=1+k2) (by omega) (by omega)];refine av (ZK 2 (by omega) (1+k2) m1 t2 h1 (by omega) u1.p (by rw[A];simp)) λy hy=>?_
  let⟨m3,t3,h3,l3⟩:=y;let⟨w1,w2,w3,w4⟩:=hy;dsimp only at w1 w2 w3 w4;refine bu (by simp) (a! ?_);have hbody:∀s∈b1++l3,GS 3 s:=λs q=>by
   rcases bF.1 q with q|q
   .exact F s q
   .exact w2 s q
  have hlen:l! (b1++l3)<=6:=by rw[aD];omega
  refine aX (λx=>x.2.1=D0/\l! x.2.2.1=4/\TP x.2.2.2.2.1/\x.2.2.2.2.2.1.2=[]/\x.2.2.2.2.2.2.1=th1/\x.2.2.2.2.2.2.2.1=L0/\l! x.2.2.2.2.2.2.2.2<=8/\∀s∈x.2.2.2.2.2.2.2.2,GS 3 s) ?_ ?_
  .refine aX (λx=>x.2.2.1=D0/\l! x.2.2.2.1=4/\TP x.2.2.2.2.2.1/\x.2.2.2.2.2.2.1.2=[]/\x.2.2.2.2.2.2.2.1=th1/\x.2.2.2.2.2.2.2.2.1=L0/\x.2.2.2.2.2.2.2.2.2=b1++l3) ?_ ?_
   .refine aL (λ_=>?_) λ_=>aj ⟨rfl,f3,w3.p,w4.trans A,rfl,rfl,rfl⟩
    exact av (d8 3 t3 w3.p) λy hy=>aj ⟨rfl,f3,hy.1.p,w4.trans A,rfl,rfl,rfl⟩
   rintro⟨b,m4,D4,N4,z4,t4,h4,th4,l4,b4⟩ ⟨p2,p3,p4,p5,p6,p7,p8⟩;dsimp only at p2 p3 p4 p5 p6 p7 p8;subst p2 p6 p7 p8;refine aM (λ_=>?_) λ_=>aj ⟨rfl,p3,p4,p5,rfl,rfl,by dsimp only;omega,hbody⟩
   refine cG (cG (aQ ?_));refine bg (by simp at hlen ⊢;omega) (by omega) (aj ⟨rfl,p3,p4,p5,rfl,rfl,by dsimp only;rw[aD,aJ];omega,λs q=>?_⟩);rcases bF.1 q with q|q
   .exact hbody s q
   .rw[aA]at q;rw[q];exact RB 13 _ (by omega)
  rintro⟨m4,D4,N4,z4,t4,h4,th4,l4,b4⟩ ⟨p2,p3,p4,p5,p6,p7,p8,p9⟩;dsimp only at p2 p3 p4 p5 p6 p7 p8 p9;subst p2 p6 p7;refine a! (aj ?_);dsimp only;refine ⟨fd,rfl,p3,p4,p5,by simp;omega,λt ht=>?_⟩;rcases bF.1 ht with ht|ht
  .exact e7 t ht
  .rw[aA]at ht;rw[ht];exact⟨rfl,p8,p9⟩
 .rintro⟨a,m,D,N,t,h,th⟩ ⟨e1,e2,e3,e4,e5,e6,e7⟩;dsimp only at e1 e2 e3 e4 e5 e6 e7;subst e1 e2;refine aY (λg=>(by dsimp only at g;rw[ew]at g;omega)) λ_=>?_
  have hpm:PJ (D0,th):=⟨rfl,by dsimp only;omega,e7⟩
  refine av (P:=PJ) ?_ λr hr=>aj hr
  refine av (ES (D0,th) hpm.x) λy _=>bW (λ_=>?_) λ_=>aj hpm
  refine aV TQ (aV (Px _) (aV (ue _ _) (aj ?_)));refine ⟨rfl,by simp,λt ht=>?_⟩;simp only[aA]at ht;rw[ht];refine ⟨rfl,by simp,λs q=>?_⟩;simp only[aA]at q;rw[q,fo,zG];exact GS.asg _ (GE.num _ 3)
abbrev GN:Type:=Y (ζ×Int×Int×Bool×Int)×Y (ζ×Bool)×Y (ζ×Int)×Y ζ×Y ζ×Y π×Y ζ×h!
def Be (l:Y x!) (s:ζ) (c:l! l<=1000):Ok (lG (l,s)) λ_=>True:=by
 unfold lG bS bz bc cW aF cM;refine bn (l! l) (λi x=>x=(i:Int)) ?_ ?_ rfl
 .rintro i x hi rfl;refine aY (λ_=>?_) λg=>(by dsimp only[ak]at g;omega)
  refine cG (aQ ?_);exact aL (λ_=>aj trivial) λ_=>aj fd
 .rintro x rfl;exact aY (λg=>(by dsimp only[ak]at g;omega)) λ_=>aj trivial
def Br (w:WT) (s:ζ) (D:l! w.1<=1000):Ok (lH (w,s)) λr=>(∃c∈w.1,c.1=s)->0<=r/\r<(l! w.1:Int):=by
 unfold lH bS bz bc cW aF cM;refine bn (l! w.1) (λi x=>x.1=(i:Int)/\x.2=w/\∀k:Nat,k<i->(aK (.st (.pr .str (.pr (.int .i64) (.pr (.int .i64) (.pr .bool (.int .i64)))))) w.1 (k:Int)).1≠s) ?_ ?_ ⟨rfl,rfl,λk z=>by omega⟩
 .rintro i ⟨a,x⟩ hi ⟨e1,e2,q⟩;dsimp only at e1 e2 q;subst e1;have e2:=e2.symm;subst e2;refine aY (λ_=>?_) λg=>(by dsimp only[ak]at g;omega)
  refine cG (aQ ?_);refine aL (λ_=>aj λ_=>⟨by dsimp only;omega,by dsimp only;omega⟩) λg=>aj ?_
  refine ⟨fd,rfl,λk z=>?_⟩;rcases bZ k i with h1|h1
  .exact q k h1
  .rw[show k=i by omega];exact g
 .rintro⟨a,x⟩ ⟨e1,e2,q⟩;dsimp only at e1 e2 q;subst e1;have e2:=e2.symm;subst e2;refine aY (λg=>(by dsimp only[ak]at g;omega)) λ_=>aj λ⟨c,A,h⟩=>?_
  exact (iv (T:=.st (.pr .str (.pr (.int .i64) (.pr (.int .i64) (.pr .bool (.int .i64)))))) (p:=λc=>c.1≠s) q c A h).elim
def vU (i:IT) (g:GN) (out:Y IT) (h:l! out<=100000000):Ok (cQ (i,g,out)) λy=>y.1=g/\l! y.2=l! out+1:=by
 unfold cQ ba bQ b_ tJ bY;exact a! (aj ⟨rfl,by simp⟩)
def VE:Nat->Nat
 |0=>0
 |d+1=>1+2*VE d
structure GK (g:GN):Prop where
 c:l! g.1<=1000
 q:∃c∈g.1,c.1=[113]
 l:l! g.2.2.2.2.2.2.1<=1000
def N_:∀(n d:Nat),d<n->∀(e:Xp) (k:Int) (g:GN) (out:Y IT),GE d e->GK g->l! out+VE d<=100000000->Ok (iH n ((e,k),g,out)) λy=>y.1=g/\l! out<=l! y.2/\l! y.2<=l! out+VE d
 |0,_,h,_,_,_,_,_,_,_=>by omega
 |n+1,0,_,e,_,_,_,h,_,_=>h.elim
 |n+1,d+1,hn,e,k,g,out,h,hg,hb=>by
  let⟨h1,h2,h3,h4⟩:=h;let⟨gc,gq,gl⟩:=id hg;have hv:VE (d+1)=1+2*VE d:=rfl;rw[BA];unfold qU ba bQ b_ da ia bi jO bY bz aF cM;refine aX (λy=>y.1=g/\l! out<=l! y.2/\l! y.2<=l! out+VE (d+1)) ?_ λx hx=>aj hx
  refine aL (λ_=>?_) λn1=>?_
  .refine av (vU _ g out (by omega)) λy c=>bu (by simp) (aj ⟨c.1,by omega,by omega⟩)
  refine aL (λ_=>?_) λn2=>?_
  .refine av (EW _ _ (by dsimp only;omega)) λv _=>eh (λ_=>?_) λ_=>?_
   .refine av (vU _ g out (by omega)) λy c=>bu (by simp) (aj ⟨c.1,by omega,by omega⟩)
   .refine av (Br _ _ gc) λv _=>?_
    refine av (vU _ g out (by omega)) λy c=>bu (by simp) (aj ⟨c.1,by omega,by omega⟩)
  have N:=h2 n1 n2;have hrec:∀(j:Nat),j<l! e.l->∀(D:Int) (o:Y IT),l! o+VE d<=100000000->Ok (iH n ((aK (.ex) e.l (j:Int),D),g,o)) λy=>y.1=g/\l! o<=l! y.2/\l! y.2<=l! o+VE d:=λj hj D o ho=>N_ n d (by omega) _ D g o (h4 _ (bE (T:=.ex) (xs:=e.l) (j:=(j:Int)) (by omega) (by omega))) hg ho
  refine aL (λn3=>?_) λn3=>?_
  .refine cG (aQ ?_);refine av (hrec 0 N k out (by omega)) λy c=>?_
   let⟨A,z⟩:=y;let⟨q1,q,q3⟩:=c;dsimp only at q1 q q3;subst q1;refine bu (by simp) ?_;refine av (Br _ _ gc) λv F=>?_
   let⟨v0,v1⟩:=F (by dsimp only;rw[h1 n3];exact gq);refine aG v0 v1 (aQ ?_);refine av (vU _ A z (by omega)) λy c=>bu (by simp) (aj ⟨c.1,by omega,by omega⟩)
  refine aL (λn4=>?_) λn4=>?_
  .refine cG (aQ ?_);refine av (hrec 0 N k out (by omega)) λy c=>?_
   let⟨A,z⟩:=y;let⟨q1,q,q3⟩:=c;dsimp only at q1 q q3;subst q1;refine bu (by simp) ?_;refine av (vU _ A z (by omega)) λy c=>bu (by simp) (aj ⟨c.1,by omega,by omega⟩)
  .dsimp only[ak]at n4;have I:1<l! e.l:=by omega
   refine cG (aQ ?_);refine av (hrec 0 N k out (by omega)) λy c=>?_
   let⟨A,z⟩:=y;let⟨q1,q,q3⟩:=c;dsimp only at q1 q q3;subst q1;refine bu (by simp) ?_;refine cG (aQ ?_);refine av (hrec 1 I _ z (by omega)) λy c=>?_
   let⟨g3,o3⟩:=y;let⟨r1,r2,r3⟩:=c;dsimp only at r1 r2 r3;subst r1;refine bu (by simp) ?_;refine av (vU _ g3 o3 (by omega)) λy c=>bu (by simp) (aj ⟨c.1,by omega,by omega⟩)
def VO (e:Xp) (k:Int) (g:GN) (out:Y IT) (he:GE 4 e) (c:GK g) (h:l! out<=99999900):Ok (iC ((e,k),g,out)) λy=>y.1=g/\l! out<=l! y.2/\l! y.2<=l! out+15:=N_ fI 4 (by rw[po];omega) e k g out he c (by have:VE 4=15:=rfl;omega)
structure GB (g:GN):Prop where
 k:GK g
 l:l! g.2.1<=1000
 d:l! g.2.2.1<=1000
 f:l! g.2.2.2.1<=1000
 t:l! g.2.2.2.2.1<=1000
structure GQ (g y:GN):Prop where
 a:y.1=g.1
 b:y.2.1=g.2.1
 c:y.2.2.1=g.2.2.1
 d:y.2.2.2.1=g.2.2.2.1
 e:y.2.2.2.2.1=g.2.2.2.2.1
 f:y.2.2.2.2.2.1=g.2.2.2.2.2.1
 h:y.2.2.2.2.2.2.1=g.2.2.2.2.2.2.1
def GQ.refl (g:GN):GQ g g:=⟨rfl,rfl,rfl,rfl,rfl,rfl,rfl⟩
def GQ.trans {a b c:GN} (h:GQ a b) (k:GQ b c):GQ a c:=⟨k.a.trans h.a,k.b.trans h.b,k.c.trans h.c,k.d.trans h.d,k.e.trans h.e,k.f.trans h.f,k.h.trans h.h⟩
def GB.of {g y:GN} (h:GB g) (q:GQ g y):GB y:=
 ⟨⟨by rw[q.a];exact h.k.c,by rw[q.a];exact h.k.q,by rw[q.h];exact h.k.l⟩,by rw[q.b];exact h.l,by rw[q.c];exact h.d,by rw[q.d];exact h.f,by rw[q.e];exact h.t⟩
def GQ.site (g:GN) (a b:Int):GQ g (g.1,g.2.1,g.2.2.1,g.2.2.2.1,g.2.2.2.2.1,g.2.2.2.2.2.1,g.2.2.2.2.2.2.1,a,b):=⟨rfl,rfl,rfl,rfl,rfl,rfl,rfl⟩
structure QG (n:Nat) (g:GN) (out:List IT) (y:GN×List IT):Prop where
 q:GQ g y.1
 l:l! out<=l! y.2
 u:l! y.2<=l! out+n
def vy (i:IT) (g:GN) (out:Y IT) (h:l! out<=100000000):Ok (cQ (i,g,out)) (QG 1 g out):=(vU i g out h).mono λy c=>⟨by rw[c.1];exact GQ.refl g,by omega,by omega⟩
def Dd (e:Xp) (k:Int) (g:GN) (out:Y IT) (he:GE 4 e) (q:GB g) (h:l! out<=99999000):Ok (iC ((e,k),g,out)) (QG 15 g out):=(VO e k g out he q.k (by omega)).mono λy c=>⟨by rw[c.1];exact GQ.refl g,c.2.1,c.2.2⟩
def XO (s:Sx) (g:GN) (out:Y IT) (h1:s.index≠[]->s.name=[113]) (h2:∀e∈s.index,GE 4 e) (h3:GE 4 s.expr) (F:GB g) (h:l! out<=99990000):Ok (mb (s,g,out)) (QG 40 g out):=by
 have hex:GE 4 (ey (Xp.op s.expr,Xp.n s.expr,Xp.name s.expr,Xp.l s.expr)):=by rw[fo];exact h3
 unfold mb ba bQ b_ da ia bS jO bY bz bc;refine aY (λg0=>?_) λ_=>?_
 .dsimp only[ak]at g0;refine cG (aQ ?_);refine av (Dd _ _ g out (h2 _ (bE (T:=.ex) (xs:=s.index) (j:=0) (by omega) (by omega))) F (by omega)) λy z=>?_
  let⟨N,I⟩:=y;let⟨q1,q2,q3⟩:=z;dsimp only at q1 q2 q3;refine bu (by simp) ?_;refine av (Dd _ _ N I hex (F.of q1) (by omega)) λy z=>?_
  let⟨g3,o3⟩:=y;let⟨r1,r2,r3⟩:=z;dsimp only at r1 r2 r3;refine bu (by simp) ?_;have A:=F.of (q1.trans r1);refine av (Br _ _ A.k.c) λv hv=>?_
  let⟨v0,v1⟩:=hv (by
   have:s.name=[113]:=h1 (λh=>by rw[h]at g0;simp at g0);dsimp only;rw[this];exact A.k.q)
  refine aG v0 v1 (aQ ?_);refine av (vy _ g3 o3 (by omega)) λy z=>bu (by simp) (aj ⟨q1.trans (r1.trans z.q),by have:=z.l;omega,by have:=z.u;omega⟩)
 .refine av (Dd _ _ g out hex F (by omega)) λy z=>?_
  let⟨N,I⟩:=y;let⟨q1,q2,q3⟩:=z;dsimp only at q1 q2 q3;have D:=F.of q1;refine bu (by simp) ?_;refine av (EW _ _ (cA D.k.l (by omega))) λv _=>eh (λ_=>?_) λ_=>?_
  .refine av (vy _ N I (by omega)) λy z=>bu (by simp) (aj ⟨q1.trans z.q,by have:=z.l;omega,by have:=z.u;omega⟩)
  .refine av (Br _ _ D.k.c) λv _=>?_
   refine av (vy _ N I (by omega)) λy z=>bu (by simp) (aj ⟨q1.trans z.q,by have:=z.l;omega,by have:=z.u;omega⟩)
def af5 (s:ζ) (g:GN) (out:Y IT) (c:GB g):Ok (jL (s,g,out)) λy=>y.2=(g,out):=by
 have hd:=c.d;unfold jL ba bS bz bc cW aF cM;refine bn (l! g.2.2.1) (λi x=>x.1=(i:Int)/\x.2=(g,out)) ?_ ?_ ⟨rfl,rfl⟩
 .rintro i ⟨a,x⟩ hi ⟨e1,e2⟩;dsimp only at e1 e2;subst e1 e2;refine aY (λ_=>?_) λg=>(by dsimp only[ak]at g;omega)
  refine cG (aQ ?_);exact aL (λ_=>aj rfl) λ_=>aj ⟨fd,rfl⟩
 .rintro⟨a,x⟩ ⟨e1,e2⟩;dsimp only at e1 e2;subst e1 e2;exact aY (λg=>(by dsimp only[ak]at g;omega)) λ_=>aj rfl
def ME:Nat->Nat
 |0=>0
 |d+1=>50+16*ME d
abbrev x?:=GN×Y IT
def SpG (c:Sx×x?->M x?) (d:Nat):Prop:=∀(s:Sx) (g:GN) (out:Y IT),GS d s->GB g->l! out+ME d<=90000000->Ok (c (s,g,out)) (QG (ME d) g out)
def ag2 (c:Y Sx×x?->M x?) (d:Nat):Prop:=∀(l:Y Sx) (g:GN) (out:Y IT),l! l<=100->(∀s∈l,GS d s)->GB g->l! out+l! l*ME d<=90000000->Ok (c (l,g,out)) (QG (l! l*ME d) g out)
abbrev FS6:Type:=Y Sx×x?->M x?
abbrev FT6:Type:=Sx×x?->M x?
abbrev FA6:Type:=(Sx×Int×Int×Int)×x?->M x?
def ao5 (c:FT6) (d:Nat):Prop:=∀(s:Sx) (g:GN) (out:Y IT),GE 4 s.expr->l! s.body<=8->l! s.els<=8->(∀x∈s.body,GS d x)->(∀x∈s.els,GS d x)->GB g->l! out+ME (d+1)<=90000000->Ok (c (s,g,out)) (QG (17+16*ME d) g out)
def ao6 (q:FA6) (d:Nat):Prop:=∀(s:Sx) (a b c:Int) (g:GN) (out:Y IT),l! s.body<=8->(∀x∈s.body,GS d x)->GB g->l! out+ME (d+1)<=90000000->Ok (q ((s,a,b,c),g,out)) (QG (17+16*ME d) g out)
variable {i m:Nat}
def QG.trans {a:Nat} {g A:GN} {o z:Y IT} {y:x?} (h:GQ g A) (h1:l! o<=l! z) (F:l! z<=l! o+a) (k:QG i A z y) (D:a+i<=m):QG m g o y:=⟨h.trans k.q,by have:=k.l;omega,by have:=k.u;omega⟩
def QG.le {g:GN} {o:Y IT} {y:x?} (k:QG i g o y) (h:i<=m):QG m g o y:=⟨k.q,k.l,by have:=k.u;omega⟩
def WL (F:FS6) (c:FT6) (I:FT6) (N:FA6) (d:Nat) (ht:SpG c d):ag2 (qV F c I N) d:=by
 intro l g out hl hs hg hb;unfold qV bS bY bz bc cW aF cM;refine bn (l! l) (λi x=>x.1=(i:Int)/\QG (i*ME d) g out x.2) ?_ ?_ ⟨rfl,GQ.refl g,by simp,by simp⟩
 .rintro i ⟨a,D,A⟩ hi ⟨e1,q1,z,q3⟩;dsimp only at e1 q1 z q3;subst e1;have hK:(i+1)*ME d<=l! l*ME d:=co _ (by omega);have hKs:=iN i (ME d);rw[Nat.succ_eq_add_one]at hKs;refine aY (λ_=>?_) λg=>(by dsimp only[ak]at g;omega)
  refine cG (aQ ?_);refine av (ht _ D A (hs _ (bE (T:=.sm) (xs:=l) (j:=(i:Int)) (by omega) (by omega))) (hg.of q1) (by omega)) λy hy=>bu (by simp) (aj ?_)
  exact⟨fd,QG.trans q1 z q3 hy (by omega)⟩
 .rintro⟨a,D,A⟩ ⟨e1,q⟩;dsimp only at e1;subst e1;exact aY (λg=>(by dsimp only[ak]at g;omega)) λ_=>aj q
def S_ (z:FS6) (A:FT6) (D:FT6) (F:FA6) (d:Nat) (hS:ag2 z d):ao6 (pl z A D F) d:=by
 intro s a b c g out h1 h2 hg hb;have hm:ME (d+1)=50+16*ME d:=rfl;have kb:l! s.body*ME d<=8*ME d:=co _ h1;unfold pl ba bQ b_ da ia tJ bI AR bY;refine av (vy _ g out (by omega)) λy q=>?_
 let⟨g2,o2⟩:=y;let⟨q1,q2,q3⟩:=q;dsimp only at q1 q2 q3;refine bu (by simp) ?_;refine av (hS s.body g2 o2 (by omega) h2 (hg.of q1) (by omega)) λy q=>?_
 let⟨g3,o3⟩:=y;let⟨r1,N,I⟩:=q;dsimp only at r1 N I;refine bu (by simp) ?_;refine av (vy _ _ o3 (by omega)) λy q=>bu (by simp) (aj ?_)
 exact QG.trans (a:=1+8*ME d) (q1.trans (r1.trans (GQ.site g3 _ _))) (by omega) (by omega) q (by omega)
def MW (rs:FS6) (rt:FT6) (rb:FT6) (ra:FA6) (d:Nat) (hS:ag2 rs d):ao5 (mC rs rt rb ra) d:=by
 intro s g out he h1 h2 h3 h4 A hb;have hm:ME (d+1)=50+16*ME d:=rfl;have kb:l! s.body*ME d<=8*ME d:=co _ h1;have ke:l! s.els*ME d<=8*ME d:=co _ h2;have hex:GE 4 (ey (Xp.op s.expr,Xp.n s.expr,Xp.name s.expr,Xp.l s.expr)):=by rw[fo];exact he
 unfold mC ba bQ b_ da ia tJ AR ck bi bY bc;refine av (Dd _ _ g out hex A (by omega)) λy c=>?_
 let⟨g1,o1⟩:=y;let⟨p1,p2,p3⟩:=c;dsimp only at p1 p2 p3;refine bu (by simp) ?_;refine av (vU _ g1 o1 (by omega)) λy c=>?_
 let⟨g2,o2⟩:=y;let⟨q1,q2⟩:=c;dsimp only at q1 q2;subst q1;refine bu (by simp) ?_;refine av (hS s.body g2 o2 (by omega) h3 (A.of p1) (by omega)) λy c=>?_
 let⟨g3,o3⟩:=y;let⟨r1,r2,r3⟩:=c;dsimp only at r1 r2 r3;refine bu (by simp) ?_;have z:=p1.trans (r1.trans (GQ.site g3 g.2.2.2.2.2.2.2.1 g3.2.2.2.2.2.2.2.2));refine aL (λ_=>?_) λ_=>?_
 .refine av (vU _ _ o3 (by omega)) λy c=>?_
  let⟨D,o4⟩:=y;let⟨w1,q⟩:=c;dsimp only at w1 q;refine bu (by simp) (aG (iY _) (by dsimp only[ak];omega) (aG (iY _) (by dsimp only[ak];omega) (aj ⟨?_,?_,?_⟩)))
  .dsimp only;rw[w1];exact z
  .dsimp only;rw[cj];omega
  .dsimp only;rw[cj];omega
 refine aL (λ_=>?_) λ_=>?_
 .refine aG (iY _) (by dsimp only[ak];omega) (aG (iY _) (by dsimp only[ak];omega) (aj ⟨z,?_,?_⟩))
  .dsimp only;rw[cj];omega
  .dsimp only;rw[cj];omega
 .refine av (vU _ _ o3 (by omega)) λy c=>?_
  let⟨D,o4⟩:=y;let⟨w1,q⟩:=c;dsimp only at w1 q;have qs4:GQ g D:=by rw[w1];exact z
  refine bu (by simp) (aG (iY _) (by dsimp only[ak];omega) (aG (iY _) (by dsimp only[ak];omega) ?_));refine av (hS s.els D (cC o4 _ _) (by omega) h4 (A.of qs4) (by rw[cj];omega)) λy c=>?_
  let⟨g5,o5⟩:=y;let⟨N,I,F⟩:=c;dsimp only at N I F;rw[cj]at I F;refine bu (by simp) (aG (iY _) (by dsimp only[ak];omega) (aG (iY _) (by dsimp only[ak];omega) (aj ⟨qs4.trans N,?_,?_⟩)))
  .dsimp only;rw[cj];omega
  .dsimp only;rw[cj];omega
def Z7 (rs:FS6) (rt:FT6) (rb:FT6) (I:FA6) (d:Nat) (hB:ao5 rb d) (hA:ao6 I d):SpG (r7 rs rt rb I) (d+1):=by
 intro s g out hs hg hb;have hm:ME (d+1)=50+16*ME d:=rfl;let⟨i1,i2,i3,N,i5,i6,i7,i8,i9⟩:=hs;have gs:=GQ.site g g.2.2.2.2.2.2.2.2 (aZ .i64 (g.2.2.2.2.2.2.2.2+1));unfold r7 ba bQ b_ da ia bI AR bi bY bc aF cM eu;refine aX (λx=>QG (ME (d+1)) g out x) ?_ λx hx=>aj hx
 dsimp only;revert gs;generalize ((g.1,g.2.1,g.2.2.1,g.2.2.2.1,g.2.2.2.2.1,g.2.2.2.2.2.1,g.2.2.2.2.2.2.1,g.2.2.2.2.2.2.2.2,aZ .i64 (g.2.2.2.2.2.2.2.2+1)):GN)=A;intro gs;have z:=hg.of gs;have fin:∀(n:Nat) (y:x?),QG n A out y->n<=ME (d+1)->QG (ME (d+1)) g out y:=λn y q hn=>QG.trans (a:=0) gs (bL _) (by omega) q (by omega)
 refine aL (λF=>?_) λ_=>?_
 .refine av (XO (oY _) A out ?_ ?_ ?_ z (by omega)) λy q=>bu (by simp) (aj (fin _ _ q (by omega)))
  .rw[yX];exact i1
  .rw[yX];exact i3
  .rw[yX];exact N (.inl F)
 refine aX (λx=>x.2=(A,s,out)/\(x.1=J->s.op=2\/s.op=3)) ?_ ?_
 .exact aL (λh=>aj ⟨by dsimp only;rw[yX],λ_=>.inl h⟩) λ_=>aj ⟨by dsimp only;rw[yX],λh=>.inr (bJ h)⟩
 rintro⟨b,x⟩ ⟨e,D⟩;dsimp only at e D;subst e;refine aM (λhb3=>?_) λ_=>?_
 .dsimp only;rw[yX];refine av (hB s A out (N (by rcases D hb3 with h|h;exact .inr (.inl h);exact .inr (.inr (.inl h)))) i6 i7 i8 i9 z hb) λy q=>bu (by simp) (aj (fin _ _ q (by omega)))
 have har:∀(a b c:Int),Ok (I ((s,a,b,c),A,out)) (QG (17+16*ME d) A out):=λa b c=>hA s a b c A out i6 i8 z hb
 have hput:∀(i:IT),Ok (cQ (i,A,out)) (QG 1 A out):=λi=>vy i A out (by omega)
 have hat:∀(l:Y ζ) (n:ζ),l! l<=1000->Ok (kB (l,n)) λ_=>True:=λl n h=>(EW l n (by omega)).mono λ_ _=>trivial
 dsimp only;rw[yX];refine aL (λ_=>av (Be _ _ z.l) λ_ _=>av (har _ _ _) λy q=>bu (by simp) (aj (fin _ _ q (by omega)))) λ_=>?_
 refine aL (λ_=>av (Be _ _ z.l) λ_ _=>av (har _ _ _) λy q=>bu (by simp) (aj (fin _ _ q (by omega)))) λ_=>?_
 refine aL (λ_=>av (Be _ _ z.l) λ_ _=>av (har _ _ _) λy q=>bu (by simp) (aj (fin _ _ q (by omega)))) λ_=>?_
 refine aL (λ_=>av (har _ _ _) λy q=>bu (by simp) (aj (fin _ _ q (by omega)))) λ_=>?_
 refine aL (λ_=>av (har _ _ _) λy q=>bu (by simp) (aj (fin _ _ q (by omega)))) λ_=>?_
 have hcond:∀(n:ζ),Ok (jL (n,A,out)) λy=>y.2=(A,out):=λn=>af5 n A out z
 refine aL (λ_=>av (hcond _) λy q=>?_) λ_=>?_
 .obtain⟨v,y2⟩:=y;dsimp only at q;subst q;exact bu (by simp) (av (hput _) λy q=>bu (by simp) (aj (fin _ _ q (by omega))))
 refine aL (λ_=>av (hcond _) λy q=>?_) λ_=>?_
 .obtain⟨v,y2⟩:=y;dsimp only at q;subst q;exact bu (by simp) (av (hput _) λy q=>bu (by simp) (aj (fin _ _ q (by omega))))
 refine aL (λ_=>av (hcond _) λy q=>?_) λ_=>?_
 .obtain⟨v,y2⟩:=y;dsimp only at q;subst q;exact bu (by simp) (av (hput _) λy q=>bu (by simp) (aj (fin _ _ q (by omega))))
 refine aL (λ_=>av (hat _ _ z.t) λ_ _=>av (hput _) λy q=>bu (by simp) (aj (fin _ _ q (by omega)))) λ_=>?_
 refine aL (λ_=>av (hat _ _ z.t) λ_ _=>av (hput _) λy q=>bu (by simp) (aj (fin _ _ q (by omega)))) λ_=>?_
 refine aL (λF=>?_) λ_=>?_
 .have hex:GE 4 (ey (Xp.op s.expr,Xp.n s.expr,Xp.name s.expr,Xp.l s.expr)):=by rw[fo];exact N (.inr (.inr (.inr F)))
  refine av (Dd _ _ A out hex z (by omega)) λy q=>?_
  let⟨g2,o2⟩:=y;let⟨q1,q2,q3⟩:=q;dsimp only at q1 q2 q3;refine bu (by simp) (av (hat _ _ (z.of q1).f) λ_ _=>?_);exact av (vy _ g2 o2 (by omega)) λy q=>bu (by simp) (aj (fin 16 _ (QG.trans q1 q2 q3 q (by omega)) (by omega)))
 refine aL (λF=>?_) λ_=>aj (fin 0 _ ⟨GQ.refl _,bL _,by dsimp only;omega⟩ (by omega))
 exact av (hat _ _ z.k.l) λ_ _=>av (hat _ _ z.f) λ_ _=>av (hput _) λy q=>bu (by simp) (aj (fin _ _ q (by omega)))
def YP:∀(n:Nat),(∀d:Nat,3*d<n->SpG (eP n) d)/\(∀d:Nat,3*d+1<n->ag2 (dW n) d)/\(∀d:Nat,3*d+2<n->ao5 (dv n) d)/\(∀d:Nat,3*d+2<n->ao6 (dT n) d)
 |0=>⟨λd h=>by omega,λd h=>by omega,λd h=>by omega,λd h=>by omega⟩
 |n+1=>by
  let⟨z,c,A,hA⟩:=YP n;refine ⟨λd h=>?_,λd h=>?_,λd h=>?_,λd h=>?_⟩
  .cases d with
   |zero=>exact λs g out q=>q.elim
   |succ d=>exact Z7 (dW n) (eP n) (dv n) (dT n) d (A d (by omega)) (hA d (by omega))
  .exact WL (dW n) (eP n) (dv n) (dT n) d (z d (by omega))
  .exact MW (dW n) (eP n) (dv n) (dT n) d (c d (by omega))
  .exact S_ (dW n) (eP n) (dv n) (dT n) d (c d (by omega))
def Qj (d:Nat) (hd:d<=100):ag2 uA d:=(YP fI).2.1 d (by rw[po];omega)
def Fy:∀(n d:Nat),d<n->∀(t k:Int) (l:Y Sx) (out:Y π),l! l<=100->(∀s∈l,GT d s)->l! out+l! l*KS d<=100000000->Ok (pD n ((t,k,l),out)) λy=>l! y.2<=l! out+l! l*KS d
 |0,_,h,_,_,_,_,_,_,_=>by omega
 |n+1,d,hn,t,k,l,out,hl,A,hb=>by
  rw[H7];unfold xK bS BJ bY bc cW aF cM;refine bn (l! l) (λi x=>x.1.2=(i:Int)/\l! x.2<=l! out+i*KS d) ?_ ?_ ⟨rfl,by simp⟩
  .rintro i ⟨⟨a,b⟩,o⟩ hi ⟨e1,e2⟩;dsimp only at e1 e2;subst e1;have hKi:(i+1)*KS d<=l! l*KS d:=co _ (by omega);have hKs:=iN i (KS d);rw[Nat.succ_eq_add_one]at hKs;refine aY (λ_=>?_) λg=>(by dsimp only[ak]at g;omega)
   have hin:((i:Nat):Int)<(l! l:Int):=by omega
   have hm:=A _ (bE (T:=.sm) (xs:=l) (j:=(i:Int)) (by omega) (by omega));cases d with
   |zero=>exact hm.elim
   |succ d=>
    let⟨_,_,_,N,I,F,D⟩:=hm;have hk:KS (d+1)=1+16*KS d:=rfl;have kb:=co (KS d) N;have ke:=co (KS d) I;dsimp only;refine aG (by omega) hin (aQ (a! (aG (by omega) hin (aQ ?_))));refine av (Fy n d (by omega) _ _ _ _ (by omega) F (by simp;omega)) λy z=>bu (by simp) ?_
    let⟨a2,q⟩:=y;simp only[aD,aJ]at z;refine aG (by omega) hin (aQ ?_);refine av (Fy n d (by omega) _ _ _ q (by omega) D (by omega)) λy c=>bu (by simp) (aj ?_)
    exact⟨fd,by dsimp only at c ⊢;omega⟩
  .rintro⟨⟨a,b⟩,o⟩ ⟨e1,e2⟩;dsimp only at e1 e2;subst e1;exact aY (λg=>(by dsimp only[ak]at g;omega)) λ_=>aj e2
abbrev CE6:Type:=ζ×B?
def lkD (i:Nat):Y x!:=((D0.take i).filter λz=>decide (z.1=3\/z.1=4)).map λz=>(z.2.2.1,decide (z.1=4))
def aqi:lkD 9=LK0:=rfl
def aqh (hi:i<9):lkD (i+1)=if (aK HK D0 (i:Int)).1=3\/(aK HK D0 (i:Int)).1=4 then lkD i++[((aK HK D0 (i:Int)).2.2.1,decide ((aK HK D0 (i:Int)).1=4))] else lkD i:=by
 unfold lkD;rw[uh (T:=HK) (xs:=D0) hi,nN,cf];split
 next h=>rw[gK (by simpa using h)];rfl
 next h=>rw[lK (by simpa using h)];simp
def ai5 (i:Nat):l! (lkD i)<=i:=by
 unfold lkD;rw[bN];exact cA (Cq ..) (by rw[bD];omega)
structure J6 (i:Nat) (y:List CE6×List (ζ×Bool)×List (ζ×Int)×List ζ):Prop where
 c:l! y.1<=2*i
 q:3<i->∃c∈y.1,c.1=[113]
 l:y.2.1=lkD i
 d:l! y.2.2.1<=i
 f:l! y.2.2.2<=i
structure WW (w:WT):Prop where
 c:l! w.1<=18
 q:∃c∈w.1,c.1=[113]
 l:w.2.1=LK0
 d:l! w.2.2.1<=9
 f:l! w.2.2.2.1<=9
 t:l! w.2.2.2.2.1<=4
def XS (p:PG) (hp:PJ p) (r:ν) (hr:kA p=Z r) (h0:r.1=0):Ok (uB p) WW:=by
 have hpt:=hp.t;unfold uB ba bQ b_ da ia bI dD dP fX tI bi bS gF bY bz bc cW aF cM;refine aV hr (bW (λh=>(h h0).elim) λ_=>?_);have hD:p.1=D0:=hp.d;have hlen:l! p.1=9:=by rw[hD];rfl
 have hz:∀z∈p.1,z.2.2.2.1<=(2:Int):=by rw[hD];decide
 have h3:aK HK p.1 ((3:Nat):Int)=(1,0,[113],2,0,[]):=by rw[hD];rfl
 refine bn 9 (λi x=>x.1=(i:Int)/\x.2.1=p/\J6 i x.2.2) ?_ ?_ ⟨rfl,rfl,by simp,λh=>by omega,rfl,by simp,by simp⟩
 .rintro i ⟨a,p',cs,N,ds,fs⟩ hi ⟨e1,e2,j1,j2,j3,j4,j5⟩;dsimp only at e1 e2 j1 j2 j3 j4 j5;subst e1;have e2:=e2.symm;subst e2;refine aY (λ_=>?_) λg=>(by dsimp only[ak]at g;omega)
  refine cG (aQ ?_);have hm:=hz _ (bE (T:=HK) (xs:=p.1) (j:=(i:Int)) (by omega) (by omega));have h3i:i=3->(aK HK p.1 (i:Int))=(1,0,[113],2,0,[]):=λh=>by rw[h];exact h3
  have hL:=aqh hi;have hll:=ai5 i;rw[<- j3]at hL hll;rw[<- hD]at hL;revert hm h3i hL;generalize (aK HK p.1 (i:Int))=z;intro hm h3i hL;have hq:∀cs':Y CE6,(∀c∈cs,c∈cs')->i≠3->3<i+1->∃c∈cs',c.1=[113]:=λcs' h1 D h3=>by
   let⟨c,A,e⟩:=j2 (by omega);exact⟨c,h1 c A,e⟩
  refine aX (λx=>x.1=p/\J6 (i+1) x.2) ?_ ?_
  .refine aX (λx=>x.2=(p,z,cs,N,ds,fs)/\(x.1=aa->i≠3)/\(x.1=J->z.1=1\/z.1=2)) ?_ ?_
   .refine aL (λh=>aj ⟨rfl,λD=>?_,λ_=>.inl h⟩) λh=>aj ⟨rfl,λ_ D=>h (by rw[h3i D]),λh=>.inr (bJ h)⟩
    rw[bK h]at D;cases D
   rintro⟨b,x⟩ ⟨e,hb,hb1⟩;dsimp only at e hb hb1;subst e;refine aM (λhbt=>?_) λhb2=>?_
   .have hbt:=hb1 hbt;rw[aE (λh=>by rcases hbt with q|q<;>rw[q]at h<;>revert h<;>decide)]at hL;refine qB (λx=>(2-x.1).toNat) (λx=>0<=x.1/\x.1<=2/\x.2.1=p/\x.2.2.1=z/\(l! x.2.2.2.1:Int)<=2*i+x.1/\(∀c∈cs,c∈x.2.2.2.1)/\(1<=x.1->∃c∈x.2.2.2.1,c.1=z.2.2.1)/\x.2.2.2.2=(N,ds,fs)) ?_ ⟨by dsimp only;omega,by dsimp only;omega,rfl,rfl,by dsimp only;omega,λc A=>A,λh=>by dsimp only at h;omega,rfl⟩;rintro⟨(k:Int),p2,z2,cs2,x⟩ ⟨k0,k1,I,F,f3,f4,f5,f6⟩;dsimp only at k0 k1 I F f3 f4 f5 f6;have I:=I.symm;subst I;have F:=F.symm;subst F f6;refine aY (λg=>?_) λg=>?_
    .refine a! (aj ?_);have hg:k<Fo (z.2.2.2.1) 1:=g;have hx:Fo (z.2.2.2.1) 1<=2:=by unfold Fo;split<;>omega
     dsimp only;rw[jA (n:=k+1) (by omega) (by omega)];refine ⟨⟨by omega,by omega,rfl,rfl,by simp;omega,λc A=>fQ _ (f4 c A),λ_=>⟨_,kE _ (aA.2 rfl),rfl⟩,rfl⟩,by omega⟩
    .have hg:Fo (z.2.2.2.1) 1<=k:=g;have hx:1<=Fo (z.2.2.2.1) 1:=by
      unfold Fo;split
      .omega
      next h=>simp[fV]at h;omega
     refine aj ⟨rfl,⟨by dsimp only;omega,λh=>?_,hL.symm,by dsimp only;omega,by dsimp only;omega⟩⟩;by_cases hi3:i=3
     .obtain⟨c,A,e⟩:=f5 (by omega);exact⟨c,A,by rw[e,h3i hi3]⟩
     .exact hq _ f4 hi3 h
   have ni:=hb hb2;refine aX (λx=>x.2=(p,z,cs,N,ds,fs)/\(x.1=J↔(z.1=3\/z.1=4))) (aL (λh=>aj ⟨rfl,λ_=>.inl h,λ_=>bK h⟩) λh=>aj ⟨rfl,λD=>.inr (bJ D),λD=>bK (D.resolve_left h)⟩) ?_;rintro⟨b,x⟩ ⟨e,A⟩;dsimp only at e A;subst e;have hqq:=hq cs (λc h=>h) ni;have hf:b=aa->lkD (i+1)=N:=λh=>by rw[hL,aE λg=>(by rw[A.2 g]at h;cases h)]
   refine aM (λh=>?_) λh=>aL (λ_=>?_) λ_=>?_
   .exact a! (aj ⟨rfl,⟨by dsimp only;omega,hqq,by rw[hL,aR (A.1 h)],by dsimp only;omega,by dsimp only;omega⟩⟩)
   .refine av (Be _ _ (by dsimp only;omega)) λ_ _=>?_
    exact a! (aj ⟨rfl,⟨by dsimp only;omega,hqq,(hf h).symm,by simp;omega,by dsimp only;omega⟩⟩)
   .exact a! (aj ⟨rfl,⟨by dsimp only;omega,hqq,(hf h).symm,by dsimp only;omega,by simp;omega⟩⟩)
  rintro⟨p2,y⟩ ⟨I,F⟩;dsimp only at I F;have I:=I.symm;subst I;exact aj ⟨fd,rfl,F⟩
 .rintro⟨a,p',y⟩ ⟨e1,e2,j⟩;dsimp only at e1 e2 j;subst e1;have e2:=e2.symm;subst e2;refine aY (λg=>(by dsimp only[ak]at g;omega)) λ_=>?_
  let⟨cs,N,ds,fs⟩:=y;let⟨j1,j2,j3,j4,j5⟩:=j;dsimp only at j1 j2 j3 j4 j5;refine av (P:=WW) ?_ λr hr=>aj hr
  refine bn (l! p.2) (λi x=>x.1=(i:Int)/\x.2.1=p/\x.2.2.1=cs/\x.2.2.2.1=N/\x.2.2.2.2.1=ds/\x.2.2.2.2.2.1=fs/\l! x.2.2.2.2.2.2.1=i/\l! x.2.2.2.2.2.2.2<=i*2184) ?_ ?_ ⟨rfl,rfl,rfl,rfl,rfl,rfl,rfl,by simp⟩
  .rintro i ⟨a,p2,c2,l2,d2,F,t2,s2⟩ hi ⟨e1,e2,e3,e4,e5,e6,e7,e8⟩;dsimp only at e1 e2 e3 e4 e5 e6 e7 e8;subst e1;have e2:=e2.symm;subst e2;refine aY (λ_=>?_) λg=>(by dsimp only[ak]at g;omega)
   have hin:((i:Nat):Int)<(l! p.2:Int):=by omega
   have hm:=hp.m _ (bE (T:=tj) (xs:=p.2) (j:=(i:Int)) (by omega) hin);have hk:KS 3=273:=rfl;have hb:=hm.b;have hle:=co (KS 3) hb;rw[hk]at hle;dsimp only;refine aG (by omega) hin (aQ (a! (aG (by omega) hin (aQ ?_))));refine av (Fy fI 3 (by rw[po];omega) _ _ _ s2 (by omega) (λs hs=>(hm.s s hs).t) (by rw[hk];omega)) λy hy=>bu (by simp) (aj ?_)
   rw[hk]at hy;exact⟨fd,rfl,e3,e4,e5,e6,by simp;omega,by dsimp only;omega⟩
  .rintro⟨a,p2,c2,l2,d2,F,t2,s2⟩ ⟨e1,e2,e3,e4,e5,e6,e7,e8⟩;dsimp only at e1 e2 e3 e4 e5 e6 e7 e8;subst e1;have e2:=e2.symm;subst e2 e3 e4 e5 e6;refine aY (λg=>(by dsimp only[ak]at g;omega)) λ_=>aj ?_
   exact⟨j1,j2 (by omega),j3.trans aqi,j4,j5,by dsimp only;omega⟩
def Rg (p:PG) (hp:PJ p):Ok (qM p) λy=>CB y.1:=by
 have hpt:=hp.t;unfold qM ba bQ b_ da ia bI dP fX AR bS gF bY bz kQ bc cW aF cM;let⟨r,hr,_⟩:=ES p hp.x;refine aV hr (bW (λ_=>aj ⟨.inl rfl,by simp,λt ht=>(by cases ht)⟩) λh0=>?_);refine av (XS p hp r hr h0) λw I=>?_
 refine bn (l! p.2) (λi x=>x.1.2=(i:Int)/\x.2.1=p/\x.2.2.1=w/\l! x.2.2.2=i/\∀t∈x.2.2.2,l! t.2<=1000000) ?_ ?_ ⟨rfl,rfl,rfl,rfl,λt ht=>(by cases ht)⟩
 .rintro i ⟨⟨a,b⟩,p2,w2,cs⟩ hi ⟨e1,e2,N,e4,e5⟩;dsimp only at e1 e2 N e4 e5;subst e1;have e2:=e2.symm;subst e2;have N:=N.symm;subst N;have hin:((i:Nat):Int)<(l! p.2:Int):=by omega
  refine aY (λ_=>?_) λg=>(by dsimp only[ak]at g;omega)
  have hm:=hp.m _ (bE (T:=tj) (xs:=p.2) (j:=(i:Int)) (by omega) hin);dsimp only;refine aG (by omega) hin (aQ (aG (by omega) hin (aQ ?_)));revert hm;generalize (aK tj p.2 (i:Int))=t;intro hm;have hk:ME 3=50+16*(50+16*50):=rfl;have hle:=co (ME 3) hm.b;rw[hk]at hle;have hll:l! t.2.2.1=2:=by rw[hm.l];rfl
  refine av (Qj 3 (by omega) _ _ [] (by have:=hm.b;omega) hm.s ⟨⟨by have:=I.c;dsimp only;omega,I.q,by dsimp only;omega⟩,by have:=iQ ah I.l;have h3:LK0.length=3:=rfl;dsimp only;omega,by have:=I.d;dsimp only;omega,by have:=I.f;dsimp only;omega,by have:=I.t;dsimp only;omega⟩ (by rw[hk,em];omega)) λy hy=>bu (by simp) ?_
  let⟨g2,o2⟩:=y;let⟨q1,q2,q3⟩:=hy;rw[hk]at q3;dsimp only at q1 q2 q3;rw[em]at q3;refine av (vy _ _ o2 (by omega)) λy hy=>bu (by simp) ?_
  let⟨g3,o3⟩:=y;have o3l:=hy.u;dsimp only at o3l;refine bn (l! o3) (λk x=>x.1=(k:Int)/\x.2.1=p/\x.2.2.1=w/\x.2.2.2.2.2.1=cs/\x.2.2.2.2.2.2=o3) ?_ ?_ ⟨rfl,rfl,rfl,rfl,rfl⟩
  .rintro k ⟨a,p2,w2,g4,rg,c2,o4⟩ hk2 ⟨F,D,f3,A,z⟩;dsimp only at F D f3 A z;subst F;have D:=D.symm;subst D;have f3:=f3.symm;subst f3;have A:=A.symm;subst A;have z:=z.symm;subst z;refine aY (λ_=>?_) λg=>(by dsimp only[ak]at g;omega)
   dsimp only;refine cG (cG (aQ (aV (ye _) ?_)));generalize (aK rq o3 (k:Int))=ins;have hrl:=Jl ins;refine bn (l! (tM ins)) (λj x=>x.1=(j:Int)/\x.2.1=p/\x.2.2.1=w/\x.2.2.2.2.2.1=cs/\x.2.2.2.2.2.2=o3) ?_ ?_ ⟨rfl,rfl,rfl,rfl,rfl⟩
   .rintro j ⟨a,p2,w2,g4,rg,c2,o4⟩ hj ⟨F,D,f3,A,z⟩;dsimp only at F D f3 A z;subst F;refine aY (λ_=>?_) λg=>(by dsimp only[ak]at g;omega)
    exact cG (aQ (aj ⟨fd,D,f3,A,z⟩))
   .rintro⟨a,p2,w2,g4,rg,c2,o4⟩ ⟨F,D,f3,A,z⟩;dsimp only at F D f3 A z;subst F;exact aY (λg=>(by dsimp only[ak]at g;omega)) λ_=>aj ⟨fd,D,f3,A,z⟩
  .rintro⟨a,p2,w2,g4,rg,c2,o4⟩ ⟨F,D,f3,A,z⟩;dsimp only at F D f3 A z;subst F;have D:=D.symm;subst D;have f3:=f3.symm;subst f3;have A:=A.symm;subst A;have z:=z.symm;subst z;refine aY (λg=>(by dsimp only[ak]at g;omega)) λ_=>?_
   refine av (P:=λr=>match r with|.inl y=>y.1.2=((i+1:Nat):Int)/\y.2.1=p/\y.2.2.1=w/\l! y.2.2.2=i+1/\∀t∈y.2.2.2,l! t.2<=1000000|.inr y=>CB y.1) ?_ ?_
   .refine a! (aj ⟨fd,rfl,rfl,by simp;omega,λt ht=>?_⟩);rcases bF.1 ht with ht|ht
    .exact e5 t ht
    .rw[aA]at ht;rw[ht];dsimp only;omega
   .rintro (y|y) hy
    .exact aj hy
    .exact aj hy
 .rintro⟨⟨a,b⟩,p2,w2,cs⟩ ⟨e1,e2,N,e4,e5⟩;dsimp only at e1 e2 N e4 e5;subst e1;exact aY (λg=>(by dsimp only[ak]at g;rw[e2]at g;omega)) λ_=>aj ⟨.inr (by dsimp only;rw[N];exact I.l),by dsimp only;omega,e5⟩
def Mw (a b:η) (I:l! a<=9223372036854775807) (A:∀z∈a,0<=z/\z<=255) (F:l! b<=1000000):Ok (sG (a,b)) TR:=by
 unfold sG;refine av (P:=CB) ?_ λc D=>av (X2 b F) λl N=>?_
 .unfold xC;exact av (HS a I A) λp hp=>av (Rg p hp) λy q=>aj q
 .exact av (ao7 c l D (by omega)) λy q=>aj q
abbrev C3:Ty:=(.st (.pr aO .bool))
abbrev It:Ty:=(.st (.pr oH (.pr (.sl C3) (.pr (.sl C3) (.pr (.sl aO) (.pr oI (.sl aO)))))))
abbrev o_:Ty:=(.st (.pr pK (.pr aO (.pr oJ (.sl fP)))))
abbrev F8:Ty:=(.st (.pr aO (.pr aO (.pr aO (.pr aO (.pr aO (.sl aO)))))))
abbrev Kd4:Ty:=(.st (.pr o_ (.sl oH)))
abbrev VG:Ty:=(.st (.pr It (.sl gZ)))
abbrev Kd6:Ty:=(.int .u64)
abbrev C2:=(Y c!)
abbrev h?:=kM×C2×C2×(η)×(θ)×η
abbrev C9:=h?
abbrev e?:=ji×Int×iW×Y pI
abbrev jP:=e?
abbrev Yd3:=(Int×A?)
abbrev Yd4:=(C9×Y ν)
abbrev Ir:=b?
abbrev Yd6:=(Y ν)
abbrev w?:=uV×ry×(Y oF)×e_×e_×(Y π)×Int×fq×Int×(θ)×(Y du)×(η)×(η)×(η)×Y pI
abbrev Yd7:=w?
abbrev Yd8:=(Int×f?)
abbrev Yd9:=(fq×Int×(θ)×(Y du)×η)
def sB (x:c?):M Yd3:=
 (iter (σ:=O?) (λx1=>(bS x1.1 (bc x1.2.1.2.1) (bY (bl (ah x1.f+ah ([((-1),([]:η))])) 32) (cW ((cM x1.1),x1.2.1,x1.a,x1.b,(x1.f++([((-1),([]:η))]))))) (aw (iter (σ:=V!) (λc=>(bS c.1 (bc c.2.1.b) (bY (bl (ah c.h+ah ([aa])) 1) (cW ((cM c.1),c.2.1,c.a,c.b,c.c,(c.h++([aa]))))) (aw (iter (σ:=Int×ji×t?) (λq=>(bS q.1 (bc q.2.1.c) (jn (α:=ji×Int×Int×du×A?) (bi q.1 0 (aF (q.2.1,q.a,q.b,(1,0,aa),q.f)) (aF (q.2.1,q.a,q.b,(0,0,aa),q.f))) λz=>(bY (bl (ah z.i+ah ([z.b])) 24) (cW ((cM q.1),z.1,z.2.1,z.a,z.c,z.e,(z.i++([z.b])))))) (aF q.d))) (0,c.2.1,c.a,c.b,c.c,c.h,([]:Y du))) λr=>Z (bV r)))) (0,x1.2.1,x1.a,x1.b,x1.f,([]:θ))) λr=>Z (bV r)))) (0,x,0,(-1),([]:Y i?)))
abbrev z?:=(θ)×(Y du)×b!
def sx (x:c?):M (Int×fq×z?):=
 (aw (sB x) λq=>(bY (cZ 0 (bc x.b)&&cZ (bc x.b) (bc x.b)&&bl (aS (bc x.b)) 8) (bY (cZ 0 (bc x.c)&&cZ (bc x.c) (bc x.c)&&bl (aS (bc x.c)) 8) (iter (σ:=Int×ji×Int×Int×fq×z?) (λc=>(bS c.1 (bc c.2.1.1) (bz mO c.2.1.1 c.1 λz=>(bY (bl (ah c.j+ah ([z.2.2.2.2])) 8) (cW ((cM c.1),c.2.1,c.a,c.b,c.c,c.e,c.g,(c.j++([z.2.2.2.2])),c.n)))) (aF c.d))) (0,x,0,q.1,q.2.1,q.a,q.d,([]:η),(aP (aS (bc x.b)) (0:Int)),(aP (aS (bc x.c)) (0:Int)))))))
def nU (x:Int×fO×fq×z?):M (Int×fO×fq×z?):=
 (aw (bk ((aZ .i64 ((bc x.k)+2)),x.2.1)) λc=>(jn (bS (aZ .i64 (c.1-2)) 0 (aF (J,c.2,x.2.2)) (kQ aO x.k (aZ .i64 (c.1-2)) λz=>(aF ((decide ((z:Int)=0)),c.2,x.2.2)))) λq=>(aI q.1 (Z ((-1),q.2)) (Z ((aZ .i64 (c.1-2)),q.2)))))
abbrev g?:=fO×Int×Int×fq×(θ)×(Y du)×b!
def kZ (x:ji×q?):M (iW×q?):=
 (aw (sx x.1) λy1=>(iter (σ:=Int×g?) (λx2=>(bS x2.1 (bc y1.i) (jn (α:=g?) (aw (bk (9,x2.2.1)) λy4=>(kQ aO ([2,2,2,2,0,1,3,4,5]) y4.1 λz5=>(jn (α:=Int×g?) (jn (bi x2.1 0 (aF ((decide ((z5:Int)=0)),y4.2,x2.2.2)) (aF (aa,y4.2,x2.2.2))) λx7=>(aI x7.1 (aF (1,x7.2)) (aF (z5,x7.2)))) λI=>(ck (gr x2.1 (ah I.g)) (jn (α:=Bool×g?) (gF I.1 0 (aF ((!decide ((I.1:Int)=1)),I.2.1,I.a,I.b,I.c,I.e,(cC I.g x2.1 (I.1,0,aa)),I.k)) (aF (aa,I.2.1,I.a,I.b,I.c,I.e,(cC I.g x2.1 (I.1,0,aa)),I.k))) λx8=>(aI x8.1 (aw (bk (3,x8.2.1)) λy9=>(ck (gr x2.1 (ah x8.o)) (aw (bk (4,y9.2)) λy10=>(ck (gr x2.1 (ah x8.g)) (aF (y10.2,x8.a,x8.b,x8.c,x8.e,(cC x8.g x2.1 ((aK fg x8.g x2.1).1,((aK fg x8.g x2.1).2).1,(decide ((y10.1:Int)=3)))),x8.j,x8.p8,(cC x8.o x2.1 (aZ .i64 (1+y9.1))))))))) (aF x8.2))))))) λx3=>(cW ((cM x2.1),x3))) (aw (iter (σ:=Int×g?) (λc=>(bS c.1 (bc x2.c) (aw (nU (c.b,c.2.1,c.f)) λz=>(bY (ay (ah c.o) (ah z.k)&&(ay (ah c.p8) (ah z.g)&&(ay (ah c.j) (ah z.e)&&(ay (ah c.g) (ah z.c)&&(ay (ah c.e) (ah z.b)&&(ay (ah c.c) (ah z.a)&&J)))))) (jn (α:=g?) (bS z.1 0 (aF (z.2.1,c.a,c.b,z.2.2)) (jn (α:=Bool×g?) (bi c.1 2 (aw (bk (2,z.2.1)) λy15=>(aF ((decide ((y15.1:Int)=1)),y15.2,c.a,c.b,z.2.2))) (aF (aa,z.2.1,c.a,c.b,z.2.2))) λA=>(aI A.1 (ck (gr c.1 (ah A.c)) (aF (A.2.1,A.a,A.b,(cC A.c c.1 ((aK c_ A.c c.1).1,[z.1])),A.h))) (jn (bi c.1 0 (kQ fg A.g z.1 λz17=>(bi z17.1 3 (aF (J,A.2)) (kQ fg A.g z.1 λz18=>(aF ((decide ((z18.1:Int)=4)),A.2))))) (aF (aa,A.2))) λN=>(aI N.1 (aF N.2) (ck (gr c.1 (ah N.c)) (aF (N.2.1,N.a,N.b,(cC N.c c.1 (z.1,(aK c_ N.c c.1).2)),N.h)))))))) λx13=>(cW ((cM c.1),x13))))) (aw (jn (α:=g?) (aw (bk (3,c.2.1)) λy20=>(bi y20.1 2 (aw (nU (c.b,y20.2,c.f)) λF=>(bY (ay (ah c.o) (ah F.k)&&(ay (ah c.p8) (ah F.g)&&(ay (ah c.j) (ah F.e)&&(ay (ah c.g) (ah F.c)&&(ay (ah c.e) (ah F.b)&&(ay (ah c.c) (ah F.a)&&J)))))) (aF (F.2.1,c.a,F.1,F.2.2)))) (aF (y20.2,c.2.2)))) λD=>(jn (α:=g?) (aw (bk (3,D.1)) λy23=>(bi y23.1 2 (ck (gr 0 (ah D.c)) (aw (bk (3,y23.2)) λy24=>(ck (gr 0 (ah D.j)) (aF (y24.2,D.2.1,D.a,D.b,(cC D.c 0 J),D.e,D.g,(cC D.j 0 y24.1),D.n))))) (aF (y23.2,D.2)))) λx22=>(iter (σ:=Int×g?) (λq=>(bS q.1 (bc x22.g) (aw (bk (3,q.2.1)) λy26=>(ck (gr q.1 (ah q.j)) (cW ((cM q.1),y26.2,q.a,q.b,q.c,q.e,q.g,(cC q.j q.1 y26.1),q.n)))) (aF (((q.c,q.b,q.e,q.g),q.k),q.2.1)))) (0,x22)))) λr=>Z (bV r)))) (0,x2.2)) λr=>Z (bV r)))) (0,x.2,0,y1)))
def uq (x:(ji×Y pI)×Int):M iW:=
 (aw (m8 x.1.1) λA=>(iter (σ:=Int×(ji×Y pI)×Int×N?) (λc=>(bS c.1 x.2 (bz fP c.2.1.2 c.1 λq=>(aw (k_ (c.2.1.1,c.d,q)) λz=>(cW ((cM c.1),c.2.1,c.a,z.1)))) (aF c.d))) (0,x.1,0,A)))
def ut (x:(ji×Y pI)×Int):M ((Y jP)×Int):=
 (aw (uu x.1) λA=>(gF A.2 0 (Z (([]:Y jP),12)) (jn (bS x.2 1 (aF (J,x.1)) (aF ((fV 16 x.2),x.1))) λz=>(aI z.1 (Z (([]:Y jP),1)) (iter (σ:=Int×(ji×Y pI)×Y jP) (λc=>(bS c.1 (bc c.2.1.2) (aw (uq (c.2.1,c.1)) λq=>(bY (cZ 0 c.1&&(cZ c.1 (yY (aZ .i64 (c.1+x.2)) (bc c.2.1.2))&&cZ (yY (aZ .i64 (c.1+x.2)) (bc c.2.1.2)) (ah c.2.1.2))) (bY (bl (ah c.2.2+ah ([(c.2.1.1,c.1,q,(ca (aS (yY (aZ .i64 (c.1+x.2)) (bc c.2.1.2))-aS c.1) (gL (aS c.1) c.2.1.2)))])) 328) (cW ((aZ .i64 (c.1+x.2)),c.2.1,(c.2.2++([(c.2.1.1,c.1,q,(ca (aS (yY (aZ .i64 (c.1+x.2)) (bc c.2.1.2))-aS c.1) (gL (aS c.1) c.2.1.2)))]))))))) (aF (c.2.2,0)))) (0,z.2,([]:Y jP)))))))
def Dx (x:ν):M (Bool):=
 (jn (jO 0 x.1 (aF (fV x.1 x.2)) (aF aa)) λx1=>(Z x1))
def sw (x:e?):M (Bool):=
 (iter (σ:=(ν)×e?) (λx1=>(bS x1.1.2 (bc x1.b.d) (jn (bz aO x1.b.d x1.1.2 λA=>(bS A 0 (aF (J,x1.2)) (bz aO x1.b.d x1.1.2 λz=>(aF ((fV 400 z),x1.2))))) λc=>(aI c.1 (aF aa) (bz aO c.b.d x1.1.2 λq=>(cW (((aZ .i64 (x1.1.1+q)),(cM x1.1.2)),c.2))))) (aw (jn (bi x1.a x1.1.1 (aF (cZ (aZ .i64 (x1.1.1+(bc x1.f))) 400)) (aF aa)) λD=>(Z D)) λr=>Z (bV r)))) ((0,0),x))
def oS (x:e?):M (Bool):=
 (iter (σ:=Int×e?) (λx1=>(bS x1.1 (bc x.a.1.d) (jn (bz fg x.a.1.d x1.1 λz3=>(bi z3.1 0 (aF (J,x1.2)) (bz fg x.a.1.d x1.1 λz4=>(aF ((decide ((z4.1:Int)=1)),x1.2))))) λx2=>(jn (bz fg x.a.1.d x1.1 λz6=>(bi z6.1 3 (aF (J,x2.2)) (bz fg x.a.1.d x1.1 λz7=>(aF ((decide ((z7.1:Int)=4)),x2.2))))) λc=>(jn (bz fg x.a.1.d x1.1 λz9=>(bS z9.1 0 (aF (J,c.2)) (bz fg x.a.1.d x1.1 λz10=>(bS 5 z10.1 (aF (J,c.2)) (bz aO c.b.d x1.1 λN=>(aI ((x2.1==(decide ((N:Int)=0))) !=J) (aF (J,c.2)) (bi x1.1 0 (bz fg x.a.1.d x1.1 λI=>(aF ((decide ((I.1:Int)=0)),c.2))) (aF (aa,c.2))))))))) λq=>(aI q.1 (aF aa) (jn (aI c.1 (bz fg x.a.1.d x1.1 λF=>(aw (Dx (F.2.1,(bc q.2.1.a))) λy15=>(aI (!y15) (aF (J,q.2)) (aI (!c.1) (bz fg x.a.1.d x1.1 λD=>(aF ((!decide ((D.2.1:Int)=0)),q.2))) (aF (aa,q.2)))))) (aI (!c.1) (bz fg x.a.1.d x1.1 λA=>(aF ((!decide ((A.2.1:Int)=0)),q.2))) (aF (aa,q.2)))) λz=>(aI z.1 (aF aa) (cW ((cM x1.1),z.2)))))))) (aF J))) (0,x))
def m6 (x:jP×Int):M (Bool):=
 (jn (aw (Dx (x.2,(bc x.1.a.d))) λq=>(aI q (bz aO x.1.a.d x.2 λc=>(aF (cZ 1 c))) (aF aa))) λx1=>(Z x1))
def qH (x:e?):M (Bool):=
 (iter (σ:=Int×jP×o?) (λx1=>(bS x1.1 (bc x1.a) (bz c_ x1.a x1.1 λA=>(jn (α:=Bool×jP×kM×i?) (gF A.1 (-1) (aw (m6 (x1.2.1,A.1)) λy4=>(aI (!y4) (aF (J,x1.2.1,x1.2.2,A)) (bS 0 (bc A.2) (bz rj x1.2.1.1.2.1 x1.1 λz5=>(aI (!z5.2) (aF (J,x1.2.1,x1.2.2,A)) (aF ((!decide ((A.1:Int)=(-1))),x1.2.1,x1.2.2,A)))) (aF (aa,x1.2.1,x1.2.2,A))))) (bS 0 (bc A.2) (bz rj x1.2.1.1.2.1 x1.1 λz6=>(aI (!z6.2) (aF (J,x1.2.1,x1.2.2,A)) (aF ((!decide ((A.1:Int)=(-1))),x1.2.1,x1.2.2,A)))) (aF (aa,x1.2.1,x1.2.2,A)))) λx3=>(aI x3.1 (aF aa) (iter (σ:=Int×jP×kM×i?) (λz=>(bS z.1 (bc z.f) (jn (bz aO z.f z.1 λz9=>(aw (m6 (z.2.1,z9)) λy10=>(aI (!y10) (aF (J,z.2)) (bS 0 z.1 (bz aO z.f z.1 λz11=>(bz aO z.f (aZ .i64 (z.1-1)) λz12=>(aF ((cZ z11 z12),z.2)))) (aF (aa,z.2)))))) λx8=>(aI x8.1 (aF (bV aa)) (cW ((cM z.1),x8.2)))) (aF (kS ((cM x1.1),z.2.1,z.a))))) (0,x3.2))))) (aw (jn (α:=Bool×jP×o?) (gF x1.b (-1) (aw (m6 (x1.2.1,x1.b)) λy14=>(aF ((!y14),x1.2))) (aF (aa,x1.2))) λI=>(aI I.1 (Z aa) (iter (σ:=Int×jP×o?) (λq=>(bS q.1 (bc q.h) (bz fg q.h q.1 λD=>(jn (aI D.2.2 (aw (m6 (q.2.1,q.1)) λy18=>(aF ((!y18),q.2.1,q.2.2,D))) (aF (aa,q.2.1,q.2.2,D))) λc=>(aI c.1 (aF aa) (jn (bi c.b 3 (bz itK c.2.1.1.a c.c λz20=>(bz c_ c.a.1 z20.2 λz21=>(aF ((decide ((z21.1:Int)=q.1)),c.2.1,c.a)))) (bi c.b 4 (bz itK c.2.1.1.a c.c λz22=>(bz c_ c.a.1 z22.2 λN=>(aF ((decide ((N.1:Int)=q.1)),c.2.1,c.a)))) (aF (aa,c.2.1,c.a)))) λF=>(aI F.1 (aF aa) (cW ((cM q.1),F.2))))))) (aF J))) (0,I.2)))) λr=>Z (bV r)))) (0,x,x.a.1))
def zO (x:jP×h!):M (Int):=
 (iter (σ:=(ν)×e?) (λx1=>(bS x1.1.2 (bc x1.f) (jn (bz fP x1.f x1.1.2 λq=>(bi q.1 x.2.1 (bi x1.1.1 0 (cW (bV x1.1.2)) (aF ((aZ .i64 (x1.1.1-1)),x1.2))) (aF (x1.1.1,x1.2)))) λc=>(cW ((c.1,(cM x1.1.2)),c.2))) (aF (-1)))) ((x.2.2,0),x.1))
def rH (x:jP×i?):M (Bool):=
 (iter (σ:=Int×e?) (λx1=>(bS x1.1 (bc x.2.2) (jn (bz aO x.2.2 x1.1 λN=>(bz aO x1.b.d x.2.1 λI=>(bS N I (aF x1.2) (bz aO x.2.2 x1.1 λF=>(bz aO x1.b.d x.2.1 λD=>(aw (zO (x1.2,x.2.1,(aZ .i64 (F-D)))) λq=>(jn (bS q 0 (aF (J,x1.2)) (bz fP x1.f q λA=>(gF A.2.1 3 (bz fP x1.f q λc=>(aF ((!decide ((c.2.1:Int)=23)),x1.2))) (aF (aa,x1.2))))) λz=>(aI z.1 (cW (bV aa)) (aF z.2))))))))) λx2=>(cW ((cM x1.1),x2))) (aF J))) (0,x.1))
def ur (x:e?):M (Bool):=
 (jn (aw (iR x.1) λy2=>(aI (!y2) (aF (J,x)) (aw (rJ (x.1,x.a)) λy3=>(aI (!y3) (aF (J,x)) (bS 16 (bc x.d) (aF (J,x)) (aw (sw x) λy4=>(aI (!y4) (aF (J,x)) (aw (oS x) λy5=>(aI (!y5) (aF (J,x)) (aw (qH x) λy6=>(aF ((!y6),x)))))))))))) λx1=>(aI x1.1 (Z aa) (iter (σ:=Int×e?) (λz=>(bS z.1 (bc z.b.a) (jn (bz (.bool) z.b.1.a z.1 λz9=>(aI (!z9) (bz aO z.b.a z.1 λF=>(aF ((!decide ((F:Int)=0)),z.2))) (aF (aa,z.2)))) λx8=>(aI x8.1 (aF aa) (cW ((cM z.1),x8.2)))) (aw (iter (σ:=Int×jP×N?) (λc=>(bS c.1 (bc c.2.1.d) (bz fP c.2.1.d c.1 λq=>(aw (k_ (c.2.1.1,c.2.2,q)) λA=>(jn (aI (!A.2) (aF (J,c.2.1,c.2.2,A.1)) (aw (rH (c.2.1,q.1,q.e)) λN=>(aI (!N) (aF (J,c.2.1,c.2.2,A.1)) (aw (rH (c.2.1,q.1,q.i)) λI=>(aF ((!I),c.2.1,c.2.2,A.1)))))) λD=>(aI D.1 (aF aa) (cW ((cM c.1),D.2.1,D.d)))))) (aF J))) (0,z.2,z.b)) λr=>Z (bV r)))) (0,x1.2))))
def m7 (x:jP×Int):M iW:=
 (iter (σ:=Int×jP×Int×N?) (λx1=>(jn (bS x1.1 x.2 (aF ((fV x1.1 (bc x1.2.1.d)),x1.2)) (aF (aa,x1.2))) λc=>(aI c.1 (bz fP c.2.1.d x1.1 λq=>(aw (k_ (c.2.1.1,c.d,q)) λz=>(cW ((cM x1.1),c.2.1,c.a,z.1)))) (aF c.d)))) (0,x.1,0,x.1.a))
def mj (x:m?):M jP:=
 (jn (α:=(η)×h!) (bS 400 (bc x.1) (bY (cZ 0 400&&cZ 400 (ah x.1)) (aF ((ca (aS 400) x.1),0,0))) (aF (x.1,0,0))) λx1=>(aw (lP ()) λz=>(aw (kZ (z,x1.1,0)) λq=>(iter (σ:=Int×(ν)×fO×uV×ry×(Y oF)×e_×e_×(Y π)×Int×fq×Int×z?) (λc=>(bS c.1 (bc q.1.d) (bz aO q.1.d c.1 λF=>(cW ((cM c.1),c.2.1,c.a,c.b,c.c,c.e,c.g,c.j,c.p8,(aZ .i64 (c.l+F)),c.s))) (aw (aw (su ((((c.m,c.p,c.q,c.u),c.v),(c.b,c.c,c.e,c.g,c.j,c.p8),(yY (Fo x.2 0) 16),J),c.a)) λD=>(aw (ur ((c.b,c.c,c.e,c.g,c.j,c.p8),c.l,((c.m,c.p,c.q,c.u),c.v),D.1)) λy7=>(aI (!y7) (aw (lP ()) λN=>(aw (lP ()) λI=>(aw (m8 I) λA=>(Z (N,0,A,([]:Y pI)))))) (Z ((c.b,c.c,c.e,c.g,c.j,c.p8),c.l,((c.m,c.p,c.q,c.u),c.v),D.1))))) λr=>Z (bV r)))) (0,x1.2,q.2,z.1,z.2.1,z.a,z.b,z.c,z.h,0,q.1.1.1,q.1.1.2.1,q.1.1.a,q.1.1.d,q.1.2)))))
abbrev N!:=(η×(η)×(η)×Int×Int)×Int
def jS (x:N!):M jP:=
 (bS 0 (bc x.1.a) (bY (!decide ((x.2:Int)=0)) (aw (mj (x.1.a,(aZ .i64 (1+(fR (aZ .i64 x.1.b) x.2))))) λD=>(Z D))) (bY (cZ 0 (yY (bc x.1.2.1) 80)&&cZ (yY (bc x.1.2.1) 80) (ah x.1.2.1)) (aw (sG (x.1.1,(ca (aS (yY (bc x.1.2.1) 80)) x.1.2.1))) λA=>(bY (!decide ((x.2:Int)=0)) (aw (ut (A,(aZ .i64 (1+(fR (aZ .i64 x.1.b) x.2))))) λc=>(bi (bc c.1) 0 (aw (mj (([]:η),0)) λz=>(Z z)) (bY (!decide (((bc c.1):Int)=0)) (bz o_ c.1 (fR (aZ .i64 x.1.f) (bc c.1)) λq=>(Z q)))))))))
def PC (x:η):M η:=
 (aI (ay (ah x) 0) (FX (Z ([]:η)) (bY (bl (ah ([]:η)+ah x) 8) (Z (([]:η)++x)))) (bY (bl (ah ([]:η)+ah x) 8) (Z (([]:η)++x))))
def JR (x:η):M η:=chk (bl (ah x) 8) λ_=>Z x
def JP (x:η):M η:=
 (aI (ay (ah x) 0) (FX (Z ([]:η)) (bY (bl (ah ([]:η)+ah x) 8) (Z (([]:η)++x)))) (bY (bl (ah ([]:η)+ah x) 8) (Z (([]:η)++x))))
def rZ (x:η):M η:=chk (bl (ah x) 8) λ_=>Z x
def uP (it:Itr) (x:m?):M (Int):=
 (it (Int) _ (λx1=>(bS x1 (bc x.1) (bz aO x.1 x1 λc=>(bi x.2 c (aF x1) (cW (cM x1)))) (aF (-1)))) 0)
def CH (x:m?):M (Int):=uP @iter x
def iT (x:m?):M (Int):=uP @wO x
def eO (x:m?):M (Bool):=
 (aw (iT x) λc=>(Z (cZ 0 c)))
def eY (x:ν):M (Bool):=
 (jn (jO 0 x.1 (aF (fV x.1 x.2)) (aF aa)) λx1=>(Z x1))
def iS (x:ji×h!):M (Bool):=
 (jn (bi x.2.1 1 (aF ((decide ((x.2.1:Int)=1)),x.1)) (bi x.2.1 2 (aF ((decide ((x.2.1:Int)=2)),x.1)) (bi x.2.1 5 (aF ((decide ((x.2.1:Int)=5)),x.1)) (bi x.2.1 12 (aF ((decide ((x.2.1:Int)=12)),x.1)) (bi x.2.1 13 (aF ((decide ((x.2.1:Int)=13)),x.1)) (bi x.2.1 14 (aF ((decide ((x.2.1:Int)=14)),x.1)) (aF ((decide ((x.2.1:Int)=15)),x.1)))))))) λx1=>(aI x1.1 (Z (decide ((x.2.2:Int)=(-1)))) (jn (bi x.2.1 3 (aF ((decide ((x.2.1:Int)=3)),x1.2)) (aF ((decide ((x.2.1:Int)=4)),x1.2))) λF=>(aI F.1 (aw (eY (x.2.2,(bc F.2.1))) λy3=>(Z y3)) (jn (bi x.2.1 6 (aF ((decide ((x.2.1:Int)=6)),F.2)) (aF ((decide ((x.2.1:Int)=7)),F.2))) λA=>(aI A.1 (jn (aw (eY (x.2.2,(bc A.a))) λy6=>(aI y6 (bz rj A.a x.2.2 λz7=>(aF (!z7.2))) (aF aa))) λx5=>(Z x5)) (jn (bi x.2.1 8 (aF ((decide ((x.2.1:Int)=8)),A.2)) (bi x.2.1 9 (aF ((decide ((x.2.1:Int)=9)),A.2)) (bi x.2.1 10 (aF ((decide ((x.2.1:Int)=10)),A.2)) (aF ((decide ((x.2.1:Int)=11)),A.2))))) λz=>(aI z.1 (jn (aw (eY (x.2.2,(bc z.a))) λy10=>(aI y10 (bz rj z.a x.2.2 λI=>(aF I.2)) (aF aa))) λx9=>(Z x9)) (jn (bi x.2.1 16 (aF ((decide ((x.2.1:Int)=16)),z.2)) (bi x.2.1 17 (aF ((decide ((x.2.1:Int)=17)),z.2)) (bi x.2.1 18 (aF ((decide ((x.2.1:Int)=18)),z.2)) (aF ((decide ((x.2.1:Int)=19)),z.2))))) λq=>(aI q.1 (aw (eY (x.2.2,(bc q.b))) λy13=>(Z y13)) (jn (bi x.2.1 20 (aF ((decide ((x.2.1:Int)=20)),q.2)) (aF ((decide ((x.2.1:Int)=21)),q.2))) λc=>(aI c.1 (aw (eY (x.2.2,(bc c.e))) λy15=>(Z y15)) (jn (bi x.2.1 22 (aF ((decide ((x.2.1:Int)=22)),c.2)) (aF ((decide ((x.2.1:Int)=23)),c.2))) λD=>(aI D.1 (aw (eY (x.2.2,(bc D.c))) λN=>(Z N)) (Z aa)))))))))))))))
def qX (it:Itr) (x:ji×o?):M (Bool):=
 (jn (gF (bc x.2.1) (bc x.1.2.1) (aF (J,x.1)) (gF (bc x.b) (bc x.1.b) (aF (J,x.1)) (aF ((!decide (((bc x.f):Int)=(bc x.1.c))),x.1)))) λx1=>(aI x1.1 (Z aa) (it M? _ (λc=>(bS c.1 (bc x1.b) (bz itK x1.b c.1 λq=>(aw (eY (q.2,(bc c.a))) λz=>(aI (!z) (aF aa) (cW ((cM c.1),c.2))))) (aF J))) (0,x1.2))))
def xx (x:ji×o?):M (Bool):=qX @iter x
def jD (x:ji×o?):M (Bool):=qX @wO x
def kI (x:Q!):M (Bool):=
 (bi x.b 6 (bz c_ x.2.1.1 x.f λz1=>(Z (decide ((z1.1:Int)=(-1))))) (bi x.b 10 (jn (α:=Bool) (bz c_ x.2.1.1 x.f λz3=>(bi z3.1 (-1) (bz c_ x.2.1.1 x.f λz4=>(aF (decide (((bc z4.2):Int)=0)))) (aF aa))) λx2=>(Z x2)) (bi x.b 8 (jn (α:=Bool) (bz c_ x.2.1.1 x.f λz6=>(bi z6.1 (-1) (bz c_ x.2.1.1 x.f λz7=>(aw (eO (z7.2,x.a)) λy8=>(aF (!y8)))) (aF aa))) λx5=>(Z x5)) (jn (bi x.b 7 (aF ((decide ((x.b:Int)=7)),x.1,x.2.1)) (aF ((decide ((x.b:Int)=11)),x.1,x.2.1))) λq=>(aI q.1 (bz c_ q.a x.f λz10=>(Z (decide ((z10.1:Int)=x.a)))) (bi x.b 9 (bz c_ q.a x.f λz11=>(aw (eO (z11.2,x.a)) λy12=>(Z y12))) (bi x.b 12 (Z (decide ((q.b:Int)=(-1)))) (bi x.b 13 (Z (decide ((q.b:Int)=x.a))) (bi x.b 14 (bz fg q.h x.a λz13=>(Z (!z13.2.2))) (bi x.b 15 (bz fg q.h x.a λz14=>(Z z14.2.2)) (jn (bi x.b 16 (aF ((decide ((x.b:Int)=16)),q.2)) (bi x.b 18 (aF ((decide ((x.b:Int)=18)),q.2)) (aF ((decide ((x.b:Int)=19)),q.2)))) λc=>(aI c.1 (bz itK c.2.1.a x.f λN=>(bz c_ c.a N.2 λI=>(Z (decide ((I.1:Int)=x.a))))) (bi x.b 20 (jn (gF x.f x.a (bz fg c.h x.f λF=>(aF (decide ((F.1:Int)=0)))) (aF aa)) λx18=>(Z x18)) (bi x.b 21 (jn (gF x.f x.a (bz fg c.h x.f λD=>(aF (decide ((D.1:Int)=5)))) (aF aa)) λx20=>(Z x20)) (bi x.b 22 (bz (.bool) c.c x.f λA=>(Z (!A))) (bi x.b 23 (bz (.bool) c.c x.f λz=>(Z z)) (Z J)))))))))))))))))
def fH (x:Q!):M (Bool):=
 (jn (aw (jD (x.1,x.2.1)) λI=>(aI (!I) (aF (J,x.1,x.2.1)) (aw (eY (x.a,(bc x.1.c))) λF=>(aI (!F) (aF (J,x.1,x.2.1)) (aw (iS (x.1,x.d)) λD=>(aF ((!D),x.1,x.2.1))))))) λx1=>(aI x1.1 (Z aa) (bz fg x1.h x.a λc=>(bi x.b 1 (Z (decide ((c.1:Int)=1))) (bi x.b 17 (jn (α:=Bool) (bi c.1 4 (bi c.2.1 x.f (bz itK x1.2.1.a x.f λA=>(bz c_ x1.a A.2 λz=>(aF (decide ((z.1:Int)=(-1)))))) (aF aa)) (aF aa)) λx6=>(Z x6)) (jn (bi c.1 2 (aw (kI (x1.2.1,x1.2.2,x.2.2)) λq=>(aF q)) (aF aa)) λN=>(Z N)))))))
def mn (x:du×Int):M (Bool):=
 (jn (bi x.1.1 3 (aF (decide ((x.1.2.1:Int)=x.2))) (aF aa)) λx1=>(Z x1))
def JQ (x:θ):M θ:=
 (aI (ay (ah x) 0) (FX (Z ([]:θ)) (bY (bl (ah ([]:θ)+ah x) 1) (Z (([]:θ)++x)))) (bY (bl (ah ([]:θ)+ah x) 1) (Z (([]:θ)++x))))
def DA (x:θ):M θ:=chk (bl (ah x) 1) λ_=>Z x
def Fk (x:θ):M θ:=
 (aI (ay (ah x) 0) (FX (Z ([]:θ)) (bY (bl (ah ([]:θ)+ah x) 1) (Z (([]:θ)++x)))) (bY (bl (ah ([]:θ)+ah x) 1) (Z (([]:θ)++x))))
def wL (x:θ):M θ:=chk (bl (ah x) 1) λ_=>Z x
def JO (x:Y du):M (Y du):=
 (aI (ay (ah x) 0) (FX (Z ([]:Y du)) (bY (bl (ah ([]:Y du)+ah x) 24) (Z (([]:Y du)++x)))) (bY (bl (ah ([]:Y du)+ah x) 24) (Z (([]:Y du)++x))))
def Dz (x:Y du):M (Y du):=chk (bl (ah x) 24) λ_=>Z x
def Fi (x:Y du):M (Y du):=
 (aI (ay (ah x) 0) (FX (Z ([]:Y du)) (bY (bl (ah ([]:Y du)+ah x) 24) (Z (([]:Y du)++x)))) (bY (bl (ah ([]:Y du)+ah x) 24) (Z (([]:Y du)++x))))
def JN (x:Y du):M (Y du):=chk (bl (ah x) 24) λ_=>Z x
def Fj (x:Y c!):M C2:=
 (aI (ay (ah x) 0) (FX (Z ([]:Y c!)) (bY (bl (ah ([]:Y c!)+ah x) 16) (Z (([]:Y c!)++x)))) (bY (bl (ah ([]:Y c!)+ah x) 16) (Z (([]:Y c!)++x))))
def zS (x:Y c!):M C2:=chk (bl (ah x) 16) λ_=>Z x
def r9 (it:Itr) (x:o?):M Yd3:=
 (bY (cZ 0 (bc x.1)&&cZ (bc x.1) (bc x.1)&&bl (aS (bc x.1)) 32) (it (Int×kM×Int×Y (Int×η)) _ (λx1=>(bS x1.1 (bc x.1) (bz c_ x.1 x1.1 λc=>(aw (JR c.2) λA=>(ck (gr x1.1 (ah x1.d)) (cW ((cM x1.1),x1.2.1,x1.a,(cC x1.d x1.1 (c.1,A))))))) (aw (aw (wL x1.2.1.a) λz=>(aw (JN x1.2.1.d) λq=>(Z (x1.2.1.2.1,x1.d,z,q)))) λr=>Z (bV r)))) (0,x,0,(aP (aS (bc x.1)) ((0,[]):i?)))))
def vW (x:o?):M Yd3:=r9 @iter x
def kJ (x:o?):M Yd3:=r9 @wO x
abbrev H?:=fq×(θ)×(Y du)×Int
def qW (it:Itr) (x:π×A?):M Yd3:=
 (it (ν×H?) _ (λx1=>(bS x1.1.2 (bc x.d) (jn (kQ fg x1.b x1.1.2 λz=>(jn (aw (mn (z,x.1.2.1)) λA=>(aI A (bS x1.1.1 0 (aF (J,x1.2)) (aF ((decide ((x1.1.2:Int)=x.1.2.2)),x1.2))) (aF (aa,x1.2)))) λc=>(aI c.1 (aF (x1.1.2,c.2)) (aF (x1.1.1,c.2))))) λq=>(cW ((q.1,(cM x1.1.2)),q.2))) (aw (jn (α:=A?) (jO 0 x1.1.1 (ck (gr x1.1.1 (ah x1.b)) (aF (x1.2.1,x1.a,(cC x1.b x1.1.1 (4,(aK fg x1.b x1.1.1).2))))) (aF (x1.2.1,x1.a,x1.b))) λD=>(Z (x1.1.1,D))) λr=>Z (bV r)))) (((-1),0),x.2.1,x.a,x.d,x.1.1))
def um (x:π×A?):M Yd3:=qW @iter x
def jU (x:π×A?):M Yd3:=qW @wO x
def mD (it:Itr) (x:ν×A?):M Yd3:=
 (it (ν×H?) _ (λx1=>(bS x1.1.2 (bc x.d) (jn (α:=Int×H?) (kQ fg x1.b x1.1.2 λq=>(aw (mn (q,x.1.2)) λz=>(aI z (ck (gr x1.1.2 (ah x1.b)) (aF ((cM x1.1.1),x1.2.1,x1.a,(cC x1.b x1.1.2 (4,(aK fg x1.b x1.1.2).2)),x1.f))) (aF (x1.1.1,x1.2))))) λc=>(cW ((c.1,(cM x1.1.2)),c.2))) (aF (x1.1.1,x1.2.1,x1.a,x1.b)))) ((0,0),x.2.1,x.a,x.d,x.1.1))
def qD (x:ν×A?):M Yd3:=mD @iter x
def gN (x:ν×A?):M Yd3:=mD @wO x
def qR (x:Int):M (Bool):=
 (Z (!decide ((x:Int)=x)))
def vX (x:ν):M (Bool):=
 (jn (aw (qR x.1) λq=>(aI q (aw (qR x.2) λc=>(aI (!c) (aF J) (aF (fV x.1 x.2)))) (aF (fV x.1 x.2)))) λx1=>(Z x1))
def rP (x:Int):M (Int):=
 (jO 4294967296 x U (jO 65536 x U (jO 256 x U (BJ (aZ .u8 x) ([0,1,2,2,3,3,3,3,4,4,4,4,4,4,4,4,5,5,5,5,5,5,5,5,5,5,5,5,5,5,5,5,6,6,6,6,6,6,6,6,6,6,6,6,6,6,6,6,6,6,6,6,6,6,6,6,6,6,6,6,6,6,6,6,7,7,7,7,7,7,7,7,7,7,7,7,7,7,7,7,7,7,7,7,7,7,7,7,7,7,7,7,7,7,7,7,7,7,7,7,7,7,7,7,7,7,7,7,7,7,7,7,7,7,7,7,7,7,7,7,7,7,7,7,7,7,7,7,8,8,8,8,8,8,8,8,8,8,8,8,8,8,8,8,8,8,8,8,8,8,8,8,8,8,8,8,8,8,8,8,8,8,8,8,8,8,8,8,8,8,8,8,8,8,8,8,8,8,8,8,8,8,8,8,8,8,8,8,8,8,8,8,8,8,8,8,8,8,8,8,8,8,8,8,8,8,8,8,8,8,8,8,8,8,8,8,8,8,8,8,8,8,8,8,8,8,8,8,8,8,8,8,8,8,8,8,8,8,8,8,8,8,8,8,8,8,8,8,8,8,8,8,8,8,8,8]) (Z (aZ .i64 (0+(aZ .i64 (zH ([0,1,2,2,3,3,3,3,4,4,4,4,4,4,4,4,5,5,5,5,5,5,5,5,5,5,5,5,5,5,5,5,6,6,6,6,6,6,6,6,6,6,6,6,6,6,6,6,6,6,6,6,6,6,6,6,6,6,6,6,6,6,6,6,7,7,7,7,7,7,7,7,7,7,7,7,7,7,7,7,7,7,7,7,7,7,7,7,7,7,7,7,7,7,7,7,7,7,7,7,7,7,7,7,7,7,7,7,7,7,7,7,7,7,7,7,7,7,7,7,7,7,7,7,7,7,7,7,8,8,8,8,8,8,8,8,8,8,8,8,8,8,8,8,8,8,8,8,8,8,8,8,8,8,8,8,8,8,8,8,8,8,8,8,8,8,8,8,8,8,8,8,8,8,8,8,8,8,8,8,8,8,8,8,8,8,8,8,8,8,8,8,8,8,8,8,8,8,8,8,8,8,8,8,8,8,8,8,8,8,8,8,8,8,8,8,8,8,8,8,8,8,8,8,8,8,8,8,8,8,8,8,8,8,8,8,8,8,8,8,8,8,8,8,8,8,8,8,8,8,8,8,8,8,8,8]) (aZ .u8 x))))))))))
def uF (x:Int):M (Int):=
 (aw (rP x) λc=>(Z c))
abbrev Y?:=ν×η
def ki (it:Itr) (x:Y?):M η:=
 (it i? _ (λx1=>(bS x1.1 x.1.2 (it i? _ (λc=>(jn (bS x.1.1 c.1 (kQ aO c.2 c.1 λF=>(kQ aO c.2 (aZ .i64 (c.1-1)) λD=>(aw (vX (F,D)) λI=>(aF (I,c.2))))) (aF (aa,c.2))) λq=>(aI q.1 (kQ aO q.2 (aZ .i64 (c.1-1)) λz=>(kQ aO q.2 c.1 λA=>(ck (gr c.1 (ah q.2)) (ck (gr (aZ .i64 (c.1-1)) (ah (cC q.2 c.1 z))) (cW ((aZ .i64 (c.1-1)),(cC (cC q.2 c.1 z) (aZ .i64 (c.1-1)) A))))))) (aF (kS ((cM x1.1),q.2)))))) x1) (aF x1.2))) ((cM x.1.1),x.2))
def kh (x:Y?):M η:=ki @iter x
def fN (x:Y?):M η:=ki @wO x
def oD (it:Itr) (x:π×η):M η:=
 (it ((Int×Int×Int×Bool×Bool)×η) _ (λx1=>(jO (aZ .i64 (x1.1.2.1-x1.1.1)) 12 (aw (fN ((x1.1.1,x1.1.2.1),x1.2)) λc=>(bY (ay (ah x1.2) (ah c)&&J) (aF c))) (bi x1.1.a 0 U (aI (!x1.1.b) U U)))) ((x.1.1,x.1.2.1,x.1.2.2,J,J),x.2))
def oB (x:π×η):M η:=oD @iter x
def iZ (x:π×η):M η:=oD @wO x
def wK (x:η):M η:=
 (aw (uF (aZ .u64 (bc x))) λq=>(aw (iZ ((0,(bc x),q),x)) λc=>(bY (ay (ah x) (ah c)&&J) (Z c))))
def xP (it:Itr) (x:η):M η:=
 (bS (bc x) 2 (Z x) (it i? _ (λx1=>(bS x1.1 (bc x1.2) (kQ aO x1.2 x1.1 λq=>(kQ aO x1.2 (aZ .i64 (x1.1-1)) λc=>(bi q c (bY (cZ 0 x1.1&&fV x1.1 (ah x1.2)) U) (cW ((cM x1.1),x1.2))))) (aF x1.2))) (1,x)))
def xy (x:η):M η:=xP @iter x
def lQ (x:η):M η:=xP @wO x
def pj (x:ν):M (Bool×Int):=
 (Z ((decide ((x.1:Int)=x.2)),x.2))
def uQ (it:Itr) (x:m?):M K!:=
 (it K! _ (λx1=>(bS x1.1 (bc x.1) (kQ aO x1.2.1 x1.1 λq=>(aw (pj (q,x1.2.2)) λc=>(aI c.1 (aF (x1.1,x1.2.1,c.2)) (cW ((cM x1.1),x1.2.1,c.2))))) (aF ((-1),x1.2)))) (0,x))
def uo (x:m?):M K!:=uQ @iter x
def nE (x:m?):M K!:=uQ @wO x
def ta (it:Itr) (x:m?):M i?:=
 (aw (nE x) λq=>(bY (ay (ah x.1) (ah q.2.1)&&J) (bi q.1 (-1) U (it (ν×q?) _ (λc=>(bS c.1.2 (bc c.2.1) (jn (kQ aO c.2.1 c.1.2 λA=>(aw (pj (A,c.2.2)) λz=>(aI (!z.1) (ck (gr c.1.1 (ah c.2.1)) (aF ((cM c.1.1),(cC c.2.1 c.1.1 A),z.2))) (aF (c.1.1,c.2.1,z.2))))) λD=>(cW ((D.1,(cM c.1.2)),D.2))) (aw (ck (cZ 0 c.1.1&&fV c.1.1 (ah c.2.1)) (bY (cZ 0 c.1.1&&fV c.1.1 (ah (ca (aS c.1.1) c.2.1++aP (ah c.2.1-aS c.1.1) (0:Int)))) (Z (c.2.2,(ca (aS c.1.1) (ca (aS c.1.1) c.2.1++aP (ah c.2.1-aS c.1.1) (0:Int))))))) λr=>Z (bV r)))) ((q.1,(cM q.1)),q.2)))))
def s6 (x:m?):M i?:=ta @iter x
def iU (x:m?):M i?:=ta @wO x
def gO (x:S?):M (kM×c!):=
 (aw (fH (x.1,x.2.1,x.a,x.b,x.c)) λy1=>(aI (!y1) (Z ((([]:Y i?),0,([]:θ),([]:Y du)),0,aa)) (aw (kJ x.2.1) λq=>(jn (α:=Int×t?) (bi x.b 1 (ck (gr x.a (ah q.d)) (aF (0,q.1,0,q.2.1,q.a,(cC q.d x.a (2,(aK fg q.d x.a).2))))) (bi x.b 2 (ck (gr x.a (ah q.d)) (aF (0,q.1,0,q.2.1,q.a,(cC q.d x.a (5,(aK fg q.d x.a).2))))) (jn (α:=Bool×ji×Int×t?) (bi x.b 6 (aF ((decide ((x.b:Int)=6)),x.1,q.1,x.a,0,q.2)) (aF ((decide ((x.b:Int)=10)),x.1,q.1,x.a,0,q.2))) λD=>(aI D.1 (ck (gr x.c (ah D.e)) (aF (0,D.a,D.c,(cC D.e x.c (D.b,(aK c_ D.e x.c).2)),D.i))) (jn (bi x.b 7 (aF ((decide ((x.b:Int)=7)),D.2)) (aF ((decide ((x.b:Int)=11)),D.2))) λc=>(aI c.1 (ck (gr x.c (ah c.e)) (aF (0,c.a,c.c,(cC c.e x.c ((-1),(aK c_ c.e x.c).2)),c.i))) (bi x.b 8 (kQ c_ c.e x.c λz6=>U) (bi x.b 9 (kQ c_ c.e x.c λz7=>U) (bi x.b 12 (aF (0,c.d)) (bi x.b 13 (aF (0,(-1),c.f)) (bi x.b 14 (ck (gr c.b (ah c.k)) (aF (0,c.a,c.c,c.e,c.g,(cC c.k c.b ((aK fg c.k c.b).1,((aK fg c.k c.b).2).1,J))))) (bi x.b 15 (ck (gr c.b (ah c.k)) (aF (0,c.a,c.c,c.e,c.g,(cC c.k c.b ((aK fg c.k c.b).1,((aK fg c.k c.b).2).1,aa))))) (bi x.b 16 (bz itK c.2.1.a x.c λN=>(ck (gr N.2 (ah c.e)) (ck (gr c.b (ah c.k)) (ck (gr c.b (ah (cC c.k c.b (3,(aK fg c.k c.b).2)))) (aF (0,c.a,c.c,(cC c.e N.2 ((-1),(aK c_ c.e N.2).2)),c.g,(cC (cC c.k c.b (3,(aK fg c.k c.b).2)) c.b ((aK fg (cC c.k c.b (3,(aK fg c.k c.b).2)) c.b).1,x.c,((aK fg (cC c.k c.b (3,(aK fg c.k c.b).2)) c.b).2).2)))))))) (bi x.b 17 (bz itK c.2.1.a x.c λI=>(ck (gr I.2 (ah c.e)) (ck (gr c.b (ah c.k)) (ck (gr c.b (ah (cC c.k c.b (2,(aK fg c.k c.b).2)))) (aF (0,c.a,c.c,(cC c.e I.2 (c.b,(aK c_ c.e I.2).2)),c.g,(cC (cC c.k c.b (2,(aK fg c.k c.b).2)) c.b ((aK fg (cC c.k c.b (2,(aK fg c.k c.b).2)) c.b).1,0,((aK fg (cC c.k c.b (2,(aK fg c.k c.b).2)) c.b).2).2)))))))) (bi x.b 18 (aw (jU ((c.a,x.f),c.h)) λA=>(bY (ay (ah c.k) (ah A.d)&&(ay (ah c.g) (ah A.a)&&(ay (ah c.e) (ah A.2.1)&&J))) (aF (A.1,c.a,c.c,A.2)))) (bi x.b 19 (aw (gN ((c.a,x.c),c.h)) λz=>(bY (ay (ah c.k) (ah z.d)&&(ay (ah c.g) (ah z.a)&&(ay (ah c.e) (ah z.2.1)&&J))) (aF (z.1,c.a,c.c,z.2)))) (bi x.b 20 (ck (gr x.c (ah c.k)) (aF (0,c.a,c.c,c.e,c.g,(cC c.k x.c (1,(aK fg c.k x.c).2))))) (bi x.b 22 (ck (gr x.c (ah c.g)) (aF (0,c.a,c.c,c.e,(cC c.g x.c J),c.k))) (aF (0,c.a,c.f)))))))))))))))))))) λF=>(Z ((F.b,F.2.1,F.f),F.1,J))))))
def nC (x:o?):M (Yd8×(π)×b!):=
 (bY (cZ 0 (bc x.1)&&cZ (bc x.1) (bc x.1)&&bl (aS (bc x.1)) 32&&decide (((bc x.1):Int)=3)) (jn (α:=kM×Int×(π)×b!) (bS 0 (bc x.1) (bz c_ x.1 0 λc=>(aw (rZ c.2) λz=>(bS 1 (bc x.1) (bz c_ x.1 1 λq=>(aw (rZ q.2) λI=>(bS 2 (bc x.1) (bz c_ x.1 2 λF=>(aw (rZ F.2) λy7=>(bS 3 (bc x.1) (bz c_ x.1 3 λN=>(aw (rZ N.2) λy9=>U)) (aF (x,0,(c.1,q.1,F.1),z,I,y7))))) (aF (x,0,(c.1,q.1,0),z,I,([]:η)))))) (aF (x,0,(c.1,0,0),z,([]:η),([]:η)))))) (aF (x,0,(0,0,0),([]:η),([]:η),([]:η)))) λx1=>(aw (DA x1.1.a) λD=>(aw (Dz x1.1.d) λA=>(Z ((x1.1.2.1,D,A),x1.2.2))))))
def li (x:S?):M (kM×c!):=
 (aw (fH (x.1,x.2.1,x.a,x.b,x.c)) λN=>(aI (!N) (Z ((([]:Y i?),0,([]:θ),([]:Y du)),0,aa)) (aw (nC x.2.1) λz=>(jn (α:=Int×Yd8×Int×((Int×η)×(Int×η)×Int)×Bool×η) (bi x.b 1 (BJ x.a z.1.2.2 U) (bi x.b 2 (BJ x.a z.1.2.2 U) (jn (α:=Bool×ji×Yd8×Int×Int×(π)×b!) (bi x.b 6 (aF ((decide ((x.b:Int)=6)),x.1,z.1,x.a,0,z.2)) (aF ((decide ((x.b:Int)=10)),x.1,z.1,x.a,0,z.2))) λq=>(aI q.1 U (jn (bi x.b 7 (aF ((decide ((x.b:Int)=7)),q.2.1,q.a,q.b,q.c,(q.e.1,q.g,q.e.2.1,q.j,q.e.2.2),q.n)) (aF ((decide ((x.b:Int)=11)),q.2.1,q.a,q.b,q.c,(q.e.1,q.g,q.e.2.1,q.j,q.e.2.2),q.n))) λc=>(aI c.1 U (bi x.b 8 (bi x.c 0 U (bi x.c 1 U (bi x.c 2 (bY (bl (ah c.i+ah ([c.b])) 8) (aw (wK (c.i++([c.b]))) λD=>(bY (ay (ah (c.i++([c.b]))) (ah D)&&J) (aw (lQ D) λF=>(bY (ay (ah D) (ah F)&&J) (aF (0,c.a,c.c,((c.e.1,c.e.2.1),(c.e.a,c.e.b),c.e.f),J,F))))))) U))) (bi x.b 9 (bi x.c 0 U (bi x.c 1 U (bi x.c 2 (aw (iU (c.i,c.b)) λI=>(bY (ay (ah c.i) (ah c.i)&&J) (aF (0,c.a,c.c,((c.e.1,c.e.2.1),(c.e.a,c.e.b),c.e.f),aa,I.2)))) U))) (bi x.b 12 (aF (0,(c.b,c.a.2),c.c,((c.e.1,c.e.2.1),(c.e.a,c.e.b),c.e.f),J,c.i)) (bi x.b 13 (aF (0,((-1),c.a.2),c.c,((c.e.1,c.e.2.1),(c.e.a,c.e.b),c.e.f),J,c.i)) (bi x.b 14 (BJ c.b c.a.2.2 U) (bi x.b 15 (BJ c.b c.a.2.2 U) (bi x.b 16 U (bi x.b 17 U (bi x.b 18 U (bi x.b 19 U (bi x.b 20 (BJ x.c c.a.2.2 U) (bi x.b 22 (BJ x.c c.a.2.1 U) (aF (0,c.a,c.c,((c.e.1,c.e.2.1),(c.e.a,c.e.b),c.e.f),J,c.i)))))))))))))))))))) λA=>(Z (([A.b.1,A.b.2.1,(A.b.2.2,A.h)],A.2.1),A.1,J))))))
def mo (x:S?):M (kM×c!):=orE (gO x) (li x)
def mc (x:o?):M kM:=
 (aw (DA x.a) λD=>(aw (Dz x.d) λA=>(iter (σ:=Int×Int×Yd8×Y (Int×η)) (λc=>(bS c.1 (bc x.1) (bz c_ x.1 c.1 λq=>(aw (JR q.2) λz=>(bY (bl (ah c.d+ah ([(q.1,z)])) 32) (cW ((cM c.1),c.2.1,c.a,(c.d++([(q.1,z)]))))))) (aF (c.d,c.a)))) (0,0,(x.2.1,D,A),([]:Y i?)))))
def nX (x:η):M C2:=
 (bY (cZ 0 0&&cZ 0 (bc x)&&bl (aS (bc x)) 16) (iter (σ:=Int×Y (Int×Bool)) (λx1=>(bS x1.1 (bc x) (bz aO x x1.1 λc=>(bY (bl (ah x1.2+ah ([(c,J)])) 16) (cW ((cM x1.1),(x1.2++([(c,J)])))))) (aF x1.2))) (0,(aP (aS 0) ((0,aa):c!)))))
def qP (x:e?):M C9:=
 (aw (mc x.a.1) λz=>(aw (nX x.a.2.1) λq=>(aw (nX x.a.a) λc=>(bY (cZ 0 (bc x.d)&&cZ (bc x.d) (bc x.d)&&bl (aS (bc x.d)) 1) (bY (cZ 0 (bc x.d)&&cZ (bc x.d) (bc x.d)&&bl (aS (bc x.d)) 8) (Z (z,q,c,([]:η),(aP (aS (bc x.d)) (aa:Bool)),(aP (aS (bc x.d)) (0:Int)))))))))
abbrev P!:=jP×C9×Int
def lI (x:P!):M (Int):=
 (jn (bS x.2.2 0 (aF (J,x.1,x.2.1)) (aF ((cZ (bc x.1.1.c) x.2.2),x.1,x.2.1))) λx1=>(aI x1.1 (Z (-1)) (iter (σ:=Int×h?) (λc=>(bS c.1 (bc x1.2.1.d) (bz fP x1.2.1.d c.1 λz=>(jn (bi z.1 x.2.2 (aw (eO (c.c,c.1)) λA=>(aF ((!A),c.2))) (aF (aa,c.2))) λq=>(aI q.1 (aF c.1) (cW ((cM c.1),q.2))))) (aF (-1)))) (0,x1.2.2))))
abbrev E?:=Int×C9×η
def nY (x:jP×C9×i?):M (Bool):=
 (bi (bc x.d) 0 (Z J) (jn (bS x.a 0 (aF (J,x.1,x.2.1)) (jO (bc x.1.1.c) x.a (aF (J,x.1,x.2.1)) (aF ((cZ (bc x.1.a.d) x.a),x.1,x.2.1)))) λx1=>(aI x1.1 (Z aa) (bz aO x1.2.1.a.d x.a λA=>(iter (σ:=E?) (λq=>(bS q.1 (bc x1.2.1.d) (jn (α:=C9×η) (bz fP x1.2.1.d q.1 λz5=>(bi z5.1 x.a (bY (bl (ah q.2.2+ah ([q.1])) 8) (aF (q.2.1,(q.2.2++([q.1]))))) (aF q.2))) λx4=>(cW ((cM q.1),x4))) (aw (iter (σ:=E?) (λc=>(bS c.1 (bc x.d) (jn (bz aO x.d c.1 λz=>(bS z A (aF c.2) (jn (bS (aZ .i64 (z-A)) 0 (aF (J,c.2)) (jO (bc c.2.2) (aZ .i64 (z-A)) (aF (J,c.2)) (kQ aO c.2.2 (aZ .i64 (z-A)) λI=>(jO (bc c.2.1.c) I (aF (J,c.2)) (kQ aO c.2.2 (aZ .i64 (z-A)) λF=>(bz (.bool) c.2.1.c F λD=>(aF ((!D),c.2)))))))) λN=>(aI N.1 (cW (bV aa)) (aF N.2))))) λx7=>(cW ((cM c.1),x7))) (aF J))) (0,q.2)) λr=>Z (bV r)))) (0,x1.2.2,([]:η)))))))
def fF (x:P!):M (Bool):=
 (aw (lI x) λq=>(bS q 0 (Z aa) (bz fP x.1.d q λc=>(jn (aw (fH (x.1.1,x.2.1.1,x.2.2,c.2.1,c.a)) λA=>(aI A (aw (nY (x.1,x.2.1,x.2.2,c.e)) λz=>(aF z)) (aF aa))) λD=>(Z D)))))
def sD (x:jP×h?):M (Bool):=
 (jn (bi (bc x.a) (bc x.1.1.1) (bi (bc x.b) (bc x.1.1.b) (bi (bc x.e) (bc x.1.d) (aF (decide (((bc x.i):Int)=(bc x.1.d)))) (aF aa)) (aF aa)) (aF aa)) λx1=>(Z x1))
def sE (x:jP×C9×h!):M (C9×Bool):=
 (jn (α:=Bool×jP×C9×(ν)×Int) (aw (sD (x.1,x.2.1)) λy2=>(aI (!y2) (aF (J,x.1,x.2.1,x.2.2,0)) (aw (fF (x.1,x.2.1,x.a)) λy3=>(aF ((!y3),x.1,x.2.1,x.2.2,0))))) λx1=>(aI x1.1 (Z (((([]:Y i?),0,([]:θ),([]:Y du)),([]:Y c!),([]:Y c!),([]:η),([]:θ),([]:η)),aa)) (aw (lI (x1.2.1,x1.a,x1.b.1)) λA=>(bz fP x1.2.1.d A λN=>(aw (mo (x1.2.1.1,x1.a.1,x1.b.1,N.2.1,N.a,x1.b.2)) λD=>(aI (!D.2.2) (Z (((([]:Y i?),0,([]:θ),([]:Y du)),([]:Y c!),([]:Y c!),([]:η),([]:θ),([]:η)),aa)) (jn (α:=jP×C9×(ν)×Int×pI×Yd9×C2×C2×(θ)×η) (aw (zS x1.a.2.1) λy8=>(aw (zS x1.a.a) λy9=>(bY ((decide ((bc x1.a.b)=(bc x1.a.b))&&cZ 0 (bc x1.a.b))&&cZ (bc x1.a.b) (ah x1.a.b)) (bY (bl (ah (ca (aS (bc x1.a.b)) x1.a.b)+ah ([A])) 8) (aI (ay (ah ([A])) 0) (aw (wL x1.a.c) λy10=>(aw (rZ x1.a.h) λy11=>(aF (x1.2.1,x1.a,x1.b,x1.f,N,(D.1.1,D.1.2.1,D.1.a,D.1.d,(ca (aS (bc x1.a.b)) x1.a.b)),y8,y9,y10,y11)))) (aw (wL x1.a.c) λy12=>(aw (rZ x1.a.h) λy13=>(aF (x1.2.1,x1.a,x1.b,x1.f,N,(D.1.1,D.1.2.1,D.1.a,D.1.d,((ca (aS (bc x1.a.b)) x1.a.b)++([A]))),y8,y9,y12,y13))))))))) λq=>(jn (α:=C9×Int×pI×Yd9×(Int×Bool)×(Int×Bool)×C2×C2×(θ)×η) (aw (nY (q.1,q.2.1,q.a.1,q.c.i)) λy15=>(aI y15 (aF (q.2.1,q.b,q.c,q.e,(q.c.b,J),(q.c.b,J),q.i)) (aF (q.2.1,q.b,q.c,q.e,(q.c.b,J),(0,aa),q.i)))) λc=>(jn (bi c.a.2.1 3 (bz C3 c.1.2.1 c.a.a λI=>(ck (gr A (ah c.p8)) (aF (c.2.1,c.b,c.g,c.j,(cC c.p8 A (Qr (.pr aO (.pr .bool .un)) (I.1,I.2,()) (c.c.1,c.c.2,()) !=aa)),c.o)))) (bi c.a.2.1 23 (bz C3 c.1.a c.a.a λF=>(ck (gr A (ah c.p8)) (aF (c.2.1,c.b,c.g,c.j,(cC c.p8 A (Qr (.pr aO (.pr .bool .un)) (F.1,F.2,()) (c.c.1,c.c.2,()) !=aa)),c.o)))) (bi c.a.2.1 4 (ck (gr c.a.a (ah c.g)) (aF (c.2.1,c.b,(cC c.g c.a.a c.e),c.k))) (bi c.a.2.1 22 (ck (gr c.a.a (ah c.j)) (aF (c.2.1,c.b,c.g,(cC c.j c.a.a c.e),c.n))) (bi c.a.2.1 18 (jO 0 D.2.1 (ck (gr A (ah c.o)) (aF (c.2.1,c.b,c.g,c.j,c.p8,(cC c.o A 1)))) (aF (c.2.1,c.b,c.i))) (bi c.a.2.1 19 (ck (gr A (ah c.o)) (aF (c.2.1,c.b,c.g,c.j,c.p8,(cC c.o A D.2.1)))) (aF (c.2.1,c.b,c.i)))))))) λz=>(Z (((z.2.1.1,z.2.1.2.1,z.2.1.a,z.2.1.b),z.a,z.b,z.2.1.f,z.f),J)))))))))))
def n_ (x:d?):M (Bool):=
 (jn (bi x.2.1 3 (aF J) (aF (decide ((x.2.1:Int)=4)))) λx1=>(Z x1))
def sH (x:Int):M (Bool):=
 (jn (bi x 6 (aF (decide ((x:Int)=6))) (bi x 8 (aF (decide ((x:Int)=8))) (bi x 10 (aF (decide ((x:Int)=10))) (bi x 17 (aF (decide ((x:Int)=17))) (aF (decide ((x:Int)=21))))))) λx1=>(aI x1 (Z J) (Z aa)))
def o6 (x:e?):M ((jP×Y kM)×Bool):=
 (jn (α:=Bool×jP×(ν)×w?) (bS 16 (bc x.d) (aF (J,x,(0,0),x.1.1,x.1.2.1,x.1.a,x.1.b,x.1.c,x.1.h,x.2.1,x.a.1.1,x.a.1.2.1,x.a.1.a,x.a.1.d,x.a.2.1,x.a.a,x.a.d,x.d)) (aF ((fV 4 (bc x.1.c)),x,(0,0),x.1.1,x.1.2.1,x.1.a,x.1.b,x.1.c,x.1.h,x.2.1,x.a.1.1,x.a.1.2.1,x.a.1.a,x.a.1.d,x.a.2.1,x.a.a,x.a.d,x.d))) λx1=>(aI x1.1 (Z ((((x1.b,x1.c,x1.e,x1.g,x1.j,x1.p8),x1.l,((x1.m,x1.p,x1.q,x1.u),x1.y,x1.z,x1.B),x1.C),([]:Y kM)),aa)) (iter (σ:=Int×jP×(ν)×Yd7×kM×Y kM) (λc=>(bS c.1 (bc x1.2.1.d) (bz fP x1.2.1.d c.1 λz=>(bY (bl (ah c.h+ah ([c.c])) 80) (jn (α:=Int×jP×(ν)×Yd7×kM×pI×Y kM) (bi z.2.1 18 (aF (z.b,c.2.1,c.a,c.b,c.c,z,(c.h++([c.c])))) (aF ((-1),c.2.1,c.a,c.b,c.c,z,(c.h++([c.c]))))) λq=>(aw (mo (q.2.1.1,q.c,q.e.1,q.e.2.1,q.e.a,q.1)) λA=>(aI (!A.2.2) (aF ((((q.b.1,q.b.2.1,q.b.a,q.b.b,q.b.c,q.b.e),q.b.g,((q.b.j,q.b.p8,q.b.l,q.b.m),q.b.p,q.b.q,q.b.u),q.b.v),q.i),aa)) (cW ((cM c.1),q.2.1,q.a,q.b,A.1,q.i))))))) (aF ((((c.b.1,c.b.2.1,c.b.a,c.b.b,c.b.c,c.b.e),c.b.g,((c.b.j,c.b.p8,c.b.l,c.b.m),c.b.p,c.b.q,c.b.u),c.b.v),c.h),J)))) (0,x1.2.1,x1.a,x1.d,x1.2.1.a.1,([]:Y kM)))))
abbrev U!:=jP×Y kM
def eD (x:(jP×Y kM)×η):M (Bool):=
 (iter (σ:=Int×U!) (λx1=>(bS x1.1 (bc x.2) (bz aO x.2 x1.1 λc=>(jn (bS c 0 (aF (J,x1.2)) (aF ((cZ (bc x1.2.1.d) c),x1.2))) λq=>(aI q.1 (aF aa) (cW ((cM x1.1),q.2))))) (aF J))) (0,x.1))
abbrev D!:=(jP×Y kM)×h!
def eI (x:D!):M (Bool):=
 (bz fP x.1.1.d x.2.1 λq=>(bz fP x.1.1.d x.2.2 λc=>(jn (aw (n_ q) λA=>(aI A (aw (n_ c) λz=>(aI z (bi q.a c.a (bi q.2.1 4 (aF J) (aF (decide ((c.2.1:Int)=4)))) (aF aa)) (aF aa))) (aF aa))) λD=>(Z D))))
def i_ (x:D!):M (Bool):=
 (jn (α:=Bool×U!) (aw (eD (x.1,[x.2.1,x.2.2])) λD=>(aI (!D) (aF (J,x.1)) (jO x.2.2 x.2.1 (aF (J,x.1)) (aw (eI x) λA=>(aF ((!A),x.1)))))) λx1=>(aI x1.1 (Z aa) (bz fP x1.2.1.d x.2.1 λc=>(bz fP x1.2.1.d x.2.2 λz=>(jn (gF c.1 z.1 (bz mO x1.2.1.1.1 c.a λq=>(aF (!q.2.2.2.1))) (aF aa)) λF=>(Z F))))))
def ii (x:D!):M (Bool):=
 (bz fP x.1.1.d x.2.2 λD=>(bz fP x.1.1.d x.2.1 λA=>(jn (bi D.1 A.1 (aF (J,x.1,D,A)) (aw (sH A.2.1) λy4=>(aF ((!y4),x.1,D,A)))) λq=>(aI q.1 (Z aa) (jn (jn (bi q.a.2.1 6 (aF ((decide ((q.a.2.1:Int)=6)),q.2)) (aF ((decide ((q.a.2.1:Int)=10)),q.2))) λc=>(aI c.1 (aF ((q.a.a,J),c.2.1,c.d)) (bi q.a.2.1 8 (aF ((q.a.a,aa),c.2.1,c.d)) (bi q.a.2.1 17 (bz itK c.2.1.1.1.a c.a.a λz7=>(aF ((z7.2,aa),c.2.1,c.d))) (bi q.a.2.1 21 (cW (decide ((c.a.a:Int)=c.b))) (cW aa)))))) λz=>(bz oH z.2.1.2 x.2.1 λz8=>(bz c_ z8.1 z.1.1 λN=>(jn (bi N.1 z.a (aF J) (aI z.1.2 (aw (eO (N.2,z.a)) λF=>(aF F)) (aF aa))) λI=>(Z I)))))))))
def iF (x:(jP×Y kM)×η):M (Bool):=
 (jn (bS (bc x.2) 2 (aF (J,x.1)) (bS 4 (bc x.2) (aF (J,x.1)) (aw (eD x) λy2=>(aF ((!y2),x.1))))) λx1=>(aI x1.1 (Z aa) (iter (σ:=Int×U!) (λc=>(bS c.1 (bc x.2) (bz aO x.2 c.1 λz=>(jn (bz aO x.2 0 λz6=>(bS z z6 (aF (J,c.2)) (bY (!decide (((bc x.2):Int)=0)) (bz aO x.2 (fR (cM c.1) (bc x.2)) λN=>(aw (ii (c.2,N,z)) λy8=>(aF ((!y8),c.2))))))) λI=>(aI I.1 (aF aa) (bY (cZ 0 c.1&&cZ c.1 (ah x.2)) (iter (σ:=Int×U!) (λq=>(bS q.1 (bC (ah (ca (aS c.1) x.2))) (bz aO (ca (aS c.1) x.2) q.1 λF=>(bz fP q.2.1.d z λD=>(bz fP q.2.1.d F λA=>(bi D.1 A.1 (aF (bV aa)) (cW ((cM q.1),q.2)))))) (aF (kS ((cM c.1),q.2))))) (0,I.2)))))) (aF J))) (0,x1.2))))
def ja (x:D!):M (Bool):=
 (jn (α:=Bool×U!) (aw (eD (x.1,[x.2.1,x.2.2])) λy2=>(aI (!y2) (aF (J,x.1)) (aF ((cZ x.2.1 x.2.2),x.1)))) λx1=>(aI x1.1 (Z aa) (bz fP x1.2.1.d x.2.1 λq=>(bz fP x1.2.1.d x.2.2 λc=>(jn (gF q.2.1 18 (gF q.2.1 19 (aF (J,x1.2,q,c)) (gF c.2.1 16 (aF (J,x1.2,q,c)) (gF q.a c.a (aF (J,x1.2,q,c)) (aF ((decide ((q.1:Int)=c.1)),x1.2,q,c))))) (gF c.2.1 16 (aF (J,x1.2,q,c)) (gF q.a c.a (aF (J,x1.2,q,c)) (aF ((decide ((q.1:Int)=c.1)),x1.2,q,c))))) λA=>(aI A.1 (Z aa) (bY (cZ 0 (cM x.2.2)&&(cZ (cM x.2.2) x.2.1&&cZ x.2.1 (ah A.2.1.1.d))) (iter (σ:=Int×(jP×Y kM)×pI×d?) (λz=>(bS z.1 (bC (ah (ca (aS x.2.1-aS (cM x.2.2)) (gL (aS (cM x.2.2)) A.2.1.1.d)))) (bz fP (ca (aS x.2.1-aS (cM x.2.2)) (gL (aS (cM x.2.2)) A.2.1.1.d)) z.1 λN=>(bi N.1 z.b (aF aa) (cW ((cM z.1),z.2)))) (aw (bz oH z.2.1.2 x.2.1 λI=>(bz fg I.2.2.2 z.b λF=>(gF F.1 3 (Z aa) (jn (bi z.a.2.1 19 (aF J) (aF (decide ((z.a.b:Int)=z.b)))) λD=>(Z D))))) λr=>Z (bV r)))) (0,A.2)))))))))
def iG (x:D!):M (Bool):=
 (bz fP x.1.1.d x.2.1 λq=>(jn (jO x.2.2 x.2.1 (aF (J,x.1)) (bz fP x.1.1.d x.2.2 λI=>(gF I.1 q.1 (aF (J,x.1)) (bz oH x.1.2 x.2.1 λF=>(bz fg F.2.2.2 q.1 λD=>(aF ((!D.2.2),x.1))))))) λc=>(aI c.1 (Z aa) (bY (cZ 0 (cM x.2.1)&&(cZ (cM x.2.1) x.2.2&&cZ x.2.2 (ah c.2.1.d))) (iter (σ:=Int) (λz=>(bS z (bC (ah (ca (aS x.2.2-aS (cM x.2.1)) (gL (aS (cM x.2.1)) c.2.1.d)))) (bz fP (ca (aS x.2.2-aS (cM x.2.1)) (gL (aS (cM x.2.1)) c.2.1.d)) z λA=>(jn (bi A.1 q.1 (aF (decide ((A.2.1:Int)=15))) (aF aa)) λN=>(aI N (aF aa) (cW (cM z))))) (aF J))) 0)))))
def ig (x:(jP×Y kM)×b?):M (Bool):=
 (jn (jO x.c x.e (bz fP x.1.1.d x.c λA=>(bz fP x.1.1.d x.e λz=>(bi A.1 z.1 (bz fP x.1.1.d x.c λq=>(bz fP x.1.1.d x.a λc=>(gF q.1 c.1 (aw (eI (x.1,x.a,x.c)) λF=>(aI F (aw (eI (x.1,x.e,x.b)) λD=>(aF D)) (aF aa))) (aF aa)))) (aF aa)))) (aF aa)) λx1=>(Z x1))
def iE (x:(jP×Y kM)×b?):M (Bool):=
 (bi x.2.1 1 (jn (bi x.c 0 (bi x.e 0 (bi (bc x.i) 0 (aw (i_ (x.1,x.a,x.b)) λF=>(aF F)) (aF aa)) (aF aa)) (aF aa)) λx1=>(Z x1)) (bi x.2.1 2 (jn (bi x.a 0 (bi x.b 0 (bi x.c 0 (bi x.e 0 (aw (iF (x.1,x.i)) λD=>(aF D)) (aF aa)) (aF aa)) (aF aa)) (aF aa)) λx3=>(Z x3)) (bi x.2.1 3 (jn (bi x.c 0 (bi x.e 0 (bi (bc x.i) 0 (aw (ja (x.1,x.a,x.b)) λA=>(aF A)) (aF aa)) (aF aa)) (aF aa)) λN=>(Z N)) (bi x.2.1 4 (jn (α:=Bool) (bi (bc x.i) 0 (aw (eD (x.1,[x.a,x.b,x.c,x.e])) λz=>(aI z (aw (iG (x.1,x.a,x.b)) λq=>(aI q (aw (ig x) λc=>(aF c)) (aF aa))) (aF aa))) (aF aa)) λI=>(Z I)) (Z aa)))))
abbrev J!:=jP×b?
def pS (x:J!):M (Bool):=
 (aw (o6 x.1) λc=>(jn (aI c.2 (aw (iE (c.1,x.2)) λq=>(aF q)) (aF aa)) λz=>(Z z)))
def rR (x:P!):M (Bool):=
 (jn (jO 0 x.2.2 (bS x.2.2 (bc x.1.d) (bz fP x.1.d x.2.2 λc=>(aw (lI (x.1,x.2.1,c.1)) λq=>(aF (decide ((q:Int)=x.2.2))))) (aF aa)) (aF aa)) λx1=>(Z x1))
def nD (x:P!):M (Bool):=
 (jn (aw (rR x) λz=>(aI z (bz fP x.1.d x.2.2 λc=>(aw (fF (x.1,x.2.1,c.1)) λq=>(aF q))) (aF aa))) λx1=>(Z x1))
def oZ (x:jP×C9×b?):M (Bool):=
 (bi x.a 1 (jn (aw (nD (x.1,x.2.1,x.b)) λy2=>(aI y2 (aw (nD (x.1,x.2.1,x.c)) λy3=>(aF y3)) (aF aa))) λx1=>(Z x1)) (bi x.a 2 (iter (σ:=Int×jP×h?) (λc=>(bS c.1 (bc x.k) (bz aO x.k c.1 λz5=>(aw (rR (c.2.1,c.2.2,z5)) λy6=>(aI (!y6) (aF aa) (bz fP c.2.1.d z5 λz=>(jn (bi z.2.1 17 (jO (bc c.a.d) z.1 (aF (J,c.2)) (bz fg c.a.d z.1 λz9=>(aF ((!decide ((z9.1:Int)=4)),c.2)))) (aF (aa,c.2))) λx8=>(aI x8.1 (aF aa) (cW ((cM c.1),x8.2)))))))) (aF J))) (0,x.1,x.2.1)) (bi x.a 3 (jn (bS 0 (bc x.2.1.b) (bz aO x.2.1.b (aZ .i64 ((bc x.2.1.b)-1)) λD=>(bi D x.c (aw (eO (x.2.1.b,x.b)) λy12=>(aI y12 (jO 0 x.b (bS x.b (bc x.2.1.h) (bz aO x.2.1.h x.b λA=>(aF (decide ((A:Int)=0)))) (aF aa)) (aF aa)) (aF aa))) (aF aa))) (aF aa)) λx10=>(Z x10)) (bi x.a 4 (aw (iT (x.2.1.b,x.b)) λq=>(jn (jO 0 q (aw (iT (x.2.1.b,x.e)) λN=>(bS q N (aw (eO (x.2.1.b,x.g)) λI=>(aI I (aw (nD (x.1,x.2.1,x.c)) λF=>(aF F)) (aF aa))) (aF aa))) (aF aa)) λx15=>(Z x15))) (Z aa)))))
def pT (x:jP×C9×b?):M (Bool):=
 (jn (aw (oZ x) λq=>(aI q (aw (pS (x.1,x.2.2)) λc=>(aF c)) (aF aa))) λx1=>(Z x1))
def fK (x:Int):M (Bool):=
 (Z (decide (((aic .i64 x (aZ .i64 (x-1))):Int)=0)))
def eZ (x:(Int×Int×Bool×Bool)×η):M (ζ×η):=
 (jn (bS x.1.2.1 2 (aF (J,x.2)) (bi x.1.2.1 10 (aF (J,x.2)) (aF ((fV 36 x.1.2.1),x.2)))) λx1=>(aI x1.1 U (jn (aI x.1.a (aF ((aZ .u64 (0-x.1.1)),x1.2,(aP 65 (0:Int)))) (aF (x.1.1,x1.2,(aP 65 (0:Int))))) λz=>(aw (fK x.1.2.1) λA=>(aI A U (iter (σ:=(ν)×I?) (λc=>(jO (aZ .u64 x.1.2.1) c.1.1 (bY (!decide (((aZ .u64 x.1.2.1):Int)=0)) (BJ (aZ .u64 (c.1.1-(aZ .u64 ((aZ .u64 (Int.tdiv c.1.1 (aZ .u64 x.1.2.1)))*(aZ .u64 x.1.2.1))))) ([48,49,50,51,52,53,54,55,56,57,97,98,99,100,101,102,103,104,105,106,107,108,109,110,111,112,113,114,115,116,117,118,119,120,121,122]) (bY (cZ 0 (aZ .i64 (c.1.2-1))&&fV (aZ .i64 (c.1.2-1)) 65) (BJ (aZ .i64 (c.1.2-1)) c.2.2 (cW (((aZ .u64 (Int.tdiv c.1.1 (aZ .u64 x.1.2.1))),(aZ .i64 (c.1.2-1))),c.2.1,(cC c.2.2 (aZ .i64 (c.1.2-1)) (zH ([48,49,50,51,52,53,54,55,56,57,97,98,99,100,101,102,103,104,105,106,107,108,109,110,111,112,113,114,115,116,117,118,119,120,121,122]) (aZ .u64 (c.1.1-(aZ .u64 ((aZ .u64 (Int.tdiv c.1.1 (aZ .u64 x.1.2.1)))*(aZ .u64 x.1.2.1))))))))))))) (aw (BJ c.1.1 ([48,49,50,51,52,53,54,55,56,57,97,98,99,100,101,102,103,104,105,106,107,108,109,110,111,112,113,114,115,116,117,118,119,120,121,122]) (bY (cZ 0 (aZ .i64 (c.1.2-1))&&fV (aZ .i64 (c.1.2-1)) 65) (BJ (aZ .i64 (c.1.2-1)) c.2.2 (jn (α:=Int×I?) (aI x.1.a (bY (cZ 0 (aZ .i64 ((aZ .i64 (c.1.2-1))-1))&&fV (aZ .i64 ((aZ .i64 (c.1.2-1))-1)) 65) (BJ (aZ .i64 ((aZ .i64 (c.1.2-1))-1)) (cC c.2.2 (aZ .i64 (c.1.2-1)) (zH ([48,49,50,51,52,53,54,55,56,57,97,98,99,100,101,102,103,104,105,106,107,108,109,110,111,112,113,114,115,116,117,118,119,120,121,122]) c.1.1)) (aF ((aZ .i64 ((aZ .i64 (c.1.2-1))-1)),c.2.1,(cC (cC c.2.2 (aZ .i64 (c.1.2-1)) (zH ([48,49,50,51,52,53,54,55,56,57,97,98,99,100,101,102,103,104,105,106,107,108,109,110,111,112,113,114,115,116,117,118,119,120,121,122]) c.1.1)) (aZ .i64 ((aZ .i64 (c.1.2-1))-1)) 45))))) (aF ((aZ .i64 (c.1.2-1)),c.2.1,(cC c.2.2 (aZ .i64 (c.1.2-1)) (zH ([48,49,50,51,52,53,54,55,56,57,97,98,99,100,101,102,103,104,105,106,107,108,109,110,111,112,113,114,115,116,117,118,119,120,121,122]) c.1.1))))) λq=>(aI x.1.d (bY (cZ 0 q.1&&(fV q.1 65&&ay 65 (ah q.2.2))) (bY (cZ 0 q.1&&fV q.1 (ah q.2.2)) (bY (bl (ah q.2.1+ah (gL (aS q.1) q.2.2)) 1) (Z ([],(q.2.1++(gL (aS q.1) q.2.2))))))) (bY (cZ 0 q.1&&(fV q.1 65&&ay 65 (ah q.2.2))) U)))))) λr=>Z (bV r)))) ((z.1,65),z.2)))))))
def gp (x:Y?):M η:=
 (bi x.1.2 10 (bS x.1.1 100 U U) (aw (eZ ((x.1.1,x.1.2,aa,J),x.2)) λc=>(bY (ay (ah x.2) (ah x.2)&&J) (Z c.2))))
def gG (x:Y?):M η:=
 (jn (α:=i?) (bS x.1.1 0 (bY (bl (ah x.2+ah ([45])) 1) (aF ((aZ .u64 (0-(aZ .u64 x.1.1))),(x.2++([45]))))) (aF ((aZ .u64 x.1.1),x.2))) λx1=>(aw (gp ((x1.1,x.1.2),x1.2)) λc=>(bY (ay (ah x1.2) (ah x1.2)&&J) (Z c))))
def jR (x:Y?):M η:=
 (aw (gG x) λc=>(bY (ay (ah x.2) (ah x.2)&&J) (Z c)))
def d9 (x:i?):M η:=
 (aw (jR ((x.1,36),x.2)) λc=>(bY (ay (ah x.2) (ah x.2)&&J) (bY (bl (ah c+ah ([32])) 1) (Z (c++([32]))))))
def gh (x:Bool×η):M η:=
 (aI x.1 (aw (d9 (1,x.2)) λq=>(bY (ay (ah x.2) (ah x.2)&&J) (Z q))) (aw (d9 (0,x.2)) λc=>(bY (ay (ah x.2) (ah x.2)&&J) (Z c))))
def sr (x:C9×η):M ζ:=
 (bY (cZ 0 (bc x.2)&&cZ (bc x.2) (bc x.2)&&bl (aS (bc x.2)) 1) (iter (σ:=Int×C9×(θ)×η) (λx1=>(bS x1.1 (bc x.1.b) (bz aO x.1.b x1.1 λz2=>(ck (gr z2 (ah x1.a)) (cW ((cM x1.1),x1.2.1,(cC x1.a z2 J),x1.d)))) (aw (iter (σ:=Int×C9×(θ)×η) (λq=>(bS q.1 (bc x.2) (jn (bz aO x.2 q.1 λz5=>(kQ (.bool) q.a q.1 λz6=>(aw (gh (z6,q.d)) λy7=>(bY (ay (ah q.d) (ah q.d)&&J) (jO 0 z5 (kQ (.bool) q.a z5 λz8=>(aI (!z8) (bz (.bool) q.2.1.c q.1 λz9=>(aw (gh (z9,y7)) λy10=>(bY (ay (ah y7) (ah y7)&&J) (aF (q.2.1,q.a,y10))))) (aw (gh (aa,y7)) λy11=>(bY (ay (ah y7) (ah y7)&&J) (aF (q.2.1,q.a,y11)))))) (aw (gh (aa,y7)) λy12=>(bY (ay (ah y7) (ah y7)&&J) (aF (q.2.1,q.a,y12))))))))) λx4=>(cW ((cM q.1),x4))) (aw (iter (σ:=E?) (λc=>(bS c.1 (bc q.2.1.1.1) (bz c_ q.2.1.1.1 c.1 λN=>(aw (d9 (N.1,c.2.2)) λy15=>(bY (ay (ah c.2.2) (ah c.2.2)&&J) (aw (d9 ((bc N.2),y15)) λy16=>(bY (ay (ah y15) (ah y15)&&J) (iter (σ:=E?) (λD=>(bS D.1 (bc N.2) (bz aO N.2 D.1 λz18=>(aw (d9 (z18,D.2.2)) λy19=>(bY (ay (ah D.2.2) (ah D.2.2)&&J) (cW ((cM D.1),D.2.1,y19))))) (aF (kS ((cM c.1),D.2))))) (0,c.2.1,y16))))))) (aw (aw (d9 (c.2.1.1.2.1,c.2.2)) λy20=>(bY (ay (ah c.2.2) (ah c.2.2)&&J) (iter (σ:=E?) (λA=>(bS A.1 (bc c.2.1.1.a) (bz (.bool) c.2.1.1.a A.1 λz22=>(aw (gh (z22,A.2.2)) λy23=>(bY (ay (ah A.2.2) (ah A.2.2)&&J) (cW ((cM A.1),A.2.1,y23))))) (aw (iter (σ:=E?) (λz=>(bS z.1 (bc A.2.1.1.d) (bz fg A.2.1.1.d z.1 λz25=>(aw (d9 (z25.1,z.2.2)) λy26=>(bY (ay (ah z.2.2) (ah z.2.2)&&J) (aw (d9 (z25.2.1,y26)) λy27=>(bY (ay (ah y26) (ah y26)&&J) (aw (gh (z25.2.2,y27)) λy28=>(bY (ay (ah y27) (ah y27)&&J) (cW ((cM z.1),z.2.1,y28))))))))) (aw (iter (σ:=i?) (λI=>(bS I.1 2 (bY (cZ 0 I.1&&fV I.1 2) (lt (aK ((.sl C3)) [z.2.1.2.1,z.2.1.a] I.1) λz30=>(iter (σ:=i?) (λF=>(bS F.1 (bc z30) (bz C3 z30 F.1 λz32=>(aw (d9 (z32.1,F.2)) λy33=>(bY (ay (ah F.2) (ah F.2)&&J) (aw (gh (z32.2,y33)) λy34=>(bY (ay (ah y33) (ah y33)&&J) (cW ((cM F.1),y34))))))) (aF (kS ((cM I.1),F.2))))) (0,I.2)))) (aF (jH I.2)))) (0,z.2.2)) λr=>Z (bV r)))) (0,A.2)) λr=>Z (bV r)))) (0,c.2.1,y20)))) λr=>Z (bV r)))) (0,q.2.1,q.d)) λr=>Z (bV r)))) (0,x1.2)) λr=>Z (bV r)))) (0,x.1,(aP (aS (bc x.2)) (aa:Bool)),([]:η))))
def nT (x:Int×h?):M (Bool×h?):=
 (aw (eO (x.c,x.1)) λc=>(Z (c,x.2)))
def vD (x:η×h?):M (Int×h?):=
 (iter (σ:=Int×h?) (λx1=>(bS x1.1 (bc x.1) (bz aO x.1 x1.1 λq=>(aw (nT (q,x1.2)) λc=>(aI c.1 (aF (x1.1,c.2)) (cW ((cM x1.1),c.2))))) (aF ((-1),x1.2)))) (0,x.2))
def nF (x:η×h?):M (Bool×h?):=
 (aw (vD x) λc=>(Z ((cZ 0 c.1),c.2)))
def mX (x:C9×b?):M (Bool):=
 (aw (iT (x.1.b,x.a)) λq=>(aw (iT (x.1.b,x.b)) λc=>(bi x.2.1 1 (jn (jO 0 q (aF J) (aF (cZ 0 c))) λN=>(Z N)) (bi x.2.1 2 (aw (nF (x.i,x.1)) λD=>(Z D.1)) (bi x.2.1 3 (jn (jO 0 c (aF J) (jO 0 q (bz aO x.1.h x.a λz=>(aF (!decide ((z:Int)=0)))) (aF aa))) λI=>(Z I)) (bi x.2.1 4 (jn (jO 0 c (aF J) (bS q 0 (aw (eO (x.1.b,x.c)) λA=>(aF A)) (aF aa))) λF=>(Z F)) (Z aa)))))))
def l_ (x:jP×h?):M Yd6:=
 (iter (σ:=Int×jP×C9×Y ν) (λx1=>(bS x1.1 (bc x.1.1.c) (jn (α:=jP×C9×Y ν) (aw (fF (x1.2.1,x1.a,x1.1)) λI=>(aI (!I) (aF x1.2) (aw (lI (x1.2.1,x1.a,x1.1)) λF=>(bz fP x1.2.1.d F λD=>(iter (σ:=(Bool×Int)×jP×C9×Yd6×d?) (λc=>(bS c.1.2 (bc x1.a.1.d) (jn (α:=Bool×jP×C9×Yd6×d?) (bz fg x1.a.1.d c.1.2 λz=>(jn (bi c.e 18 (bi z.1 3 (aF ((decide ((z.2.1:Int)=c.g)),c.2)) (aF (aa,c.2))) (aF (aa,c.2))) λq=>(aI q.1 (bY (bl (ah q.b+ah ([(x1.1,c.1.2)])) 16) (aF (J,q.2.1,q.a,(q.b++([(x1.1,c.1.2)])),q.f))) (aF (c.1.1,q.2))))) λA=>(cW ((A.1,(cM c.1.2)),A.2))) (aw (aI (!c.1.1) (bY (bl (ah c.b+ah ([(x1.1,(-1))])) 16) (aF (c.2.1,c.a,(c.b++([(x1.1,(-1))]))))) (aF (c.2.1,c.a,c.b))) λr=>Z (bV r)))) ((aa,0),x1.2.1,x1.a,x1.d,D)))))) λN=>(cW ((cM x1.1),N))) (aF x1.d))) (0,x.1,x.2,([]:Y ν)))
abbrev P?:=Int×jP×(η)×(η)×pI×Y η
def kr (x:e?):M η:=
 (bY (cZ 0 (bc x.d)&&cZ (bc x.d) (bc x.d)&&bl (aS (bc x.d)) 8) (iter (σ:=Int×jP×η) (λx1=>(bS x1.1 (bC (ah (aP (aS (bc x.d)) (0:Int)))) (ck (gr x1.1 (ah x1.2.2)) (cW ((cM x1.1),x1.2.1,(cC x1.2.2 x1.1 (-1))))) (aw (bY (cZ 0 (bc x1.2.1.1.c)&&cZ (bc x1.2.1.1.c) (bc x1.2.1.1.c)&&bl (aS (bc x1.2.1.1.c)) 24) (iter (σ:=Int×jP×(η)×o!) (λz=>(bS z.1 (bc x1.2.1.d) (jn (α:=jP×(η)×o!) (bz fP x1.2.1.d z.1 λN=>(jn (bS N.1 0 (aF (J,z.2.1,z.a,z.b,N,z.f)) (jO (bc z.b) N.1 (aF (J,z.2.1,z.a,z.b,N,z.f)) (aF ((cZ (bc z.2.1.a.d) N.1),z.2.1,z.a,z.b,N,z.f)))) λI=>(aI I.1 (aF (I.2.1,I.a,I.b,I.h)) (iter (σ:=P?) (λc=>(bS c.1 2 (bY (cZ 0 c.1&&fV c.1 2) (lt (aK ((.sl aO)) [I.c.e,I.c.i] c.1) λz7=>(iter (σ:=P?) (λA=>(bS A.1 (bc z7) (jn (bz aO z7 A.1 λF=>(bz aO A.2.1.a.d A.c.1 λD=>(jn (jO 0 (aZ .i64 (F-D)) (ck (gr A.c.1 (ah A.b)) (aF ((fV (aZ .i64 (F-D)) (bC (aS (Rn A.b A.c.1)))),A.2))) (aF (aa,A.2))) λq=>(aI q.1 (ck (gr q.c.1 (ah q.b)) (bY (gr (aZ .i64 (F-D)) (aS (Rn q.b q.c.1))) (BJ q.c.1 q.h (bz aO (Gk (T:=aO) q.h q.c.1) (aZ .i64 (F-D)) λz13=>(ck (gr z13 (ah q.a)) (aF (q.2.1,(cC q.a z13 z.1),q.d))))))) (aF q.2))))) λx9=>(cW ((cM A.1),x9))) (aF (kS ((cM c.1),A.2))))) (0,c.2)))) (aw (ck (gr c.c.1 (ah c.b)) (BJ c.c.1 c.h (bY (ay (aS (Rn c.b c.c.1)) (ah (Gk (T:=aO) c.h c.c.1))&&bl ((aS (Rn c.b c.c.1))+ah ([z.1]:η)) 8) (ck (gr c.c.1 (ah c.b)) (aF (c.2.1,c.a,(AU c.b (aS c.c.1) (bC (ah ((Gk (T:=aO) c.h c.c.1)++([z.1]))))),(E9 (T:=aO) (E9 (T:=aO) c.h c.c.1 []) c.c.1 ((Gk (T:=aO) c.h c.c.1)++([z.1]))))))))) λr=>Z (bV r)))) (0,I.2))))) λx3=>(cW ((cM z.1),x3))) (aF z.a))) (0,x1.2.1,x1.2.2,(aP (aS (bc x1.2.1.1.c)) (0:Int)),(aP (aS (bc x1.2.1.1.c)) ([]:η))))) λr=>Z (bV r)))) (0,x,(aP (aS (bc x.d)) (0:Int)))))
abbrev B!:=jP×Ir×Yd6×(η)×ry×Y Yd4
def mY (x:(Yd4×Int×Int)×B!):M (Bool×B!):=
 (aw (sE (x.2.1,x.1.1.1,x.1.2)) λq=>(aI (!q.2) (Z (aa,x.2)) (jn (α:=Yd6×jP×Ir×Yd6×(η)×ry×C9×Y Yd4) (bY ((decide ((bc x.1.1.2)=(bc x.1.1.2))&&cZ 0 (bc x.1.1.2))&&cZ (bc x.1.1.2) (ah x.1.1.2)) (bY (bl (ah (ca (aS (bc x.1.1.2)) x.1.1.2)+ah ([x.1.2])) 16) (aI (ay (ah ([x.1.2])) 0) (aF ((ca (aS (bc x.1.1.2)) x.1.1.2),x.2.1,x.a,x.b,x.c,x.e,q.1,x.i)) (aF (((ca (aS (bc x.1.1.2)) x.1.1.2)++([x.1.2])),x.2.1,x.a,x.b,x.c,x.e,q.1,x.i))))) λc=>(aw (pT (c.2.1,c.g,c.a)) λD=>(aI D (Z (J,c.2.1,c.a,c.1,c.c,c.e,c.k)) (aw (mX (c.g,c.a)) λA=>(aI A (Z (aa,c.2.1,c.a,c.b,c.c,c.e,c.k)) (jn (α:=B!) (aw (sr (c.g,c.c)) λz=>(aI (!(yr (K:=.str) (V:=.bool) z c.e aa)) (bY (bl (ah c.k+ah ([(c.g,c.1)])) 224) (aF (c.2.1,c.a,c.b,c.c,(zQ (K:=.str) (V:=.bool) z J c.e),(c.k++([(c.g,c.1)]))))) (aF (c.2.1,c.a,c.b,c.c,c.e,c.k)))) λF=>(Z (aa,F))))))))))
abbrev L!:=(Bool×Y Yd4)×(Y Yd4)×Y (ζ×Bool)
def ku (x:J!):M (Yd6×Bool):=
 (aw (pS x) λy1=>(aI (!y1) (Z (([]:Y ν),aa)) (aw (kr x.1) λy2=>(aw (qP x.1) λN=>(aw (pT (x.1,N,x.2)) λy4=>(aI y4 (Z (([]:Y ν),J)) (iter (σ:=jP×Ir×(η)×Bool×Y Yd4) (λA=>(bS 0 (bc A.f) (iter (σ:=Int×jP×Ir×(η)×Yd6×L!) (λz=>(bS z.1 (bc A.f) (kQ VG z.e.2 z.1 λF=>(aw (l_ (z.2.1,F.1)) λI=>(iter (σ:=Int×jP×Ir×(η)×Yd6×Yd4×L!) (λc=>(bS c.1 (bc I) (bz gZ I c.1 λD=>(aw (mY ((c.e,D),c.2.1,c.a,c.c,c.b,c.n,c.j)) λq=>(bY (ay (ah c.j) (ah c.j)&&J) (aI q.1 (aF (bV (bV (q.b,J)))) (cW ((cM c.1),q.2.1,q.a,q.c,q.b,c.e,c.g,q.i,q.e)))))) (aF (kS ((cM z.1),c.2.1,c.a,c.b,c.c,c.i))))) (0,z.2.1,z.a,z.b,z.c,F,z.h)))) (aF (kS (z.2.1,z.a,z.b,J,z.g))))) (0,A.1,A.2.1,A.a,([]:Y ν),A.d,([]:Y Yd4),([]:Y x!))) (aF (([]:Y ν),aa)))) (x.1,x.2,y2,aa,[(N,([]:Y ν))]))))))))
abbrev eN (l:Y ET) (i:Nat):ET:=aK fP l (i:Int)
abbrev WN:Type:=WT×Int×SN×Y ET
def Q8 (r:η):Prop:=Ny r/\∀z∈r,0<=z/\z<4
def P8 (s:Y i?):Prop:=∀x∈s,Q8 x.2
def P8.get {s:Y i?} (h:P8 s) (o:Int):Q8 (aK c_ s o).2:=by
 unfold aK;rw[aT];cases q:s[o.toNat]? with
 |none=>exact⟨trivial,λz c=>by cases c⟩
 |some x=>exact h x (bd q)
variable {r:η}
def P8.set {s:Y i?} (h:P8 s) (o a:Int) (q:Q8 r):P8 (cC s o (a,r)):=λx c=>by
 rcases ui c with c|rfl
 .exact h x c
 .exact q
def P8.ite {c:Prop} [Decidable c] {a b:SY×Int} (z:P8 a.1.1) (q:P8 b.1.1):P8 (if c then a else b).1.1:=by by_cases h:c<;>simp[h,z,q]
structure G1 (w:WT) (s:SN) (e:ET):Prop where
 en:EN w s.1 e.1 e.2.1 e.2.2.1
 s16:S16 w s e
 eq:k_ (w,s,e)=Z (Vz w s e,J)
abbrev sV (w:WT) (s:SN) (l:Y ET) (i:Nat):SN:=(l.take i).foldl (Vz w) s
def Ge (w:WT) (s:SN) {l:Y ET} (h:i<l! l):sV w s l (i+1)=Vz w (sV w s l i) (eN l i):=by
 unfold sV;rw[uh (T:=fP) h,j8];rfl
def Vu (w:WT) (s:SN) (l:Y ET):Prop:=∀i:Nat,i<l! l->G1 w (sV w s l i) (eN l i)
abbrev Vy (w:WT):SN:=(s0P w,ce0 w,fu0 w,aP (l! w.2.2.2.2.1) 0)
def Ph {w:WT} (h:VL w):NB 0 (Vy w):=⟨acr h,by have:=h.c;simp[ce0];omega,by have:=h.f;simp[fu0];omega,by have:=h.t;simp;omega⟩
def G1.nb {w:WT} {s:SN} {e:ET} (g:G1 w s e) (h:NB i s) (c:l! w.2.2.1<=1000) (he:Mp e) (q:i+1<=100000):NB (i+1) (Vz w s e):=by
 let⟨y,h1,z,_⟩:=Bq w s h c e (.inl (by have:=he.1;omega)) (.inl (by have:=he.2;omega));rw[g.eq]at h1;cases h1;exact (z rfl).2.1.NB h q
def Zk {w:WT} {s:SN} {e:ET} (h:NB i s) (z:l! w.2.2.1<=1000) (he:Mp e):Ok (k_ (w,s,e)) λy=>y.2=J->y.1=Vz w s e/\G1 w s e:=by
 let⟨y,h1,A,_⟩:=Bq w s h z e (.inl (by have:=he.1;omega)) (.inl (by have:=he.2;omega));refine ⟨y,h1,λc=>?_⟩;let⟨F,_,D,q⟩:=A c;exact⟨q,F,D,by rw[h1,<-q,<-c]⟩
def Me {l:Y ET} (h:∀e∈l,Mp e) (hi:i<l! l):Mp (eN l i):=h _ (bE (T:=fP) (xs:=l) (j:=(i:Int)) (by omega) (by omega))
def Vu.nb {w:WT} {s:SN} {l:Y ET} (c:Vu w s l) (h:NB i s) (q:l! w.2.2.1<=1000) (z:∀e∈l,Mp e) (A:i+l! l<=90000):∀n,n<=l! l->NB (i+n) (sV w s l n)
 |0,_=>h
 |n+1,hi=>by
  rw[Ge w s (by omega)];exact (c n (by omega)).nb (Vu.nb c h q z A n (by omega)) q (Me z (by omega)) (by show i+n+1<=100000;omega)
def aku (w:WT) (l:Y ET) (hls:∀e∈l,Mp e):Ok (uu (w,l)) λy=>y.2=0->VL w/\Vu w (Vy w) l/\l! l<=400:=by
 unfold uu da bI fX bS bz bc cW aF cM;refine aY (λ_=>aj nofun) λhl=>?_
 dsimp only[ak]at hl;refine av (v9 w) λb hb=>?_
 refine cH (λ_=>aj nofun) λh=>?_
 let⟨F,hsv⟩:=hb h;refine aV (uW w F) ?_;have N:l! w.2.2.1<=1000:=by have:=F.d;omega
 refine bn (l! l) (λi x=>x.1=(i:Int)/\x.2.1=(w,l)/\x.2.2=sV w (Vy w) l i/\NB i x.2.2/\∀k:Nat,k<i->G1 w (sV w (Vy w) l k) (eN l k)) ?_ ?_ ⟨rfl,rfl,rfl,Ph F,λk hk=>(by omega)⟩
 .rintro i ⟨a,b,s⟩ hi ⟨e1,e2,D,A,z⟩;dsimp only at e1 e2 D A z;subst e1 e2;refine dx ?_;refine cG (aQ ?_);have I:=Me hls hi;refine av (Zk A N I) λy hy=>?_
  refine aX (λx=>x.2.1=(w,l)/\x.2.2.2=y.1/\(x.1=aa->y.2=J)) ?_ ?_
  .refine cH (λ_=>aj ⟨rfl,rfl,nofun⟩) λh=>?_
   refine av (RQ l _ _ _ (by omega) ⟨by dsimp only;omega,by dsimp only;omega⟩ (cA I.1 (by decide))) λb1 hr1=>?_
   refine cH (λ_=>aj ⟨rfl,rfl,nofun⟩) λhb1=>?_
   refine av (RQ l _ _ _ (by omega) ⟨by dsimp only;omega,by dsimp only;omega⟩ (cA I.2 (by decide))) λb2 hr2=>aj ⟨rfl,rfl,λ_=>h⟩
  .rintro⟨c,p,q,r⟩ ⟨f1,f2,f3⟩;dsimp only at f1 f2 f3;subst f1 f2;refine aM (λ_=>aj nofun) λh=>?_
   let⟨g1,g2⟩:=hy (f3 h);refine aj ?_;dsimp only;have hg:G1 w (sV w (Vy w) l i) (eN l i):=by rw[<- D];exact g2
   refine ⟨fd,rfl,by rw[g1,Ge w _ hi,<-D],by rw[g1];exact g2.nb A N I (by omega),λk hk=>?_⟩;rcases bZ k i with h1|h1
   .exact z k h1
   .rw[show k=i by omega];exact hg
 .rintro⟨a,b,s⟩ ⟨e1,e2,D,A,z⟩;dsimp only at e1 e2 D A z;subst e1 e2;exact di (aj λ_=>⟨F,z,by omega⟩)
def ajq {w:WT} {l:Y ET} (q:VL w) (c:Vu w (Vy w) l) (D:l! l<=400) (n:Nat) (A:n<=l! l):uq ((w,l),(n:Int))=Z (sV w (Vy w) l n):=by
 refine cF ?_;unfold uq ba bI bS bz cW aF cM;refine aV (uW w q) ?_;refine bn n (λi x=>x=((i:Int),(w,l),x.2.2.1,sV w (Vy w) l i)) ?_ ?_ rfl
 .rintro i ⟨a,b,z,s⟩ hi e;cases e;refine dx (cG (aQ (aV (c i (by omega)).eq (aj ?_))));dsimp only;rw[fd,Ge w _ (by omega)]
 .rintro⟨a,b,z,s⟩ e;cases e;exact di (aj rfl)
def C0 (p:Int->Bool):∀{l:η},Ny l->Ny (l.filter p)
 |[],_=>trivial
 |x::r,h=>by
  rw[List.filter_cons];split
  .exact⟨λy c=>h.1 y ((oN.1 c).1),C0 p h.2⟩
  .exact C0 p h.2
variable {a:Int}
def P8.ap {w:WT} {s:SY} (h:P8 s.1) (k o v:Int) (D:0<=a) (A:a<4):P8 (zu w s a k o v).1.1:=by
 have ow:∀t b,P8 (owP s.1 t b):=λt b=>h.set t b (h.get t)
 have un:P8 (rdP s.1 o (xp (aK c_ s.1 o).2 [a])):=h.set _ _ ⟨Rs _ _,λz c=>by
  rcases Rr.1 c with c|c
  .exact (h.get o).2 z c
  .rw[aA]at c;subst c;exact⟨D,A⟩⟩
 have q:P8 (rdP s.1 o (wo (aK c_ s.1 o).2 a)):=h.set _ _ ⟨C0 _ (h.get o).1,λz c=>(h.get o).2 z (oN.1 c).1⟩;unfold zu;exact P8.ite h (P8.ite h (P8.ite (ow _ _) (P8.ite (ow _ _) (P8.ite un (P8.ite q (P8.ite h (P8.ite h (P8.ite h (P8.ite h (P8.ite (ow _ _) (P8.ite (ow _ _) (P8.ite (P8.ite h h) (P8.ite h (P8.ite h (P8.ite h h)))))))))))))))
def NB.mono {s:SN} (h:NB i s) (hnm:i<=m) (hm:m<=100000:=by omega):NB m s:=⟨⟨hm,h.sb.lk,λl q=>cA (h.sb.rd l q) hnm,h.sb.dn,h.sb.th⟩,h.c,h.f,h.k⟩
def aht {w:WT} {s:SN} {e:ET} (g:G1 w s e) (h:NB i s) (q:l! w.2.2.1<=1000) (he:Mp e):(Vz w s e).2.1.length=l! s.2.1/\(Vz w s e).2.2.1.length=l! s.2.2.1/\(Vz w s e).2.2.2.length=l! s.2.2.2/\(Vz w s e).1.1.length=l! s.1.1/\(Vz w s e).1.2.2.1.length=l! s.1.2.2.1/\(Vz w s e).1.2.2.2.length=l! s.1.2.2.2:=by
 let⟨y,h1,z,_⟩:=Bq w s h q e (.inl (by have:=he.1;omega)) (.inl (by have:=he.2;omega));rw[g.eq]at h1;cases h1;have hp:=(z rfl).2.1;exact⟨hp.c,hp.f,hp.k,hp.ap.a1,hp.ap.a2,hp.ap.a3⟩
def Vu.lens {w:WT} {l:Y ET} (c:Vu w (Vy w) l) (q:VL w) (hls:∀e∈l,Mp e) (A:l! l<=400):∀i,i<=l! l->(sV w (Vy w) l i).2.1.length=l! w.1/\(sV w (Vy w) l i).2.2.1.length=l! w.2.2.2.1/\(sV w (Vy w) l i).2.2.2.length=l! w.2.2.2.2.1/\(sV w (Vy w) l i).1.1.length=l! w.2.1/\(sV w (Vy w) l i).1.2.2.1.length=l! w.2.2.2.1/\(sV w (Vy w) l i).1.2.2.2.length=l! w.2.2.2.2.1
 |0,_=>by refine ⟨?_,?_,?_,?_,?_,?_⟩<;>simp[sV,ce0,fu0,s0P,IB]
 |i+1,hi=>by
  rw[Ge w _ (by omega)];have z:l! w.2.2.1<=1000:=by have:=q.d;omega
  let⟨a,b,N,d,e,f⟩:=Vu.lens c q hls A i (by omega);let⟨a',b',c'',I,F,D⟩:=aht (c i (by omega)) (c.nb (Ph q) z hls (by omega) i (by omega)) z (Me hls (by omega));exact⟨a'.trans a,b'.trans b,c''.trans N,I.trans d,F.trans e,D.trans f⟩
structure oG (x:WN):Prop where
 vl:VL x.1
 lk:x.1.2.1=LK0
 nb:NB 800 x.2.2.1
 f16:F16 x.1 x.2.2.1
 fy:l! x.2.2.1.1.1=l! x.1.2.1/\l! x.2.2.1.1.2.2.1=l! x.1.2.2.2.1/\l! x.2.2.1.1.2.2.2=l! x.1.2.2.2.2.1
 p8:P8 x.2.2.1.1.1
 ch:Vu x.1 x.2.2.1 x.2.2.2
 ln:l! x.2.2.2<=8
 es:∀e∈x.2.2.2,Mp e
def Vu.p8 {w:WT} {s:SN} {l:Y ET} (c:Vu w s l) (h:P8 s.1.1) (q:VL w):∀i,i<=l! l->P8 (sV w s l i).1.1
 |0,_=>h
 |i+1,hi=>by
  rw[Ge w s (by omega)];have g:=c i (by omega);have:=q.t;exact (Vu.p8 c h q i (by omega)).ap _ _ _ g.en.t0 (by have:=g.en.t1;omega)
def Vu.slice {w:WT} {s:SN} {l:Y ET} (c:Vu w s l) (i m:Nat):Vu w (sV w s l i) ((l.drop i).take m):=λk q=>by
 rw[bD,gw]at q;have h1:((l.drop i).take m).take k=(l.drop i).take k:=by rw[List.take_take];congr 1;omega
 have A:sV w (sV w s l i) ((l.drop i).take m) k=sV w s l (i+k):=by
  unfold sV;rw[h1,<-j8,List.take_add]
 have z:eN ((l.drop i).take m) k=eN l (i+k):=by
  unfold eN;rw[aei,aei];simp only[aT];rw[dM,aR (by omega),iX]
 rw[A,z];exact c (i+k) (by omega)
def ak1 (w:WT) (l:Y ET) (hls:∀e∈l,Mp e) (hlk:l=[]\/w.2.1=LK0) (z:Int) (z1:1<=z) (z8:z<=8):Ok (ut ((w,l),z)) λy=>∀x∈y.1,oG x:=by
 unfold ut bS gF bY bc cW aF;refine av (aku w l hls) λy hy=>?_
 refine bW (λ_=>aj λx F=>(by cases F)) λh0=>?_
 let⟨A,D,hl⟩:=hy h0;refine aX (λx=>x=(aa,w,l)) (di (aj (by dsimp only;rw[show fV 16 z=aa from nG.2 (by omega)]))) ?_;rintro x rfl;refine adb ?_;refine qB (λx=>(1000-x.1).toNat) (λx=>0<=x.1/\x.1<=900/\x.2.1=(w,l)/\(l! x.2.2:Int)<=x.1/\∀q∈x.2.2,oG q) ?_ ⟨by dsimp only;omega,by dsimp only;omega,rfl,by simp,λq c=>by cases c⟩;rintro⟨(i:Int),b,ws⟩ ⟨N,i9,e1,e2,I⟩;dsimp only at N i9 e1 e2 I;subst e1;refine aY (λg=>?_) λ_=>aj I
 dsimp only[ak]at g;obtain⟨i,rfl⟩:∃n:Nat,i=(n:Int):=⟨i.toNat,by omega⟩
 have hi:i<l! l:=by omega
 refine aV (ajq A D hl i (by omega)) ?_;have hwr:aZ .i64 ((i:Int)+z)=i+z:=jA;have hmn:yY ((i:Int)+z) (bC (l! l))<=i+z/\yY ((i:Int)+z) (bC (l! l))<=(l! l:Int)/\(i:Int)<=yY ((i:Int)+z) (bC (l! l)):=by
  unfold yY;split
  next h=>have h:(l! l:Int)<(i:Int)+z:=oc.1 h;show (l! l:Int)<=_/\(l! l:Int)<=_/\_<=(l! l:Int);omega
  next h=>have h:(i:Int)+z<=(l! l:Int):=nG.1 (Bool.eq_false_iff.2 h);omega
 dsimp only;rw[hwr];refine bt (cI N (bt (cI hmn.2.2 (cI hmn.2.1 (a! (aj ?_))))));dsimp only;refine ⟨⟨by omega,by omega,rfl,by simp;omega,λq c=>?_⟩,by omega⟩;rcases bF.1 c with c|c
 .exact I q c
 rw[aA]at c;subst c;have hw:l! w.2.2.1<=1000:=by have:=A.d;omega
 have hnb:=D.nb (Ph A) hw hls (by omega) i (by omega);have hp:P8 (Vy w).1.1:=λx F=>by
  rw[List.eq_of_mem_replicate F];exact⟨trivial,λz hz=>by cases hz⟩
 have hlen:=D.lens A hls hl i (by omega);exact⟨A,hlk.resolve_left (λe=>by subst e;simp at hi),hnb.mono (by omega),⟨hlen.1,hlen.2.1,hlen.2.2.1⟩,hlen.2.2.2,D.p8 hp A i (by omega),D.slice i _,by dsimp only;rw[bD];omega,λe he=>hls e (EY (dF he))⟩
abbrev OS8:Type:=Int×Y (Int×η)×Y!
def U9 (w:WT) (h:VL w):Ok (sB w) λy=>l! y.2.1=l! w.2.1/\(∀l∈y.2.1,l.2=[])/\l! y.2.2.1=l! w.2.2.2.1/\l! y.2.2.2=l! w.2.2.2.2.1:=by
 have z:=h.l;have hf:=h.f;have ht:=h.t;unfold sB ba bQ b_ da bI dD dP fX bi bS bY bc cW aF cM;refine bn (l! w.2.1) (λi x=>x.1=(i:Int)/\x.2.1=w/\l! x.2.2.2.2=i/\∀l∈x.2.2.2.2,l.2=[]) ?_ ?_ ⟨rfl,rfl,rfl,λl z=>by cases z⟩
 .rintro i ⟨a,b,c,d,e⟩ hi ⟨e1,e2,e3,e4⟩;dsimp only at e1 e2 e3 e4;subst e1;have e2:=e2.symm;subst e2;refine dx (bg (by dsimp only;rw[aJ];omega) (by omega) (aj ⟨fd,rfl,by dsimp only;rw[aD,e3];rfl,λl z=>?_⟩));rcases bF.1 z with z|z
  .exact e4 l z
  .rw[aA]at z;subst z;rfl
 rintro⟨a,b,c,d,lk⟩ ⟨e1,e2,e3,e4⟩;dsimp only at e1 e2 e3 e4;subst e1;have e2:=e2.symm;subst e2;refine di ?_;refine av (P:=λy:OS8=>l! y.2.1=l! w.2.1/\(∀l∈y.2.1,l.2=[])/\l! y.2.2.1=l! w.2.2.2.1/\l! y.2.2.2=l! w.2.2.2.2.1) ?_ λy hy=>aj hy
 refine bn (l! w.2.2.2.1) (λi x=>x.1=(i:Int)/\x.2.1=w/\x.2.2.2.2.1=lk/\l! x.2.2.2.2.2=i) ?_ ?_ ⟨rfl,rfl,rfl,rfl⟩
 .rintro i ⟨a,b,c,d,l2,dn⟩ hi ⟨f1,D,f3,f4⟩;dsimp only at f1 D f3 f4;subst f1;have D:=D.symm;subst D f3;exact dx (bg (by dsimp only;rw[aJ];omega) (by omega) (aj ⟨fd,rfl,rfl,by dsimp only;rw[aD,f4];rfl⟩))
 rintro⟨a,b,c,d,l2,dn⟩ ⟨f1,D,f3,f4⟩;dsimp only at f1 D f3 f4;subst f1;have D:=D.symm;subst D f3;refine di ?_;refine av (P:=λy:OS8=>l! y.2.1=l! w.2.1/\(∀l∈y.2.1,l.2=[])/\l! y.2.2.1=l! w.2.2.2.1/\l! y.2.2.2=l! w.2.2.2.2.1) ?_ λy hy=>aj hy
 refine bn (l! w.2.2.2.2.1) (λi x=>x.1=(i:Int)/\x.2.1=w/\x.2.2.2.2.1=l2/\x.2.2.2.2.2.1=dn/\l! x.2.2.2.2.2.2=i) ?_ ?_ ⟨rfl,rfl,rfl,rfl,rfl⟩
 .rintro i ⟨a,b,c,d,l3,d2,th⟩ hi ⟨g1,A,N,I,F⟩;dsimp only at g1 A N I F;subst g1;have A:=A.symm;subst A N I;refine dx ?_;refine aX (λx=>x.1=w/\x.2.2.2.2.1=l3/\x.2.2.2.2.2.1=d2/\x.2.2.2.2.2.2=th) (aL (λ_=>aj ⟨rfl,rfl,rfl,rfl⟩) λ_=>aj ⟨rfl,rfl,rfl,rfl⟩) ?_;rintro⟨p,q,r,s,l4,d3,t3⟩ ⟨k1,k2,k3,k4⟩;dsimp only at k1 k2 k3 k4;subst k1 k2 k3 k4;exact bg (by dsimp only;rw[aJ];omega) (by omega) (aj ⟨fd,rfl,rfl,rfl,by dsimp only;rw[aD,F];rfl⟩)
 rintro⟨a,b,c,d,l3,d2,th⟩ ⟨g1,A,N,I,F⟩;dsimp only at g1 A N I F;subst g1;have A:=A.symm;subst A N I;exact di (aj ⟨e3,e4,f4,F⟩)
abbrev F!:=Y (Int×η)×θ×Y (Int×Int×Bool)×η×η×η
abbrev OSN:Type:=Int×F!
structure OZ (y:OSN):Prop where
 l:l! y.2.1=3
 p:P8 y.2.1
 n:∀l∈y.2.1,l! l.2<=1
 d:l! y.2.2.1=1
 t:l! y.2.2.2.1=4
 c:l! y.2.2.2.2.1=5
 f:l! y.2.2.2.2.2.1=1
 k:l! y.2.2.2.2.2.2=4
def U8 (w:WT) (h:W0 w):Ok (sx w) OZ:=by
 have hv:=h.vl;have hc:=h.c;have hf:=h.f;have ht:=h.t;unfold sx ba bQ b_ da ia tJ bI AR bS bY bz bc cW aF cM;refine av (U9 w hv) λy hy=>?_
 let⟨tx,lk,dn,th⟩:=y;let⟨y1,y2,y3,y4⟩:=hy;dsimp only at y1 y2 y3 y4;refine bt (bt (cI (by dsimp only[ak];omega) (cI (dX _) (bg (by dsimp only[ak];omega) (by omega) ?_))));refine bt (bt (cI (by dsimp only[ak];omega) (cI (dX _) (bg (by dsimp only[ak];omega) (by omega) ?_))));refine bn (l! w.1) (λi x=>x.1=(i:Int)/\x.2.1=w/\x.2.2.2.2.1=lk/\x.2.2.2.2.2.1=dn/\x.2.2.2.2.2.2.1=th/\l! x.2.2.2.2.2.2.2.1=i/\l! x.2.2.2.2.2.2.2.2.1=1/\l! x.2.2.2.2.2.2.2.2.2=4) ?_ ?_ ⟨rfl,rfl,rfl,rfl,rfl,rfl,by dsimp only[ak];rw[eL];omega,by dsimp only[ak];rw[eL];omega⟩
 .rintro i ⟨a,b,c,d,l2,d2,t2,ce,fu,k⟩ hi ⟨e1,e2,I,F,D,N,A,q⟩;dsimp only at e1 e2 I F D N A q;subst e1;have e2:=e2.symm;subst e2;exact dx (cG (aQ (bg (by dsimp only;rw[aJ];omega) (by omega) (aj ⟨fd,rfl,I,F,D,by dsimp only;rw[aD,N];rfl,A,q⟩))))
 .rintro⟨a,b,c,d,l2,d2,t2,ce,fu,k⟩ ⟨e1,e2,I,F,D,N,A,q⟩;dsimp only at e1 e2 I F D N A q;subst e1;have e2:=e2.symm;subst e2 I F D;exact di (aj ⟨by dsimp only;rw[y1,h.l];rfl,λx hx=>by rw[y2 x hx];exact⟨trivial,λz hz=>by cases hz⟩,λx hx=>by rw[y2 x hx];simp,by dsimp only;omega,by dsimp only;omega,by dsimp only;omega,A,q⟩)
def UU (tx:Int) (t:m?) (h:TP t) (z:F!) (F:l! z.2.2.2.2.2=4):Ok (nU (tx,t,z)) λy=>oz t y.2.1/\y.2.2=z/\y.1<4:=by
 let⟨z1,z2,z3,N,I,A⟩:=z;dsimp only at F;unfold nU tI bS kQ bc aF;refine av (d8 _ t h) λy q=>?_
 have hn:aZ .i64 (bC (l! A)+2)=6:=by rw[F];rfl
 have c:=q.2.2.1;dsimp only at c;rw[hn]at c;have c:=c (by omega);have hy0:=q.2.1;have D:aZ .i64 (y.1-2)=y.1-2:=jA;refine aX (λx=>x.2=(y.2,z1,z2,z3,N,I,A)) ?_ ?_
 .refine aY (λ_=>aj rfl) λg=>?_
  rw[D]at g ⊢;exact aG g (by dsimp only;omega) (aG g (by dsimp only;omega) (aQ (aj rfl)))
 rintro⟨b,x⟩ e;dsimp only at e;subst e;refine aM (λ_=>aj ⟨q.1,rfl,by dsimp only;omega⟩) λ_=>aj ⟨q.1,rfl,by dsimp only;rw[D];omega⟩
variable {j:Y (Int×Int×Bool)}
def OZ.mk' {tx':Int} {l l':Y i?} {d D:θ} {q:Y p?} {F f A k z:η} (h:OZ (a,l,d,j,r,f,k)) (hl:l! l'=l! l) (hp:P8 l') (N:∀x∈l',l! x.2<=1) (hd:l! D=l! d:=by first|rfl|exact cj ..) (ht:l! q=l! j:=by first|rfl|exact cj ..) (hc:l! F=l! r:=by first|rfl|exact cj ..) (hf:l! A=l! f:=by first|rfl|exact cj ..) (hk:l! z=l! k:=by first|rfl|exact cj ..):OZ (tx',l',D,q,F,A,z):=
 ⟨hl.trans h.l,hp,N,hd.trans h.d,ht.trans h.t,hc.trans h.c,hf.trans h.f,hk.trans h.k⟩
def OZ.st {tx':Int} {l:Y i?} {d D:θ} {q:Y p?} {F f A k z:η} (h:OZ (a,l,d,j,r,f,k)) (hd:l! D=l! d:=by first|rfl|exact cj ..) (ht:l! q=l! j:=by first|rfl|exact cj ..) (hc:l! F=l! r:=by first|rfl|exact cj ..) (hf:l! A=l! f:=by first|rfl|exact cj ..) (N:l! z=l! k:=by first|rfl|exact cj ..):OZ (tx',l,D,q,F,A,z):=h.mk' rfl h.p h.n hd ht hc hf N
structure BG (w:WT) (t:η×Int) (y:SN×η×Int):Prop where
 z:SZ 1 y.1
 p:P8 y.1.1.1
 l:l! y.1.1.1=3
 d:l! y.1.1.2.2.1=1
 h:l! y.1.1.2.2.2=4
 t:oz t y.2
def Q_ (w:WT) (h:W0 w) (t:m?) (ht:TP t):Ok (kZ (w,t)) (BG w t):=by
 unfold kZ ba bQ b_ da ia tJ O3 dD dP fX tI AR Prod.o ck bi bS gF bY kQ bc cW aF cM;refine av (U8 w h) λy hy=>?_
 have hy4:=hy.k;refine bn 4 (λi x=>x.1=(i:Int)/\oz t x.2.1/\OZ x.2.2.2) ?_ ?_ ⟨rfl,oz.refl ht,hy⟩
 .rintro i ⟨a,D,q,z⟩ hi ⟨e1,e2,A⟩;dsimp only at e1 e2 A;subst e1;refine dx ?_;refine aX (λx=>oz t x.1/\OZ x.2.2) ?_ ?_
  .refine av (d8 9 D e2.p) λn hn=>?_
   have hn9:=hn.2.2.1 (by decide);refine aG hn.2.1 hn9 (aG hn.2.1 hn9 (aQ ?_));refine aX (λx=>oz t x.2.1/\OZ x.2.2.2) ?_ ?_
   .refine aX (λx=>x.2=(n.2,q,z)) (aL (λ_=>aj rfl) λ_=>aj rfl) ?_;rintro⟨b,x⟩ e;dsimp only at e;subst e;exact aM (λ_=>aj ⟨e2.trans hn.1,A⟩) λ_=>aj ⟨e2.trans hn.1,A⟩
   rintro⟨s,tp2,q2,tx,l,d,I,c,f,k⟩ ⟨f1,f2⟩;dsimp only at f1 f2;have hth:=f2.t;have hk:=f2.k;refine aG (by dsimp only;omega) (by dsimp only at hth ⊢;omega)<|aG (by dsimp only;omega) (by dsimp only at hth ⊢;omega) ?_
   refine aX (λx=>oz t x.2.1/\OZ x.2.2.2) ?_ ?_
   .exact bW (λ_=>aj ⟨f1,f2.st⟩) λ_=>aj ⟨f1,f2.st⟩
   rintro⟨b,tp3,q3,tx3,l3,d3,th3,c3,f3,k3⟩ ⟨F,N⟩;dsimp only at F N;have hth:=N.t;have hk:=N.k;refine aM (λ_=>?_) λ_=>aj ⟨F,N⟩
   refine av (d8 3 tp3 F.p) λm hm=>aG (by dsimp only;omega) (by dsimp only at hk ⊢;omega)<|aG (by dsimp only;omega) (by dsimp only at hk ⊢;omega) ?_
   refine av (d8 4 _ hm.1.p) λm2 hm2=>aG (by dsimp only;omega) (by dsimp only at hth ⊢;omega)<|aG (by dsimp only;omega) (by dsimp only at hth ⊢;omega) (aj ⟨(F.trans hm.1).trans hm2.1,N.st⟩)
  .rintro⟨tp2,q2,z2⟩ ⟨f1,f2⟩;exact aj ⟨fd,f1,f2⟩
 rintro⟨a,D,q,z⟩ ⟨e1,e2,A⟩;dsimp only at e1 e2 A;subst e1;refine di ?_;refine av (P:=BG w t) ?_ λr hr=>aj hr
 have hl3:=A.l;refine bn 3 (λi x=>x.1=(i:Int)/\oz t x.2.1/\OZ x.2.2.2) ?_ ?_ ⟨rfl,e2,A⟩
 .rintro i ⟨a,D,q,tx,l,d,I,c,f,k⟩ hi ⟨e1,e2,A⟩;dsimp only at e1 e2 A;subst e1;refine dx ?_;refine av (UU tx D e2.p (l,d,I,c,f,k) A.k) λy hy=>?_
  let⟨u,tp2,z⟩:=y;let⟨y1,y2,y3⟩:=hy;dsimp only at y1 y2 y3;subst y2;refine bt (cU rfl (bt (cU rfl (bt (cU rfl (bt (cU rfl (bt (cU rfl (bt (cU rfl (ie ?_))))))))))));have hl:=A.l;have hth:=A.t;dsimp only at hl hth;refine aX (λx=>oz t x.1/\OZ x.2.2) ?_ ?_
  .refine aY (λ_=>aj ⟨e2.trans y1,A⟩) λu0=>?_
   have u0:0<=u:=u0;refine aX (λx=>oz t x.2.1/\x.2.2.2.2=(l,d,I,c,f,k)) ?_ ?_
   .refine aL (λ_=>av (d8 2 tp2 y1.p) λm hm=>aj ⟨(e2.trans y1).trans hm.1,rfl⟩) λ_=>aj ⟨e2.trans y1,rfl⟩
   rintro⟨b,tp3,q3,tx3,z3⟩ ⟨F,N⟩;dsimp only at F N;subst N;refine aM (λ_=>?_) λ_=>?_
   .refine cG (aG (by dsimp only;omega) (by dsimp only;omega)<|aj ⟨F,A.mk' (cj ..) (A.p.set _ _ ⟨⟨λ_ h=>(nomatch h),True.intro⟩,λz hz=>by rw[aA]at hz;subst hz;exact⟨u0,y3⟩⟩) λx hx=>?_⟩);rcases ui hx with hx|rfl
    .exact A.n x hx
    .exact bL _
   refine aX (λx=>oz t x.2.1/\x.2.2.2.2=(l,d,I,c,f,k)) ?_ ?_
   .refine aL (λ_=>?_) λ_=>aj ⟨F,rfl⟩
    refine aG u0 (by dsimp only;omega) (aG u0 (by dsimp only;omega) (aQ (aL (λ_=>aj ⟨F,rfl⟩) λ_=>aG u0 (by dsimp only;omega) (aG u0 (by dsimp only;omega) (aQ (aj ⟨F,rfl⟩))))))
   rintro⟨b,tp4,q4,tx4,z4⟩ ⟨k1,k2⟩;dsimp only at k1 k2;subst k2;refine aM (λ_=>aj ⟨k1,A.st⟩) λ_=>cG (aG (by dsimp only;omega) (by dsimp only;omega)<|aj ⟨k1,A.mk' (cj ..) (A.p.set _ _ (A.p.get _)) λx hx=>?_⟩)
   rcases ui hx with hx|rfl
   .exact A.n x hx
   .unfold aK;rw[aT];cases hq:l[(i:Int).toNat]? with
    |none=>exact eQ _
    |some x=>exact A.n x (bd hq)
  .rintro⟨tp5,q5,z5⟩ ⟨F,N⟩;exact aj ⟨fd,F,N⟩
 rintro⟨a,D,q,tx,l,d,I,c,f,k⟩ ⟨e1,e2,A⟩;dsimp only at e1 e2 A;subst e1;refine di ?_;refine av (P:=BG w t) ?_ λr hr=>aj hr
 refine aX (λx=>oz t x.1/\OZ x.2.2) ?_ ?_
 .refine av (d8 3 D e2.p) λm hm=>aL (λ_=>?_) λ_=>aj ⟨e2.trans hm.1,A⟩
  refine av (UU tx m.2 hm.1.p (l,d,I,c,f,k) A.k) λy hy=>?_
  let⟨u,tp2,z⟩:=y;let⟨y1,y2,y3⟩:=hy;dsimp only at y1 y2 y3;subst y2;exact bt (cU rfl (bt (cU rfl (bt (cU rfl (bt (cU rfl (bt (cU rfl (bt (cU rfl (ie (aj ⟨(e2.trans hm.1).trans y1,A.st⟩)))))))))))))
 rintro⟨D,q,tx,l,d,I,c,f,k⟩ ⟨e2,A⟩;dsimp only at e2 A;have hd:=A.d;have hf:=A.f;dsimp only at hd hf;refine aX (λx=>oz t x.1/\OZ x.2.2) ?_ ?_
 .refine av (d8 3 D e2.p) λm hm=>aL (λ_=>?_) λ_=>aj ⟨e2.trans hm.1,A⟩
  refine aG (by decide) (by dsimp only;omega)<|aG (by decide) (by dsimp only;omega) (av (d8 3 m.2 hm.1.p) λm2 hm2=>aG (by decide) (by dsimp only;omega)<|aG (by decide) (by dsimp only;omega) (aj ⟨(e2.trans hm.1).trans hm2.1,A.st⟩))
 rintro⟨D,q,tx,l,d,I,c,f,k⟩ ⟨e2,A⟩;dsimp only at e2 A;have hc:=A.c;dsimp only at hc;refine bn 5 (λi x=>x.1=(i:Int)/\oz t x.2.1/\OZ x.2.2.2) ?_ ?_ ⟨rfl,e2,A⟩
 .rintro i ⟨a,D,q,tx,l,d,I,c2,f,k⟩ hi ⟨e1,e2,A⟩;dsimp only at e1 e2 A;subst e1;have hc2:=A.c;dsimp only at hc2;exact dx (av (d8 3 D e2.p) λm hm=>aG (by dsimp only;omega) (by dsimp only;omega)<|cG (aj ⟨fd,e2.trans hm.1,A.st⟩))
 .rintro⟨a,D,q,tx,l,d,I,c2,f,k⟩ ⟨e1,e2,A⟩;dsimp only at e1 e2 A;subst e1;let⟨q1,q2,q3,q4,q5,q6,q7,q8⟩:=A;dsimp only at q1 q2 q3 q4 q5 q6 q7 q8;exact di (aj ⟨⟨⟨⟨by omega,by dsimp only;omega,q3,by dsimp only;omega,by dsimp only;omega⟩,by dsimp only;omega,by dsimp only;omega,by dsimp only;omega⟩,q6,q7,q8⟩,q2,q1,q4,q5,e2⟩)
def YA (a b:Int):Dx (a,b)=Z (decide (0<=a/\a<b)):=Se a b
def aam (x:WN) (h:l! x.2.2.1.2.2.2<=1000):Ok (sw x) λ_=>True:=by
 unfold sw ba bQ bI dD bi bS bz bc cW aF cM;refine bn (l! x.2.2.1.2.2.2) (λi y=>y.1.2=(i:Int)/\y.2=x) ?_ ?_ ⟨rfl,rfl⟩
 .rintro i ⟨⟨sm,j⟩,y⟩ hi ⟨e1,e2⟩;dsimp only at e1 e2;subst e1 e2;refine dx (aX (λz=>z.2=y) (cG (aQ (aY (λ_=>aj rfl) λ_=>cG (aQ (aj rfl))))) ?_);rintro⟨b,z⟩ e;dsimp only at e;subst e;exact aM (λ_=>aj trivial) λ_=>cG (aQ (aj ⟨fd,rfl⟩))
 .rintro⟨⟨sm,j⟩,y⟩ ⟨e1,e2⟩;dsimp only at e1 e2;subst e1 e2;exact di (av (P:=λ_=>True) (aX (λ_=>True) (aL (λ_=>aj trivial) λ_=>aj trivial) λ_ _=>aj trivial) λ_ _=>aj trivial)
def CDR (x:WN):Prop:=∀j:Nat,j<l! x.2.2.1.1.2.2.2->(aK fg x.2.2.1.1.2.2.2 (j:Int)).1=3\/(aK fg x.2.2.1.1.2.2.2 (j:Int)).1=4->0<=(aK fg x.2.2.1.1.2.2.2 (j:Int)).2.1/\(aK fg x.2.2.1.1.2.2.2 (j:Int)).2.1<l! x.1.2.2.1
def Rv (x:WN) (h:l! x.2.2.1.2.2.2<=1000) (he:l! x.2.2.1.1.2.2.2=l! x.2.2.1.2.2.2):Ok (oS x) λb=>b=J->CDR x:=by
 unfold oS ba bQ bI bi bS bz bc cW aF cM;refine bn (l! x.2.2.1.1.2.2.2) (λi y=>y.1=(i:Int)/\y.2=x/\∀j:Nat,j<i->(aK fg x.2.2.1.1.2.2.2 (j:Int)).1=3\/(aK fg x.2.2.1.1.2.2.2 (j:Int)).1=4->0<=(aK fg x.2.2.1.1.2.2.2 (j:Int)).2.1/\(aK fg x.2.2.1.1.2.2.2 (j:Int)).2.1<l! x.1.2.2.1) ?_ ?_ ⟨rfl,rfl,λj hj=>bO hj (dE _)⟩
 .rintro i ⟨a,y⟩ hi ⟨e1,e2,F⟩;dsimp only at e1 e2;subst e1 e2;refine dx (aX (λz=>z.2=y) (cG (aQ (aL (λ_=>aj rfl) λ_=>cG (aQ (aj rfl))))) ?_);rintro⟨b1,z⟩ e;dsimp only at e;subst e;refine aX (λA=>A.2=z/\(A.1=aa->¬(aK fg z.2.2.1.1.2.2.2 (i:Int)).1=3/\¬(aK fg z.2.2.1.1.2.2.2 (i:Int)).1=4)) ?_ ?_
  .refine cG (aQ (aL (λ_=>aj ⟨rfl,nofun⟩) λh3=>cG (aQ (aj ⟨rfl,λh=>⟨h3,Ct h⟩⟩))))
  rintro⟨I,A⟩ ⟨e,c⟩;dsimp only at e c;subst e;refine aX (λu=>u.2=A) ?_ ?_
  .refine cG (aQ (aY (λ_=>aj rfl) λ_=>cG (aQ (aY (λ_=>aj rfl) λ_=>cG (aQ (aM (λ_=>aj rfl) λ_=>aL (λ_=>cG (aQ (aj rfl))) λ_=>aj rfl))))))
  rintro⟨b3,u⟩ e;dsimp only at e;subst e;refine aM (λ_=>aj nofun) λ_=>?_
  refine aX (λv=>v.2=u/\(v.1=aa->I=J->0<=(aK fg u.2.2.1.1.2.2.2 (i:Int)).2.1/\(aK fg u.2.2.1.1.2.2.2 (i:Int)).2.1<l! u.1.2.2.1)) ?_ ?_
  .refine aM (λ_=>cG (aQ (aV (YA _ _) (bW (λ_=>aj ⟨rfl,nofun⟩) λN=>?_)))) λh0=>?_
   .exact cH (λ_=>cG (aQ (aj ⟨rfl,λ_ _=>N⟩))) λ_=>aj ⟨rfl,λ_ _=>N⟩
   .have h0:I=aa:=h0;exact cH (λ_=>cG (aQ (aj ⟨rfl,λ_ h=>by rw[h0]at h;cases h⟩))) λ_=>aj ⟨rfl,λ_ h=>by rw[h0]at h;cases h⟩
  rintro⟨b4,v⟩ ⟨e,q⟩;dsimp only at e q;subst e;refine aM (λ_=>aj nofun) λh4=>aj ⟨fd,rfl,λj hj D=>?_⟩
  rcases bZ j i with h1|h1
  .exact F j h1 D
  .have:j=i:=by omega
   subst this;refine q h4 ?_;cases hb:I with
   |true=>rfl
   |false=>exact bO D (λD=>D.elim (c hb).1 (c hb).2)
 .rintro⟨a,y⟩ ⟨e1,e2,F⟩;dsimp only at e1 e2;subst e1 e2;exact di (aj λ_=>F)
def xY (x:WN) (t:Int):Ok (m6 (x,t)) λ_=>True:=by
 unfold m6 ba bI bz bc aF;refine aX (λ_=>True) ?_ λ_ _=>aj trivial
 refine aV (YA _ _) (aL (λh=>aG h.1 h.2 (aQ (aj trivial))) λ_=>aj trivial)
def ao8 (x:WN) (t k:Int) (c:l! x.2.2.2<=1000000):Ok (zO (x,t,k)) λr=> -1<=r/\r<l! x.2.2.2:=by
 unfold zO dD bi bS bz bc cW aF cM;refine bn (l! x.2.2.2) (λi y=>y.1.2=(i:Int)/\y.2=x) ?_ ?_ ⟨rfl,rfl⟩
 .rintro i ⟨⟨q,j⟩,y⟩ hi ⟨e1,e2⟩;dsimp only at e1 e2;subst e1 e2;refine dx (aX (λz=>z.2=y) ?_ ?_)
  .exact cG (aQ (aL (λ_=>aL (λ_=>aj ⟨by dsimp only;omega,by dsimp only;omega⟩) λ_=>aj rfl) λ_=>aj rfl))
  .rintro⟨b,z⟩ e;dsimp only at e;subst e;exact aj ⟨fd,rfl⟩
 .rintro⟨⟨q,j⟩,y⟩ ⟨e1,e2⟩;dsimp only at e1 e2;subst e1 e2;exact di (aj ⟨by omega,by omega⟩)
def Jm (x:WN) (t:Int) (ns:η) (D:l! x.2.2.2<=1000000) (F:l! ns<=1000000) (q:0<=t) (c:t<l! x.2.2.1.2.2.2):Ok (rH (x,t,ns)) λ_=>True:=by
 unfold rH bQ bI dD bS gF bz bc cW aF cM;refine bn (l! ns) (λi y=>y.1=(i:Int)/\y.2=x) ?_ ?_ ⟨rfl,rfl⟩
 .rintro i ⟨a,y⟩ hi ⟨e1,e2⟩;dsimp only at e1 e2;subst e1 e2;refine dx (aX (λz=>z=y) ?_ ?_)
  .refine cG (aQ (aG q c (aQ (aY (λ_=>aj rfl) λ_=>cG (aQ (aG q c (aQ (av (ao8 y t _ D) λr A=>?_))))))));refine aX (λz=>z.2=y) ?_ ?_
   .exact aY (λ_=>aj rfl) λh0=>aG h0 A.2 (aQ (bW (λ_=>aG h0 A.2 (aQ (aj rfl))) λ_=>aj rfl))
   .rintro⟨b,z⟩ e;dsimp only at e;subst e;exact aM (λ_=>aj trivial) λ_=>aj rfl
  .rintro z rfl;exact aj ⟨fd,rfl⟩
 .rintro⟨a,y⟩ ⟨e1,e2⟩;dsimp only at e1 e2;subst e1 e2;exact di (aj trivial)
def WI (x:WN) (D:l! x.2.2.1.1.1=l! x.1.2.1) (hL:l! x.1.2.1<=100) (I:∀l∈x.2.2.1.1.1,l! l.2<=1000) (hT:l! x.2.2.1.1.2.2.2<=1000) (F:∀c∈x.1.2.2.1,0<=c.2/\c.2<l! x.1.2.1) (hd:CDR x):Ok (qH x) λ_=>True:=by
 unfold qH ba bQ b_ dD dP bi bS gF bz bc cW aF cM;let⟨w,f,s,ev⟩:=x;dsimp only at D hL I hT F;refine bn (l! s.1.1) (λi y=>y=((i:Int),(w,f,s,ev),s.1)) ?_ ?_ rfl
 .rintro i y hi rfl;refine dx (cG (aQ ?_));refine aX (λz=>z.2=((w,f,s,ev),s.1,aK c_ s.1.1 (i:Int))) ?_ ?_
  .refine bW (λ_=>av (xY _ _) λ_ _=>cH (λ_=>aj rfl) λ_=>?_) λ_=>?_
   .exact aY (λ_=>cG (aQ (cH (λ_=>aj rfl) λ_=>aj rfl))) λ_=>aj rfl
   .exact aY (λ_=>cG (aQ (cH (λ_=>aj rfl) λ_=>aj rfl))) λ_=>aj rfl
  rintro⟨b,z⟩ e;dsimp only at e;subst e;refine aM (λ_=>aj trivial) λ_=>?_
  have hr:(aK c_ s.1.1 (i:Int)).2.length<=1000:=I _ (bE (T:=c_) (by omega) (by omega));refine bn (aK c_ s.1.1 (i:Int)).2.length (λj y=>y=((j:Int),(w,f,s,ev),s.1,aK c_ s.1.1 (i:Int))) ?_ ?_ rfl
  .rintro j y hj rfl;refine dx (aX (λz=>z.2=((w,f,s,ev),s.1,aK c_ s.1.1 (i:Int))) ?_ ?_)
   .refine cG (aQ (av (xY _ _) λ_ _=>cH (λ_=>aj rfl) λ_=>aY (λh=>?_) λ_=>aj rfl));dsimp only at h;refine cG (aQ ?_);dsimp only;rw[jA];exact cG (aQ (aj rfl))
   .rintro⟨b,z⟩ e;dsimp only at e;subst e;refine aM (λ_=>aj trivial) λ_=>aj ?_
    dsimp only;rw[fd]
  .rintro y rfl;refine di (aj ?_);dsimp only;rw[fd]
 rintro y rfl;refine di ?_;refine av (P:=λ_=>True) ?_ λ_ _=>aj trivial
 refine aX (λz=>z.2=((w,f,s,ev),s.1)) (bW (λ_=>av (xY _ _) λ_ _=>aj rfl) λ_=>aj rfl) ?_;rintro⟨b,z⟩ e;dsimp only at e;subst e;refine aM (λ_=>aj trivial) λ_=>?_
 refine bn (l! s.1.2.2.2) (λi y=>y=((i:Int),(w,f,s,ev),s.1)) ?_ ?_ rfl
 .rintro i y hi rfl;have hdi:=hd i hi;dsimp only at hdi;refine dx (cG (aQ ?_));refine aX (λz=>z.2=((w,f,s,ev),s.1,aK fg s.1.2.2.2 (i:Int))) (aM (λ_=>av (xY _ _) λ_ _=>aj rfl) λ_=>aj rfl) ?_;rintro⟨b,z⟩ e;dsimp only at e;subst e;refine aM (λ_=>aj trivial) λ_=>?_
  have q:∀h:0<=(aK fg s.1.2.2.2 (i:Int)).2.1/\(aK fg s.1.2.2.2 (i:Int)).2.1<l! w.2.2.1,0<=(aK itK w.2.2.1 (aK fg s.1.2.2.2 (i:Int)).2.1).2/\(aK itK w.2.2.1 (aK fg s.1.2.2.2 (i:Int)).2.1).2<l! s.1.1:=λh=>by
   have N:=F _ (bE (T:=itK) h.1 h.2);exact⟨N.1,by rw[D];exact N.2⟩
  refine aX (λz=>z.2=((w,f,s,ev),s.1)) ?_ ?_
  .refine aL (λA=>?_) λ_=>aL (λA=>?_) λ_=>aj rfl
   .have h:=hdi (.inl A);exact aG h.1 h.2 (aQ (aG (q h).1 (q h).2 (aQ (aj rfl))))
   .have h:=hdi (.inr A);exact aG h.1 h.2 (aQ (aG (q h).1 (q h).2 (aQ (aj rfl))))
  rintro⟨b,z⟩ e;dsimp only at e;subst e;refine aM (λ_=>aj trivial) λ_=>aj ?_
  dsimp only;rw[fd]
 .rintro y rfl;exact di (aj trivial)
def ajw (x:WN) (F:NB 1 x.2.2.1) (hl:l! x.2.2.2<=1000) (hE:∀e∈x.2.2.2,Mp e) (hdn:l! x.2.2.1.1.2.2.1=l! x.2.2.1.2.2.1) (hth:l! x.2.2.1.1.2.2.2=l! x.2.2.1.2.2.2):Ok (ur x) λb=>b=J->VL x.1/\F16 x.1 x.2.2.1/\(l! x.2.2.1.1.1=l! x.1.2.1/\l! x.2.2.1.1.2.2.1=l! x.1.2.2.2.1/\l! x.2.2.1.1.2.2.2=l! x.1.2.2.2.2.1)/\Vu x.1 x.2.2.1 x.2.2.2/\l! x.2.2.2<=16:=by
 unfold ur ba bQ da bI fX bS bz bc cW aF cM;refine aX (λz=>z.2=x/\(z.1=aa->VL x.1/\F16 x.1 x.2.2.1/\(l! x.2.2.1.1.1=l! x.1.2.1/\l! x.2.2.1.1.2.2.1=l! x.1.2.2.2.1/\l! x.2.2.1.1.2.2.2=l! x.1.2.2.2.2.1)/\l! x.2.2.2<=16)) ?_ ?_
 .have no:∀{P:Prop},(J:Bool)=aa->P:=nofun
  refine av (v9 _) λb A=>cH (λ_=>aj ⟨rfl,no⟩) λh1=>?_
  let⟨D,_⟩:=A h1;have hd:=D.d;have hw:l! x.1.2.2.1<=1000:=by omega
  refine av (P:=λb=>b=J->F16 x.1 x.2.2.1/\(∀c∈x.1.2.2.1,0<=c.2/\c.2<l! x.1.2.1)/\l! x.2.2.1.1.1=l! x.1.2.1/\l! x.2.2.1.1.2.2.1=l! x.1.2.2.2.1/\l! x.2.2.1.1.2.2.2=l! x.1.2.2.2.2.1) ?_ λb A=>?_
  .obtain⟨b1,e1,h1⟩:=OX x.1 x.2.2.1 hw;let⟨b2,e2,h2⟩:=I_ x.1 x.2.2.1.1 (by omega);refine ⟨b1,e1,λA=>⟨h1 A,h2 ?_⟩⟩;unfold rJ ba bQ b_ dD bi bc aF at e1;dsimp only at e1;rw[e2]at e1;cases b2 with
   |true=>rfl
   |false=>cases e1;cases A
  refine cH (λ_=>aj ⟨rfl,no⟩) λh2=>?_
  let⟨g1,g2,g3,g4,g5⟩:=A h2;refine aY (λ_=>aj ⟨rfl,no⟩) λh3=>?_
  dsimp only[ak]at h3;refine av (aam x F.k) λ_ _=>cH (λ_=>aj ⟨rfl,no⟩) λ_=>?_
  refine av (Rv x F.k hth) λb A=>cH (λ_=>aj ⟨rfl,no⟩) λh5=>?_
  have hv4:=D.l;refine av (WI x g3 (by omega) (λl hl=>cA (F.sb.rd l hl) (by decide)) F.sb.th g2 (A h5)) λ_ _=>aj ⟨rfl,λ_=>⟨D,g1,⟨g3,g4,g5⟩,by omega⟩⟩
 rintro⟨b,z⟩ ⟨e,A⟩;dsimp only at e A;subst e;refine aM (λ_=>aj λh=>by cases h) λh=>?_
 let⟨D,g1,g2,g3⟩:=A h;have hd:=D.d;have hw:l! z.1.2.2.1<=1000:=by omega
 have hff:=F.f;refine bn (l! z.2.2.1.2.2.1) (λi y=>y=((i:Int),z)) ?_ ?_ rfl
 .rintro i y hi rfl;refine dx (aX (λu=>u.2=z) (cG (aQ (cH (λ_=>cG (aQ (aj rfl))) λ_=>aj rfl))) ?_);rintro⟨b,u⟩ e;dsimp only at e;subst e;refine aM (λ_=>aj λh=>by cases h) λ_=>aj ?_
  dsimp only;rw[fd]
 rintro y rfl;refine di ?_;refine av (P:=λb=>b=J->VL z.1/\F16 z.1 z.2.2.1/\(l! z.2.2.1.1.1=l! z.1.2.1/\l! z.2.2.1.1.2.2.1=l! z.1.2.2.2.1/\l! z.2.2.1.1.2.2.2=l! z.1.2.2.2.2.1)/\Vu z.1 z.2.2.1 z.2.2.2/\l! z.2.2.2<=16) ?_ λb A=>aj A
 refine bn (l! z.2.2.2) (λi y=>y=((i:Int),z,sV z.1 z.2.2.1 z.2.2.2 i)/\NB (1+i) y.2.2/\∀k:Nat,k<i->G1 z.1 (sV z.1 z.2.2.1 z.2.2.2 k) (eN z.2.2.2 k)) ?_ ?_ ⟨rfl,F,λk hk=>bO hk (dE _)⟩
 .rintro i y hi ⟨rfl,hB,hG⟩;refine dx (cG (aQ ?_));have hs:=Me hE hi;refine av (Zk hB hw hs) λy hy=>?_
  refine aX (λu=>u.2.1=z/\u.2.2.2=y.1/\(u.1=aa->y.2=J)) ?_ ?_
  .refine cH (λ_=>aj ⟨rfl,rfl,nofun⟩) λh=>?_
   have hen:=(hy h).2.en;have N:=hen.t0;have I:(eN z.2.2.2 i).1<l! z.2.2.1.2.2.2:=by have h1:(eN z.2.2.2 i).1<l! z.1.2.2.2.2.1:=hen.t1;have:=g1.k;omega
   refine av (Jm z _ _ (by omega) hs.1 N I) λb1 _=>cH (λ_=>aj ⟨rfl,rfl,nofun⟩) λ_=>?_
   exact av (Jm z _ _ (by omega) hs.2 N I) λb2 _=>aj ⟨rfl,rfl,λ_=>h⟩
  .rintro⟨c,p,q,r⟩ ⟨f1,f2,f3⟩;dsimp only at f1 f2 f3;subst f1;refine aM (λ_=>aj λh=>by cases h) λh=>?_
   let⟨k1,k2⟩:=hy (f3 h);refine aj ⟨?_,?_,λk hk=>?_⟩
   .dsimp only;rw[fd,f2,k1,Ge _ _ hi]
   .dsimp only;rw[f2,k1];exact k2.nb hB hw hs (by show 1+i+1<=100000;omega)
   .rcases bZ k i with h1|h1
    .exact hG k h1
    .rw[show k=i by omega];exact k2
 .rintro y ⟨rfl,hB,hG⟩;exact di (aj λ_=>⟨D,g1,g2,hG,g3⟩)
def oG.world {w q:WT} (h:W0 w) (A:W0 q) {s:SN} (e:m8 q=Z s):oG (w,0,s,[]):=by
 have F:=A.vl;have:=uW q F;rw[e]at this;have e:=eW this;subst e;have hn:=Ph F;have h1:=h.c;have h3:=h.f;have h4:=h.t;have g1:=A.c;have g3:=A.f;have g4:=A.t;have N:=h.l;have I:=A.l;refine ⟨h.vl,h.l,hn.mono (by omega),⟨?_,?_,?_⟩,⟨?_,?_,?_⟩,λx D=>?_,λi hi=>bO hi (dE _),eQ _,λe he=>by cases he⟩
 .show (l! (ce0 q))=l! w.1;simp[ce0];omega
 .show (l! (fu0 q))=l! w.2.2.2.1;simp[fu0];omega
 .show (l! (aP (l! q.2.2.2.2.1) 0))=l! w.2.2.2.2.1;simp;omega
 .show (l! (aP (l! q.2.1) ((-1:Int),([]:η))))=l! w.2.1;rw[N,I];simp
 .show (l! (aP (l! q.2.2.2.1) aa))=l! w.2.2.2.1;simp;omega
 .show (l! (thP (l! q.2.2.2.2.1)))=l! w.2.2.2.2.1;rw[IB];omega
 .have D:x∈aP (l! q.2.1) ((-1:Int),([]:η)):=D;rw[(List.mem_replicate.1 D).2];exact⟨True.intro,λz hz=>by cases hz⟩
def U4 (L:η) (n:Int) (hn:n<=8) (hl:l! L<=9223372036854775807) (hb:∀z∈L,0<=z/\z<=255):Ok (mj (L,n)) oG:=by
 unfold mj Prod.m Prod.p Prod.q Prod.u ba bQ b_ da ia tJ O3 Prod.l Prod.s Prod.v bI dP bS bY bz bc cW aF cM;refine aX (λx=>TP (x.1,0)) ?_ ?_
 .refine aY (λh=>?_) λ_=>aj ⟨hl,hb,dX _,by dsimp only;omega⟩
  dsimp only[ak]at h;refine bt (cI (by decide) (a? (aj ⟨by dsimp only;rw[bD];omega,λz hz=>hb z (dF hz),dX _,by dsimp only;omega⟩)))
 rintro⟨T,a,b⟩ hT;dsimp only at hT;refine av L2 λw F=>av (Q_ w F (T,0) hT) λy D=>?_
 let⟨⟨sy,ce,fu,ct⟩,t2⟩:=y;let⟨⟨q,c1,f1,k1⟩,hp,hl3,hd1,hh,ht⟩:=D;dsimp only at c1 f1 k1 hp hl3 hd1 hh ht;refine bn (l! ct) (λi x=>x.1=(i:Int)/\x.2.2.1=t2/\(x.2.2.2.1,x.2.2.2.2.1,x.2.2.2.2.2.1,x.2.2.2.2.2.2.1,x.2.2.2.2.2.2.2.1,x.2.2.2.2.2.2.2.2.1)=w/\x.2.2.2.2.2.2.2.2.2.2=(sy.1,sy.2.1,sy.2.2.1,sy.2.2.2,ce,fu,ct)) ?_ ?_ ⟨rfl,rfl,rfl,rfl⟩
 .rintro i ⟨x0,x1,x2,x3,x4,x5,x6,x7,x8,x9,x10⟩ hi ⟨e1,e2,N,I⟩;dsimp only at e1 e2 N I;subst e1;exact dx (cG (aQ (aj ⟨fd,e2,N,I⟩)))
 rintro⟨x0,x1,x2,x3,x4,x5,x6,x7,x8,x9,x10⟩ ⟨e1,e2,N,I⟩;dsimp only at e1 e2 N I;subst e1 e2 I;refine di ?_;refine av (P:=oG) ?_ λ_ h=>aj h
 dsimp only;rw[N];have hw5:=F.c;have hwt:=F.t;have hwd:=F.d;have hwf:=F.f;have hwl:=F.l;have q:NB 1 (sy,ce,fu,ct):=q;refine av (ahn (m:=1) (by omega) (sy,ce,fu,ct) ⟨q,c1,f1,k1⟩ w hw5 hwt (by omega) 8 (by omega) _ (by unfold yY Fo;(repeat' split)<;>(try rw[oc]at *)<;>omega) x2 ht.p) λy D=>?_
 refine av (ajw (w,x9,(sy,ce,fu,ct),y.1) q (by have:=D.2;dsimp only;omega) D.1 (by dsimp only;omega) (by dsimp only;omega)) λb hb=>?_
 refine cH (λ_=>?_) λh=>?_
 .refine av L2 λw1 hw1=>av L2 λw2 A=>aV (uW w2 A.vl) (aj ?_)
  exact oG.world hw1 A (uW w2 A.vl)
 .obtain⟨g1,g2,g3,g4,g5⟩:=hb h;exact aj ⟨g1,hwl,q.mono (by omega),g2,g3,hp,g4,D.2,D.1⟩
abbrev VT8:Type:=η×η×η×h!
structure VOK (v:VT8):Prop where
 a:l! v.1<=9223372036854775807
 ax:∀z∈v.1,0<=z/\z<=255
 b:l! v.2.2.1<=9223372036854775807
 bx:∀z∈v.2.2.1,0<=z/\z<=255
 n:0<=v.2.2.2.1/\v.2.2.2.1<=255
 m:0<=v.2.2.2.2/\v.2.2.2.2<=255
def amy (n:Nat):0<=yY (n:Int) 80/\yY (n:Int) 80<=n/\yY (n:Int) 80<=80:=by
 unfold yY;split
 next h=>rw[oc]at h;omega
 next h=>rw[oc]at h;omega
def anr (v:VT8) (h:VOK v):Ok (jS (v,8)) oG:=by
 unfold jS ba bQ dD bi bS bY bz bc;have hm:∀a:Int,0<=a->a<=255->1<=aZ .i64 (1+fR (aZ .i64 a) 8)/\aZ .i64 (1+fR (aZ .i64 a) 8)<=8:=λa h0 h1=>by
  rw[jA (n:=a) (by omega) (by omega)];have:=u_ (a:=a) (b:=8) h0;have F:=Int.emod_nonneg a (b:=8) (by decide);have c:=Mk a (b:=8) (by decide);rw[jA];omega
 have N:=hm _ h.n.1 h.n.2;refine aY (λ_=>l8 (by show ¬(8:Int)=0;decide) (av (U4 _ _ (by dsimp only;omega) h.b h.bx) λ_ h=>aj h)) λ_=>?_
 have D:=amy (l! v.2.1);refine bt (cI D.1 (cI D.2.1 ?_));refine av (Mw _ _ h.a h.ax ?_) λy I=>l8 (by show ¬(8:Int)=0;decide) ?_
 .rw[bD];have c:=D.2.2;dsimp only[ak]at c ⊢;omega
 let⟨yw,yl⟩:=y;refine av (ak1 yw yl I.ls I.lk _ N.1 N.2) λz q=>aL (λ_=>?_) λA=>?_
 .exact av (U4 [] 0 (by decide) (by decide) λz q=>by cases q) λ_ h=>aj h
 .refine l8 A ?_;have h9:=h.m;have:aZ .i64 v.2.2.2.2=v.2.2.2.2:=jA;dsimp only[ak]at A ⊢;have h1:=u_ (a:=v.2.2.2.2) (b:=(l! z.1:Int)) h9.1;have F:=Int.emod_nonneg v.2.2.2.2 (b:=(l! z.1:Int)) A;have c:=Mk v.2.2.2.2 (b:=(l! z.1:Int)) (by omega);rw[this,h1];exact aG F c (aQ (aj (q _ (bE F c))))
def AX (a b:Int):eY (a,b)=Z (decide (0<=a/\a<b)):=by
 refine cF ?_;unfold eY jO aF;with_reducible repeat' first|apply OS.ok;constructor|refine IM.mk λ_=>?_
 .by_cases h:a<b<;>simp[*,fV]
 .simp;omega
def lJ (l:η) (t:Int) (A:l! l<=1000):eO (l,t)=Z (l.contains t):=by
 refine cF ?_;unfold eO iT uP bi bS bz bc cW aF cM;refine av (P:=λy:Int=>0<=y↔t∈l) ?_ λy c=>aj ?_
 .refine xw (l! l) (by omega) (λi x=>x=(i:Int)/\∀j,j<i->¬l.getD j 0=t) ?_ ?_ ⟨rfl,λj q=>by omega⟩
  .rintro i x hi ⟨rfl,z⟩;refine dx ?_;refine cG (aQ (aL (λh=>aj ?_) λh=>aj ?_))
   .refine ⟨λ_=>?_,λ_=>by omega⟩;have h:t=aK aO l (i:Int):=h;rw[h];exact bE (T:=aO) (xs:=l) (by omega) (by omega)
   .refine ⟨fd,λj q=>?_⟩;have h:¬t=l.getD i 0:=h
    grind
  .rintro x ⟨rfl,z⟩;refine di (aj ?_);refine ⟨λg=>(by omega),λg=>?_⟩;let⟨j,q,e⟩:=HN g
   grind
 .by_cases h:t∈l
  .have:=c.2 h;simp[cZ,h,this]
  .have:¬0<=y:=λg=>h (c.1 g)
   simp[cZ,h,this]
def ath (w:WT) (s:SY) (z:l! w.2.2.1<=1000) (q:∀c∈w.2.2.1,0<=c.2/\c.2<l! w.2.1) (e1:l! s.1=l! w.2.1) (e2:l! s.2.2.1=l! w.2.2.2.1) (A:l! s.2.2.2=l! w.2.2.2.2.1):jD (w,s)=Z J:=by
 refine cF ?_;unfold jD qX ba bQ b_ dD bS gF bz bc cW aF cM;refine aX (λx=>x=(aa,w)) ?_ ?_
 .refine bW (λh=>(h (by grind)).elim) λ_=>bW (λh=>(h (by grind)).elim) λ_=>aj ?_
  grind
 rintro x rfl;refine adb (xw (l! w.2.2.1) (by omega) (λi x=>x=((i:Int),w)) ?_ ?_ rfl)
 .rintro i x hi rfl;refine dx ?_;refine cG (aQ (aV (AX _ _) (bW (λh=>(h ?_).elim) λ_=>aj ?_)))
  .exact q _ (bE (T:=itK) (xs:=w.2.2.1) (j:=(i:Int)) (by omega) (by omega))
  .rw[fd]
 .rintro x rfl;exact di (aj rfl)
def afq (w:WT) (k o:Int) (h:NM w k o):iS (w,k,o)=Z J:=by
 refine cF ?_;let⟨k1,k2,F,z,cn,c,D,no,q,rw_⟩:=h;unfold iS ba bQ b_ da bi bz bc aF;cases kdI k
 case no A _=>omega
 all_goals simp only[dR,dB,Ji,AX]
 all_goals with_reducible repeat' first|apply OS.ok;constructor|refine IM.mk λ_=>?_
 all_goals try simp[ak,ru] at*
 all_goals first|omega|exact rw_ ⟨by decide,by decide⟩|(simp [*,Bool.not_false,decide_true];done)
def amj (w:WT) (s:SY) (hs:SB i s) (hn:i<=1000) (t k o:Int) (he:EN w s t k o) (hr:Mo w s t k o):kI (w,s,t,k,o)=Z J:=by
 refine cF ?_;let⟨nm,F,t1,cd,e1,e2,e3⟩:=id he;let⟨_,_,ce,lk,cn,th,fu,no,mu,rw_⟩:=nm;let⟨_,_,_,A,wr,ra,rl,rr,xb,xe,ab,ae,nt,sp,I,se,ge⟩:=hr;have hm:16<=k/\k<=19->0<=(aK itK w.2.2.1 o).2/\(aK itK w.2.2.1 o).2<l! w.2.1:=λh=>cd _ (bE (cn h).1 (cn h).2)
 have hH:6<=k/\k<=11->eO ((aK c_ s.1 o).2,t)=Z ((aK c_ s.1 o).2.contains t):=λh=>lJ _ _ (by
  have:=hs.rd _ (bE (T:=c_) (lk h).1 (by grind));omega)
 have lk1:6<=k/\k<=11->0<=o/\o<(l! s.1:Int):=λh=>by grind
 have D:t<(l! s.2.2.2:Int):=by omega
 have fu1:k=22\/k=23->0<=o/\o<(l! s.2.2.1:Int):=λh=>by have:=fu h;omega
 have th1:k=20\/k=21->0<=o/\o<(l! s.2.2.2:Int):=λh=>by have:=th h;omega
 have q:∀{p:Prop} [Decidable p],p->decide p=J:=λh=>bK h
 unfold kI ba bQ b_ dD dP bi gF bz bc aF;refine aL (λh=>?_) λn6=>?_
 .have h:k=6:=h;exact aG (lk1 (by omega)).1 (lk1 (by omega)).2 (aQ (aj (q (A (.inl h)))))
 refine aL (λh=>?_) λn10=>?_
 .have h:k=10:=h;refine kP (aG (lk1 (by omega)).1 (lk1 (by omega)).2 (aQ (aL (λ_=>?_) λg=>(g (A (.inr (.inr h)))).elim)));refine aG (lk1 (by omega)).1 (lk1 (by omega)).2 (aQ (aj (aj (q ?_))))
  grind
 refine aL (λh=>?_) λn8=>?_
 .have h:k=8:=h;refine kP (aG (lk1 (by omega)).1 (lk1 (by omega)).2 (aQ (aL (λ_=>?_) λg=>(g (A (.inr (.inl h)))).elim)));refine aG (lk1 (by omega)).1 (lk1 (by omega)).2 (aQ (aV (hH (by omega)) (aj (aj ?_))));rw[ra h];rfl
 refine aX (λx=>x.2=(w,s)/\(x.1=J↔k=7\/k=11)) (aL (λh=>aj ⟨rfl,λ_=>.inl h,λ_=>q h⟩) λh=>aj ⟨rfl,λz=>.inr (bJ z),λz=>q (z.resolve_left h)⟩) ?_;rintro⟨b,x⟩ ⟨e,hb⟩;dsimp only at e hb;subst e;refine aM (λh=>?_) λ_=>?_
 .have h:=hb.1 h;exact aG (lk1 (by omega)).1 (lk1 (by omega)).2 (aQ (aj (q (rl h))))
 refine aL (λh=>?_) λn9=>?_
 .have h:k=9:=h;refine aG (lk1 (by omega)).1 (lk1 (by omega)).2 (aQ (aV (hH (by omega)) (aj (rr h))))
 refine aL (λh=>aj (q (xb h))) λ_=>aL (λh=>aj (q (xe h))) λ_=>?_
 refine aL (λh=>aG F D (aQ (aj (by grind)))) λ_=>aL (λh=>aG F D (aQ (aj (ae h)))) λ_=>?_
 refine aX (λx=>x.2=(w,s)/\(x.1=J->k=16\/k=18\/k=19)) (aL (λh=>aj ⟨rfl,λ_=>.inl h⟩) λ_=>aL (λh=>aj ⟨rfl,λ_=>.inr (.inl h)⟩) λ_=>aj ⟨rfl,λh=>.inr (.inr (bJ h))⟩) ?_;rintro⟨c,x⟩ ⟨e,N⟩;dsimp only at e N;subst e;refine aM (λh=>?_) λ_=>?_
 .have h:=N h;have hq:=hm (by omega);exact aG (cn (by omega)).1 (cn (by omega)).2 (aQ (aG hq.1 (by grind) (aQ (aj (q (nt h))))))
 refine aL (λh=>?_) λ_=>?_
 .have h:k=20:=h;exact kP (bW (λ_=>aG (th1 (.inl h)).1 (th1 (.inl h)).2 (aQ (aj (aj (q (sp h).2))))) λg=>((sp h).1 g).elim)
 refine aL (λh=>?_) λ_=>?_
 .have h:k=21:=h;exact kP (bW (λ_=>aG (th1 (.inr h)).1 (th1 (.inr h)).2 (aQ (aj (aj (q (I h).2))))) λg=>((I h).1 g).elim)
 refine aL (λh=>aG (fu1 (.inl h)).1 (fu1 (.inl h)).2 (aQ (aj (by grind)))) λ_=>aL (λh=>aG (fu1 (.inr h)).1 (fu1 (.inr h)).2 (aQ (aj (ge h)))) λ_=>aj rfl
def Mh (w:WT) (s:SY) (hs:SB i s) (hn:i<=1000) (hw:l! w.2.2.1<=1000) (t k o:Int) (he:EN w s t k o) (c:Mo w s t k o):fH (w,s,t,k,o)=Z J:=by
 refine cF ?_;let⟨nm,z,I,cd,e1,e2,e3⟩:=id he;have hrd:=amj w s hs hn t k o he c;have F:t<(l! s.2.2.2:Int):=by omega
 refine aX (λx=>x=(aa,w,s)) ?_ ?_
 .refine aV (ath w s hw cd e1 e2 e3) (jQ rfl (aV (AX _ _) ?_));refine bW (λh=>(h ⟨z,I⟩).elim) λ_=>aV (afq w k o nm) (aj rfl)
 rintro x rfl;refine adb (aG z F (aQ ?_));refine aL (λh=>aj (bK (c.b h))) λN=>?_
 refine aL (λh=>?_) λq=>?_
 .have h:k=17:=h;let⟨a1,a2,a3⟩:=c.wk h;let⟨D,A⟩:=nm.cd (by omega);have hq:=cd _ (bE (T:=itK) (xs:=w.2.2.1) (j:=o) D A);refine kP (aL (λ_=>aL (λ_=>?_) λg=>(g a2).elim) λg=>(g a1).elim);exact aG D A (aQ (aG hq.1 (by grind) (aQ (aj (aj (bK a3))))))
 refine kP (aL (λ_=>aV hrd (aj (aj rfl))) λg=>(g (c.r N q)).elim)
def O6 (q:Y p?) (c:Int) (i:Nat):wl q c (i+1)=if VJ c (aK fg q (i:Int)) then wl q c i++[(i:Int)] else wl q c i:=rfl
def ac9 (x:p?) (c:Int):mn (x,c)=Z (VJ c x):=by
 refine cF ?_;unfold mn VJ bi aF;refine kP (aL (λh=>aj (aj ?_)) λh=>aj (aj ?_))
 .have h:x.1=3:=h;rw[h];rfl
 .have h:¬x.1=3:=h;rw[bT h];rfl
def af8 (s:SY) (z:SB i s):kJ s=Z (s.2.1,s.1,s.2.2.1,s.2.2.2):=by
 refine cF ?_;let⟨q,F,D,A⟩:=s;have hn:=z.n1;have hlk:=z.lk;have hdn:=z.dn;have hth:=z.th;have hrd:=z.rd;dsimp only at hlk hdn hth hrd;unfold kJ r9 ba bI ck bS bY bz bc cW cM;dsimp only[ak];refine bt (bt (a? (a? (a! ?_))));refine xw (l! q) (by omega) (λn x=>∃c d,x=((n:Int),(q,F,D,A),c,d)/\l! d=l! q/\∀j,j<n->d.getD j (0,[])=q.getD j (0,[])) ?_ ?_ ⟨_,_,rfl,by simp,λj hj=>by omega⟩
 .rintro n x hi ⟨c,d,rfl,hd,he⟩;have hr:=hrd _ (bE (T:=c_) (xs:=q) (j:=(n:Int)) (by omega) (by omega));refine dx ?_;refine cG (aQ (aV (x:=(aK c_ q (n:Int)).2) (cF ?_) ?_))
  .exact a! (aj rfl)
  refine cG (cG (aj ⟨c,d.set n (aK c_ q (n:Int)),?_,by simp[hd],λj hj=>?_⟩))
  .dsimp only;rw[fd];rfl
  .by_cases e:n=j
   .subst e;rw[aT,List.getElem?_set_self (by omega)];rfl
   .rw[aT,List.getElem?_set_ne e,<-aT];exact he j (by omega)
 .rintro x ⟨c,d,rfl,hd,he⟩;have:d=q:=by
   refine List.ext_getElem hd λj g1 I=>?_
   have:=he j I;rw[aT,aT,aH g1,aH I]at this;exact this
  subst this;refine di (av (P:=λy=>y=(F,d,D,A)) ?_ λy N=>aj N);refine aV (x:=D) (cF (a! (aj rfl))) (aV (x:=A) (cF (a! (aj rfl))) (aj rfl))
def Y7 (l:η) (i u:Int):In (l++[i]) u=if (l! l)=0 then i else if i=u then i else In l u:=by
 unfold In;cases l with
 |nil=>
  by_cases h:u=i
  .subst h;simp
  .simp[h];rfl
 |cons a r=>
  have e1:¬l! (a::r++[i])=0:=by simp
  have e2:¬l! (a::r)=0:=by simp
  simp only[aE e1,aE e2];by_cases h:i=u
  .subst h;simp
  .have h':¬u=i:=λg=>h g.symm
   rw[aE h];have:(a::r++[i]).contains u=(a::r).contains u:=by simp[h']
   rw[this];rfl
def Q0 {u:Int} (h:¬l! (wl j a i)=0):0<=In (wl j a i) u/\In (wl j a i) u<i:=by
 have:=Cu.1 (ajg u h);exact⟨this.1,this.2.1⟩
def LK {u:Int} (h:l! r=0):In r u= -1:=by unfold In;rw[aR h]
def ahv (s:SY) (o u:Int) (I:l! s.2.2.2<=1000):jU ((s.2.1,o,u),s.1,s.2.2.1,s.2.2.2)=Z (In (wl s.2.2.2 o (l! s.2.2.2)) u,s.1,s.2.2.1,if (l! (wl s.2.2.2 o (l! s.2.2.2)))=0 then s.2.2.2 else Pd s.2.2.2 (In (wl s.2.2.2 o (l! s.2.2.2)) u) 4):=by
 refine cF ?_;let⟨A,D,z,c⟩:=s;dsimp only at I ⊢;unfold jU qW ba bQ bI ck bS jO kQ bc cW aF cM;dsimp only[ak];refine xw (l! c) (by omega) (λi x=>x=((In (wl c o i) u,(i:Int)),A,z,c,D)) ?_ ?_ rfl
 .rintro i x hi rfl;refine dx ?_;refine aX (λx=>x=(In (wl c o (i+1)) u,A,z,c,D)) ?_ ?_
  .refine cG (cG (aQ ?_));refine aX (λx=>x=(decide (VJ o (aK fg c (i:Int))=J/\(l! (wl c o i)=0\/(i:Int)=u)),A,z,c,D)) ?_ ?_
   .refine aV (ac9 _ _) (aM (λh=>?_) λh=>aj ?_)
    .have h:VJ o (aK fg c (i:Int))=J:=h;refine aY (λg=>aj ?_) λg=>aj ?_
     .have:l! (wl c o i)=0:=Classical.byContradiction λq=>by have:=(Q0 (u:=u) q).1;dsimp only at g;omega
      simp[h,this]
     .have:¬l! (wl c o i)=0:=λq=>by have:=LK (u:=u) q;dsimp only at g;omega
      simp[h,this]
    .have h:VJ o (aK fg c (i:Int))=aa:=h;simp[h]
   rintro x rfl;rw[O6];refine aL (λh=>aj ?_) λh=>aj ?_
   .rw[aR h.1,Y7];rcases h.2 with g|g
    .rw[aR g]
    .rw[aR g];simp
   .by_cases g:VJ o (aK fg c (i:Int))=J
    .rw[aR g,Y7,aE λq=>h ⟨g,.inl q⟩,aE λq=>h ⟨g,.inr q⟩]
    .rw[aE g]
  rintro x rfl;exact aj (by dsimp only;rw[fd])
 .rintro x rfl;refine di (av (P:=λy=>y=(In (wl c o (l! c)) u,A,z,if (l! (wl c o (l! c)))=0 then c else Pd c (In (wl c o (l! c)) u) 4)) ?_ λy F=>aj F);refine aX (λx=>x=(A,z,if (l! (wl c o (l! c)))=0 then c else Pd c (In (wl c o (l! c)) u) 4)) ?_ ?_
  .refine eh (λg=>?_) λg=>aj ?_
   .have h0:¬l! (wl c o (l! c))=0:=λq=>by have:=LK (u:=u) q;dsimp only at g;omega
    have hp:=Q0 (u:=u) h0;refine aG hp.1 hp.2 (aG hp.1 hp.2 (aj ?_));rw[aE h0];rfl
   .have:l! (wl c o (l! c))=0:=Classical.byContradiction λq=>by have:=(Q0 (u:=u) q).1;dsimp only at g;omega
    rw[aR this]
  rintro x rfl;exact aj rfl
def ai0 (c:Y p?) (l:η) (i:Int):VB c (l++[i])=Pd (VB c l) i 4:=by unfold VB;rw[j8];rfl
def ahz (l:η):∀(c:Y p?) (j:Int),0<=j->(∀z∈l,0<=z/\z<l! c/\¬z=j)->aK fg (VB c l) j=aK fg c j:=by
 induction l with
 |nil=>intro c j _ _;rfl
 |cons x r F=>
  intro c j D h;have A:=h x (by simp);refine (F (Pd c x 4) j D λz I=>?_).trans ?_
  .have:=h z (by simp[I]);unfold Pd;rw[cj];exact this
  .unfold Pd;rw[N8 (T:=fg) c x j _ A.1 A.2.1 D,aE λq=>A.2.2 q.symm]
def V8 (s:SY) (o:Int) (N:l! s.2.2.2<=1000):gN ((s.2.1,o),s.1,s.2.2.1,s.2.2.2)=Z ((l! (wl s.2.2.2 o (l! s.2.2.2)):Int),s.1,s.2.2.1,VB s.2.2.2 (wl s.2.2.2 o (l! s.2.2.2))):=by
 refine cF ?_;let⟨D,A,q,c⟩:=s;dsimp only at N ⊢;unfold gN mD ba bQ bI dD ck bS kQ bc cW aF cM;dsimp only[ak];refine xw (l! c) (by omega) (λi x=>x=(((l! (wl c o i):Int),(i:Int)),D,q,VB c (wl c o i),A)) ?_ ?_ rfl
 .rintro i x hi rfl;have hl:=zE c o i;have F:aK fg (VB c (wl c o i)) (i:Int)=aK fg c (i:Int):=ahz _ _ _ (by omega) λz I=>by have:=Cu.1 I;exact⟨this.1,by omega,by omega⟩
  have hq:=Dw (wl c o i) c;refine dx ?_;refine aX (λx=>x=((l! (wl c o (i+1)):Int),D,q,VB c (wl c o (i+1)),A)) ?_ ?_
  .refine cG (cG (aQ (aV (ac9 _ _) ?_)));rw[O6];refine aM (λh=>?_) λh=>aj ?_
   .have h:VJ o (aK fg c (i:Int))=J:=F▸h;refine cG (cG (aj ?_));rw[aR h,ai0];dsimp only;rw[fd];simp only[aD,bX,em];rfl
   .have h:VJ o (aK fg c (i:Int))=aa:=F▸h;rw[h];rfl
  rintro x rfl;exact aj (by dsimp only;rw[fd])
 .rintro x rfl;exact di (aj rfl)
def akw (w:WT) (s:SY) (c:SB i s) (I:i<=1000) (D:l! w.2.2.1<=1000) (t k o u:Int) (he:EN w s t k o) (F:Mo w s t k o) (z:¬k=8) (q:¬k=9):gO (w,s,t,k,o,u)=Z ((zu w s t k o u).1,(zu w s t k o u).2,J):=by
 refine cF ?_;unfold gO ba bQ b_ da ia bI dD dP fX tI ck bi bY bz kQ aF;refine aV (Mh w s c I D t k o he F) (jQ rfl (aV (af8 s c) ?_));suffices hmain:Ok _ _ from aX (λx=>((x.2.2.2.1,x.2.1,x.2.2.2.2),x.1)=zu w s t k o u) hmain λx A=>aj (by rw[<- A])
 obtain⟨nm,t0,t1,N,e1,e2,e3⟩:=id he;obtain⟨_,_,ce,lk,cn,th,fu⟩:=nm;have hm:16<=k/\k<=19->0<=(aK itK w.2.2.1 o).2/\(aK itK w.2.2.1 o).2<l! w.2.1:=λh=>N _ (bE (cn h).1 (cn h).2)
 cases kdI k
 case no hk _=>omega
 all_goals first|exact (z rfl).elim|exact (q rfl).elim|skip
 all_goals simp only[dR,dB,Ji]
 all_goals with_reducible repeat' first|apply OS.ok;constructor|refine IM.mk λ_=>?_
 all_goals try simp only[ak,ru] at*
 all_goals try rw[cj]
 all_goals first|omega|exact (hm ⟨by decide,by decide⟩).1|exact e1▸(hm ⟨by decide,by decide⟩).2|exact rfl|skip
 .refine aV (ahv s o u c.th) (bu ?_ (aj ?_))
  .have:ah (if (l! (wl s.2.2.2 o (l! s.2.2.2)))=0 then s.2.2.2 else Pd s.2.2.2 (In (wl s.2.2.2 o (l! s.2.2.2)) u) 4)=l! s.2.2.2:=by
    split
    .rfl
    .exact cj ..
   dsimp only;rw[this];simp
  .rw[afp];by_cases h:l! (wl s.2.2.2 o (l! s.2.2.2))=0
   .rw[aR h,aR h,LK h]
   .rw[aE h,aE h]
 .refine aV (V8 s o c.th) (bu ?_ (aj rfl));dsimp only;rw[Dw];simp
def BH:Nat->Y η
 |0=>[[]]
 |m+1=>BH m++(BH m).map ((3-(m:Int))::·)
def NG:∀m,[]∈BH m
 |0=>by simp[BH]
 |m+1=>by simp[BH,NG m]
def E2:∀(m:Nat) (l:η),Ny l->(∀z∈l,4-(m:Int)<=z/\z<4)->l∈BH m
 |m,[],_,_=>NG m
 |0,a::r,_,h=>by have:=h a (by simp);omega
 |m+1,a::r,hA,h=>by
  have q:=h a (by simp);rw[BH,bF];by_cases e:a=3-(m:Int)
  .refine .inr (bR.2 ⟨r,E2 m r hA.2 λz c=>?_,by rw[e]⟩);have:=h z (by grind);have:=hA.1 z c;omega
  .refine .inl (E2 m (a::r) hA λz c=>?_);have:=h z c;rcases bB.1 c with rfl|c
   .omega
   .have:=hA.1 z c;omega
def al1 (h:Ny r) (q:∀z∈r,0<=z/\z<4):r∈BH 4:=E2 4 r h λz c=>by have:=q z c;omega
def in4:η:=[0,1,2,3]
def Yz (h0:0<=a) (h1:a<4):a∈in4:=by
 have:a=0\/a=1\/a=2\/a=3:=by omega
 rcases this with rfl|rfl|rfl|rfl<;>simp[in4]
def aq6 (l:η) (t:Int):Bool:=l.contains t||((wK (l++[t])==Z (xp l [t]))&&(lQ (xp l [t])==Z (xp l [t]))&&ay (l! (xp l [t])) (l! (l++[t])))
def ar0 (l:η) (t:Int):Bool:= !l.contains t||(iU (l,t)==Z (t,wo l t))
def ah5:((BH 4).all λl=>in4.all λt=>aq6 l t)=J:=by kernel_rfl
def aj3:((BH 4).all λl=>in4.all λt=>ar0 l t)=J:=by kernel_rfl
def srt8 (h:Ny r) (c:∀z∈r,0<=z/\z<4) (h0:0<=a) (h1:a<4) (q:¬a∈r):wK (r++[a])=Z (xp r [a])/\lQ (xp r [a])=Z (xp r [a])/\l! (xp r [a])=l! (r++[a]):=by
 have:=dq.1 (dq.1 ah5 r (al1 h c)) a (Yz h0 h1);unfold aq6 at this;simp_all
def del8 (h:Ny r) (c:∀z∈r,0<=z/\z<4) (h0:0<=a) (h1:a<4) (q:r.contains a=J):iU (r,a)=Z (a,wo r a):=by
 have:=dq.1 (dq.1 aj3 r (al1 h c)) a (Yz h0 h1);unfold ar0 at this
 grind
def ajf (D A z:Int) (r0 r1 q:η) (h:Int) (d:θ) (c:Y p?) (h0:l! r0<=1000) (h1:l! r1<=1000) (I:l! q<=1000) (hd:l! d<=1000) (ht:l! c<=1000):nC ([(D,r0),(A,r1),(z,q)],h,d,c)=Z ((h,d,c),(D,A,z),r0,r1,q):=by
 refine cF ?_;have F:∀l:η,l! l<=1000->rZ l=Z l:=λl N=>cF (a! (aj rfl))
 unfold nC ba bI bS bY bz bc aF;refine bu rfl (aX (λx=>x=(([(D,r0),(A,r1),(z,q)],h,d,c),0,(D,A,z),r0,r1,q)) ?_ ?_)
 .exact eU rfl (bu rfl (aQ (aV (F _ h0) (eU rfl (bu rfl (aQ (aV (F _ h1) (eU rfl (bu rfl (aQ (aV (F _ I) (jQ rfl (aj rfl)))))))))))))
 rintro x rfl;refine aV (x:=d) (cF (a! (aj rfl))) (aV (x:=c) (cF (a! (aj rfl))) (aj rfl))
def akx (w:WT) (s:SY) (c:SB i s) (D:i<=1000) (z:l! w.2.2.1<=1000) (t k o u:Int) (he:EN w s t k o) (A:Mo w s t k o) (F:k=8\/k=9):gO (w,s,t,k,o,u)=U:=by
 have h1:=Mh w s c D z t k o he A;have q:=af8 s c;rcases F with rfl|rfl
 .unfold gO ba bQ b_ da ia bI dD dP fX tI ck bi bY bz kQ aF;simp only[h1,q,dR,dB,Ji];cases gr o (ah s.1)<;>rfl
 .unfold gO ba bQ b_ da ia bI dD dP fX tI ck bi bY bz kQ aF;simp only[h1,q,dR,dB,Ji];cases gr o (ah s.1)<;>rfl
def akv (w:WT) (s:SY) (q:SB i s) (hn:i<=900) (hw:l! w.2.2.1<=1000) (t k u:Int) (he:EN w s t k 2) (N:Mo w s t k 2) (hk:k=8\/k=9) (h3:l! s.1=3) (hA:Ny (aK c_ s.1 2).2) (A:∀z∈(aK c_ s.1 2).2,0<=z/\z<4) (t4:t<4):li (w,s,t,k,2,u)=Z ((zu w s t k 2 u).1,(zu w s t k 2 u).2,J):=by
 have h1:=Mh w s q (by omega) hw t k 2 he N;have t0:=he.t0;have ra:=N.ra;have rr:=N.rr;have hrd:=q.rd;have hdn:=q.dn;have hth:=q.th;let⟨s1,h,d,th⟩:=s
 match s1,h3 with
 |[(I,r0),(F,r1),(D,c)],_=>
  have g0:l! r0<=i:=hrd (I,r0) (by simp);have g1:l! r1<=i:=hrd (F,r1) (by simp);have g2:l! c<=i:=hrd (D,c) (by simp);have hA:Ny c:=hA;have A:∀z∈c,0<=z/\z<4:=A;dsimp only at hdn hth;have hc:=ajf I F D r0 r1 c h d th (by omega) (by omega) (by omega) hdn hth;refine cF ?_;unfold li ba bQ b_ da ia tJ dD dP fX AR bi BJ bY aF;rcases hk with rfl|rfl
  .have ra:c.contains t=aa:=ra rfl;let⟨q1,q2,q3⟩:=srt8 hA A t0 t4 (by simpa using ra);simp only[h1,hc,dR,dB,Ji];refine aX (λx=>x=(0,(h,d,th),0,(((I,r0),(F,r1),D)),J,xp c [t])) ?_ ?_
   .refine a! (aV q1 (bu ?_ (aV q2 (bu ?_ (aj ?_)))))
    .rw[q3];simp
    .simp
    .rfl
   rintro x rfl;exact aj rfl
  .have rr:c.contains t=J:=rr rfl;have q1:=del8 hA A t0 t4 rr;simp only[h1,hc,dR,dB,Ji];refine aX (λx=>x=(0,(h,d,th),0,(((I,r0),(F,r1),D)),aa,wo c t)) ?_ ?_
   .exact aV q1 (bu (by simp) (aj rfl))
   rintro x rfl;exact aj rfl
def agp (w:WT) (s:SY) (A:SB i s) (N:i<=900) (q:l! w.2.2.1<=1000) (t k o u:Int) (he:EN w s t k o) (D:Mo w s t k o) (h2:k=8\/k=9->o=2) (h3:l! s.1=3) (hA:∀l∈s.1,Ny l.2/\∀z∈l.2,0<=z/\z<4) (I:t<4):mo (w,s,t,k,o,u)=Z ((zu w s t k o u).1,(zu w s t k o u).2,J):=by
 unfold mo;by_cases c:k=8\/k=9
 .have:=h2 c;subst this;have F:=hA _ (bE (T:=c_) (xs:=s.1) (j:=2) (by omega) (by omega));rw[akx w s A (by omega) q t k 2 u he D c,akv w s A N q t k u he D c h3 F.1 F.2 I];rfl
 .rw[akw w s A (by omega) q t k o u he D (λh=>c (.inl h)) λh=>c (.inr h)];rfl
def UY (w:WT) (k o:Int):Ok (iS (w,k,o)) λb=>b=J->NM w k o:=by
 unfold iS ba bQ b_ da bi bz bc aF;cases kdI k
 case no c _=>
  simp only[c,dR,dB,Ji];with_reducible repeat' first|apply OS.ok;constructor|refine IM.mk λ_=>?_
  all_goals try simp only[ak,ru] at*
  all_goals first|omega|(intro h;cases h;done)|skip
 all_goals simp only[dR,dB,Ji,AX]
 all_goals with_reducible repeat' first|apply OS.ok;constructor|refine IM.mk λ_=>?_
 all_goals try simp only[ak,ru] at*
 all_goals first|omega|(intro h;cases h;done)|(intro h;constructor<;>first|omega|(intro q;first|omega|(simpa using h)))
def agh (w:WT) (s:SY) (N:l! w.2.2.1<=1000):Ok (jD (w,s)) λb=>b=J->(∀c∈w.2.2.1,0<=c.2/\c.2<l! w.2.1)/\l! s.1=l! w.2.1/\l! s.2.2.1=l! w.2.2.2.1/\l! s.2.2.2=l! w.2.2.2.2.1:=by
 unfold jD qX ba bQ b_ dD bS gF bz bc cW aF cM;refine aX (λx=>x.2=w/\(x.1=aa->l! s.1=l! w.2.1/\l! s.2.2.1=l! w.2.2.2.1/\l! s.2.2.2=l! w.2.2.2.2.1)) ?_ ?_
 .refine bW (λ_=>aj ⟨rfl,nofun⟩) λh1=>bW (λ_=>aj ⟨rfl,nofun⟩) λI=>aj ⟨rfl,λz=>?_⟩
  have z:bC (l! s.2.2.2)=bC (l! w.2.2.2.2.1):=by simpa using z
  exact⟨Int.ofNat.inj h1,Int.ofNat.inj I,Int.ofNat.inj z⟩
 rintro⟨b,x⟩ ⟨e,A⟩;dsimp only at e A;subst e;refine aM (λ_=>aj nofun) λh=>?_
 have D:=A h;refine xw (l! x.2.2.1) (by omega) (λi y=>y=((i:Int),x)/\∀k:Nat,k<i->0<=(aK itK x.2.2.1 (k:Int)).2/\(aK itK x.2.2.1 (k:Int)).2<l! x.2.1) ?_ ?_ ⟨rfl,λk F=>(by omega)⟩
 .rintro i y hi ⟨rfl,q⟩;refine dx (cG (aQ (aV (AX _ _) (bW (λ_=>aj nofun) λg=>aj ⟨?_,λk F=>?_⟩))))
  .dsimp only;rw[fd]
  .rcases bZ k i with h1|h1
   .exact q k h1
   .rw[show k=i by omega];exact g
 .rintro y ⟨rfl,q⟩;exact di (aj λ_=>⟨iv (T:=itK) q,D⟩)
def ZD (w:WT) (s:SY) (z:SB i s) (hn:i<=1000) (t k o:Int) (he:EN w s t k o) (n1:¬k=1) (q:¬k=17) (hst:(aK fg s.2.2.2 t).1=2):Ok (kI (w,s,t,k,o)) λb=>b=J->Mo w s t k o:=by
 let⟨nm,N,I,D,e1,e2,e3⟩:=id he;let⟨_,_,ce,c,cn,F,fu,_,_,_⟩:=nm;have hm:16<=k/\k<=19->0<=(aK itK w.2.2.1 o).2/\(aK itK w.2.2.1 o).2<l! w.2.1:=λh=>D _ (bE (cn h).1 (cn h).2)
 have A:6<=k/\k<=11->eO ((aK c_ s.1 o).2,t)=Z ((aK c_ s.1 o).2.contains t):=λh=>lJ _ _ (by
  have:=z.rd _ (bE (T:=c_) (c h).1 (by have:=(c h).2;omega));omega)
 unfold kI ba bQ b_ dD dP bi gF bz bc aF;cases kdI k
 case no hk _=>omega
 all_goals first|omega|skip
 all_goals simp only[dR,dB,Ji]
 all_goals with_reducible repeat' first|apply OS.ok;constructor|refine IM.mk λ_=>?_
 all_goals try simp only[A (by omega),obs]
 all_goals with_reducible repeat' first|apply OS.ok;constructor|refine IM.mk λ_=>?_
 all_goals try simp only[ak,ru] at*
 all_goals first|omega|(intro h;cases h;done)|exact (hm ⟨by decide,by decide⟩).1|(rw [e1];exact (hm ⟨by decide,by decide⟩).2)|(intro h;constructor<;>first|omega|(intros;first|omega|assumption|(simpa using h)|exact⟨by assumption,by first|assumption|(simpa using h)⟩))|(constructor<;>(intros;first|omega|assumption))|skip
def Mo.one {w:WT} {s:SY} {o:Int} (h:(aK fg s.2.2.2 a).1=1):Mo w s a 1 o:=by
 constructor<;>(intros;first|omega|assumption)
def Mo.wake {w:WT} {s:SY} {o:Int} (h1:(aK fg s.2.2.2 a).1=4) (q:(aK fg s.2.2.2 a).2.1=o) (c:(aK c_ s.1 (aK itK w.2.2.1 o).2).1= -1):Mo w s a 17 o:=by
 constructor<;>(intros;first|omega|exact⟨h1,q,c⟩)
def HL (w:WT) (s:SY) (hs:SB i s) (hn:i<=1000) (hw:l! w.2.2.1<=1000) (t k o:Int):Ok (fH (w,s,t,k,o)) λb=>b=J->EN w s t k o/\Mo w s t k o:=by
 unfold fH ba bQ b_ bI dD dP bi bz bc aF;refine aX (λx=>x.2=(w,s)/\(x.1=aa->EN w s t k o)) ?_ ?_
 .refine av (agh w s hw) λb hb=>cH (λ_=>aj ⟨rfl,nofun⟩) λh1=>aV (AX _ _) ?_
  refine bW (λ_=>aj ⟨rfl,nofun⟩) λF=>av (UY w k o) λc z=>aj ⟨rfl,λh3=>?_⟩
  let⟨f1,f2,f3,f4⟩:=hb h1;exact⟨z (by simpa using h3),F.1,F.2,f1,f2,f3,f4⟩
 rintro⟨b,x⟩ ⟨e,A⟩;dsimp only at e A;subst e;refine aM (λ_=>aj nofun) λh=>?_
 have he:=A h;let⟨nm,t0,t1,cd,e1,e2,e3⟩:=id he;have t2:t<(l! s.2.2.2:Int):=by omega
 refine aG t0 t2 (aQ ?_);refine aL (λh=>aj λg=>⟨he,?_⟩) λn1=>?_
 .have h:k=1:=h;subst h;exact Mo.one (bJ g)
 refine aL (λh=>?_) λq=>?_
 .have h:k=17:=h;subst h;let⟨N,I⟩:=nm.cd (by omega);have D:=cd _ (bE (T:=itK) (xs:=w.2.2.1) (j:=o) N I);refine kP (aL (λg1=>aL (λg2=>?_) λ_=>aj (aj nofun)) λ_=>aj (aj nofun));exact aG N I (aQ (aG D.1 (by rw[e1];exact D.2) (aQ (aj (aj λg3=>⟨he,Mo.wake g1 g2 (bJ g3)⟩)))))
 refine kP (aL (λg=>?_) λ_=>aj (aj nofun));exact av (ZD w s hs hn t k o he n1 q g) λc z=>aj (aj λh=>⟨he,z h⟩)
abbrev CF:Type:=SY×Y (Int×Bool)×Y (Int×Bool)×η×θ×η
def Tn (p:Nat->Bool):Nat->Int
 |0=> -1
 |n+1=>if Tn p n<0 then (if p n=J then (n:Int) else -1) else Tn p n
def FB (p:Nat->Bool):∀n,(Tn p n= -1/\∀j,j<n->p j=aa)\/∃k,k<n/\Tn p n=(k:Int)/\p k=J/\∀j,j<k->p j=aa
 |0=>.inl ⟨rfl,λj q=>bO q (dE _)⟩
 |n+1=>by
  rcases FB p n with ⟨h1,c⟩|⟨k,h1,c,A,z⟩
  .rw[Tn,h1,aR (by decide)];by_cases h:p n=J
   .rw[aR h];exact .inr ⟨n,ib n,rfl,h,c⟩
   .rw[aE h];refine .inl ⟨rfl,λj q=>?_⟩;rcases bZ j n with g|g
    .exact c j g
    .rw[show j=n by omega];simpa using h
  .rw[Tn,c,aE (by omega)];exact .inr ⟨k,by omega,rfl,A,z⟩
variable {p:Nat->Bool}
def aep (z:m<i) (hp:p m=J) (hm:∀j,j<m->p j=aa):Tn p i=(m:Int):=by
 rcases FB p i with ⟨_,c⟩|⟨k,h1,c,q,A⟩
 .rw[c m z]at hp;cases hp
 .rcases Nat.lt_trichotomy k m with h|h|h
  .rw[hm k h]at q;cases q
  .rw[c,h]
  .rw[A m h]at hp;cases hp
def WO (h:∀j,j<i->p j=aa):Tn p i= -1:=by
 rcases FB p i with ⟨h1,_⟩|⟨m,h1,z,c,q⟩
 .exact h1
 .rw[h m h1]at c;cases c
def Oc {q:Nat->Bool}:∀{n:Nat},(∀j,j<n->p j=q j)->Tn p n=Tn q n
 |0,_=>rfl
 |n+1,h=>by rw[Tn,Tn,Oc λj c=>h j (by omega),h n (ib n)]
def aiv (h:p i=aa):Tn p (i+1)=Tn p i:=by
 rw[Tn];rcases FB p i with ⟨h1,_⟩|⟨m,h1,c,_⟩
 .rw[h1,aR (by decide),h];rfl
 .rw[c,aE (by omega)]
def nxp (l:Y ET) (c:η) (t:Int) (k:Nat):Bool:=decide ((eN l k).1=t)&& !c.contains (k:Int)
def IN (x:WN) (c:η) (t:Int):Int:=if t<0\/(l! x.1.2.2.2.2.1:Int)<=t then -1 else Tn (nxp x.2.2.2 c t) (l! x.2.2.2)
def L9 (x:WN) (c:CF) (t:Int) (A:l! c.2.2.2.1<=1000) (D:l! x.2.2.2<=1000):lI (x,c,t)=Z (IN x c.2.2.2.1 t):=by
 refine cF ?_;unfold lI b_ bI bi bS bz bc cW aF cM;refine aX (λz=>z=(decide (t<0\/(l! x.1.2.2.2.2.1:Int)<=t),x,c)) ?_ ?_
 .refine aY (λh=>aj (by rw[bK (.inl h)])) λh=>aj ?_
  dsimp only[ak]at h ⊢;rcases Int.lt_or_le t (l! x.1.2.2.2.2.1:Int) with g|g
  .rw[je.2 g,bT (by omega)]
  .rw[vH.2 g,bK (.inr g)]
 rintro z rfl;refine aL (λh=>aj (by rw[IN,aR h])) λh=>?_
 rw[IN,aE h];refine bn (l! x.2.2.2) (λi y=>y=((i:Int),c)/\∀j,j<i->nxp x.2.2.2 c.2.2.2.1 t j=aa) ?_ ?_ ⟨rfl,λj q=>bO q (dE _)⟩
 .rintro i y hi ⟨rfl,hp⟩;refine dx (cG (aQ ?_));refine aX (λz=>z=(nxp x.2.2.2 c.2.2.2.1 t i,c)) ?_ ?_
  .refine aL (λh=>aV (lJ _ _ A) (aj ?_)) λh=>aj ?_
   .show _=(decide ((eN x.2.2.2 i).1=t)&&_,c)
    rw[bK h,dl]
   .show _=(decide ((eN x.2.2.2 i).1=t)&&_,c)
    rw[bT h,dY]
  rintro z rfl;refine aM (λh=>aj (aep hi h hp).symm) λh=>aj ⟨?_,λj q=>?_⟩
  .dsimp only;rw[fd]
  .rcases bZ j i with g|g
   .exact hp j g
   .rw[show j=i by omega];exact h
 .rintro y ⟨rfl,hp⟩;exact di (aj (WO hp).symm)
def V7 (x:WN) (q:η) (t:Int):IN x q t= -1\/(0<=t/\t<l! x.1.2.2.2.2.1)/\∃k:Nat,k<l! x.2.2.2/\IN x q t=(k:Int)/\(eN x.2.2.2 k).1=t/\¬(k:Int)∈q:=by
 unfold IN;split
 .exact .inl rfl
 .rename_i h;rcases FB (nxp x.2.2.2 q t) (l! x.2.2.2) with ⟨h1,_⟩|⟨m,h1,z,c,A⟩
  .exact .inl h1
  .unfold nxp at c;rw[al,decide_eq_true_iff,cK]at c;exact .inr ⟨by omega,m,h1,z,c.1,λg=>by rw[dJ.2 g]at c;cases c.2⟩
def kG (l:Y ET) (t:Int):Nat->η
 |0=>[]
 |n+1=>if (eN l n).1=t then kG l t n++[(n:Int)] else kG l t n
def Ju (l:Y ET) (t:Int):∀n,l! (kG l t n)<=n
 |0=>bL _
 |n+1=>by
  have:=Ju l t n;rw[kG];split
  .rw[aD,aJ];omega
  .omega
def wy {l:Y ET} {z:Int}:∀{n:Nat},z∈kG l a n->0<=z/\z<n
 |0,h=>by cases h
 |n+1,h=>by
  rw[kG]at h;split at h
  .rcases bF.1 h with h|h
   .have:=wy h;omega
   .rw[aA]at h;omega
  .have:=wy h;omega
def fxK (own:η) (fx:θ) (k:Int):Bool:=decide (0<=k/\k<own.length/\aK aO own k<l! fx)&&aK (.bool) fx (aK aO own k)
def fxQ (own:η) (fx:θ) (b n:Int):Bool:=decide (n<b)||fxK own fx (aZ .i64 (n-b))
def fxN (x:WN) (fx:θ) (t:Int) (ns:η):Bool:=decide (l! ns=0)||(decide (0<=t/\t<l! x.1.2.2.2.2.1/\t<l! x.2.2.1.2.2.2)&&ns.all λn=>fxQ (kG x.2.2.2 t (l! x.2.2.2)) fx (aK aO x.2.2.1.2.2.2 t) n)
def Rk (x:WN) (c:CF) (t:Int) (ns:η) (hl:l! x.2.2.2<=1000) (hn:l! ns<=1000000):nY (x,c,t,ns)=Z (fxN x c.2.2.2.2.1 t ns):=by
 refine cF ?_;unfold nY fxN ba b_ bI bi bS jO bY bz kQ bc cW aF cM;refine aL (λh=>aj ?_) λh=>?_
 .dsimp only[ak]at h;rw[bK (by omega)];rfl
 dsimp only[ak]at h;rw[bT (by omega),Da];refine aX (λz=>z=(!decide (0<=t/\t<l! x.1.2.2.2.2.1/\t<l! x.2.2.1.2.2.2),x,c)) ?_ ?_
 .refine aY (λh=>aj (by dsimp only at h;rw[bT (by omega)];rfl)) λh=>eh (λg=>aj (by dsimp only[ak]at g;rw[bT (by omega)];rfl)) λg=>aj ?_
  dsimp only[ak]at h g ⊢;rcases Int.lt_or_le t (l! x.2.2.1.2.2.2:Int) with k|k
  .rw[je.2 k,bK ⟨h,g,k⟩];rfl
  .rw[vH.2 k,bT (by omega)];rfl
 rintro z rfl;refine cH (λh=>aj (by rw[h];rfl)) λh=>?_
 rw[h,dl];have h:=bJ h;refine aG h.1 h.2.2 (aQ ?_);refine bn (l! x.2.2.2) (λi y=>y=((i:Int),c,kG x.2.2.2 t i)) ?_ ?_ rfl
 .rintro i y hi rfl;refine dx (aX (λz=>z=(c,kG x.2.2.2 t (i+1))) ?_ ?_)
  .refine cG (aQ (aL (λh=>?_) λh=>aj ?_))
   .have:=Ju x.2.2.2 t i;refine bg (by simp only[aJ];omega) (by decide) (aj ?_);rw[kG,aR h]
   .rw[kG,aE h]
  .rintro z rfl;exact aj (by dsimp only;rw[fd])
 rintro y rfl;refine di ?_;refine av (P:=λb=>b=ns.all λn=>fxQ (kG x.2.2.2 t (l! x.2.2.2)) c.2.2.2.2.1 (aK aO x.2.2.1.2.2.2 t) n) ?_ λb N=>aj N
 have A:∀k:Int,0<=k->k<l! (kG x.2.2.2 t (l! x.2.2.2))->0<=aK aO (kG x.2.2.2 t (l! x.2.2.2)) k:=λk D k1=>(wy (bE (T:=aO) D k1)).1
 generalize kG x.2.2.2 t (l! x.2.2.2)=own at A ⊢;refine bn (l! ns) (λi y=>y=((i:Int),c,own)/\∀k:Nat,k<i->fxQ own c.2.2.2.2.1 (aK aO x.2.2.1.2.2.2 t) (aK aO ns (k:Int))=J) ?_ ?_ ⟨rfl,λj I=>bO I (dE _)⟩
 .rintro i y hi ⟨rfl,hp⟩;have no:fxQ own c.2.2.2.2.1 (aK aO x.2.2.1.2.2.2 t) (aK aO ns (i:Int))=aa->aa=ns.all λn=>fxQ own c.2.2.2.2.1 (aK aO x.2.2.1.2.2.2 t) n:=λh=>by
   symm
   rw[<- mP,dq];intro g;rw[g _ (bE (T:=aO) (by omega) (by omega))]at h;cases h
  refine dx (aX (λz=>z=(c,own)/\fxQ own c.2.2.2.2.1 (aK aO x.2.2.1.2.2.2 t) (aK aO ns (i:Int))=J) ?_ ?_)
  .refine cG (aQ (aY (λh=>aj ⟨rfl,?_⟩) λh=>?_))
   .unfold fxQ;rw[bK h];rfl
   have h:¬aK aO ns (i:Int)<aK aO x.2.2.1.2.2.2 t:=yo.2 h;have e:fxQ own c.2.2.2.2.1 (aK aO x.2.2.1.2.2.2 t) (aK aO ns (i:Int))=fxK own c.2.2.2.2.1 (aZ .i64 (aK aO ns (i:Int)-aK aO x.2.2.1.2.2.2 t)):=by unfold fxQ;rw[bT h];rfl
   rw[e]at no ⊢;generalize aZ .i64 (aK aO ns (i:Int)-aK aO x.2.2.1.2.2.2 t)=k at no ⊢;refine aX (λz=>z=(!fxK own c.2.2.2.2.1 k,c,own)) ?_ ?_
   .have bad:∀{p:Prop},(¬(0<=k/\k<own.length/\aK aO own k<l! c.2.2.2.2.1))->fxK own c.2.2.2.2.1 k=aa:=λh=>by unfold fxK;rw[bT h];rfl
    refine aY (λh=>aj ?_) λh=>eh (λg=>aj ?_) λg=>aG h g (aG h g (aQ (eh (λq=>aj ?_) λq=>aG h g (aG h g (aQ (aG (A k h g) q (aQ (aj ?_))))))))
    .rw[bad (p:=True) (λa=>by omega)];rfl
    .rw[bad (p:=True) (λa=>by have g:(own.length:Int)<=k:=g;omega)];rfl
    .rw[bad (p:=True) (λa=>bO a.2.2 (yo.2 q))];rfl
    .unfold fxK;rw[bK ⟨h,g,q⟩];rfl
   rintro z rfl;exact cH (λh=>aj (no h)) λh=>aj ⟨rfl,h⟩
  .rintro z ⟨rfl,F⟩;refine aj ⟨by dsimp only;rw[fd],λk hk=>?_⟩;rcases bZ k i with g|g
   .exact hp k g
   .rw[show k=i by omega];exact F
 .rintro y ⟨rfl,hp⟩;refine di (aj (Eq.symm ?_));rw[dq];exact iv (T:=aO) (p:=λn=>fxQ own c.2.2.2.2.1 (aK aO x.2.2.1.2.2.2 t) n=J) hp
def L3 (s y:SY):Prop:=l! y.1=l! s.1/\l! y.2.2.1=l! s.2.2.1/\l! y.2.2.2=l! s.2.2.2
def L3.ite {s:SY} {c:Prop} [Decidable c] {a b:SY×Int} (z:L3 s a.1) (q:L3 s b.1):L3 s (if c then a else b).1:=by by_cases h:c<;>simp[h,z,q]
def L3.ap (w:WT) (s:SY) (t k o v:Int):L3 s (zu w s t k o v).1:=by
 have h:L3 s s:=⟨rfl,rfl,rfl⟩
 have ow:∀a b (d:Int),L3 s (owP s.1 a b,d,s.2.2):=λa b d=>⟨cj ..,rfl,rfl⟩
 have q:∀(a b:Int) (x:p?),L3 s (s.1,b,s.2.2.1,cC s.2.2.2 a x):=λa b x=>⟨rfl,rfl,cj ..⟩
 have z:∀(a b c d x y:Int),L3 s (owP s.1 a b,d,s.2.2.1,cdP (Pd s.2.2.2 c x) c y):=λa b c d x y=>⟨cj ..,rfl,(cj ..).trans (cj ..)⟩
 unfold zu;exact L3.ite (q _ _ _) (L3.ite (q _ _ _) (L3.ite (ow _ _ _) (L3.ite (ow _ _ _) (L3.ite ⟨cj ..,rfl,rfl⟩ (L3.ite ⟨cj ..,rfl,rfl⟩ (L3.ite h (L3.ite h (L3.ite (q _ _ _) (L3.ite (q _ _ _) (L3.ite (z _ _ _ _ _ _) (L3.ite (z _ _ _ _ _ _) (L3.ite (L3.ite h (q _ _ _)) (L3.ite ⟨rfl,rfl,Dw _ _⟩ (L3.ite (q _ _ _) (L3.ite ⟨rfl,cj ..,rfl⟩ h)))))))))))))))
def P8.le {s:Y i?} (h:P8 s):∀l∈s,l! l.2<=4:=λl c=>by
 have:=I4 l.2 0 4 (h l c).1 (h l c).2;omega
structure CI (x:WN) (c:CF):Prop where
 p8:P8 c.1.1
 l1:l! c.1.1=l! x.1.2.1
 l2:l! c.1.2.2.1=l! x.1.2.2.2.1
 l3:l! c.1.2.2.2=l! x.1.2.2.2.2.1
 ce:l! c.2.1=l! x.1.1
 fu:l! c.2.2.1=l! x.1.2.2.2.1
 od:∀z∈c.2.2.2.1,0<=z/\z<l! x.2.2.2
 nd:c.2.2.2.1.Nodup
 fx:l! c.2.2.2.2.1=l! x.2.2.2
 wk:l! c.2.2.2.2.2=l! x.2.2.2
def NX:∀(n:Nat) (l:η),l.Nodup->(∀z∈l,0<=z/\z<(n:Int))->l! l<=n
 |0,l,_,h=>by
  cases l with
  |nil=>exact bL _
  |cons z r=>have:=h z (cS ..);omega
 |n+1,l,hd,h=>by
  have h1:=NX n (l.erase (n:Int)) (hd.erase _) λz c=>by
   rw[hd.mem_erase_iff]at c;have:=h z c.2;have:=c.1;omega
  by_cases hm:(n:Int)∈l
  .rw[List.length_erase_of_mem hm]at h1;omega
  .rw[List.erase_of_not_mem hm]at h1;omega
def CI.ln {x:WN} {c:CF} (h:CI x c):l! c.2.2.2.1<=l! x.2.2.2:=NX _ _ h.nd h.od
def CI.sb {x:WN} {c:CF} (h:CI x c) (v:VL x.1):SB 800 c.1:=
 ⟨by decide,by have:=h.l1;have:=v.l;omega,λl q=>cA (h.p8.le l q) (by decide),by have:=h.l2;have:=v.f;omega,by have:=h.l3;have:=v.t;omega⟩
def Xz (s:SY) (c:SB i s):mc s=Z s:=by
 refine cF ?_;unfold mc ba bI bS bY bz bc cW aF cM;have h1:=c.dn;have D:=c.th;have A:=c.lk;have z:=c.n1;refine aV (cF (a! (aj rfl)):DA s.2.2.1=Z s.2.2.1) (aV (cF (a! (aj rfl)):Dz s.2.2.2=Z s.2.2.2) ?_);refine bn (l! s.1) (λn y=>y=((n:Int),0,(s.2.1,s.2.2.1,s.2.2.2),s.1.take n)) ?_ ?_ rfl
 .rintro n y hi rfl;have q:(aK c_ s.1 (n:Int)).2.length<=i:=c.rd _ (bE (T:=c_) (by omega) (by omega));refine dx (cG (aQ ?_));refine aV (cF (a! (aj rfl)):JR (aK c_ s.1 (n:Int)).2=Z (aK c_ s.1 (n:Int)).2) ?_;refine bg (by simp only[aJ,bD];omega) (by decide) (aj ?_);dsimp only;rw[fd,uh (T:=c_) hi]
 .rintro y rfl;refine di (aj ?_);dsimp only;rw[dC]
def Yu (l:η) (c:l! l<=1000):nX l=Z (l.map λz=>(z,J)):=by
 refine cF ?_;unfold nX bS bY bz bc cW aF cM;refine bt (bt (cI (dX 0) (cI (by dsimp only[ak];omega) (bg (by dsimp only[ak];omega) (by decide) ?_))));refine bn (l! l) (λi y=>y=((i:Int),(l.take i).map λz=>(z,J))) ?_ ?_ rfl
 .rintro i y hi rfl;refine dx (cG (aQ (bg (by simp only[aJ,bN,bD];omega) (by decide) (aj ?_))));dsimp only;rw[fd,uh (T:=aO) hi,cf];rfl
 .rintro y rfl;refine di (aj ?_);dsimp only;rw[dC]
def Vx (x:WN):CF:=(x.2.2.1.1,x.2.2.1.2.1.map λz=>(z,J),x.2.2.1.2.2.1.map λz=>(z,J),[],aP (l! x.2.2.2) aa,aP (l! x.2.2.2) 0)
def ak0 (x:WN) (h:oG x):qP x=Z (Vx x):=by
 refine cF ?_;unfold qP ba bI bY bc;have q:=h.ln;refine aV (Xz x.2.2.1.1 h.nb.sb) (aV (Yu _ h.nb.c) (aV (Yu _ h.nb.f) ?_));refine bt (bt (cI (by dsimp only[ak];omega) (cI (dX _) (bg (by dsimp only[ak];omega) (by decide) ?_))));refine bt (bt (cI (by dsimp only[ak];omega) (cI (dX _) (bg (by dsimp only[ak];omega) (by decide) (aj rfl)))))
def Jg {x:WN} (h:oG x):CI x (Vx x):=
 ⟨h.p8,h.fy.1,h.fy.2.1,h.fy.2.2,by show l! (gD _ _)=_;rw[bN];exact h.f16.c,by show l! (gD _ _)=_;rw[bN];exact h.f16.f,λz q=>(by cases q),List.nodup_nil,by show l! (aP _ _)=_;simp,by show l! (aP _ _)=_;simp⟩
def MZ (x:WN) (c:CF) (t:Int):Bool:=(fF (x,c,t)).getD aa
def oG.ev {x:WN} (h:oG x) (c:i<l! x.2.2.2):Mp (eN x.2.2.2 i):=Me h.es c
def X1 (x:WN) (h:oG x) (c:CF) (A:CI x c) (t:Int):fF (x,c,t)=Z (MZ x c t)/\(MZ x c t=J->(0<=t/\t<l! x.1.2.2.2.2.1)/\∃k:Nat,k<l! x.2.2.2/\IN x c.2.2.2.1 t=(k:Int)/\(eN x.2.2.2 k).1=t/\¬(k:Int)∈c.2.2.2.1/\EN x.1 c.1 t (eN x.2.2.2 k).2.1 (eN x.2.2.2 k).2.2.1/\Mo x.1 c.1 t (eN x.2.2.2 k).2.1 (eN x.2.2.2 k).2.2.1):=by
 suffices D:Ok (fF (x,c,t)) λb=>b=J->(0<=t/\t<l! x.1.2.2.2.2.1)/\∃k:Nat,k<l! x.2.2.2/\IN x c.2.2.2.1 t=(k:Int)/\(eN x.2.2.2 k).1=t/\¬(k:Int)∈c.2.2.2.1/\EN x.1 c.1 t (eN x.2.2.2 k).2.1 (eN x.2.2.2 k).2.2.1/\Mo x.1 c.1 t (eN x.2.2.2 k).2.1 (eN x.2.2.2 k).2.2.1 by
  let⟨b,h1,F⟩:=D;unfold MZ;rw[h1];exact⟨rfl,F⟩
 unfold fF ba da bI bS bz aF;have N:=h.ln;have I:=A.ln;refine aV (L9 x c t (by omega) (by omega)) ?_;rcases V7 x c.2.2.2.1 t with e|⟨ht,k,z,e,e1,e2⟩
 .rw[e];exact aY (λ_=>aj λh=>by cases h) λh=>bO h (by decide)
 rw[e];refine aY (λh=>bO h (by omega)) λ_=>cG (aQ ?_)
 refine aX (λb=>b=J->EN x.1 c.1 t (eN x.2.2.2 k).2.1 (eN x.2.2.2 k).2.2.1/\Mo x.1 c.1 t (eN x.2.2.2 k).2.1 (eN x.2.2.2 k).2.2.1) ?_ λb q=>aj λh=>⟨ht,k,z,rfl,e1,e2,q h⟩
 refine av (HL x.1 c.1 (A.sb h.vl) (by decide) (by have:=h.vl.d;omega) t _ _) λb q=>aM (λh1=>?_) λ_=>aj nofun
 exact aV (Rk x c t _ (by omega) (h.ev z).1) (aj λ_=>q h1)
def eqV (a b:c!):Bool:=Qr (.pr aO (.pr .bool .un)) (a.1,a.2,()) (b.1,b.2,()) !=aa
def mvE (x:WN) (c:CF) (i:Int) (e:ET) (t u:Int):CF:=
 ((zu x.1 c.1 t e.2.1 e.2.2.1 u).1,
   if e.2.1=4 then cC c.2.1 e.2.2.1 (if fxN x c.2.2.2.2.1 t e.2.2.2.2.2.2=J then (e.2.2.2.1,J) else (0,aa)) else c.2.1,
   if e.2.1=22 then cC c.2.2.1 e.2.2.1 (if fxN x c.2.2.2.2.1 t e.2.2.2.2.2.2=J then (e.2.2.2.1,J) else (0,aa)) else c.2.2.1,
   c.2.2.2.1++[i],
   if e.2.1=3 then cC c.2.2.2.2.1 i (eqV (aK C3 c.2.1 e.2.2.1) (e.2.2.2.1,J)) else if e.2.1=23 then cC c.2.2.2.2.1 i (eqV (aK C3 c.2.2.1 e.2.2.1) (e.2.2.2.1,J)) else c.2.2.2.2.1,
   if e.2.1=18 then (if 0<=(zu x.1 c.1 t e.2.1 e.2.2.1 u).2 then cC c.2.2.2.2.2 i 1 else c.2.2.2.2.2) else if e.2.1=19 then cC c.2.2.2.2.2 i (zu x.1 c.1 t e.2.1 e.2.2.1 u).2 else c.2.2.2.2.2)
def JG (x:WN) (c:CF) (t u:Int):CF:=mvE x c (IN x c.2.2.2.1 t) (aK fP x.2.2.2 (IN x c.2.2.2.1 t)) t u
def cf0:CF:=(([],0,[],[]),[],[],[],[],[])
def an7 (x:WN) (c:CF) (q:CI x c):sD (x,c)=Z J:=by
 refine cF ?_;unfold sD ba bQ da bI fX bi bc aF;have h1:=q.ce;have F:=q.fu;have D:=q.fx;have A:=q.wk;refine aX (λb=>b=J) ?_ λb z=>aj z
 exact aL (λ_=>aL (λ_=>aL (λ_=>aj (bK (by dsimp only[ak];omega))) λh=>bO (by dsimp only[ak];omega) h) λh=>bO (by dsimp only[ak];omega) h) λh=>bO (by dsimp only[ak];omega) h
def LK0.two {w:WT} (h:w.2.1=LK0) (h0:0<=a) (h1:a<l! w.2.1) (c:(aK rj w.2.1 a).2=J):a=2:=by
 rw[h]at h1 c;have h1:a<3:=h1;rcases show a=0\/a=1\/a=2 by omega with rfl|rfl|rfl
 .exact bO c (by decide)
 .exact bO c (by decide)
 .rfl
def aky {x:WN} (h:oG x) {c:CF} (q:CI x c) {k o:Int} (u:Int) (he:EN x.1 c.1 a k o) (z:Mo x.1 c.1 a k o):mo (x.1,c.1,a,k,o,u)=Z ((zu x.1 c.1 a k o u).1,(zu x.1 c.1 a k o u).2,J):=by
 refine agp x.1 c.1 (q.sb h.vl) (by decide) (by have:=h.vl.d;omega) a k o u he z (λA=>?_) (by rw[q.l1,h.lk];rfl) q.p8 (by have:=he.t1;have:=h.vl.t;omega);have:=he.nm.lk (by omega);exact LK0.two h.lk this.1 this.2 (he.nm.rw (by omega))
def af7 (l:θ) (h:l! l<=100000):wL l=Z l:=cF (a! (aj rfl))
def UM (l:Y c!) (h:l! l<=100000):zS l=Z l:=cF (a! (aj rfl))
def af6 (l:η) (h:l! l<=100000):rZ l=Z l:=cF (a! (aj rfl))
def ao4 (x:WN) (h:oG x) (c:CF) (A:CI x c) (t u:Int):sE (x,c,t,u)=Z (if MZ x c t=J then (JG x c t u,J) else (cf0,aa)):=by
 refine cF ?_;unfold sE ba bQ b_ da ia tJ O3 bI dD dP fX tI AR Prod.o ck bi jO bY bz bc aF;let⟨e1,e2⟩:=X1 x h c A t;refine aX (λz=>z=(!MZ x c t,x,c,(t,u),0)) ?_ ?_
 .exact aV (an7 x c A) (jQ rfl (aV e1 (aj rfl)))
 rintro z rfl;refine cH (λh=>aj (by rw[h];rfl)) λhb=>?_
 rw[aR hb];let⟨ht,k,hk,g1,g2,g3,g4,g5⟩:=e2 hb;have hl:=h.ln;have hlo:=A.ln;have hv:=h.vl;have v1:=hv.c;have v2:=hv.f;have l1:=A.ce;have l2:=A.fu;have l3:=A.fx;have l4:=A.wk;refine aV (L9 x c t (by omega) (by omega)) ?_;unfold JG;rw[g1];refine cG (aQ (aV (aky h A u g4 g5) (jQ rfl ?_)));have hev:=h.ev hk;have hnm:=g4.nm;generalize N:eN x.2.2.2 k=e at hev hnm g2 g4 g5;have N:aK fP x.2.2.2 (k:Int)=e:=N;rw[N];obtain⟨⟨⟨s1,s2,s3,s4⟩,an⟩,hA⟩:∃y,zu x.1 c.1 t e.2.1 e.2.2.1 u=y:=⟨_,rfl⟩
 refine aX (λz=>z=(x,c,(t,u),0,e,(s1,s2,s3,s4,c.2.2.2.1++[(k:Int)]),c.2.1,c.2.2.1,c.2.2.2.2.1,c.2.2.2.2.2)) ?_ ?_
 .refine aV (UM c.2.1 (by omega)) (aV (UM c.2.2.1 (by omega)) ?_);refine bt (bt (IL rfl (cI (by dsimp only[ak];omega) (cI (dX _) ?_))));have ht:ca (aS (bC (l! c.2.2.2.1))) c.2.2.2.1=c.2.2.2.1:=dC;rw[ht];refine bg (by simp only[aJ];omega) (by decide) (jQ rfl ?_);exact aV (af7 c.2.2.2.2.1 (by omega)) (aV (af6 c.2.2.2.2.2 (by omega)) (aj (by dsimp only;rw[hA])))
 rintro z rfl;refine aX (λz=>z=(c,0,e,(s1,s2,s3,s4,c.2.2.2.1++[(k:Int)]),(e.2.2.2.1,J),(if fxN x c.2.2.2.2.1 t e.2.2.2.2.2.2=J then (e.2.2.2.1,J) else (0,aa)),c.2.1,c.2.2.1,c.2.2.2.2.1,c.2.2.2.2.2)) ?_ ?_
 .refine aV (Rk x c t _ (by omega) hev.2) ?_;exact aM (λh=>aj (by rw[aR h])) λh=>aj (by rw[aE (by rw[h];decide)])
 rintro z rfl;generalize hfv:(if fxN x c.2.2.2.2.1 t e.2.2.2.2.2.2=J then ((e.2.2.2.1,J):c!) else (0,aa))=fv;let⟨et,F,D,ev,es,ed,ef⟩:=e;dsimp only at hnm hA N g2 g4 g5 hev hfv;have hce:=hnm.ce;have hfu:=hnm.fu;refine aX (λz=>z=((0:Int),(s1,s2,s3,s4,c.2.2.2.1++[(k:Int)]),(if F=4 then cC c.2.1 D fv else c.2.1),(if F=22 then cC c.2.2.1 D fv else c.2.2.1),(if F=3 then cC c.2.2.2.2.1 (k:Int) (eqV (aK C3 c.2.1 D) (ev,J)) else if F=23 then cC c.2.2.2.2.1 (k:Int) (eqV (aK C3 c.2.2.1 D) (ev,J)) else c.2.2.2.2.1),(if F=18 then (if 0<=an then cC c.2.2.2.2.2 (k:Int) 1 else c.2.2.2.2.2) else if F=19 then cC c.2.2.2.2.2 (k:Int) an else c.2.2.2.2.2))) ?_ ?_
 .refine aL (λq=>?_) λq3=>aL (λq=>?_) λI=>aL (λq=>?_) λq4=>aL (λq=>?_) λq22=>aL (λq=>?_) λq18=>aL (λq=>?_) λq19=>?_
  .dsimp only at q;subst q;have:=hce (by decide);exact cG (aQ (cG (cG (aj rfl))))
  .dsimp only at q;subst q;have:=hfu (by decide);exact cG (aQ (cG (cG (aj rfl))))
  .dsimp only at q;subst q;have:=hce (by decide);exact cG (cG (aj rfl))
  .dsimp only at q;subst q;have:=hfu (by decide);exact cG (cG (aj rfl))
  .dsimp only at q;subst q;have ga:(zu x.1 c.1 t 18 D u).2=an:=by rw[hA]
   refine eh (λg=>cG (cG (aj ?_))) λg=>aj ?_
   .have g:0<=(zu x.1 c.1 t 18 D u).2:=g;rw[ga]at g;simp[g]
   .have g:(zu x.1 c.1 t 18 D u).2<0:=g;rw[ga]at g;simp[Int.not_le.2 g]
  .dsimp only at q;subst q;have ga:(zu x.1 c.1 t 19 D u).2=an:=by rw[hA]
   exact cG (cG (aj (by rw[<- ga];rfl)))
  .dsimp only at q3 I q4 q22 q18 q19;exact aj (by simp[q3,I,q4,q22,q18,q19])
 rintro z rfl;refine aj ?_;unfold mvE;dsimp only;rw[hA,hfv]
def NZ {x:WN} (h:oG x) {c:CF} (q:CI x c) (u:Int) (he:MZ x c a=J):CI x (JG x c a u):=by
 let⟨ht,k,hk,g1,g2,g3,g4,g5⟩:=(X1 x h c q a).2 he;have F:=h.vl;have I:=F.t;unfold JG;rw[g1];let⟨l1,l2,l3⟩:=L3.ap x.1 c.1 a (eN x.2.2.2 k).2.1 (eN x.2.2.2 k).2.2.1 u;refine ⟨q.p8.ap _ _ _ ht.1 (by omega),l1.trans q.l1,l2.trans q.l2,l3.trans q.l3,?_,?_,λz A=>?_,?_,?_,?_⟩
 .refine Eq.trans ?_ q.ce;unfold mvE;dsimp only;split
  .exact cj ..
  .rfl
 .refine Eq.trans ?_ q.fu;unfold mvE;dsimp only;split
  .exact cj ..
  .rfl
 .rcases bF.1 A with A|A
  .exact q.od z A
  .rw[aA]at A;omega
 .show (c.2.2.2.1++[(k:Int)]).Nodup;rw[List.nodup_append];exact⟨q.nd,by simp,λt N b D=>by rw[aA]at D;subst D;exact λe=>g3 (e▸N)⟩
 .refine Eq.trans ?_ q.fx;unfold mvE;dsimp only;split
  .exact cj ..
  .split
   .exact cj ..
   .rfl
 .refine Eq.trans ?_ q.wk;unfold mvE;dsimp only;split
  .split
   .exact cj ..
   .rfl
  .split
   .exact cj ..
   .rfl
def JF {x:WN} {c:CF} {u:Int}:(JG x c a u).2.2.2.1=c.2.2.2.1++[IN x c.2.2.2.1 a]:=rfl
def Rl (c:CF) (e:ET) (n:Nat):η:=if e.2.1=18 then wl c.1.2.2.2 e.2.2.1 n else []
def chE (c:CF) (e:ET) (t:Int):Y ν:=if (l! (Rl c e (l! c.1.2.2.2)))=0 then [(t,-1)] else (Rl c e (l! c.1.2.2.2)).map λj=>(t,j)
def chT (x:WN) (c:CF) (t:Int):Y ν:=if MZ x c t=J then chE c (aK fP x.2.2.2 (IN x c.2.2.2.1 t)) t else []
def I1 (x:WN) (c:CF):Nat->Y ν
 |0=>[]
 |t+1=>I1 x c t++chT x c (t:Int)
def Iz (c:CF) (e:ET) (n:Nat):l! (Rl c e n)<=n:=by
 unfold Rl;split
 .exact zE ..
 .exact eQ _
def ajh (c:CF) (e:ET) (t:Int):l! (chE c e t)<=l! c.1.2.2.2+1:=by
 have:=Iz c e (l! c.1.2.2.2);unfold chE;split
 .simp
 .rw[bN];omega
def Y8 (x:WN) (c:CF) (b:Nat) (q:l! c.1.2.2.2<=b):∀n,l! (I1 x c n)<=n*(b+1)
 |0=>eQ _
 |n+1=>by
  have h1:=Y8 x c b q n;rw[I1,aD,pe];have:l! (chT x c (n:Int))<=b+1:=by
   unfold chT;split
   .have:=ajh c (aK fP x.2.2.2 (IN x c.2.2.2.1 (n:Int))) (n:Int);omega
   .exact eQ _
  omega
def aao (x:WN) (h:oG x) (c:CF) (D:CI x c):l_ (x,c)=Z (I1 x c (l! x.1.2.2.2.2.1)):=by
 refine cF ?_;unfold l_ ba bQ b_ da ia bI dD bi bS bY bz bc cW aF cM;have hl:=h.ln;have hlo:=D.ln;have ht4:=h.vl.t;have hth:=D.l3;refine bn (l! x.1.2.2.2.2.1) (λi y=>y=((i:Int),x,c,I1 x c i)) ?_ ?_ rfl
 .rintro t y hi rfl;have hcl:=Y8 x c 4 (by omega) t;refine dx (aX (λz=>z=(x,c,I1 x c (t+1))) ?_ ?_)
  .obtain⟨e1,e2⟩:=X1 x h c D (t:Int);refine aV e1 (cH (λA=>aj ?_) λA=>?_)
   .rw[I1,chT,aE (by rw[A];decide),dG]
   rw[I1,chT,aR A];let⟨ht,k,hk,g1,g2,g3,g4,g5⟩:=e2 A;refine aV (L9 x c (t:Int) (by omega) (by omega)) ?_;rw[g1];refine cG (aQ ?_);generalize aK fP x.2.2.2 (k:Int)=e;refine bn (l! c.1.2.2.2) (λj y=>y=((!decide (l! (Rl c e j)=0),(j:Int)),x,c,I1 x c t++(Rl c e j).map λj=>((t:Int),j),e)) ?_ ?_ ?_
   .rintro j y hj rfl;have hwl:=Iz c e j;refine dx (aX (λz=>z=(!decide (l! (Rl c e (j+1))=0),x,c,I1 x c t++(Rl c e (j+1)).map λj=>((t:Int),j),e)) ?_ ?_)
    .refine cG (aQ ?_);have hws:Rl c e (j+1)=if e.2.1=18/\(aK fg c.1.2.2.2 (j:Int)).1=3/\(aK fg c.1.2.2.2 (j:Int)).2.1=e.2.2.1 then Rl c e j++[(j:Int)] else Rl c e j:=by
      unfold Rl;by_cases q:e.2.1=18
      .rw[aR q,aR q,O6];unfold VJ;by_cases q1:(aK fg c.1.2.2.2 (j:Int)).1=3<;>by_cases F:(aK fg c.1.2.2.2 (j:Int)).2.1=e.2.2.1<;>simp[q,q1,F]
      .rw[aE q,aE q,aE (λa=>q a.1)]
     refine aX (λz=>z=(decide (e.2.1=18/\(aK fg c.1.2.2.2 (j:Int)).1=3/\(aK fg c.1.2.2.2 (j:Int)).2.1=e.2.2.1),x,c,I1 x c t++(Rl c e j).map λj=>((t:Int),j),e)) ?_ ?_
     .refine aL (λq=>aL (λq1=>aj ?_) λq1=>aj ?_) λq=>aj ?_
      .have q:e.2.1=18:=q;have q1:(aK fg c.1.2.2.2 (j:Int)).1=3:=q1;dsimp only;simp[q,q1]
      .have q1:¬(aK fg c.1.2.2.2 (j:Int)).1=3:=q1;dsimp only;simp[q1]
      .have q:¬e.2.1=18:=q;dsimp only;simp[q]
     rintro z rfl;refine aL (λq=>?_) λq=>aj ?_
     .refine bg (by simp only[aJ,aD,bN];omega) (by decide) (aj ?_);dsimp only;rw[hws,aR q,cf,cr];simp
     .dsimp only;rw[hws,aE q]
    .rintro z rfl;refine aj ?_;dsimp only;rw[fd]
   .rintro y rfl;have hwl:=Iz c e (l! c.1.2.2.2);refine di (av (P:=λz:((Int×WN×CF×Y ν)⊕Y ν)⊕(WN×CF×Y ν)=>z=bV (x,c,I1 x c t++chE c e (t:Int))) ?_ λz N=>aj (by rw[N]));unfold chE;refine cH (λq=>?_) λq=>aj ?_
    .have q:l! (Rl c e (l! c.1.2.2.2))=0:=by simpa using q
     have I:Rl c e (l! c.1.2.2.2)=[]:=List.eq_nil_of_length_eq_zero q;refine bg (by simp only[aJ,aD,bN];omega) (by decide) (aj ?_);dsimp only;rw[aR q,I];simp
    .have q:¬l! (Rl c e (l! c.1.2.2.2))=0:=by simpa using q
     rw[aE q]
   .have:Rl c e 0=[]:=by unfold Rl;split<;>rfl
    dsimp only;rw[this];simp
  .rintro z rfl;refine aj ?_;dsimp only;rw[fd]
 .rintro y rfl;exact di (aj rfl)
def yV (x:WN):Nat->Y SY
 |0=>[]
 |i+1=>yV x i++[(sV x.1 x.2.2.1 x.2.2.2 i).1]
def vw (x:WN):∀n,l! (yV x n)=n
 |0=>rfl
 |n+1=>by rw[yV,aD,vw x n];rfl
def Cw (x:WN) {i:Nat}:∀{n:Nat},i<n->aK oH (yV x n) (i:Int)=(sV x.1 x.2.2.1 x.2.2.2 i).1
 |0,h=>bO h (dE _)
 |n+1,h=>by
  rcases bZ i n with g|g
  .rw[<- Cw x g];unfold aK;rw[aT,aT];congr 1;show (yV x n++[_])[i]? =_;rw[cE (by rw[vw];exact g)];rfl
  .have:i=n:=by omega
   subst this;unfold aK;rw[aT];show ((yV x i++[_])[i]?).getD _=_;rw[cw (by rw[vw];exact bL _),vw,Ix];rfl
def oG.nbi {x:WN} (h:oG x) (hi:i<=l! x.2.2.2):NB 816 (sV x.1 x.2.2.1 x.2.2.2 i):=
 (h.ch.nb h.nb (by have:=h.vl.d;omega) h.es (by have:=h.ln;omega) i hi).mono (by have:=h.ln;omega)
def oG.eni {x:WN} (h:oG x) (hi:i<l! x.2.2.2):EN x.1 (sV x.1 x.2.2.1 x.2.2.2 i).1 (eN x.2.2.2 i).1 (eN x.2.2.2 i).2.1 (eN x.2.2.2 i).2.2.1:=(h.ch i hi).en
def aau (x:WN) (h:oG x):o6 x=Z ((x,yV x (l! x.2.2.2)),J):=by
 refine cF ?_;unfold o6 Prod.m Prod.p Prod.q Prod.u Prod.y Prod.z Prod.B ba bQ b_ da ia tJ O3 Prod.l Prod.v Prod.C bI dP fX bi bS bY bz bc cW aF cM;have D:=h.ln;have ht:=h.vl.t;let⟨w,f,s,l⟩:=x;dsimp only at D ht;refine aX (λz=>z=(aa,(w,f,s,l),(0,0),w.1,w.2.1,w.2.2.1,w.2.2.2.1,w.2.2.2.2.1,w.2.2.2.2.2,f,s.1.1,s.1.2.1,s.1.2.2.1,s.1.2.2.2,s.2.1,s.2.2.1,s.2.2.2,l)) ?_ ?_
 .refine di (aj ?_);dsimp only[ak];rw[nG.2 (by omega)]
 rintro z rfl;refine jQ rfl ?_;refine bn (l! l) (λi y=>y=((i:Int),(w,f,s,l),(0,0),(w.1,w.2.1,w.2.2.1,w.2.2.2.1,w.2.2.2.2.1,w.2.2.2.2.2,f,s.1.1,s.1.2.1,s.1.2.2.1,s.1.2.2.2,s.2.1,s.2.2.1,s.2.2.2,l),(sV w s l i).1,yV (w,f,s,l) i)) ?_ ?_ rfl
 .rintro i y hi rfl;refine dx (cG (aQ ?_));have hsl:=vw (w,f,s,l) i;refine bg (by simp only[aJ];omega) (by decide) ?_;have g:=h.ch i hi;have A:=h.nbi (vq hi);dsimp only at A g;generalize c:(if (eN l i).2.1=18 then (eN l i).2.2.2.1 else -1)=u;refine aX (λz=>z=(u,(w,f,s,l),(0,0),(w.1,w.2.1,w.2.2.1,w.2.2.2.1,w.2.2.2.2.1,w.2.2.2.2.2,f,s.1.1,s.1.2.1,s.1.2.2.1,s.1.2.2.2,s.2.1,s.2.2.1,s.2.2.2,l),(sV w s l i).1,eN l i,yV (w,f,s,l) (i+1))) ?_ ?_
  .refine aL (λq=>aj ?_) λq=>aj ?_
   .rw[<- c,aR q];rfl
   .rw[<- c,aE q];rfl
  rintro z rfl;have hp:=h.ch.p8 h.p8 h.vl i (vq hi);dsimp only at hp;have F:(sV w s l i).1.1.length=3:=g.en.e1.trans (by rw[h.lk];rfl);have hap:=agp w (sV w s l i).1 A.sb (by decide) (by have:=h.vl.d;dsimp only at this;omega) (eN l i).1 (eN l i).2.1 (eN l i).2.2.1 u g.en g.s16.rd (λI=>by
   have:=g.en.nm.lk (by omega);exact LK0.two h.lk this.1 this.2 (g.en.nm.rw (by omega))) F hp (by have:=g.en.t1;omega)
  refine aV hap (jQ rfl (aj ?_));dsimp only;rw[fd,Ge w s hi];have:(zu w (sV w s l i).1 (eN l i).1 (eN l i).2.1 (eN l i).2.2.1 u).1=(Vz w (sV w s l i) (eN l i)).1:=by
   unfold Vz;by_cases q:(eN l i).2.1=18
   .rw[<- c,aR q]
   .rw[alr w _ _ _ _ u (eN l i).2.2.2.1 q]
  rw[this]
 .rintro y rfl;exact di (aj rfl)
def Dc (y:WN×Y SY) (ns:η) (A:l! ns<=1000):Ok (eD (y,ns)) λb=>b=J↔∀z∈ns,0<=z/\z<l! y.1.2.2.2:=by
 unfold eD bI bS bz bc cW aF cM;refine bn (l! ns) (λi z=>z=((i:Int),y)/\∀k:Nat,k<i->0<=aK aO ns (k:Int)/\aK aO ns (k:Int)<l! y.1.2.2.2) ?_ ?_ ⟨rfl,λj q=>bO q (dE _)⟩
 .rintro i z hi ⟨rfl,hp⟩;refine dx (cG (aQ (aX (λz=>z.2=y/\(z.1=aa↔0<=aK aO ns (i:Int)/\aK aO ns (i:Int)<l! y.1.2.2.2)) ?_ ?_)))
  .refine aY (λh=>aj ⟨rfl,⟨nofun,λg=>bO g.1 (Int.not_le.2 h)⟩⟩) λh=>aj ⟨rfl,?_⟩
   dsimp only[ak];rw[je];exact⟨λg=>⟨h,g⟩,λg=>g.2⟩
  .rintro⟨b,z⟩ ⟨e,c⟩;dsimp only at e c;subst e;refine aM (λh=>aj ⟨nofun,λg=>?_⟩) λh=>aj ⟨?_,λk D=>?_⟩
   .have h:b=J:=h;have:=c.2 (g _ (bE (T:=aO) (by omega) (by omega)));rw[h]at this;cases this
   .dsimp only;rw[fd]
   .rcases bZ k i with g|g
    .exact hp k g
    .rw[show k=i by omega];exact c.1 h
 .rintro z ⟨rfl,hp⟩;exact di (aj ⟨λ_=>iv (T:=aO) (p:=λz:Int=>0<=z/\z<l! y.1.2.2.2) hp,λ_=>rfl⟩)
def acB (e:ET):Bool:=decide (e.2.1=3)||decide (e.2.1=4)
def cfB (a b:ET):Bool:=acB a&&acB b&&decide (a.2.2.1=b.2.2.1)&&(decide (a.2.1=4)||decide (b.2.1=4))
def L1 (e:ET):n_ e=Z (acB e):=by
 refine cF ?_;unfold n_ acB bi aF;exact aX (λb=>b=(decide (e.2.1=3)||decide (e.2.1=4))) (aL (λh=>aj (by rw[bK h];rfl)) λh=>aj (by rw[bT h];rfl)) λb c=>aj c
def CX (y:WN×Y SY) (a b:Int) (A:0<=a/\a<l! y.1.2.2.2) (c:0<=b/\b<l! y.1.2.2.2):eI (y,a,b)=Z (cfB (aK fP y.1.2.2.2 a) (aK fP y.1.2.2.2 b)):=by
 refine cF ?_;unfold eI ba bI bi bz aF;refine aG A.1 A.2 (aQ (aG c.1 c.2 (aQ ?_)));generalize aK fP y.1.2.2.2 a=e;generalize aK fP y.1.2.2.2 b=D;refine aX (λz=>z=cfB e D) ?_ λz F=>aj F
 unfold cfB;refine aV (L1 e) (aM (λh=>aV (L1 D) (aM (λh'=>?_) λh'=>aj (by rw[h,h'];rfl))) λh=>aj (by rw[h];rfl));rw[h,h'];refine aL (λq=>?_) λq=>aj (by rw[bT q];rfl)
 rw[bK q];exact aL (λp=>aj (by rw[bK p];rfl)) λp=>aj (by rw[bT p];rfl)
def RW (w:WT) (n:Nat) (ev:Int->ET) (a b:Int):Prop:=
 (0<=a/\a<n)/\(0<=b/\b<n)/\a<b/\cfB (ev a) (ev b)=J/\¬(ev a).1=(ev b).1/\(aK mO w.1 (ev a).2.2.1).2.2.2.1=aa
def Jd {b:Int}:(∀z∈[a,b],0<=z/\z<(i:Int))↔(0<=a/\a<i)/\(0<=b/\b<i):=
 ⟨λh=>⟨h a (by simp),h b (by simp)⟩,λh z c=>by
   rcases bB.1 c with rfl|c
   .exact h.1
   .rw[aA]at c;subst c;exact h.2⟩
def oG.at {x:WN} (h:oG x) (c:0<=a/\a<l! x.2.2.2):∃i:Nat,a=i/\i<l! x.2.2.2:=⟨a.toNat,by omega,by omega⟩
def aml (x:WN) (h:oG x) (S:Y SY) (a b:Int):Ok (i_ ((x,S),a,b)) λr=>r=J↔RW x.1 (l! x.2.2.2) (aK fP x.2.2.2) a b:=by
 unfold i_ RW ba bI jO gF bz aF;have no:∀{p:Prop},¬p->((aa:Bool)=J↔p):=λh=>⟨nofun,λg=>bO g h⟩
 refine aX (λz=>z.2=(x,S)/\(z.1=aa↔((0<=a/\a<l! x.2.2.2)/\(0<=b/\b<l! x.2.2.2))/\a<b/\cfB (aK fP x.2.2.2 a) (aK fP x.2.2.2 b)=J)) ?_ ?_
 .refine av (Dc (x,S) [a,b] (by simp)) λr c=>?_
  rw[Jd]at c;refine cH (λq=>aj ⟨rfl,nofun,λg=>?_⟩) λq=>?_
  .rw[c.2 g.1]at q;cases q
  have F:=c.1 q;refine eh (λq=>aj ⟨rfl,nofun,λg=>?_⟩) λq=>?_
  .have:=g.2.1;dsimp only at q;omega
  refine aV (CX (x,S) a b F.1 F.2) (aj ⟨rfl,?_⟩);dsimp only;rw[nO];exact⟨λg=>⟨F,q,g⟩,λg=>g.2.2⟩
 rintro⟨r,z⟩ ⟨e,c⟩;dsimp only at e c;subst e;refine aM (λq=>aj (no λg=>?_)) λq=>?_
 .have q:r=J:=q;rw[c.2 ⟨⟨g.1,g.2.1⟩,g.2.2.1,g.2.2.2.1⟩]at q;cases q
 let⟨⟨D,I⟩,hab,A⟩:=c.1 q;refine aG D.1 D.2 (aQ (aG I.1 I.2 (aQ ?_)));refine aX (λz=>z=J↔¬(aK fP x.2.2.2 a).1=(aK fP x.2.2.2 b).1/\(aK mO x.1.1 (aK fP x.2.2.2 a).2.2.1).2.2.2.1=aa) ?_ ?_
 .obtain⟨i,rfl,hi⟩:=h.at D;have hce:=(h.eni hi).nm.ce (by
   have:acB (eN x.2.2.2 i)=J:=by
    unfold cfB at A;rw[al,al,al]at A;exact A.1.1.1
   unfold acB at this;rw[eX,decide_eq_true_iff,decide_eq_true_iff]at this;exact this)
  refine bW (λq=>aG hce.1 hce.2 (aQ (aj ?_))) λq=>aj (no λg=>g.1 q)
  dsimp only;rw[cK];exact⟨λg=>⟨q,g⟩,λg=>g.2⟩
 rintro z N;exact aj ⟨λg=>⟨D,I,hab,A,N.1 g⟩,λg=>N.2 g.2.2.2.2⟩
def gI {p:Prop} (h:¬p):((aa:Bool)=J↔p):=⟨nofun,λg=>bO g h⟩
def wtK (k:Int):Bool:=decide (k=6\/k=8\/k=10\/k=17\/k=21)
def ah0 (k:Int):sH k=Z (wtK k):=by
 refine cF ?_;unfold sH wtK bi aF;refine aX (λb=>b=decide (k=6\/k=8\/k=10\/k=17\/k=21)) ?_ λb z=>aM (λh=>aj (by rw[<- z];exact h.symm)) λh=>aj (by rw[<- z];exact h.symm)
 refine aL (λh=>aj (by simp[h])) λD=>aL (λh=>aj (by simp[h])) λA=>aL (λh=>aj (by simp[h])) λq=>aL (λh=>aj (by simp[h])) λc=>aj (by simp[D,A,q,c])
def aas (w:WT) (s:SY) (q c:ET):Bool:=
 !decide (c.1=q.1)&&(wtK q.2.1&&(if c.2.1=6\/c.2.1=10 then decide ((aK c_ s.1 c.2.2.1).1=q.1)||(aK c_ s.1 c.2.2.1).2.contains q.1
  else if c.2.1=8 then decide ((aK c_ s.1 c.2.2.1).1=q.1)
  else if c.2.1=17 then decide ((aK c_ s.1 (aK itK w.2.2.1 c.2.2.1).2).1=q.1)
  else if c.2.1=21 then decide (c.2.2.1=q.1) else aa))
def afk (x:WN) (h:oG x) (i j:Nat) (hi:i<l! x.2.2.2) (hj:j<l! x.2.2.2):ii ((x,yV x (l! x.2.2.2)),(i:Int),(j:Int))=Z (aas x.1 (sV x.1 x.2.2.1 x.2.2.2 i).1 (eN x.2.2.2 i) (eN x.2.2.2 j)):=by
 refine cF ?_;unfold ii ba bQ bI bi bz cW aF;refine cG (aQ (cG (aQ ?_)));have g:=h.eni hi;have g2:=h.eni hj;have D:=Cw x hi;have hsl:=vw x (l! x.2.2.2);have hn:=h.nbi (vq hi);have hen:∀e:ET,e=eN x.2.2.2 j->EN x.1 (sV x.1 x.2.2.1 x.2.2.2 j).1 e.1 e.2.1 e.2.2.1:=λe he=>by rw[he];exact g2
 generalize hS:yV x (l! x.2.2.2)=S at D hsl ⊢;generalize hsy:(sV x.1 x.2.2.1 x.2.2.2 i).1=sy at D g ⊢;have hsb:SB 816 sy:=by rw[<- hsy];exact hn.sb
 show Ok _ (·=aas x.1 sy (aK fP x.2.2.2 (i:Int)) (aK fP x.2.2.2 (j:Int)));generalize aK fP x.2.2.2 (i:Int)=A
 replace hen:=hen (aK fP x.2.2.2 (j:Int)) rfl
 generalize aK fP x.2.2.2 (j:Int)=c at hen ⊢;have hnm:=hen.nm;refine aX (λz=>z=(!(!decide (c.1=A.1)&&wtK A.2.1),(x,S),c,A)) ?_ ?_
 .refine aL (λq=>aj (by rw[bK q];rfl)) λq=>aV (ah0 _) (aj (by rw[bT q];rfl))
 rintro z rfl;unfold aas;rw[<- Bool.and_assoc];refine cH (λq=>aj (by rw[q];rfl)) λq=>?_
 rw[q,dl];have lkr:6<=c.2.1/\c.2.1<=11->0<=c.2.2.1/\c.2.2.1<l! sy.1:=λa=>by have:=hnm.lk a;rw[g.e1];exact this
 refine aX (λz=>∃o fl,z=((o,fl),(x,S),A)/\(0<=o/\o<l! sy.1)/\(if c.2.1=6\/c.2.1=10 then decide ((aK c_ sy.1 c.2.2.1).1=A.1)||(aK c_ sy.1 c.2.2.1).2.contains A.1
  else if c.2.1=8 then decide ((aK c_ sy.1 c.2.2.1).1=A.1)
  else if c.2.1=17 then decide ((aK c_ sy.1 (aK itK x.1.2.2.1 c.2.2.1).2).1=A.1)
  else if c.2.1=21 then decide (c.2.2.1=A.1) else aa)=(decide ((aK c_ sy.1 o).1=A.1)||fl&&(aK c_ sy.1 o).2.contains A.1)) ?_ ?_
 .refine aX (λz=>z=(decide (c.2.1=6\/c.2.1=10),(x,S),c,A)) (aL (λp=>aj (by have p:c.2.1=6:=p;simp[p])) λp=>aj (by have p:¬c.2.1=6:=p;simp[p])) ?_;rintro z rfl;refine aL (λp=>aj ⟨_,J,rfl,lkr (by rcases p with p|p<;>rw[p]<;>decide),?_⟩) λp=>?_
  .rw[aR p,dl]
  rw[aE p];refine aL (λp=>aj ⟨_,aa,rfl,lkr (by have p:c.2.1=8:=p;rw[p];decide),?_⟩) λp=>?_
  .rw[aR p,dY,Bool.or_false]
  rw[aE p];refine aL (λp=>?_) λp=>?_
  .have I:=hnm.cd (by have p:c.2.1=17:=p;rw[p];decide);refine aG I.1 I.2 (aQ (aj ⟨_,aa,rfl,?_,?_⟩))
   .have:=hen.cd _ (bE (T:=itK) I.1 I.2);rw[g.e1];exact this
   .rw[aR p,dY,Bool.or_false]
  rw[aE p];exact aL (λp=>aj (by rw[aR p])) λp=>aj (by rw[aE p])
 rintro z ⟨o,fl,rfl,F,e⟩;rw[e];refine cG (aQ ?_);have D:aK oH S (i:Int)=sy:=D;show Ok (chk (gr o (aK oH S (i:Int)).1.length) λ_=>_) _;dsimp only;rw[D];have hr:(aK c_ sy.1 o).2.length<=816:=hsb.rd _ (bE (T:=c_) F.1 F.2);refine aG F.1 F.2 (aQ ?_);refine aX (λz=>z=(decide ((aK c_ sy.1 o).1=A.1)||fl&&(aK c_ sy.1 o).2.contains A.1)) ?_ λz N=>aj N
 refine aL (λq=>aj (by have q:(aK c_ sy.1 o).1=A.1:=q;rw[bK q];rfl)) λq=>?_
 have q:¬(aK c_ sy.1 o).1=A.1:=q;rw[bT q,Da];refine aM (λp=>aV (lJ _ _ (by omega)) (aj ?_)) λp=>aj ?_
 .have p:fl=J:=p;rw[p,dl]
 .have p:fl=aa:=p;rw[p];rfl
def ane (w:WT) (n:Nat) (ev:Int->ET) (sy:Int->SY) (ns:η):Prop:=
 2<=l! ns/\l! ns<=4/\(∀z∈ns,0<=z/\z<(n:Int))/\∀i:Nat,i<l! ns->aK aO ns 0<=aK aO ns (i:Int)/\aas w (sy (aK aO ns (fR ((i+1:Nat):Int) (l! ns:Int)))) (ev (aK aO ns (fR ((i+1:Nat):Int) (l! ns:Int)))) (ev (aK aO ns (i:Int)))=J/\∀j:Nat,j<i->¬(ev (aK aO ns (i:Int))).1=(ev (aK aO ns (j:Int))).1
def O_ (i:Nat) {n:Nat} (h:0<n):0<=fR ((i+1:Nat):Int) (n:Int)/\fR ((i+1:Nat):Int) (n:Int)<n:=by
 rw[u_ (by omega)];exact⟨Int.emod_nonneg _ (by omega),Mk _ (by omega)⟩
def aj5 (x:WN) (h:oG x) (ns:η):Ok (iF ((x,yV x (l! x.2.2.2)),ns)) λr=>r=J↔ane x.1 (l! x.2.2.2) (aK fP x.2.2.2) (aK oH (yV x (l! x.2.2.2))) ns:=by
 unfold iF bI bi bS bY bz bc cW aF cM;have hl:=h.ln;generalize hS:yV x (l! x.2.2.2)=S;refine aX (λz=>z.2=(x,S)/\(z.1=aa↔2<=l! ns/\l! ns<=4/\∀z∈ns,0<=z/\z<(l! x.2.2.2:Int))) ?_ ?_
 .refine aY (λq=>aj ⟨rfl,nofun,λg=>bO g.1 (by dsimp only[ak]at q;omega)⟩) λq=>aY (λp=>aj ⟨rfl,nofun,λg=>bO g.2.1 (by dsimp only[ak]at p;omega)⟩) λp=>?_
  dsimp only[ak]at q p;refine av (Dc (x,S) ns (by omega)) λr c=>aj ⟨rfl,?_⟩
  dsimp only;rw[nO];exact⟨λg=>⟨by omega,by omega,c.1 g⟩,λg=>c.2 g.2.2⟩
 rintro⟨r,z⟩ ⟨e,c⟩;dsimp only at e c;subst e;refine aM (λq=>aj (gI λg=>?_)) λq=>?_
 .have q:r=J:=q;rw[c.2 ⟨g.1,g.2.1,g.2.2.1⟩]at q;cases q
 let⟨h1,h2,h3⟩:=c.1 q;have hat:∀k:Int,0<=k->k<l! ns->0<=aK aO ns k/\aK aO ns k<(l! x.2.2.2:Int):=λk k0 k1=>h3 _ (bE (T:=aO) k0 k1)
 refine bn (l! ns) (λi y=>y=((i:Int),(x,S))/\∀k:Nat,k<i->aK aO ns 0<=aK aO ns (k:Int)/\aas x.1 (aK oH S (aK aO ns (fR ((k+1:Nat):Int) (l! ns:Int)))) (aK fP x.2.2.2 (aK aO ns (fR ((k+1:Nat):Int) (l! ns:Int)))) (aK fP x.2.2.2 (aK aO ns (k:Int)))=J/\∀j:Nat,j<k->¬(aK fP x.2.2.2 (aK aO ns (k:Int))).1=(aK fP x.2.2.2 (aK aO ns (j:Int))).1) ?_ ?_ ⟨rfl,λj A=>bO A (dE _)⟩
 .rintro i y hi ⟨rfl,hp⟩;have hm:=O_ i (n:=l! ns) (by omega);refine dx (cG (aQ (aX (λz=>z.2=(x,S)/\(z.1=aa↔aK aO ns 0<=aK aO ns (i:Int)/\aas x.1 (aK oH S (aK aO ns (fR ((i+1:Nat):Int) (l! ns:Int)))) (aK fP x.2.2.2 (aK aO ns (fR ((i+1:Nat):Int) (l! ns:Int)))) (aK fP x.2.2.2 (aK aO ns (i:Int)))=J)) ?_ ?_)))
  .refine cG (aQ (aY (λq=>aj ⟨rfl,nofun,λg=>bO g.1 (Int.not_le.2 q)⟩) λq=>?_));refine l8 (by dsimp only[ak];omega) ?_;dsimp only;rw[fd];refine aG hm.1 hm.2 (aQ ?_);let⟨a,ha,D⟩:=h.at (hat _ hm.1 hm.2);let⟨b,F,N⟩:=h.at (hat (i:Int) (by omega) (by omega));have ha:aK aO ns (fR ((i+1:Nat):Int) (l! ns:Int))=(a:Int):=ha;have F:aK aO ns (i:Int)=(b:Int):=F;dsimp only[ak];rw[ha,F,<-hS,Cw x D];refine aV (afk x h a b D N) (aj ⟨by rw[hS],?_⟩);dsimp only;rw[nO];exact⟨λg=>⟨F▸q,g⟩,λg=>g.2⟩
  rintro⟨r,z⟩ ⟨e,c⟩;dsimp only at e c;subst e;refine aM (λq=>aj (gI λg=>?_)) λq=>?_
  .have q:r=J:=q;rw[c.2 ⟨(g.2.2.2 i hi).1,(g.2.2.2 i hi).2.1⟩]at q;cases q
  have hri:=c.1 q;refine bt (a? (a? ?_));have htk:(l! (ns.take (aS (i:Int))))=i:=by rw[bD];omega
  have hg:∀j:Nat,j<i->aK aO (ns.take (aS (i:Int))) (j:Int)=aK aO ns (j:Int):=λj A=>by
   unfold aK;rw[aT,aT];congr 1;exact List.getElem?_take_of_lt A
  have hki:=hat (i:Int) (by omega) (by omega);dsimp only;generalize ns.take (aS (i:Int))=tk at htk hg;refine bn i (λj y=>y=((j:Int),(x,S))/\∀m:Nat,m<j->¬(aK fP x.2.2.2 (aK aO ns (i:Int))).1=(aK fP x.2.2.2 (aK aO ns (m:Int))).1) ?_ ?_ ⟨rfl,λj A=>bO A (dE _)⟩
  .rintro j y A ⟨rfl,I⟩;have hkj:=hat (j:Int) (by omega) (by omega);refine dx (cG (aQ ?_));show Ok (chk (gr (aK aO ns (i:Int)) (l! x.2.2.2)) λ_=>_) _;refine aG hki.1 hki.2 (aQ ?_);dsimp only;rw[hg j A];refine aG hkj.1 hkj.2 (aQ (aL (λp=>aj (gI λg=>(g.2.2.2 i hi).2.2 j A p)) λp=>aj ⟨by rw[fd],λm hm=>?_⟩));rcases bZ m j with g|g
   .exact I m g
   .rw[show m=j by omega];exact p
  .rintro y ⟨rfl,I⟩;refine di (aj ⟨?_,λk hk=>?_⟩)
   .dsimp only;rw[fd]
   .rcases bZ k i with g|g
    .exact hp k g
    .rw[show k=i by omega];exact⟨hri.1,hri.2,I⟩
 .rintro y ⟨rfl,hp⟩;exact di (aj ⟨λ_=>⟨h1,h2,h3,hp⟩,λ_=>rfl⟩)
def Km (l:Y ET) {b k:Int} (z:0<=a) (c:0<=k) (q:a+k<b):aK fP (ca (aS b-aS a) (gL (aS a) l)) k=aK fP l (a+k):=by
 unfold aK;rw[aT,aT];congr 1;show (ca (aS b-aS a) (gL (aS a) l))[k.toNat]? =l[(a+k).toNat]?;rw[List.getElem?_take_of_lt (by omega),iX];congr 1;omega
def NK (l:Y ET) {b:Int} (z:0<=a) (q:a<=b) (c:b<=l! l):(l! (ca (aS b-aS a) (gL (aS a) l)):Int)=b-a:=by
 rw[bD,gw];omega
def R9 (n:Nat) (ev:Int->ET) (sy:Int->SY) (a b:Int):Prop:=
 (0<=a/\a<n)/\(0<=b/\b<n)/\b<a/\((ev a).2.1=18\/(ev a).2.1=19)/\(ev b).2.1=16/\(ev a).2.2.1=(ev b).2.2.1/\¬(ev a).1=(ev b).1/\(∀k:Int,b<k->k<a->¬(ev k).1=(ev b).1)/\(aK fg (sy a).2.2.2 (ev b).1).1=3/\((ev a).2.1=19\/(ev a).2.2.2.1=(ev b).1)
def amv (x:WN) (h:oG x) (a b:Int):Ok (ja ((x,yV x (l! x.2.2.2)),a,b)) λr=>r=J↔R9 (l! x.2.2.2) (aK fP x.2.2.2) (aK oH (yV x (l! x.2.2.2))) a b:=by
 unfold ja ba bQ bI bi bS gF bY bz cW aF cM;have hl:=h.ln;have hS:= @Cw x;have hsl:=vw x (l! x.2.2.2);generalize hS':yV x (l! x.2.2.2)=S;refine aX (λz=>z.2=(x,S)/\(z.1=aa↔((0<=a/\a<(l! x.2.2.2:Int))/\(0<=b/\b<(l! x.2.2.2:Int)))/\b<a)) ?_ ?_
 .refine av (Dc (x,S) [a,b] (by simp)) λr F=>?_
  rw[Jd]at F;refine cH (λq=>aj ⟨rfl,nofun,λg=>?_⟩) λq=>aj ⟨rfl,?_⟩
  .rw[F.2 g.1]at q;cases q
  .dsimp only;rw[je];exact⟨λg=>⟨F.1 q,g⟩,λg=>g.2⟩
 rintro⟨r,z⟩ ⟨e,F⟩;dsimp only at e F;subst e;refine aM (λq=>aj (gI λg=>?_)) λq=>?_
 .have q:r=J:=q;rw[F.2 ⟨⟨g.1,g.2.1⟩,g.2.2.1⟩]at q;cases q
 let⟨⟨N,I⟩,hba⟩:=F.1 q;refine aG N.1 N.2 (aQ (aG I.1 I.2 (aQ ?_)));let⟨i,hi,hi1⟩:=h.at N;let⟨j,hj,hj1⟩:=h.at I;have gi:=h.eni hi1;have gj:=h.eni hj1;have hsi:aK oH S a=(sV x.1 x.2.2.1 x.2.2.2 i).1:=by rw[<- hS',hi];exact hS hi1
 generalize (sV x.1 x.2.2.1 x.2.2.2 i).1=sa at hsi gi;have gj1:0<=(aK fP x.2.2.2 b).1/\(aK fP x.2.2.2 b).1<l! x.1.2.2.2.2.1:=by rw[hj];exact⟨gj.t0,gj.t1⟩
 have ge3:=gi.e3;unfold R9;generalize hea:aK fP x.2.2.2 a=A;generalize heb:aK fP x.2.2.2 b=D at gj1;refine aX (λz=>z.2=((x,S),A,D)/\(z.1=aa↔(A.2.1=18\/A.2.1=19)/\D.2.1=16/\A.2.2.1=D.2.2.1/\¬A.1=D.1)) ?_ ?_
 .have tl:∀c:Prop,(c↔(A.2.1=18\/A.2.1=19))->c->∀b:Bool,b=decide (A.1=D.1)->D.2.1=16->A.2.2.1=D.2.2.1->((b=aa)↔(A.2.1=18\/A.2.1=19)/\D.2.1=16/\A.2.2.1=D.2.2.1/\¬A.1=D.1):=λc hc h b I h1 h2=>by
   rw[I,decide_eq_false_iff_not];exact⟨λg=>⟨hc.1 h,h1,h2,g⟩,λg=>g.2.2.2⟩
  refine bW (λq=>bW (λq2=>aj ⟨rfl,nofun,λg=>(g.1.elim q q2).elim⟩) λq2=>?_) λq=>?_
  .refine bW (λp=>aj ⟨rfl,nofun,λg=>(p g.2.1).elim⟩) λp=>bW (λp2=>aj ⟨rfl,nofun,λg=>(p2 g.2.2.1).elim⟩) λp2=>aj ⟨rfl,tl _ Iff.rfl (.inr q2) _ rfl p p2⟩
  .refine bW (λp=>aj ⟨rfl,nofun,λg=>(p g.2.1).elim⟩) λp=>bW (λp2=>aj ⟨rfl,nofun,λg=>(p2 g.2.2.1).elim⟩) λp2=>aj ⟨rfl,tl _ Iff.rfl (.inl q) _ rfl p p2⟩
 rintro⟨r,z⟩ ⟨e,F⟩;dsimp only at e F;subst e;refine aM (λq=>aj (gI λg=>?_)) λq=>?_
 .have q:r=J:=q;rw[F.2 ⟨g.2.2.2.1,g.2.2.2.2.1,g.2.2.2.2.2.1,g.2.2.2.2.2.2.1⟩]at q;cases q
 let⟨c1,c2,c3,c4⟩:=F.1 q;dsimp only;rw[jA];refine bt (a? (bt (a? (a? ?_))));have hsn:=NK x.2.2.2 (a:=b+1) (b:=a) (by omega) (by omega) (by omega);have hsg:∀k:Nat,(k:Int)<a-(b+1)->aK fP (ca (aS a-aS (b+1)) (gL (aS (b+1)) x.2.2.2)) (k:Int)=aK fP x.2.2.2 (b+1+(k:Int)):=λk hk=>Km x.2.2.2 (by omega) (by omega) (by omega)
 generalize ca (aS a-aS (b+1)) (gL (aS (b+1)) x.2.2.2)=sl at hsn hsg;refine bn (l! sl) (λi y=>y=((i:Int),(x,S),A,D)/\∀k:Nat,k<i->¬(aK fP x.2.2.2 (b+1+(k:Int))).1=D.1) ?_ ?_ ⟨rfl,λj hj=>bO hj (dE _)⟩
 .rintro k y hk ⟨rfl,hp⟩;refine dx (cG (aQ ?_));dsimp only;rw[hsg k (by omega)];refine aL (λp=>aj (gI λg=>g.2.2.2.2.2.2.2.1 (b+1+(k:Int)) (by omega) (by omega) p)) λp=>aj ⟨by rw[fd],λm hm=>?_⟩
  rcases bZ m k with g|g
  .exact hp m g
  .rw[show m=k by omega];exact p
 .rintro y ⟨rfl,hp⟩;refine di (av (P:=λr=>r=J↔(aK fg sa.2.2.2 D.1).1=3/\(A.2.1=19\/A.2.2.2.1=D.1)) ?_ λr F=>aj ?_)
  .show Ok (chk (gr a (ah S)) λ_=>_) _;refine aG N.1 (by rw[<- hS',hsl];exact N.2) (aQ ?_);dsimp only;rw[hsi];refine aG gj1.1 (by rw[ge3];exact gj1.2) (aQ (bW (λp=>aj (gI λg=>p g.1)) λp=>?_));refine aX (λz=>z=J↔(A.2.1=19\/A.2.2.2.1=D.1)) ?_ λz hz=>aj ⟨λg=>⟨p,hz.1 g⟩,λg=>hz.2 g.2⟩
   refine aL (λq=>aj ⟨λ_=>.inl q,λ_=>rfl⟩) λq=>aj ?_
   dsimp only;rw[decide_eq_true_iff];exact⟨λg=>.inr g,λg=>g.elim (λg=>(q g).elim) id⟩
  .dsimp only;rw[F];rw[hsi];refine ⟨λg=>⟨N,I,hba,c1,c2,c3,c4,λk k0 k1=>?_,g.1,g.2⟩,λg=>g.2.2.2.2.2.2.2.2⟩;have:=hp (k-(b+1)).toNat (by omega);rw[show b+1+(((k-(b+1)).toNat:Nat):Int)=k by omega]at this;exact this
def LQ (n:Nat) (ev:Int->ET) (sy:Int->SY) (a b:Int):Prop:=
 a<b/\(ev b).1=(ev a).1/\(aK fg (sy a).2.2.2 (ev a).1).2.2=J/\∀k:Int,a<k->k<b->¬((ev k).1=(ev a).1/\(ev k).2.1=15)
def ajn (x:WN) (h:oG x) (a b:Int) (A:0<=a/\a<l! x.2.2.2) (hb:0<=b/\b<l! x.2.2.2):Ok (iG ((x,yV x (l! x.2.2.2)),a,b)) λr=>r=J↔LQ (l! x.2.2.2) (aK fP x.2.2.2) (aK oH (yV x (l! x.2.2.2))) a b:=by
 unfold iG bI bi bS jO gF bY bz cW aF cM;have hl:=h.ln;have hS:= @Cw x;have hsl:=vw x (l! x.2.2.2);generalize D:yV x (l! x.2.2.2)=S;refine aG A.1 A.2 (aQ ?_);let⟨i,hi,c⟩:=h.at A;have F:=h.eni c;have hsi:aK oH S a=(sV x.1 x.2.2.1 x.2.2.2 i).1:=by rw[<- D,hi];exact hS c
 generalize (sV x.1 x.2.2.1 x.2.2.2 i).1=sa at hsi F;have gt:0<=(aK fP x.2.2.2 a).1/\(aK fP x.2.2.2 a).1<l! sa.2.2.2:=by rw[F.e3,hi];exact⟨F.t0,F.t1⟩
 unfold LQ;rw[hsi];generalize hea:aK fP x.2.2.2 a=I at gt;refine aX (λz=>z.2=(x,S)/\(z.1=aa↔a<b/\(aK fP x.2.2.2 b).1=I.1/\(aK fg sa.2.2.2 I.1).2.2=J)) ?_ ?_
 .refine eh (λq=>aj ⟨rfl,nofun,λg=>bO g.1 (yo.2 q)⟩) λq=>aG hb.1 hb.2 (aQ (bW (λp=>aj ⟨rfl,nofun,λg=>(p g.2.1).elim⟩) λp=>?_))
  refine aG A.1 (by dsimp only;rw[<- D,hsl];exact A.2) (aQ ?_);refine aG gt.1 gt.2 (aQ (aj ⟨rfl,?_⟩));dsimp only;rw[nO];exact⟨λg=>⟨q,p,g⟩,λg=>g.2.2⟩
 rintro⟨r,z⟩ ⟨e,N⟩;dsimp only at e N;subst e;refine aM (λq=>aj (gI λg=>?_)) λq=>?_
 .have q:r=J:=q;rw[N.2 ⟨g.1,g.2.1,g.2.2.1⟩]at q;cases q
 let⟨hab,c1,c2⟩:=N.1 q;dsimp only;rw[jA];refine bt (a? (bt (a? (a? ?_))));have hsn:=NK x.2.2.2 (a:=a+1) (b:=b) (by omega) (by omega) (by omega);have hsg:∀k:Nat,(k:Int)<b-(a+1)->aK fP (ca (aS b-aS (a+1)) (gL (aS (a+1)) x.2.2.2)) (k:Int)=aK fP x.2.2.2 (a+1+(k:Int)):=λk hk=>Km x.2.2.2 (by omega) (by omega) (by omega)
 generalize ca (aS b-aS (a+1)) (gL (aS (a+1)) x.2.2.2)=sl at hsn hsg;refine bn (l! sl) (λi y=>y=(i:Int)/\∀k:Nat,k<i->¬((aK fP x.2.2.2 (a+1+(k:Int))).1=I.1/\(aK fP x.2.2.2 (a+1+(k:Int))).2.1=15)) ?_ ?_ ⟨rfl,λj hj=>bO hj (dE _)⟩
 .rintro k y hk ⟨rfl,hp⟩;refine dx (cG (aQ ?_));rw[hsg k (by omega)];refine aX (λz=>z=decide ((aK fP x.2.2.2 (a+1+(k:Int))).1=I.1/\(aK fP x.2.2.2 (a+1+(k:Int))).2.1=15)) ?_ ?_
  .exact aL (λq=>aj (by simp[q])) λq=>aj (by simp[q])
  rintro z rfl;refine aL (λp=>aj (gI λg=>g.2.2.2 (a+1+(k:Int)) (by omega) (by omega) p)) λp=>aj ⟨by rw[fd],λm hm=>?_⟩
  rcases bZ m k with g|g
  .exact hp m g
  .rw[show m=k by omega];exact p
 .rintro y ⟨rfl,hp⟩;refine di (aj ⟨λg=>⟨hab,c1,c2,λk k0 k1=>?_⟩,λ_=>rfl⟩);have:=hp (k-(a+1)).toNat (by omega);rw[show a+1+(((k-(a+1)).toNat:Nat):Int)=k by omega]at this;exact this
def afi (ev:Int->ET) (a b c d:Int):Prop:=
 c<=d/\(ev c).1=(ev d).1/\¬(ev c).1=(ev a).1/\cfB (ev a) (ev c)=J/\cfB (ev d) (ev b)=J
abbrev wc:Type:=b?
def afh (y:WN×Y SY) (g:wc) (z:0<=g.2.1/\g.2.1<l! y.1.2.2.2) (D:0<=g.2.2.1/\g.2.2.1<l! y.1.2.2.2) (c:0<=g.2.2.2.1/\g.2.2.2.1<l! y.1.2.2.2) (hd:0<=g.2.2.2.2.1/\g.2.2.2.2.1<l! y.1.2.2.2):Ok (ig (y,g)) λr=>r=J↔afi (aK fP y.1.2.2.2) g.2.1 g.2.2.1 g.2.2.2.1 g.2.2.2.2.1:=by
 unfold ig afi ba bQ b_ da bI bi jO gF bz aF;refine aX (λr=>r=J↔_) ?_ λr A=>aj A
 refine eh (λq=>aG c.1 c.2 (aQ (aG hd.1 hd.2 (aQ (aL (λp=>aG c.1 c.2 (aQ (aG z.1 z.2 (aQ (bW (λo=>?_) λo=>aj (gI λg=>g.2.2.1 o)))))) λp=>aj (gI λg=>p g.2.1)))))) λq=>aj (gI λg=>bO g.1 (Int.not_le.2 q))
 refine aV (CX y _ _ z c) (aM (λm=>aV (CX y _ _ hd D) (aj ⟨λm2=>⟨q,p,o,m,m2⟩,λg=>g.2.2.2.2⟩)) λm=>aj (gI λg=>?_))
 .exact bO (m.symm.trans g.2.2.2.1) (by decide)
def GV (w:WT) (n:Nat) (ev:Int->ET) (sy:Int->SY) (g:wc):Prop:=
 (g.1=1/\g.2.2.2.1=0/\g.2.2.2.2.1=0/\l! g.2.2.2.2.2=0/\RW w n ev g.2.1 g.2.2.1)\/
 (g.1=2/\g.2.1=0/\g.2.2.1=0/\g.2.2.2.1=0/\g.2.2.2.2.1=0/\ane w n ev sy g.2.2.2.2.2)\/
 (g.1=3/\g.2.2.2.1=0/\g.2.2.2.2.1=0/\l! g.2.2.2.2.2=0/\R9 n ev sy g.2.1 g.2.2.1)\/
 (g.1=4/\l! g.2.2.2.2.2=0/\((0<=g.2.1/\g.2.1<n)/\(0<=g.2.2.1/\g.2.2.1<n)/\(0<=g.2.2.2.1/\g.2.2.2.1<n)/\(0<=g.2.2.2.2.1/\g.2.2.2.2.1<n))/\LQ n ev sy g.2.1 g.2.2.1/\afi ev g.2.1 g.2.2.1 g.2.2.2.1 g.2.2.2.2.1)
def ah1 (x:WN) (h:oG x) (g:wc):Ok (iE ((x,yV x (l! x.2.2.2)),g)) λr=>r=J↔GV x.1 (l! x.2.2.2) (aK fP x.2.2.2) (aK oH (yV x (l! x.2.2.2))) g:=by
 let⟨k,a,b,c,d,ns⟩:=g;unfold iE GV ba bQ b_ da fX bi bc aF;dsimp only;refine aL (λq=>?_) λq1=>aL (λq=>?_) λD=>aL (λq=>?_) λq3=>aL (λq=>?_) λq4=>aj (gI λg=>?_)
 .subst q;refine aX (λr=>r=J↔c=0/\d=0/\l! ns=0/\RW x.1 (l! x.2.2.2) (aK fP x.2.2.2) a b) ?_ λr A=>aj (A.trans ⟨λg=>.inl ⟨rfl,g⟩,λg=>?_⟩)
  .refine aL (λp=>aL (λp2=>aL (λp3=>?_) λp3=>aj (gI λg=>p3 (by have:=g.2.2.1;dsimp only[ak];omega))) λp2=>aj (gI λg=>p2 g.2.1)) λp=>aj (gI λg=>p g.1)
   refine av (aml x h _ a b) λr A=>aj (A.trans ⟨λg=>⟨p,p2,by dsimp only[ak]at p3;omega,g⟩,λg=>g.2.2.2⟩)
  .rcases g with g|g|g|g
   .exact g.2
   .exact bO g.1 (by decide)
   .exact bO g.1 (by decide)
   .exact bO g.1 (by decide)
 .subst q;refine aX (λr=>r=J↔a=0/\b=0/\c=0/\d=0/\ane x.1 (l! x.2.2.2) (aK fP x.2.2.2) (aK oH (yV x (l! x.2.2.2))) ns) ?_ λr A=>aj (A.trans ⟨λg=>.inr (.inl ⟨rfl,g⟩),λg=>?_⟩)
  .refine aL (λp=>aL (λp2=>aL (λp3=>aL (λp4=>?_) λp4=>aj (gI λg=>p4 g.2.2.2.1)) λp3=>aj (gI λg=>p3 g.2.2.1)) λp2=>aj (gI λg=>p2 g.2.1)) λp=>aj (gI λg=>p g.1)
   refine av (aj5 x h ns) λr A=>aj (A.trans ⟨λg=>⟨p,p2,p3,p4,g⟩,λg=>g.2.2.2.2⟩)
  .rcases g with g|g|g|g
   .exact bO g.1 (by decide)
   .exact g.2
   .exact bO g.1 (by decide)
   .exact bO g.1 (by decide)
 .subst q;refine aX (λr=>r=J↔c=0/\d=0/\l! ns=0/\R9 (l! x.2.2.2) (aK fP x.2.2.2) (aK oH (yV x (l! x.2.2.2))) a b) ?_ λr A=>aj (A.trans ⟨λg=>.inr (.inr (.inl ⟨rfl,g⟩)),λg=>?_⟩)
  .refine aL (λp=>aL (λp2=>aL (λp3=>?_) λp3=>aj (gI λg=>p3 (by have:=g.2.2.1;dsimp only[ak];omega))) λp2=>aj (gI λg=>p2 g.2.1)) λp=>aj (gI λg=>p g.1)
   refine av (amv x h a b) λr A=>aj (A.trans ⟨λg=>⟨p,p2,by dsimp only[ak]at p3;omega,g⟩,λg=>g.2.2.2⟩)
  .rcases g with g|g|g|g
   .exact bO g.1 (by decide)
   .exact bO g.1 (by decide)
   .exact g.2
   .exact bO g.1 (by decide)
 .subst q;have I:(∀z∈[a,b,c,d],0<=z/\z<(l! x.2.2.2:Int))↔((0<=a/\a<(l! x.2.2.2:Int))/\(0<=b/\b<(l! x.2.2.2:Int))/\(0<=c/\c<(l! x.2.2.2:Int))/\(0<=d/\d<(l! x.2.2.2:Int))):=⟨λh=>⟨h a (by simp),h b (by simp),h c (by simp),h d (by simp)⟩,λh z hz=>by
   simp only[bB,cO,gx]at hz;rcases hz with rfl|rfl|rfl|rfl
   .exact h.1
   .exact h.2.1
   .exact h.2.2.1
   .exact h.2.2.2⟩
  refine aX (λr=>r=J↔l! ns=0/\((0<=a/\a<(l! x.2.2.2:Int))/\(0<=b/\b<(l! x.2.2.2:Int))/\(0<=c/\c<(l! x.2.2.2:Int))/\(0<=d/\d<(l! x.2.2.2:Int)))/\LQ (l! x.2.2.2) (aK fP x.2.2.2) (aK oH (yV x (l! x.2.2.2))) a b/\afi (aK fP x.2.2.2) a b c d) ?_ λr A=>aj (A.trans ⟨λg=>.inr (.inr (.inr ⟨rfl,g⟩)),λg=>?_⟩)
  .refine aL (λp=>?_) λp=>aj (gI λg=>p (by have:=g.1;dsimp only[ak];omega))
   refine av (Dc (x,yV x (l! x.2.2.2)) [a,b,c,d] (by simp)) λr A=>?_
   rw[I]at A;refine aM (λq=>?_) λq=>aj (gI λg=>?_)
   .obtain⟨ha,hb,hc,hd⟩:=A.1 q;refine av (ajn x h a b ha hb) λr2 F=>aM (λD=>?_) λD=>aj (gI λg=>?_)
    .refine av (afh (x,yV x (l! x.2.2.2)) ((4:Int),a,b,c,d,ns) ha hb hc hd) λr3 N=>aj ?_
     exact N.trans ⟨λg=>⟨by dsimp only[ak]at p;omega,⟨ha,hb,hc,hd⟩,F.1 D,g⟩,λg=>g.2.2.2⟩
    .rw[F.2 g.2.2.1]at D;cases D
   .rw[A.2 g.2.1]at q;cases q
  .rcases g with g|g|g|g
   .exact bO g.1 (by decide)
   .exact bO g.1 (by decide)
   .exact bO g.1 (by decide)
   .exact g.2
 .rcases g with g|g|g|g
  .exact q1 g.1
  .exact D g.1
  .exact q3 g.1
  .exact q4 g.1
def Vh (x:WN) (h:oG x) (g:wc):Ok (pS (x,g)) λr=>r=J↔GV x.1 (l! x.2.2.2) (aK fP x.2.2.2) (aK oH (yV x (l! x.2.2.2))) g:=by
 unfold pS aF;refine aV (aau x h) (aX (λr=>r=J↔_) (eU rfl (av (ah1 x h g) λr c=>aj c)) λr c=>aj c)
def MA (l:η) (z:Int):Int:=Tn (λk=>decide (z=aK aO l (k:Int))) (l! l)
def I9 (l:η) (z:Int) (A:l! l<=1000):iT (l,z)=Z (MA l z):=by
 refine cF ?_;unfold iT uP bi bS bz bc cW aF cM;refine xw (l! l) (by omega) (λi x=>x=(i:Int)/\∀j,j<i->decide (z=aK aO l (j:Int))=aa) ?_ ?_ ⟨rfl,λj q=>bO q (dE _)⟩
 .rintro i x hi ⟨rfl,c⟩;refine dx (cG (aQ (aL (λh=>aj (aep hi (bK h) c).symm) λh=>aj ⟨fd,λj q=>?_⟩)));rcases bZ j i with g|g
  .exact c j g
  .rw[show j=i by omega];exact bT h
 .rintro x ⟨rfl,c⟩;exact di (aj (WO c).symm)
def PL :0<=MA r a↔a∈r:=by
 unfold MA;rcases FB (λk=>decide (a=aK aO r (k:Int))) (l! r) with ⟨h1,q⟩|⟨k,h1,q,c,_⟩
 .rw[h1];refine ⟨λg=>bO g (by decide),λg=>?_⟩;let⟨j,A,e⟩:=HN g;have:=q j A;rw[decide_eq_false_iff_not]at this;exact (this (by
   unfold aK;rw[aT];show a=(r[j]?).getD _;rw[aH A];exact e.symm)).elim
 .rw[q];refine ⟨λ_=>?_,λ_=>by omega⟩;have c:a=aK aO r (k:Int):=bJ c;rw[c];exact bE (T:=aO) (by omega) (by omega)
def nxE (x:WN) (c:CF) (e:Int):Bool:=decide (0<=e/\e<l! x.2.2.2)&&decide (IN x c.2.2.2.1 (aK fP x.2.2.2 e).1=e)
def ryE (x:WN) (c:CF) (e:Int):Bool:=nxE x c e&&MZ x c (aK fP x.2.2.2 e).1
def adg (x:WN) (h:oG x) (c:CF) (z:CI x c) (e:Int):rR (x,c,e)=Z (nxE x c e):=by
 refine cF ?_;unfold rR nxE bI bS jO bz bc aF;have F:=h.ln;have D:=z.ln;refine aX (λb=>b=(decide (0<=e/\e<l! x.2.2.2)&&decide (IN x c.2.2.2.1 (aK fP x.2.2.2 e).1=e))) ?_ λb A=>aj A
 refine eh (λp=>aY (λq=>aG p q (aQ (aV (L9 x c _ (by omega) (by omega)) (aj ?_)))) λq=>aj ?_) λp=>aj ?_
 .dsimp only;rw[bK (p:=0<=e/\e<l! x.2.2.2) ⟨p,q⟩,dl]
 .have q:(l! x.2.2.2:Int)<=e:=q;rw[bT (by omega)];rfl
 .have p:e<0:=p;rw[bT (by omega)];rfl
def JD {x:WN} {c:CF} (h:nxE x c a=J):0<=a/\a<l! x.2.2.2:=by
 unfold nxE at h;rw[al,decide_eq_true_iff]at h;exact h.1
def Pp (x:WN) (h:oG x) (c:CF) (z:CI x c) (e:Int):nD (x,c,e)=Z (ryE x c e):=by
 refine cF ?_;unfold nD ryE bI bz aF;refine aX (λb=>b=(nxE x c e&&MZ x c (aK fP x.2.2.2 e).1)) ?_ λb A=>aj A
 refine aV (adg x h c z e) (aM (λp=>?_) λp=>aj (by rw[p];rfl));have q:=JD p;refine aG q.1 q.2 (aQ (aV (X1 x h c z _).1 (aj ?_)));dsimp only;rw[p,dl]
def cyE (x:WN) (c:CF) (z:Int):Bool:=nxE x c z&&(!decide ((aK fP x.2.2.2 z).2.1=17)||(decide ((aK fP x.2.2.2 z).1<l! c.1.2.2.2)&&decide ((aK fg c.1.2.2.2 (aK fP x.2.2.2 z).1).1=4)))
def wkB (c:CF) (a:Int):Bool:=decide (0<=a/\a<l! c.2.2.2.2.2)&&decide (aK aO c.2.2.2.2.2 a=0)
def RU (x:WN) (c:CF) (g:wc):Bool:=
 if g.1=1 then ryE x c g.2.1&&ryE x c g.2.2.1
 else if g.1=2 then g.2.2.2.2.2.all (cyE x c)
 else if g.1=3 then decide (0<l! c.2.2.2.1)&&(decide (aK aO c.2.2.2.1 ((l! c.2.2.2.1:Int)-1)=g.2.2.1)&&(c.2.2.2.1.contains g.2.1&&wkB c g.2.1))
 else if g.1=4 then decide (0<=MA c.2.2.2.1 g.2.1/\MA c.2.2.2.1 g.2.1<MA c.2.2.2.1 g.2.2.2.1)&&(c.2.2.2.1.contains g.2.2.2.2.1&&ryE x c g.2.2.1)
 else aa
def ZF (x:WN) (h:oG x) (c:CF) (I:CI x c) (g:wc) (hg:g.1=2->l! g.2.2.2.2.2<=1000):oZ (x,c,g)=Z (RU x c g):=by
 refine cF ?_;let⟨k,a,b,d,e,ns⟩:=g;unfold oZ RU ba bQ b_ da ia bI dP tI bi bS jO bz bc cW aF cM;dsimp only at hg ⊢;have hl:=h.ln;have ho:=I.ln;refine aL (λp=>?_) λp=>?_
 .rw[aR p];refine aX (λr=>r=(ryE x c a&&ryE x c b)) ?_ λr F=>aj F
  refine aV (Pp x h c I a) (aM (λq=>aV (Pp x h c I b) (aj ?_)) λq=>aj (by rw[q];rfl));dsimp only;rw[q,dl]
 rw[aE p];refine aL (λp=>?_) λp=>?_
 .rw[aR p];have hns:=hg p;refine bn (l! ns) (λi y=>y=((i:Int),x,c)/\∀k:Nat,k<i->cyE x c (aK aO ns (k:Int))=J) ?_ ?_ ⟨rfl,λj hj=>bO hj (dE _)⟩
  .rintro i y hi ⟨rfl,hp⟩;refine dx (cG (aQ ?_));have hz:aK aO ns (i:Int)∈ns:=bE (T:=aO) (by omega) (by omega);dsimp only;have hcy:cyE x c (aK aO ns (i:Int))=J->∀k:Nat,k<i+1->cyE x c (aK aO ns (k:Int))=J:=λq m hm=>by
    rcases bZ m i with g|g
    .exact hp m g
    .rw[show m=i by omega];exact q
   generalize aK aO ns (i:Int)=z at hz hcy;have no:cyE x c z=aa->aa=ns.all (cyE x c):=λq=>by
    symm;rw[<- mP,dq]
    intro g;rw[g z hz]at q;cases q
   refine aV (adg x h c I z) (cH (λq=>aj (no (by unfold cyE;rw[q];rfl))) λq=>?_);have A:=JD q;refine aG A.1 A.2 (aQ ?_);refine aX (λr=>r=(!cyE x c z,x,c)) ?_ ?_
   .have e:cyE x c z=(!decide ((aK fP x.2.2.2 z).2.1=17)||(decide ((aK fP x.2.2.2 z).1<l! c.1.2.2.2)&&decide ((aK fg c.1.2.2.2 (aK fP x.2.2.2 z).1).1=4))):=by unfold cyE;rw[q];rfl
    rw[e];let⟨i,hi,N⟩:=h.at A;have t0:0<=(aK fP x.2.2.2 z).1:=by rw[hi];exact (h.eni N).t0
    generalize aK fP x.2.2.2 z=ev at t0 ⊢;refine aL (λp=>eh (λo=>aj ?_) λo=>aG t0 o (aQ (aj ?_))) λp=>aj ?_
    .have o:(l! c.1.2.2.2:Int)<=ev.1:=o;have p:ev.2.1=17:=p;rw[bK p,bT (p:=ev.1<(l! c.1.2.2.2:Int)) (yo.2 o)];rfl
    .have o:ev.1<(l! c.1.2.2.2:Int):=o;have p:ev.2.1=17:=p;rw[bK p,bK o];rfl
    .have p:¬ev.2.1=17:=p;rw[bT p];rfl
   rintro r rfl;exact cH (λp=>aj (no p)) λp=>aj ⟨by dsimp only;rw[fd],hcy p⟩
  .rintro y ⟨rfl,hp⟩;refine di (aj (Eq.symm ?_));rw[dq];exact iv (T:=aO) (p:=λz=>cyE x c z=J) hp
 rw[aE p];refine aL (λp=>?_) λp=>?_
 .rw[aR p];refine aX (λr=>r=(decide (0<l! c.2.2.2.1)&&(decide (aK aO c.2.2.2.1 ((l! c.2.2.2.1:Int)-1)=b)&&(c.2.2.2.1.contains a&&wkB c a)))) ?_ λr F=>aj F
  refine aY (λq=>?_) λq=>aj ?_
  .have q:(0:Int)<(l! c.2.2.2.1:Int):=q;rw[bK (by omega:0<l! c.2.2.2.1),dl];dsimp only[ak];rw[jA];refine cG (aQ (aL (λq1=>aV (lJ _ _ (by omega)) (aM (λA=>?_) λA=>aj ?_)) λq1=>aj ?_))
   .rw[bK q1,A,dl,dl];unfold wkB;refine eh (λo=>aY (λD=>aG o D (aQ (aj ?_))) λD=>aj ?_) λo=>aj ?_
    .have o:0<=a:=o;have D:a<(l! c.2.2.2.2.2:Int):=D;rw[bK (p:=0<=a/\a<(l! c.2.2.2.2.2:Int)) ⟨o,D⟩];rfl
    .have D:(l! c.2.2.2.2.2:Int)<=a:=D;rw[bT (by omega)];rfl
    .have o:a<0:=o;rw[bT (by omega)];rfl
   .rw[A,dY,Bool.and_false]
   .rw[bT q1];rfl
  .have q:(l! c.2.2.2.1:Int)<=0:=q;rw[bT (by omega)];rfl
 rw[aE p];refine aL (λp=>?_) λp=>aj (by rw[aE p])
 rw[aR p];refine aV (I9 _ _ (by omega)) ?_;refine aX (λr=>r=(decide (0<=MA c.2.2.2.1 a/\MA c.2.2.2.1 a<MA c.2.2.2.1 d)&&(c.2.2.2.1.contains e&&ryE x c b))) ?_ λr F=>aj F
 refine eh (λq=>aV (I9 _ _ (by omega)) (aY (λA=>aV (lJ _ _ (by omega)) (aM (λq3=>aV (Pp x h c I b) (aj ?_)) λq3=>aj ?_)) λA=>aj ?_)) λq=>aj ?_
 .have q:0<=MA c.2.2.2.1 a:=q;have A:MA c.2.2.2.1 a<MA c.2.2.2.1 d:=A;have q3:c.2.2.2.1.contains e=J:=q3;rw[bK (p:=0<=MA c.2.2.2.1 a/\MA c.2.2.2.1 a<MA c.2.2.2.1 d) ⟨q,A⟩,q3];rfl
 .have q3:c.2.2.2.1.contains e=aa:=q3;rw[q3,dY,Bool.and_false]
 .have A:MA c.2.2.2.1 d<=MA c.2.2.2.1 a:=A;rw[bT (by omega)];rfl
 .have q:MA c.2.2.2.1 a<0:=q;rw[bT (by omega)];rfl
def GV.ns {w:WT} {ev:Int->ET} {sy:Int->SY} {g:wc} (h:GV w i ev sy g):l! g.2.2.2.2.2<=1000:=by
 rcases h with h|h|h|h
 .have:=h.2.2.2.1;omega
 .have:=h.2.2.2.2.2.2.1;omega
 .have:=h.2.2.2.1;omega
 .have:=h.2.1;omega
def Zq (x:WN) (h:oG x) (c:CF) (A:CI x c) (g:wc) (z:GV x.1 (l! x.2.2.2) (aK fP x.2.2.2) (aK oH (yV x (l! x.2.2.2))) g):pT (x,c,g)=Z (RU x c g):=by
 refine cF ?_;unfold pT aF;refine aX (λr=>r=RU x c g) ?_ λr q=>aj q
 refine aV (ZF x h c A g λ_=>z.ns) (aM (λp=>av (Vh x h g) λr q=>aj ?_) λp=>aj p.symm);dsimp only;rw[p];exact q.2 z
def msB (c:CF) (g:wc):Bool:=
 if g.1=1 then c.2.2.2.1.contains g.2.1||c.2.2.2.1.contains g.2.2.1
 else if g.1=2 then g.2.2.2.2.2.any λz=>c.2.2.2.1.contains z
 else if g.1=3 then c.2.2.2.1.contains g.2.2.1||(c.2.2.2.1.contains g.2.1&& !decide (aK aO c.2.2.2.2.2 g.2.1=0))
 else if g.1=4 then c.2.2.2.1.contains g.2.2.1||(!c.2.2.2.1.contains g.2.1&&c.2.2.2.1.contains g.2.2.2.1)
 else aa
def alf (l:η) (z:Int):cZ 0 (MA l z)=l.contains z:=by
 by_cases h:z∈l
 .rw[vH.2 (PL.2 h),dJ.2 h]
 .rw[je.2 (by have:=mt PL.1 h;omega)]
  symm;rw[<- mP,dJ];exact h
def Vt (c:CF) (ns:η) (I:l! c.2.2.2.1<=1000) (hn:l! ns<=1000):nF (ns,c)=Z (ns.any (λz=>c.2.2.2.1.contains z),c):=by
 refine cF ?_;unfold nF;refine av (P:=λy:Int×CF=>y.2=c/\cZ 0 y.1=ns.any (λz=>c.2.2.2.1.contains z)) ?_ λy D=>aj (by rw[D.2,D.1])
 unfold vD bS bz bc cW aF cM;refine bn (l! ns) (λi y=>y=((i:Int),c)/\∀k:Nat,k<i->c.2.2.2.1.contains (aK aO ns (k:Int))=aa) ?_ ?_ ⟨rfl,λj N=>bO N (dE _)⟩
 .rintro i y hi ⟨rfl,hp⟩;refine dx (cG (aQ ?_));have A:aK aO ns (i:Int)∈ns:=bE (T:=aO) (by omega) (by omega);refine aV (by unfold nT b_;exact cF (aV (lJ _ _ I) (aj rfl))) (aM (λq=>aj ⟨rfl,?_⟩) λq=>aj ⟨by dsimp only;rw[fd],λm hm=>?_⟩)
  .have q:c.2.2.2.1.contains (aK aO ns (i:Int))=J:=q;dsimp only;rw[vH.2 (by omega)]
   symm;rw[List.any_eq_true]
   exact⟨_,A,q⟩
  .rcases bZ m i with g|g
   .exact hp m g
   .rw[show m=i by omega];exact q
 .rintro y ⟨rfl,hp⟩;refine di (aj ⟨rfl,?_⟩);show aa=_
  symm;rw[<- mP,List.any_eq_true]
  rintro⟨z,A,F⟩;have:=iv (T:=aO) (p:=λz=>c.2.2.2.1.contains z=aa) hp z A;exact bO (this.symm.trans F) (by decide)
def adn (x:WN) (h:oG x) (c:CF) (N:CI x c) (g:wc) (hg:l! g.2.2.2.2.2<=1000):mX (c,g)=Z (msB c g):=by
 refine cF ?_;let⟨k,a,b,d,e,ns⟩:=g;unfold mX msB ba bQ b_ dP fX bi bS jO bz aF;dsimp only at hg ⊢;have hl:=h.ln;have ho:=N.ln;have A:l! c.2.2.2.1<=1000:=by omega
 refine aV (I9 _ a A) (aV (I9 _ b A) ?_);have F:=alf c.2.2.2.1 a;have D:=alf c.2.2.2.1 b;refine aL (λp=>?_) λp=>?_
 .rw[aR p];refine aX (λr=>r=(c.2.2.2.1.contains a||c.2.2.2.1.contains b)) (aM (λq=>aj ?_) λq=>aj ?_) λr I=>aj I
  .rw[<- F,q];rfl
  .dsimp only;rw[<- F,q,D];rfl
 rw[aE p];refine aL (λp=>?_) λp=>?_
 .rw[aR p];exact aV (Vt c ns A hg) (aj rfl)
 rw[aE p];refine aL (λp=>?_) λp=>?_
 .rw[aR p];refine aX (λr=>r=(c.2.2.2.1.contains b||(c.2.2.2.1.contains a&& !decide (aK aO c.2.2.2.2.2 a=0)))) ?_ λr I=>aj I
  refine aM (λq=>aj ?_) λq=>aM (λz=>?_) λz=>aj ?_
  .rw[<- D,q];rfl
  .have hm:a∈c.2.2.2.1:=by rw[<- PL];exact vH.1 z
   have:=N.od a hm;have hw:=N.wk;refine aG this.1 (by omega) (aQ (aj ?_));rw[<- D,q,<-F,z];rfl
  .rw[<- D,q,<-F,z];rfl
 rw[aE p];refine aL (λp=>?_) λp=>aj (by rw[aE p])
 rw[aR p];refine aX (λr=>r=(c.2.2.2.1.contains b||(!c.2.2.2.1.contains a&&c.2.2.2.1.contains d))) ?_ λr I=>aj I
 refine aM (λq=>aj ?_) λq=>aY (λz=>?_) λz=>aj ?_
 .rw[<- D,q];rfl
 .refine aV (lJ _ d A) (aj ?_);have z:MA c.2.2.2.1 a<0:=z;rw[<- D,q,<-F,je.2 z];rfl
 .have z:0<=MA c.2.2.2.1 a:=z;rw[<- D,q,<-F,vH.2 z];rfl
def wrU (n:Int):aZ .u64 n=n%18446744073709551616:=by
 rw[IA];show kW .u64 n=_;unfold kW;simp[IntKind.signed,IntKind.bits]
abbrev s36:ζ:=[48,49,50,51,52,53,54,55,56,57,97,98,99,100,101,102,103,104,105,106,107,108,109,110,111,112,113,114,115,116,117,118,119,120,121,122]
def TN:Nat->Int->η->η
 |0,u,D=>zH s36 u::D
 |n+1,u,D=>if 36<=u then TN n (u/36) (zH s36 (u%36)::D) else zH s36 u::D
def Qu:∀(n:Nat) (u:Int) (D:η),l! (TN n u D)<=n+1+l! D
 |0,u,D=>by rw[TN,bX];omega
 |n+1,u,D=>by
  rw[TN];split
  .have:=Qu n (u/36) (zH s36 (u%36)::D);rw[bX]at this;omega
  .rw[bX];omega
def Qt (D:η) (h:a<36):TN i a D=zH s36 a::D:=by
 cases i with
 |zero=>rfl
 |succ i=>rw[TN,aE (by omega)]
def Oj (l:η) (i:Nat) (d:Int) (hi:i<l! l):(cC l (i:Int) d).drop i=d::l.drop (i+1):=by
 unfold cC;rw[lL,List.drop_eq_getElem_cons (by rw[fD];exact hi),List.getElem_set_self,List.drop_set_of_lt (by omega)]
def aen (u:Int) (h0:0<=u) (h1:u<18446744073709551616) (buf:η) (hb:l! buf<=1000000):eZ ((u,36,aa,J),buf)=Z ([],buf++TN 13 u []):=by
 refine cF ?_;unfold eZ ba bI bi bS jO BJ bY cW aF;refine aX (λz=>z=(aa,buf)) ?_ ?_
 .exact di (aL (λh=>bO h (by show ¬(36:Int)=10;decide)) λ_=>aj rfl)
 rintro z rfl;refine jQ rfl ?_;refine aX (λz=>z=(u,buf,aP 65 (0:Int))) (jQ rfl (aj rfl)) ?_;rintro z rfl;refine aV (show fK 36=Z aa by rfl) (jQ rfl ?_);have c:aZ .u64 36=36:=rfl;dsimp only;rw[c];refine bn 14 (λk y=>∃(v:Int) (arr:η),k<=13/\y=((v,((65-k:Nat):Int)),buf,arr)/\l! arr=65/\0<=v/\v*36^k<18446744073709551616/\TN (13-k) v (arr.drop (65-k))=TN 13 u []) ?_ ?_ ⟨u,_,by omega,rfl,eL,h0,by simpa using h1,rfl⟩
 .rintro k y hk ⟨v,arr,k13,rfl,A,v0,v1,hd⟩;have I:v<18446744073709551616:=by
   refine Int.lt_of_le_of_lt ?_ v1;have:(1:Int)<=36^k:=by have:(0:Int)<36^k:=Int.pow_pos (by decide);omega
   have:=Int.mul_le_mul_of_nonneg_left this v0;omega
  have hi:aZ .i64 (((65-k:Nat):Int)-1)=((64-k:Nat):Int):=by rw[jA];omega
  dsimp only;rw[hi];refine eh (λq=>?_) λq=>?_
  .have q:36<=v:=q;have:¬k=12:=λe=>by subst e;rw[show (36:Int)^12=4738381338321616896 by decide]at v1;omega
   have:¬k=13:=λe=>by subst e;rw[show (36:Int)^13=170581728179578208256 by decide]at v1;omega
   have e1:aZ .u64 (Int.tdiv v 36)=v/36:=by rw[Int.tdiv_eq_ediv_of_nonneg v0,wrU];omega
   have e2:aZ .u64 (v-aZ .u64 (v/36*36))=v%36:=by rw[wrU,wrU];omega
   rw[e1,e2];refine l8 (by decide) (aG (by omega) (by show v%36<36;omega) (bt (a? (tN (by omega) (cG (aj ⟨v/36,cC arr ((64-k:Nat):Int) (zH s36 (v%36)),?_,by rw[show 65-(k+1)=64-k by omega],?_,by omega,?_,?_⟩))))))
   .omega
   .unfold cC;rw[fD];exact A
   .rw[Int.pow_succ];have D:v/36*36<=v:=by omega
    have:=Int.mul_le_mul_of_nonneg_right D (Int.le_of_lt (Int.pow_pos (by decide):(0:Int)<36^k));have e:v/36*(36^k*36)=v/36*36*36^k:=by rw[Int.mul_comm (36^k) 36,Int.mul_assoc]
    rw[e];omega
   .rw[<- hd];have:13-k=(13-(k+1))+1:=by omega
    rw[this,TN,aR q];have:(65-(k+1):Nat)=64-k:=by omega
    rw[this,Oj _ _ _ (by omega),show 64-k+1=65-k by omega]
  .have q:v<36:=q;refine av (P:=λr=>r=([],buf++TN 13 u [])) ?_ λr F=>aj F
   refine aG v0 (by show v<36;omega) (bt (a? (tN (by omega) (cG ?_))));refine aX (λz=>z=(((64-k:Nat):Int),buf,cC arr ((64-k:Nat):Int) (zH s36 v))) (jQ rfl (aj rfl)) ?_;rintro z rfl;have N:l! (cC arr ((64-k:Nat):Int) (zH s36 v))=65:=by unfold cC;rw[fD];exact A
   have hdr:(cC arr ((64-k:Nat):Int) (zH s36 v)).drop (aS ((64-k:Nat):Int))=TN 13 u []:=by
    rw[lL,Oj _ _ _ (by omega),<-hd,Qt _ q,show 64-k+1=65-k by omega]
   have hdl:=Qu 13 u [];refine eU rfl (bt (a? (bt (tN (by dsimp only;omega) (cU (by dsimp only;omega) (bt (a? (tN (by dsimp only;omega) ?_))))))));dsimp only;rw[hdr];exact bg (by simp only[em]at hdl;omega) (by decide) (aj rfl)
 .rintro y ⟨v,arr,k13,rfl,A,v0,v1,hd⟩;omega
def kb (i:Int):η:=(if i<0 then [45] else [])++(TN 13 (if i<0 then aZ .u64 (0-aZ .u64 i) else aZ .u64 i) []++[32])
def Rm (b:Bool):η:=if b=J then [49,32] else [48,32]
def qS (i:Int):l! (kb i)<=16:=by
 have:=Qu 13 (if i<0 then aZ .u64 (0-aZ .u64 i) else aZ .u64 i) [];unfold kb;generalize TN 13 (if i<0 then aZ .u64 (0-aZ .u64 i) else aZ .u64 i) []=d at this ⊢;simp only[aD,aJ,em] at*
 split<;>simp<;>omega
def xH (b:Bool):l! (Rm b)=2:=by cases b<;>rfl
def Vw (i:Int) (buf:η) (D:l! buf<=100000):jR ((i,36),buf)=Z (buf++((if i<0 then [45] else [])++TN 13 (if i<0 then aZ .u64 (0-aZ .u64 i) else aZ .u64 i) [])):=by
 refine cF ?_;unfold jR bY;refine av (P:=λy=>y=buf++((if i<0 then [45] else [])++TN 13 (if i<0 then aZ .u64 (0-aZ .u64 i) else aZ .u64 i) [])) ?_ λy c=>bt (cU rfl (ie (aj c)))
 unfold gG bS bY aF;refine aX (λz=>z=((if i<0 then aZ .u64 (0-aZ .u64 i) else aZ .u64 i),buf++(if i<0 then [45] else []))) ?_ ?_
 .refine aY (λh=>bg (by simp;omega) (by decide) (aj ?_)) λh=>aj ?_
  .have h:i<0:=h;rw[aR h,aR h]
  .have h:¬i<0:=yo.2 h;rw[aE h,aE h,dG]
 rintro z rfl;refine av (P:=λy=>y=buf++((if i<0 then [45] else [])++TN 13 (if i<0 then aZ .u64 (0-aZ .u64 i) else aZ .u64 i) [])) ?_ λy c=>bt (cU rfl (ie (aj c)))
 unfold gp bi bS bY;refine aL (λh=>bO h (by show ¬(36:Int)=10;decide)) λ_=>?_
 have q:0<=(if i<0 then aZ .u64 (0-aZ .u64 i) else aZ .u64 i)/\(if i<0 then aZ .u64 (0-aZ .u64 i) else aZ .u64 i)<18446744073709551616:=by
  split<;>rw[wrU]<;>omega
 have A:l! (buf++(if i<0 then [45] else []))<=1000000:=by rw[aD];split<;>simp<;>omega
 refine aV (aen _ q.1 q.2 _ A) (bt (cU rfl (ie (aj ?_))));dsimp only;rw[cr]
def tR (i:Int) (buf:η) (c:l! buf<=100000):d9 (i,buf)=Z (buf++kb i):=by
 refine cF ?_;unfold d9 bY;refine aV (Vw i buf c) (bt (cU rfl (ie (bg ?_ (by decide) (aj ?_)))))
 .have:=qS i;unfold kb at this;simp only[aD,aJ]at this ⊢;omega
 .unfold kb;simp only[cr]
def kb_0:kb 0=[48,32]:=by unfold kb;rw[aE (by decide),aE (by decide),wrU,Qt _ (by decide)];rfl
def kb_1:kb 1=[49,32]:=by unfold kb;rw[aE (by decide),aE (by decide),wrU,Qt _ (by decide)];rfl
def xG (b:Bool) (buf:η) (c:l! buf<=100000):gh (b,buf)=Z (buf++Rm b):=by
 refine cF ?_;unfold gh bY;refine aM (λh=>aV (tR 1 buf c) (bt (cU rfl (ie (aj ?_))))) λh=>aV (tR 0 buf c) (bt (cU rfl (ie (aj ?_))))
 .have h:b=J:=h;rw[h,kb_1];rfl
 .have h:b=aa:=h;rw[h,kb_0];rfl
def exL (n:Nat) (c:η):θ:=c.foldl (λl z=>cC l z J) (aP n aa)
def Qq (c:η):∀(l:θ),(∀z∈c,0<=z/\z<(l! l:Int))->l! (c.foldl (λl z=>cC l z J) l)=l! l/\∀k:Nat,k<l! l->aK (.bool) (c.foldl (λl z=>cC l z J) l) (k:Int)=(aK (.bool) l (k:Int)||c.contains (k:Int)):=by
 induction c with
 |nil=>intro l _;exact⟨rfl,λk _=>by simp⟩
 |cons z r A=>
  intro l h;have hz:=h z (cS ..);have q:l! (cC l z J)=l! l:=by unfold cC;rw[fD]
  let⟨h1,N⟩:=A (cC l z J) λy D=>by rw[q];exact h y (cq _ D)
  refine ⟨by rw[dg,h1,q],λk F=>?_⟩;rw[dg,N k (by rw[q];exact F)];have I:aK (.bool) (cC l z J) (k:Int)=if (k:Int)=z then J else aK (.bool) l (k:Int):=by
   unfold aK cC;rw[aT,aT];show ((l.set z.toNat J)[k]?).getD _=_;rw[j7];by_cases e:(k:Int)=z
   .rw[aR e,aR (by omega),aR (by omega)];rfl
   .rw[aE e,aE (by omega)];rfl
  rw[I,List.contains_cons];by_cases e:(k:Int)=z
  .rw[aR e,e];simp
  .rw[aE e];have:((k:Int)==z)=aa:=by simp[e]
   rw[this,Da]
def aiw (n:Nat) (c:η) (h:∀z∈c,0<=z/\z<(n:Int)):l! (exL n c)=n:=by
 have:=(Qq c (aP n aa) (by simpa using h)).1;simpa[exL] using this
def an9 (n:Nat) (c:η) (h:∀z∈c,0<=z/\z<(n:Int)) (k:Nat) (q:k<n):aK (.bool) (exL n c) (k:Int)=c.contains (k:Int):=by
 have:=(Qq c (aP n aa) (by simpa using h)).2 k (by simpa using q);unfold exL;rw[this];have:aK (.bool) (aP n aa) (k:Int)=aa:=by
  unfold aK;rw[aT];show ((aP n aa)[k]?).getD _=_;rw[yS,aR q];rfl
 rw[this,Da]
def kyU (c:η) (fx:θ) (u:Int) (k:Int):Bool:=decide (0<=u)&&(!c.contains u&&aK (.bool) fx k)
def Mm (c lu:η) (fx:θ):Nat->η
 |0=>[]
 |k+1=>Mm c lu fx k++(Rm (c.contains (k:Int))++Rm (kyU c fx (aK aO lu (k:Int)) (k:Int)))
def xF (c lu:η) (fx:θ):∀n,l! (Mm c lu fx n)=4*n
 |0=>rfl
 |n+1=>by rw[Mm,aD,aD,xF c lu fx n,xH,xH];omega
variable {R:Type}
def oq (f:R->η):Y R->η
 |[]=>[]
 |x::r=>f x++oq f r
def YM (f:R->η):∀l m:Y R,oq f (l++m)=oq f l++oq f m
 |[],m=>rfl
 |x::r,m=>by rw[fG,oq,oq,YM f r m,cr]
def tU {f:R->η} {b:Nat}:∀{l:Y R},(∀x∈l,l! (f x)<=b)->l! (oq f l)<=l! l*b
 |[],_=>eQ _
 |x::r,h=>by
  have h1:=h x (cS ..);have q:=tU (l:=r) λy c=>h y (cq _ c)
  rw[oq,aD,bX,pe];omega
def kyL (x:i?):η:=kb x.1++(kb (l! x.2:Int)++oq kb x.2)
def zU (x:p?):η:=kb x.1++(kb x.2.1++Rm x.2.2)
def BP (x:c!):η:=kb x.1++Rm x.2
def kyB (c:CF):η:=oq kyL c.1.1++(kb c.1.2.1++(oq Rm c.1.2.2.1++(oq zU c.1.2.2.2++(oq BP c.2.1++oq BP c.2.2.1))))
def vG (n:Nat) (c:CF) (lu:η):ζ:=jH (Mm c.2.2.2.1 lu c.2.2.2.2.1 n++kyB c)
variable {T:Ty}
def Th {f:T.den->η} {xs:Y T.den} (hi:i<ah xs):oq f (ca (i+1) xs)=oq f (ca i xs)++f (aK _ xs (i:Int)):=by
 rw[uh hi,YM];show _++(f _++[])=_;rw[dG]
def mQ {l:Y R} (h:l! l<=i):l.take i=l:=fZ h
def Tg {f:Int->η} {l:η} (h:∀x:Int,l! (f x)<=16):l! (oq f l)<=l! l*16:=tU λx _=>h x
def aql (x:WN) (h:oG x) (c:CF) (N:CI x c) (lu:η) (hlu:l! lu=l! x.2.2.2) (hu:∀z∈lu,z<(l! x.2.2.2:Int)):sr (c,lu)=Z (vG (l! x.2.2.2) c lu):=by
 refine cF ?_;unfold sr ba bQ b_ bI ck bS jO bY bz kQ bc cW aF cM;have hl:=h.ln;have ho:=N.ln;have hod:=N.od;have hfx:=N.fx;have v:=h.vl;have hl1:l! c.1.1<=4:=by rw[N.l1];exact v.l
 have hl2:l! c.1.2.2.1<=2:=by rw[N.l2];exact v.f
 have hl3:l! c.1.2.2.2<=4:=by rw[N.l3];exact v.t
 have hl4:l! c.2.1<=12:=by rw[N.ce];exact v.c
 have hl5:l! c.2.2.1<=2:=by rw[N.fu];exact v.f
 have hrl:=N.p8.le;unfold vG;rw[<- hlu];rw[<- hlu]at hl hod hfx hu;generalize hn:l! lu=n at hl hod hfx hu ⊢;refine bt (bt (cI (by dsimp only[ak];omega) (cI (dX _) (bg (by dsimp only[ak];omega) (by decide) ?_))));refine bn (l! c.2.2.2.1) (λi y=>y=((i:Int),c,(c.2.2.2.1.take i).foldl (λl z=>cC l z J) (aP n aa),[])) ?_ ?_ rfl
 .rintro i y hi rfl;have hz:=hod _ (bE (T:=aO) (xs:=c.2.2.2.1) (j:=(i:Int)) (by omega) (by omega));have hlen:=(Qq (c.2.2.2.1.take i) (aP n aa) λz hz=>by rw[eL];exact hod z (dF hz)).1;rw[eL]at hlen;refine dx (cG (aQ (aG hz.1 (by rw[hlen];exact hz.2) (aG hz.1 (by rw[hlen];exact hz.2) (aj ?_)))));dsimp only;rw[fd,uh (T:=aO) hi,j8];rfl
 rintro y rfl;rw[mQ (bL _)];have hxl:=aiw n c.2.2.2.1 hod;have hxa:=an9 n c.2.2.2.1 hod;show Ok (aI (fV _ _) _ (aw (iter _ (0,c,exL n c.2.2.2.1,[])) _)) _;generalize exL n c.2.2.2.1=ex at hxl hxa;refine di (av (P:=λr=>r=jH (Mm c.2.2.2.1 lu c.2.2.2.2.1 n++kyB c)) ?_ λr I=>aj I);refine bn n (λi y=>y=((i:Int),c,ex,Mm c.2.2.2.1 lu c.2.2.2.2.1 i)) ?_ ?_ rfl
 .rintro i y hi rfl;have hal:=xF c.2.2.2.1 lu c.2.2.2.2.1 i;refine dx ?_;refine aX (λz=>z=(c,ex,Mm c.2.2.2.1 lu c.2.2.2.2.1 (i+1))) ?_ ?_
  .refine cG (aQ (cG (cG (aQ (aV (xG _ _ (by dsimp only;omega)) (bt (cU rfl (ie ?_))))))));have hui:=hu _ (bE (T:=aO) (xs:=lu) (j:=(i:Int)) (by omega) (by omega));rw[Mm];generalize aK aO lu (i:Int)=u at hui ⊢;have hkl:=xH;dsimp only;rw[hxa i hi];have D:l! (Mm c.2.2.2.1 lu c.2.2.2.2.1 i++Rm (c.2.2.2.1.contains (i:Int)))<=100000:=by rw[aD,hkl];omega
   refine eh (λq=>?_) λq=>?_
   .have hua:=hxa u.toNat (by omega);rw[show ((u.toNat:Nat):Int)=u by omega]at hua;refine aG q (by omega) (aG q (by omega) (aQ ?_));rw[hua];refine cH (λp=>cG (aQ (aV (xG _ _ D) (bt (cU rfl (ie (aj ?_))))))) λp=>aV (xG _ _ D) (bt (cU rfl (ie (aj ?_))))
    .unfold kyU;rw[bK q,p,cr];rfl
    .unfold kyU;rw[bK q,p,cr];rfl
   .have q:u<0:=q;refine aV (xG _ _ D) (bt (cU rfl (ie (aj ?_))));unfold kyU;rw[bT (by omega),cr];rfl
  .rintro z rfl;exact aj (by dsimp only;rw[fd])
 rintro y rfl;have hA:=xF c.2.2.2.1 lu c.2.2.2.2.1 n;unfold kyB;generalize Mm c.2.2.2.1 lu c.2.2.2.2.1 n=A at hA;refine di (av (P:=λr=>r=jH (A++(oq kyL c.1.1++(kb c.1.2.1++(oq Rm c.1.2.2.1++(oq zU c.1.2.2.2++(oq BP c.2.1++oq BP c.2.2.1))))))) ?_ λr I=>aj I);have hL:∀i,i<=l! c.1.1->l! (A++oq kyL (c.1.1.take i))<=1000:=λi hi=>by
  have:l! (oq kyL (c.1.1.take i))<=l! (c.1.1.take i)*96:=tU λx hx=>by
   have h1:=qS x.1;have h2:=qS (l! x.2:Int);have h3:=Tg (l:=x.2) qS;have h4:=hrl x (dF hx);unfold kyL;rw[aD,aD];omega
  rw[bD]at this;rw[aD];omega
 refine bn (l! c.1.1) (λi y=>y=((i:Int),c,A++oq kyL (c.1.1.take i))) ?_ ?_ (by show _=(_,_,A++[]);rw[dG];rfl)
 .rintro i y hi rfl;have hb:=hL i (vq hi);rw[show oq kyL (c.1.1.take (i+1))=oq kyL (c.1.1.take i)++kyL (aK c_ c.1.1 (i:Int)) from Th (T:=c_) hi,<-cr];have hrd:=hrl _ (bE (T:=c_) (xs:=c.1.1) (j:=(i:Int)) (by omega) (by omega));refine dx (cG (aQ ?_));dsimp only;generalize A++oq kyL (c.1.1.take i)=b at hb;show Ok (aw (d9 ((aK c_ c.1.1 (i:Int)).1,b)) _) _;generalize aK c_ c.1.1 (i:Int)=F at hrd ⊢;have k1:=qS F.1;have k2:=qS (l! F.2:Int);refine aV (tR _ _ (by omega)) (bt (cU rfl (ie (aV (tR _ _ (by rw[aD];omega)) (bt (cU rfl (ie ?_)))))));refine bn (l! F.2) (λj y=>y=((j:Int),c,(b++kb F.1++kb (l! F.2:Int))++oq kb (F.2.take j))) ?_ ?_ (by show _=(_,_,_++[]);rw[dG];rfl)
  .rintro j y hj rfl;have k3:=Tg (l:=F.2.take j) qS;rw[bD]at k3;refine dx (cG (aQ (aV (tR _ _ (by simp only[aD];omega)) (bt (cU rfl (ie (aj ?_)))))));dsimp only;rw[fd,show oq kb (F.2.take (j+1))=oq kb (F.2.take j)++kb (aK aO F.2 (j:Int)) from Th (T:=aO) hj,cr]
  .rintro y rfl;refine di (aj ?_);dsimp only;rw[fd,mQ (bL _)];unfold kyL;simp only[cr]
 rintro y rfl;have hb:=hL _ (bL _);rw[mQ (bL _)]at hb;rw[mQ (bL _)];simp only[<- cr];generalize A++oq kyL c.1.1=b at hb;refine di (av (P:=λr=>r=jH (b++kb c.1.2.1++oq Rm c.1.2.2.1++oq zU c.1.2.2.2++oq BP c.2.1++oq BP c.2.2.1)) ?_ λr I=>aj I);have k1:=qS c.1.2.1;refine aV (tR _ _ (by omega)) (bt (cU rfl (ie ?_)));have hb1:l! (b++kb c.1.2.1)<=2000:=by rw[aD];omega
 generalize b++kb c.1.2.1=b at hb1;refine bn (l! c.1.2.2.1) (λi y=>y=((i:Int),c,b++oq Rm (c.1.2.2.1.take i))) ?_ ?_ (by show _=(_,_,b++[]);rw[dG];rfl)
 .rintro i y hi rfl;have k3:=tU (f:=Rm) (b:=2) (l:=c.1.2.2.1.take i) λx _=>by rw[xH];exact bL _
  rw[bD]at k3;refine dx (cG (aQ (aV (xG _ _ (by simp only[aD];omega)) (bt (cU rfl (ie (aj ?_)))))));dsimp only;rw[fd,show oq Rm (c.1.2.2.1.take (i+1))=oq Rm (c.1.2.2.1.take i)++Rm (aK (.bool) c.1.2.2.1 (i:Int)) from Th (T:=.bool) hi,cr]
 rintro y rfl;have k3:=tU (f:=Rm) (b:=2) (l:=c.1.2.2.1) λx _=>by rw[xH];exact bL _
 have D:l! (b++oq Rm c.1.2.2.1)<=3000:=by rw[aD];omega
 rw[mQ (bL _)];generalize b++oq Rm c.1.2.2.1=b at D;refine di (av (P:=λr=>r=jH (b++oq zU c.1.2.2.2++oq BP c.2.1++oq BP c.2.2.1)) ?_ λr I=>aj I);have kT:∀x:p?,l! (zU x)<=34:=λx=>by
  have:=qS x.1;have:=qS x.2.1;have:=xH x.2.2;unfold zU;rw[aD,aD];omega
 refine bn (l! c.1.2.2.2) (λi y=>y=((i:Int),c,b++oq zU (c.1.2.2.2.take i))) ?_ ?_ (by show _=(_,_,b++[]);rw[dG];rfl)
 .rintro i y hi rfl;have k3:=tU (f:=zU) (b:=34) (l:=c.1.2.2.2.take i) λx _=>kT x
  rw[bD]at k3;rw[show oq zU (c.1.2.2.2.take (i+1))=oq zU (c.1.2.2.2.take i)++zU (aK fg c.1.2.2.2 (i:Int)) from Th (T:=fg) hi];refine dx (cG (aQ ?_));dsimp only;have hb3:l! (b++oq zU (c.1.2.2.2.take i))<=4000:=by rw[aD];omega
  rw[<- cr];generalize b++oq zU (c.1.2.2.2.take i)=b at hb3;show Ok (aw (d9 ((aK fg c.1.2.2.2 (i:Int)).1,b)) _) _;generalize aK fg c.1.2.2.2 (i:Int)=th;have k4:=qS th.1;have k5:=qS th.2.1;refine aV (tR _ _ (by omega)) (bt (cU rfl (ie (aV (tR _ _ (by rw[aD];omega)) (bt (cU rfl (ie (aV (xG _ _ (by rw[aD,aD];omega)) (bt (cU rfl (ie (aj ?_))))))))))));dsimp only;rw[fd];unfold zU;simp only[cr]
 rintro y rfl;have k4:=tU (f:=zU) (b:=34) (l:=c.1.2.2.2) λx _=>kT x
 have hb3:l! (b++oq zU c.1.2.2.2)<=4000:=by rw[aD];omega
 rw[mQ (bL _)];generalize b++oq zU c.1.2.2.2=b at hb3;refine di (av (P:=λr=>r=jH (b++oq BP c.2.1++oq BP c.2.2.1)) ?_ λr I=>aj I);have kC:∀x:c!,l! (BP x)<=18:=λx=>by
  have:=qS x.1;have:=xH x.2;unfold BP;rw[aD];omega
 have hkc:∀(cs:Y c!) (b:η),l! cs<=12->l! b<=5000->∀i:Nat,i<l! cs->l! (b++oq BP (cs.take i))<=6000:=λcs b h1 h2 i hi=>by
  have k3:=tU (f:=BP) (b:=18) (l:=cs.take i) λx _=>kC x
  rw[bD]at k3;rw[aD];omega
 have hce:l! (b++oq BP c.2.1)<=5000:=by
  have k3:=tU (f:=BP) (b:=18) (l:=c.2.1) λx _=>kC x
  rw[aD];omega
 refine bn 2 (λi y=>y=((i:Int),if i=0 then b else if i=1 then b++oq BP c.2.1 else b++oq BP c.2.1++oq BP c.2.2.1)) ?_ ?_ rfl
 .rintro i y hi rfl;refine dx (bt (a? (tN (by dsimp only;omega) (aQ ?_))));obtain⟨cs,bb,hcs,hbb,e1,e2,e3⟩:∃(cs:Y c!) (bb:η),l! cs<=12/\l! bb<=5000/\aK ((.sl C3)) [c.2.1,c.2.2.1] (i:Int)=cs/\(if i=0 then b else if i=1 then b++oq BP c.2.1 else b++oq BP c.2.1++oq BP c.2.2.1)=bb/\(if i+1=0 then b else if i+1=1 then b++oq BP c.2.1 else b++oq BP c.2.1++oq BP c.2.2.1)=bb++oq BP cs:=by
   rcases show i=0\/i=1 by omega with rfl|rfl
   .exact⟨c.2.1,b,hl4,by omega,rfl,rfl,rfl⟩
   .exact⟨c.2.2.1,_,by omega,hce,rfl,rfl,rfl⟩
  rw[e3];dsimp only;rw[e2];rw[e1];refine bn (l! cs) (λj y=>y=((j:Int),bb++oq BP (cs.take j))) ?_ ?_ (by show _=(_,_++[]);rw[dG];rfl)
  .rintro j y hj rfl;have hb4:=hkc cs bb hcs hbb j hj;rw[show oq BP (cs.take (j+1))=oq BP (cs.take j)++BP (aK C3 cs (j:Int)) from Th (T:=C3) hj,<-cr];refine dx (cG (aQ ?_));dsimp only;generalize bb++oq BP (cs.take j)=b at hb4;show Ok (aw (d9 ((aK C3 cs (j:Int)).1,b)) _) _;generalize aK C3 cs (j:Int)=z;have k6:=qS z.1;refine aV (tR _ _ (by omega)) (bt (cU rfl (ie (aV (xG _ _ (by rw[aD];omega)) (bt (cU rfl (ie (aj ?_))))))));dsimp only;rw[fd];unfold BP;simp only[cr]
  .rintro y rfl;refine di (aj ?_);dsimp only;rw[fd,mQ (bL _)]
 .rintro y rfl;exact di (aj rfl)
def BO (own:η) (b i:Int) (c:η) (z:Int):η:=if 0<=aZ .i64 (z-b)/\aZ .i64 (z-b)<own.length then cC c (aK aO own (aZ .i64 (z-b))) i else c
def luE (x:WN) (i:Nat) (c:η):η:=(eN x.2.2.2 i).2.2.2.2.2.2.foldl (BO (kG x.2.2.2 (eN x.2.2.2 i).1 i) (aK aO x.2.2.1.2.2.2 (eN x.2.2.2 i).1) (i:Int)) ((eN x.2.2.2 i).2.2.2.2.2.1.foldl (BO (kG x.2.2.2 (eN x.2.2.2 i).1 i) (aK aO x.2.2.1.2.2.2 (eN x.2.2.2 i).1) (i:Int)) c)
def HU (x:WN):Nat->η
 |0=>aP (l! x.2.2.2) (-1)
 |i+1=>luE x i (HU x i)
def Yq (own:η) (b i:Int) (c:η) (z:Int):l! (BO own b i c z)=l! c:=by
 unfold BO;split
 .exact cj ..
 .rfl
def Bd (own:η) (b i:Int):∀(l c:η),l! (l.foldl (BO own b i) c)=l! c
 |[],_=>rfl
 |z::r,c=>by rw[dg,Bd own b i r,Yq]
def DB (x:WN):∀i,l! (HU x i)=l! x.2.2.2
 |0=>eL
 |i+1=>by rw[HU,luE,Bd,Bd,DB x i]
def V_ {i:Int} {m:Int} (hi:i<m):∀(l q:η),(∀z∈q,z<m)->∀z∈l.foldl (BO r a i) q,z<m
 |[],_,h=>h
 |y::own,q,h=>by
  rw[dg];refine V_ hi own _ λz c=>?_
  unfold BO at c;split at c
  .rcases ui c with c|rfl
   .exact h z c
   .exact hi
  .exact h z c
def adr (x:WN):∀i,i<=l! x.2.2.2->∀z∈HU x i,z<(l! x.2.2.2:Int)
 |0,hi=>λz c=>by rw[(List.mem_replicate.1 c).2];omega
 |i+1,hi=>by
  rw[HU,luE];exact V_ (by omega) _ _ (V_ (by omega) _ _ (adr x i (by omega)))
structure RWS (l:List ET) (i T:Nat) (js:η) (R:List η):Prop where
 a:l! js=T
 b:l! R=T
 c:∀t:Nat,t<T->Gk (T:=aO) R (t:Int)=kG l (t:Int) i/\Rn js (t:Int)=l! (kG l (t:Int) i)
def RWS.at {l:Y ET} {R:Y η} (h:RWS l i m r R) (A:0<=a) (z:a<m):Gk (T:=aO) R a=kG l a i/\Rn r a=l! (kG l a i):=by
 have:=h.c a.toNat (by omega)
 rwa [show ((a.toNat:Nat):Int)=a by omega]at this
def RWS.step {l:Y ET} {R:Y η} (h:RWS l i m r R) (I:0<=(eN l i).1) (F:(eN l i).1<m):RWS l (i+1) m (AU r (aS (eN l i).1) (bC (ah (kG l (eN l i).1 i++[(i:Int)])))) (E9 (T:=aO) (E9 (T:=aO) R (eN l i).1 []) (eN l i).1 (kG l (eN l i).1 i++[(i:Int)])):=by
 have D:=h.a;have A:=h.b;refine ⟨by rw[fD];exact D,by unfold E9;rw[fD,fD];exact A,λt ht=>?_⟩;have q:=h.c t ht;unfold Gk Rn at q ⊢;unfold E9;rw[aT,aT]at q ⊢;rw[lL]at q ⊢;rw[j7,j7,j7,kG];by_cases e:(eN l i).1=(t:Int)
 .rw[aR (by omega:(eN l i).1.toNat=t),aR (by rw[fD];omega),aR (by omega:(eN l i).1.toNat=t),aR (show (eN l i).1.toNat<l! r by omega),aR e,e];exact⟨rfl,rfl⟩
 .rw[aE (by omega:¬(eN l i).1.toNat=t),aE (by omega:¬(eN l i).1.toNat=t),aE (by omega:¬(eN l i).1.toNat=t),aE e];exact q
def ahf (n:Nat):∀i,i<n->cC (aP i (-1)++aP (n-i) (0:Int)) (i:Int) (-1)=aP (i+1) (-1)++aP (n-(i+1)) (0:Int):=λi hi=>by
 unfold cC;rw[lL,show n-i=(n-(i+1))+1 by omega,mh,List.set_append_right _ _ (by simp),lA];simp
def Sa (x:WN) (h:oG x):kr x=Z (HU x (l! x.2.2.2)):=by
 refine cF ?_;unfold kr ba bQ b_ da bI dD dP fX ck bS jO BJ bY bz bc cW aF cM;have hl:=h.ln;have ht4:=h.vl.t;have hk:=h.f16.k;generalize hn:l! x.2.2.2=n at hl;generalize hT:l! x.1.2.2.2.2.1=T at ht4 hk;refine bt (bt (cI (by dsimp only[ak];omega) (cI (dX _) (bg (by dsimp only[ak];omega) (by decide) ?_))));have hrl:l! (aP (aS (bC n)) (0:Int))=n:=by simp
 refine bn n (λi y=>y=((i:Int),x,aP i (-1)++aP (n-i) (0:Int))) ?_ ?_ rfl
 .rintro i y hi rfl;have hlen:l! (aP i (-1)++aP (n-i) (0:Int))=n:=by simp;omega
  refine dx (h:=by rw[hrl];dsimp only[ak];omega) (aG (by dsimp only;omega) (by rw[hlen];dsimp only;omega) (aG (by dsimp only;omega) (by rw[hlen];dsimp only;omega) (aj ?_)));dsimp only;rw[fd,ahf n i hi]
 rintro y rfl;refine di (h:=by rw[hrl];exact dX _) (av (P:=λr=>r=HU x n) ?_ λr I=>aj I);rw[Ix,List.replicate_zero,dG];refine bt (bt (cI (by dsimp only[ak];omega) (cI (dX _) (bg (by dsimp only[ak];rw[hT];omega) (by decide) ?_))));refine bn n (λi y=>∃c R,y=((i:Int),x,HU x i,c,R)/\RWS x.2.2.2 i T c R) ?_ ?_ ⟨aP T 0,aP T [],by rw[HU,hn,<-hT];rfl,?_⟩
 .rintro i y hi ⟨c,R,rfl,hR⟩;have N:i<l! x.2.2.2:=by omega
  have hev:=h.ev N;have hen:=h.eni N;have t0:=hen.t0;have t1:=hen.t1;rw[hT]at t1;have hlu:=DB x i;rw[hn]at hlu;have hja:=hR.a;have hjb:=hR.b;let⟨c1,c2⟩:=hR.at t0 t1;refine dx (aX (λz=>∃c R,z=(x,HU x (i+1),c,R)/\RWS x.2.2.2 (i+1) T c R) ?_ ?_)
  .refine cG (aQ ?_);refine aX (λz=>z=(aa,x,HU x i,c,eN x.2.2.2 i,R)) ?_ ?_
   .refine aY (λq=>bO q (yo.2 t0)) λ_=>eh (λq=>?_) λ_=>aj ?_
    .have q:(l! c:Int)<=(eN x.2.2.2 i).1:=q;exact bO q (by omega)
    .have:¬(l! x.2.2.1.2.2.2:Int)<=(eN x.2.2.2 i).1:=by omega
     dsimp only[ak];rw[je.2 (by show (eN x.2.2.2 i).1<_;omega)]
   rintro z rfl;refine jQ rfl ?_;have hst:=hR.step t0 t1;rw[HU,luE];have hcb:(eN x.2.2.2 i).1<l! x.2.2.1.2.2.2:=by omega
   have hom:∀k:Int,0<=k->k<l! (kG x.2.2.2 (eN x.2.2.2 i).1 i)->0<=aK aO (kG x.2.2.2 (eN x.2.2.2 i).1 i) k/\aK aO (kG x.2.2.2 (eN x.2.2.2 i).1 i) k<i:=λk k0 k1=>wy (bE (T:=aO) k0 k1)
   have hol:=Ju x.2.2.2 (eN x.2.2.2 i).1 i;generalize kG x.2.2.2 (eN x.2.2.2 i).1 i=own at c1 c2 hom hst hol ⊢;generalize hbb:aK aO x.2.2.1.2.2.2 (eN x.2.2.2 i).1=A;generalize HU x i=D at hlu;generalize eN x.2.2.2 i=e at hev hst t0 t1 hcb hbb c1 c2 ⊢;have hit:bC (aS (Rn c e.1))=(own.length:Int):=by rw[c2];simp
   have hit2:aS (Rn c e.1)=own.length:=by rw[c2];simp
   refine bn 2 (λa y=>y=((a:Int),x,(if a=0 then D else if a=1 then e.2.2.2.2.2.1.foldl (BO own A (i:Int)) D else e.2.2.2.2.2.2.foldl (BO own A (i:Int)) (e.2.2.2.2.2.1.foldl (BO own A (i:Int)) D)),c,e,R)) ?_ ?_ rfl
   .rintro a y ha rfl;refine dx (bt (a? (tN (by dsimp only;omega) (aQ ?_))));obtain⟨ns,F,hns,hu0,e1,e2,e3⟩:∃(ns F:η),l! ns<=1000000/\l! F=n/\aK ((.sl aO)) [e.2.2.2.2.2.1,e.2.2.2.2.2.2] (a:Int)=ns/\(if a=0 then D else if a=1 then e.2.2.2.2.2.1.foldl (BO own A (i:Int)) D else e.2.2.2.2.2.2.foldl (BO own A (i:Int)) (e.2.2.2.2.2.1.foldl (BO own A (i:Int)) D))=F/\(if a+1=0 then D else if a+1=1 then e.2.2.2.2.2.1.foldl (BO own A (i:Int)) D else e.2.2.2.2.2.2.foldl (BO own A (i:Int)) (e.2.2.2.2.2.1.foldl (BO own A (i:Int)) D))=ns.foldl (BO own A (i:Int)) F:=by
     rcases show a=0\/a=1 by omega with rfl|rfl
     .exact⟨e.2.2.2.2.2.1,D,hev.1,hlu,rfl,rfl,rfl⟩
     .exact⟨e.2.2.2.2.2.2,e.2.2.2.2.2.1.foldl (BO own A (i:Int)) D,hev.2,by rw[Bd];exact hlu,rfl,rfl,rfl⟩
    rw[e3];dsimp only;rw[e2,e1];refine bn (l! ns) (λj y=>y=((j:Int),x,(ns.take j).foldl (BO own A (i:Int)) F,c,e,R)) ?_ ?_ rfl
    .rintro j y hj rfl;refine dx ?_;have hul:l! ((ns.take j).foldl (BO own A (i:Int)) F)=n:=by rw[Bd];exact hu0
     rw[uh (T:=aO) hj,j8];generalize (ns.take j).foldl (BO own A (i:Int)) F=uj at hul ⊢;refine aX (λz=>z=(x,BO own A (i:Int) uj (aK aO ns (j:Int)),c,e,R)) ?_ ?_
     .refine cG (aQ (aG t0 hcb (aQ ?_)));dsimp only;rw[hbb];unfold BO;generalize aZ .i64 (aK aO ns (j:Int)-A)=k;refine aX (λz=>z=(decide (0<=k/\k<own.length),x,uj,c,e,R)) ?_ ?_
      .refine eh (λq=>aG t0 (by omega) (aG t0 (by omega) (aj ?_))) λq=>aj ?_
       .dsimp only;rw[hit];by_cases q2:k<(own.length:Int)
        .rw[oc.2 q2,bK ⟨q,q2⟩]
        .rw[nG.2 (by omega),bT (by omega)]
       .have q:k<0:=q;rw[bT (by omega)]
      rintro z rfl;refine aL (λq=>?_) λq=>aj (by rw[aE q])
      rw[aR q];have I:=hom k q.1 q.2;refine aG t0 (by dsimp only;omega) (aG t0 (by dsimp only;omega) ?_);dsimp only;rw[hit2];refine aG q.1 q.2 (aG t0 (by omega) ?_);rw[c1];refine aG q.1 q.2 (aQ (aG I.1 (by rw[hul];exact Int.lt_trans I.2 (by omega)) (aG I.1 (by rw[hul];exact Int.lt_trans I.2 (by omega)) (aj rfl))))
     rintro z rfl;exact aj (by dsimp only;rw[fd];rfl)
    .rintro y rfl;refine di (aj ?_);dsimp only;rw[fd,mQ (bL _)]
   .rintro y rfl;refine di (av (P:=λz:((Int×WN×η×η×Y η)⊕η)⊕(WN×η×η×Y η)=>∃c R,z=bV (x,e.2.2.2.2.2.2.foldl (BO own A (i:Int)) (e.2.2.2.2.2.1.foldl (BO own A (i:Int)) D),c,R)/\RWS x.2.2.2 (i+1) T c R) ?_ λz hz=>aj ?_)
    .refine aG t0 (by dsimp only;omega) (aG t0 (by dsimp only;omega) (aG t0 (by dsimp only;omega) ?_));dsimp only;rw[c1,hit2];refine bt (cU rfl (bg (by rw[aJ];omega) (by decide) (aG t0 (by omega) (aG t0 (by omega) (aj ⟨_,_,rfl,hst⟩)))))
    .obtain⟨js',R',rfl,hh⟩:=hz;exact⟨js',R',rfl,hh⟩
  .rintro z ⟨js',R',rfl,hR'⟩;exact aj ⟨js',R',by dsimp only;rw[fd],hR'⟩
 .rintro y ⟨c,R,rfl,hR⟩;exact di (aj rfl)
 .refine ⟨by simp,by simp,λt ht=>?_⟩;unfold Gk Rn;rw[aT,aT,lL,yS,yS];simp[ht,kG]
def ado (k j:ζ) (v:Bool):∀m:Y x!,tw (K:=.str) (V:=.bool) j (zQ (K:=.str) (V:=.bool) k v m)=if j=k then Z v else tw (K:=.str) (V:=.bool) j m
 |[]=>by
  show (if decide (j=k)=J then Z v else U)=_;by_cases h:j=k<;>simp[h,tw]
 |(a,b)::r=>by
  have c:=ado k j v r;show tw (K:=.str) (V:=.bool) j (if decide (k=a)=J then (k,v)::r else (a,b)::zQ (K:=.str) (V:=.bool) k v r)=if j=k then Z v else if decide (j=a)=J then Z b else tw (K:=.str) (V:=.bool) j r
  by_cases h:k=a
  .subst h;rw[aR (bK rfl)];show (if decide (j=k)=J then Z v else tw (K:=.str) (V:=.bool) j r)=_;by_cases g:j=k<;>simp[g]
  .rw[aE (by simpa using h)];show (if decide (j=a)=J then Z b else tw (K:=.str) (V:=.bool) j (zQ (K:=.str) (V:=.bool) k v r))=_;rw[c];by_cases g:j=a
   .subst g;rw[aR (bK rfl),aE λq=>h q.symm,aR (bK rfl)]
   .simp only[g,decide_false,cg,eV]
def AL (l:Y ζ) (m:Y x!):Prop:=∀s,yr (K:=.str) (V:=.bool) s m aa=decide (s∈l)
def AL.nil:AL [] []:=λs=>by simp[yr,tw]
def AL.snoc {l:Y ζ} {m:Y x!} (h:AL l m) (x:ζ):AL (l++[x]) (zQ (K:=.str) (V:=.bool) x J m):=λs=>by
 have:=h s;unfold yr at this ⊢;rw[ado];by_cases e:s=x
 .subst e;simp
 .rw[aE e,this];simp[e]
abbrev QC:Type:=CF×Y ν
def NS (c:CF->ζ) (g:wc) (nx:Y QC) (d:QC):Y QC:=if msB d.1 g=J then nx else if c d.1∈nx.map (λq=>c q.1) then nx else nx++[d]
def ahl (c:CF->ζ) (g:wc) (nx:Y QC) (d:QC):l! (NS c g nx d)<=l! nx+1:=by
 unfold NS;split
 .omega
 .split
  .omega
  .rw[aD];exact bL _
def ahk {c:CF->ζ} {g:wc} {nx:Y QC} {d q:QC} (h:q∈NS c g nx d):q∈nx\/q=d:=by
 unfold NS at h;split at h
 .exact .inl h
 .split at h
  .exact .inl h
  .rcases bF.1 h with h|h
   .exact .inl h
   .rw[aA]at h;exact .inr h
def ahe {k:M R} {Q:R->Prop} (h:i<=4294967296) (c:Ok k Q):Ok (chk (bl i 224) λ_=>k) Q:=bu (by
 unfold bl;rw[al];rw[Nat.ble_eq,Nat.ble_eq];exact⟨by omega,by omega⟩) c
def agi (x:WN) (h:oG x) (g:wc) (F:GV x.1 (l! x.2.2.2) (aK fP x.2.2.2) (aK oH (yV x (l! x.2.2.2))) g) (lu:η) (hlu:l! lu=l! x.2.2.2) (N:∀z∈lu,z<(l! x.2.2.2:Int)) (c:CF) (I:CI x c) (p:Y ν) (hp:l! p<=100) (t u:Int) (he:MZ x c t=J) (res:Y ν) (nx:Y QC) (m:Y x!) (hnx:l! nx+1<=4294967296) (hm:AL (nx.map λq=>vG (l! x.2.2.2) q.1 lu) m):
 Ok (mY (((c,p),t,u),x,g,res,lu,m,nx)) λy=>(RU x (JG x c t u) g=J->y.1=J/\y.2.2.2.1=p++[(t,u)])/\(RU x (JG x c t u) g=aa->∃m',y=(aa,x,g,res,lu,m',NS (λd=>vG (l! x.2.2.2) d lu) g nx (JG x c t u,p++[(t,u)]))/\AL ((NS (λd=>vG (l! x.2.2.2) d lu) g nx (JG x c t u,p++[(t,u)])).map λq=>vG (l! x.2.2.2) q.1 lu) m'):=by
 unfold mY ba bQ b_ da ia fX tI bY bc aF;have hd:=NZ h I u he;refine aV (ao4 x h c I t u) ?_;rw[aR he];generalize JG x c t u=d at hd;refine jQ rfl ?_;refine aX (λz=>z=(p++[(t,u)],x,g,res,lu,m,d,nx)) ?_ ?_
 .have ht:ca (aS (bC (l! p))) p=p:=dC;refine bt (bt (IL rfl (cI (by dsimp only[ak];omega) (cI (dX _) ?_))));dsimp only;rw[ht];exact bg (by rw[aJ];omega) (by decide) (jQ rfl (aj rfl))
 rintro z rfl;refine aV (Zq x h d hd g F) (aM (λq=>aj ⟨λ_=>⟨rfl,rfl⟩,λA=>?_⟩) λq=>?_)
 .exact bO (q.symm.trans A) (by decide)
 have q:RU x d g=aa:=q;refine aV (adn x h d hd g F.ns) (aM (λA=>aj ⟨λq3=>bO (q.symm.trans q3) (by decide),λ_=>⟨m,?_,?_⟩⟩) λA=>?_)
 .unfold NS;rw[aR A]
 .unfold NS;rw[aR A];exact hm
 have A:msB d g=aa:=A;refine aX (λz=>∃m',z=(x,g,res,lu,m',NS (λd=>vG (l! x.2.2.2) d lu) g nx (d,p++[(t,u)]))/\AL ((NS (λd=>vG (l! x.2.2.2) d lu) g nx (d,p++[(t,u)])).map λq=>vG (l! x.2.2.2) q.1 lu) m') ?_ ?_
 .refine aV (aql x h d hd lu hlu N) ?_;have hmk:=hm (vG (l! x.2.2.2) d lu);unfold NS;rw[aE (by rw[A];decide)];refine cH (λo=>?_) λo=>aj ⟨m,?_,?_⟩
  .have hin:¬vG (l! x.2.2.2) d lu∈nx.map λq=>vG (l! x.2.2.2) q.1 lu:=Ct (hmk.symm.trans o)
   rw[aE hin];refine ahe (by rw[aJ];exact hnx) (aj ⟨_,rfl,?_⟩);rw[cf];exact hm.snoc _
  .have hin:vG (l! x.2.2.2) d lu∈nx.map λq=>vG (l! x.2.2.2) q.1 lu:=bJ (hmk.symm.trans o)
   rw[aR hin]
  .have hin:vG (l! x.2.2.2) d lu∈nx.map λq=>vG (l! x.2.2.2) q.1 lu:=bJ (hmk.symm.trans o)
   rw[aR hin];exact hm
 rintro z ⟨m',rfl,D⟩;exact aj ⟨λq3=>bO (q.symm.trans q3) (by decide),λ_=>⟨m',rfl,D⟩⟩
def cdC (x:WN) (q:QC):Y QC:=(I1 x q.1 (l! x.1.2.2.2.2.1)).map λc=>(JG x q.1 c.1 c.2,q.2++[c])
def Io (x:WN):Y QC->Y QC
 |[]=>[]
 |q::r=>cdC x q++Io x r
def EJ (x:WN):∀l m:Y QC,Io x (l++m)=Io x l++Io x m
 |[],m=>rfl
 |q::r,m=>by rw[fG,Io,Io,EJ x r m,cr]
def nxL (x:WN) (g:wc) (lu:η) (L:Y QC):Y QC:=(Io x L).foldl (NS (λd=>vG (l! x.2.2.2) d lu) g) []
def fnd (x:WN) (g:wc) (lu:η):Nat->Y QC->Prop
 |0,_=>False
 |k+1,L=>(∃d∈Io x L,RU x d.1 g=J)\/fnd x g lu k (nxL x g lu L)
def Qn (x:WN) (g:wc) (lu:η):∀k,¬fnd x g lu k []
 |0=>id
 |k+1=>λh=>by
  rcases h with ⟨d,h,_⟩|h
  .cases h
  .exact Qn x g lu k h
def I0 {x:WN} {c:CF} {z:ν}:∀{n:Nat},z∈I1 x c n->MZ x c z.1=J
 |0,h=>by cases h
 |n+1,h=>by
  rw[I1]at h;rcases bF.1 h with h|h
  .exact I0 h
  .unfold chT at h;split at h
   .rename_i he;unfold chE at h;split at h
    .rw[aA]at h;subst h;exact he
    .obtain⟨j,_,rfl⟩:=bR.1 h;exact he
   .cases h
def afa {x:WN} (h:oG x) {c:CF} (q:CI x c):l! (I1 x c (l! x.1.2.2.2.2.1))<=16:=by
 have ht:=h.vl.t;have A:=q.l3;have aux:∀n,l! (I1 x c n)<=n*4:=λn=>by
  induction n with
  |zero=>exact eQ _
  |succ n z=>
   rw[I1,aD,pe];have:l! (chT x c (n:Int))<=4:=by
    unfold chT;split
    .unfold chE;split
     .simp
     .rw[bN];exact cA (Iz ..) (by omega)
    .exact eQ _
   omega
 have:=aux (l! x.1.2.2.2.2.1);omega
structure LV (x:WN) (k:Nat) (L:List QC):Prop where
 n:l! L<=16^k
 a:∀q∈L,CI x q.1/\l! q.1.2.2.2.1=k/\l! q.2=k
def LV.le {x:WN} {L:Y QC} (h:LV x i L) (c:l! x.2.2.2<i):L=[]:=by
 cases L with
 |nil=>rfl
 |cons q r=>
  have:=h.a q (cS ..);have:=this.1.ln;omega
def aji {x:WN} (h:oG x) {q d:QC} (c:CI x q.1) (hd:d∈cdC x q):CI x d.1/\l! d.1.2.2.2.1=l! q.1.2.2.2.1+1/\l! d.2=l! q.2+1:=by
 obtain⟨z,h1,rfl⟩:=bR.1 hd;refine ⟨NZ h c _ (I0 h1),?_,?_⟩
 .dsimp only;rw[JF,aD];rfl
 .rw[aD];rfl
def Y9 {x:WN} {d:QC}:∀{L:Y QC},d∈Io x L->∃q∈L,d∈cdC x q
 |[],h=>by cases h
 |q::r,h=>by
  rw[Io]at h;rcases bF.1 h with h|h
  .exact⟨q,cS ..,h⟩
  .obtain⟨c,h1,z⟩:=Y9 h;exact⟨c,cq _ h1,z⟩
def Ye {c:CF->ζ} {g:wc}:∀{l nx:Y QC} {q:QC},q∈l.foldl (NS c g) nx->q∈nx\/q∈l
 |[],nx,q,h=>.inl h
 |d::r,nx,q,h=>by
  rw[dg]at h;rcases Ye h with h|h
  .rcases ahk h with h|rfl
   .exact .inl h
   .exact .inr (cS ..)
  .exact .inr (cq _ h)
def Pq (c:CF->ζ) (g:wc):∀(l nx:Y QC),l! (l.foldl (NS c g) nx)<=l! nx+l! l
 |[],nx=>bL _
 |d::r,nx=>by
  rw[dg,bX];have h1:=Pq c g r (NS c g nx d);have q:=ahl c g nx d;omega
def Q5 {x:WN} (h:oG x):∀{L:Y QC},(∀q∈L,CI x q.1)->l! (Io x L)<=l! L*16
 |[],_=>eQ _
 |q::r,hL=>by
  have h1:=Q5 h (L:=r) λq c=>hL q (cq _ c)
  have A:=afa h (hL q (cS ..));have z:l! (cdC x q)=l! (I1 x q.1 (l! x.1.2.2.2.2.1)):=bN ..;rw[Io,aD,bX,pe];omega
def LV.next {x:WN} (h:oG x) {L:Y QC} (hL:LV x i L) (g:wc) (lu:η):LV x (i+1) (nxL x g lu L):=by
 refine ⟨?_,λq c=>?_⟩
 .have h1:=Pq (λd=>vG (l! x.2.2.2) d lu) g (Io x L) [];have z:=Q5 h λq c=>(hL.a q c).1
  have D:=hL.n;rw[Nat.pow_succ];show (l! (nxL x g lu L))<=_;unfold nxL;have I:=co 16 D;simp only[em]at h1;omega
 .rcases Ye c with c|c
  .cases c
  .obtain⟨A,h1,z⟩:=Y9 c;let⟨F,a2,a3⟩:=hL.a A h1;let⟨b1,b2,N⟩:=aji h F z;exact⟨b1,by omega,by omega⟩
def agj (x:WN) (h:oG x) (g:wc):Ok (ku (x,g)) λy=>(l! y.1<=l! x.2.2.2)/\(y.2=J↔GV x.1 (l! x.2.2.2) (aK fP x.2.2.2) (aK oH (yV x (l! x.2.2.2))) g/\(RU x (Vx x) g=J\/fnd x g (HU x (l! x.2.2.2)) (l! x.2.2.2+1) [(Vx x,[])])):=by
 unfold ku ba bQ b_ da ia tJ bI dD dP fX AR bS bY bz kQ bc cW aF cM;refine av (Vh x h g) λb hb=>cH (λq=>aj ⟨eQ _,gI λa=>?_⟩) λq=>?_
 .rw[hb.2 a.1]at q;cases q
 have N:=hb.1 q;refine aV (Sa x h) (aV (ak0 x h) (aV (Zq x h _ (Jg h) g N) (aM (λq=>aj ⟨eQ _,λ_=>⟨N,.inl q⟩,λ_=>rfl⟩) λq=>?_)));have q0:RU x (Vx x) g=aa:=q;have hlu:=DB x (l! x.2.2.2);have hult:=adr x (l! x.2.2.2) (bL _);generalize HU x (l! x.2.2.2)=lu at hlu hult;have hln:=h.ln;suffices hmain:Ok _ λy:Y ν×Bool=>l! y.1<=l! x.2.2.2/\(y.2=J↔fnd x g lu (l! x.2.2.2+1) [(Vx x,[])]) from hmain.mono λy F=>⟨F.1,F.2.trans ⟨λa=>⟨N,.inr a⟩,λa=>a.2.resolve_left (by rw[q0];decide)⟩⟩
 refine bn (l! x.2.2.2+1) (λk y=>∃fl L,y=(x,g,lu,fl,L)/\LV x k L/\(fnd x g lu (l! x.2.2.2+1) [(Vx x,[])]↔fnd x g lu (l! x.2.2.2+1-k) L)) ?_ ?_ ⟨aa,_,rfl,⟨by simp,λq D=>by rw[aA]at D;subst D;exact⟨Jg h,rfl,rfl⟩⟩,Iff.rfl⟩
 .rintro k y hk ⟨fl,L,rfl,hL,hf⟩;have hLn:=hL.n;have h16:(16:Nat)^k<=16^8:=Nat.pow_le_pow_right (by decide) (by omega);rw[show (16:Nat)^8=4294967296 by decide]at h16;have hk1:l! x.2.2.2+1-k=(l! x.2.2.2-k)+1:=by omega
  rw[hk1]at hf;refine aY (λhpos=>?_) λhpos=>aj ?_
  .refine bn (l! L) (λi y=>∃res m nx,y=((i:Int),x,g,lu,res,(fl,L),nx,m)/\nx=(Io x (L.take i)).foldl (NS (λd=>vG (l! x.2.2.2) d lu) g) []/\AL (nx.map λq=>vG (l! x.2.2.2) q.1 lu) m/\∀d∈Io x (L.take i),RU x d.1 g=aa) ?_ ?_ ⟨[],[],[],rfl,rfl,AL.nil,λd hd=>by cases hd⟩
   .rintro i y hi ⟨res,m,nx,rfl,hnx,hm,hno⟩;obtain⟨q,D,hqm⟩:∃q,aK VG L (i:Int)=q/\L.take (i+1)=L.take i++[q]:=⟨_,rfl,uh (T:=VG) hi⟩
    have hqL:q∈L:=by rw[<- D];exact bE (T:=VG) (by omega) (by omega)
    obtain⟨I,ho,hp⟩:=hL.a q hqL;refine dx (cG (cG (aQ ?_)));dsimp only;rw[D];refine aV (aao x h q.1 I) ?_;have hcd:Io x (L.take (i+1))=Io x (L.take i)++cdC x q:=by rw[hqm,EJ,Io,Io,dG]
    have hch:=afa h I;have hmem:∀z∈I1 x q.1 (l! x.1.2.2.2.2.1),MZ x q.1 z.1=J:=λz hz=>I0 hz
    have hcl:l! (Io x (L.take i))<=i*16:=by
     have:=Q5 h (L:=L.take i) λq D=>(hL.a q (dF D)).1
     rw[bD]at this;exact cA this (co 16 (by omega))
    unfold cdC at hcd;generalize I1 x q.1 (l! x.1.2.2.2.2.1)=cs at hcd hch hmem;refine bn (l! cs) (λj y=>∃res m nx,y=((j:Int),x,g,lu,res,q,(fl,L),nx,m)/\nx=(Io x (L.take i)++(cs.take j).map λA=>(JG x q.1 A.1 A.2,q.2++[A])).foldl (NS (λd=>vG (l! x.2.2.2) d lu) g) []/\AL (nx.map λq=>vG (l! x.2.2.2) q.1 lu) m/\∀d∈Io x (L.take i)++(cs.take j).map (λA=>((JG x q.1 A.1 A.2,q.2++[A]):QC)),RU x d.1 g=aa) ?_ ?_ ⟨res,m,nx,rfl,by rw[List.take_zero,kV,dG];exact hnx,hm,by rw[List.take_zero,kV,dG];exact hno⟩
    .rintro j y hj ⟨res,m,nx,rfl,hnx,hm,hno⟩;obtain⟨A,hch1,hchm⟩:∃A:ν,aK gZ cs (j:Int)=A/\cs.take (j+1)=cs.take j++[A]:=⟨_,rfl,uh (T:=gZ) hj⟩
     have hchc:A∈cs:=by rw[<- hch1];exact bE (T:=gZ) (by omega) (by omega)
     have hen:=hmem A hchc;have hkn:k<8:=by
      have:=(NZ h I A.2 hen).ln;rw[JF,aD,ho]at this;simp only[aJ]at this;omega
     have hiL:i<16^7:=by
      have:(16:Nat)^k<=16^7:=Nat.pow_le_pow_right (by decide) (by omega);omega
     rw[show (16:Nat)^7=268435456 by decide]at hiL;have hnl:l! nx+1<=4294967296:=by
      have:=Pq (λd=>vG (l! x.2.2.2) d lu) g (Io x (L.take i)++(cs.take j).map λA=>(JG x q.1 A.1 A.2,q.2++[A])) [];rw[<- hnx,aD,bN,bD]at this;simp only[em]at this;omega
     refine dx (cG (aQ ?_));dsimp only;rw[hch1];obtain⟨t,u⟩:=A;obtain⟨c,p⟩:=q;refine av (agi x h g N lu hlu hult c I p (by dsimp only at hp;omega) t u hen res nx m hnl hm) λy F=>bt (cU rfl (ie ?_))
     cases hrc:RU x (JG x c t u) g with
     |true=>
      obtain⟨y1,y2⟩:=F.1 hrc;refine aM (λ_=>aj ⟨?_,?_⟩) λa=>bO (y1.symm.trans a) (by decide)
      .dsimp only;rw[y2,aD,aJ];have:=(NZ h I u hen).ln;rw[JF,aD,aJ]at this;dsimp only at hp ho this ⊢;omega
      .refine ⟨λ_=>hf.2 (.inl ⟨(JG x c t u,p++[(t,u)]),?_,hrc⟩),λ_=>rfl⟩;have:L=L.take i++([(c,p)]++L.drop (i+1)):=by rw[<- cr,<-hqm,List.take_append_drop]
       rw[this,EJ,EJ,bF,bF];refine .inr (.inl ?_);rw[hqm,EJ]at hcd;rw[List.append_cancel_left hcd];exact bR.2 ⟨(t,u),hchc,rfl⟩
     |false=>
      obtain⟨m',y2,hm'⟩:=F.2 hrc;rw[y2];refine jQ rfl (aj ⟨res,m',_,?_,?_,hm',?_⟩)
      .dsimp only;rw[fd]
      .rw[hchm,cf,<-cr,j8,<-hnx];rfl
      .rw[hchm,cf,<-cr];intro d hd;rcases bF.1 hd with hd|hd
       .exact hno d hd
       .rw[b5,kV,aA]at hd;subst hd;exact hrc
    .rintro y ⟨res,m,nx,rfl,hnx,hm,hno⟩;rw[mQ (bL _),<-hcd]at hnx hno;refine di (aj ⟨res,m,nx,?_,hnx,hm,hno⟩);dsimp only;rw[fd]
   .rintro y ⟨res,m,nx,rfl,hnx,hm,hno⟩;rw[mQ (bL _)]at hnx hno;refine di (aj ⟨J,nx,rfl,?_,?_⟩)
    .have:nx=nxL x g lu L:=hnx;rw[this];exact hL.next h g lu
    .have:nx=nxL x g lu L:=hnx;rw[this,show (l! x.2.2.2)+1-(k+1)=l! x.2.2.2-k by omega];rw[hf];exact⟨λa=>a.resolve_left λ⟨d,h1,h2⟩=>bO ((hno d h1).symm.trans h2) (by decide),.inr⟩
  .have hpos:(l! L:Int)<=0:=hpos;have:L=[]:=List.eq_nil_of_length_eq_zero (by omega);subst this;exact⟨eQ _,gI λa=>Qn x g lu _ (hf.1 a)⟩
 .rintro y ⟨fl,L,rfl,hL,hf⟩;have:L=[]:=hL.le (by omega);subst this;exact di (h:=dX _) (aj ⟨eQ _,gI λa=>Qn x g lu _ (hf.1 a)⟩)
section
def uN (l m:Y T.den) (h0:0<=a) (h:a<ah l):aK _ (l++m) a=aK _ l a:=by
 unfold aK;rw[aT,aT];congr 1;exact cE (by omega)
def S8 (l:Y T.den) (z:T.den):aK _ (l++[z]) (ah l:Int)=z:=by
 unfold aK;rw[aT];show ((l++[z])[l! l]?).getD _=z;rw[cw (bL _),Ix];rfl
def zI (l m:Y R) (v:R) (h0:0<=a) (h:a<l! l):cC (l++m) a v=cC l a v++m:=by
 unfold cC;exact List.set_append_left _ _ (by omega)
def anc (l:Y ET) (e:ET) (h:i<l! l):eN (l++[e]) i=eN l i:=uN (T:=fP) l [e] (by omega) (by omega)
def anb (l:Y ET) (e:ET):eN (l++[e]) (l! l)=e:=S8 (T:=fP) l e
structure XX (x x':WN) (e:ET):Prop where
 a:x'.1=x.1
 s:x'.2.2.1=x.2.2.1
 l:x'.2.2.2=x.2.2.2++[e]
 o:oG x
 o':oG x'
 n:∀k,k<l! x.2.2.2->¬(eN x.2.2.2 k).1=e.1
def uf (c:CF):CF:=(c.1,c.2.1,c.2.2.1,c.2.2.2.1,c.2.2.2.2.1++[aa],c.2.2.2.2.2++[0])
variable {x x':WN} {e:ET}
def XX.len (h:XX x x' e):l! x'.2.2.2=l! x.2.2.2+1:=by rw[h.l,aD];rfl
def XX.at (h:XX x x' e) {k:Int} (h0:0<=k) (c:k<l! x.2.2.2):aK fP x'.2.2.2 k=aK fP x.2.2.2 k:=by rw[h.l];exact uN (T:=fP) _ _ h0 c
def XX.eN (h:XX x x' e) (c:i<l! x.2.2.2):eN x'.2.2.2 i=AI.eN x.2.2.2 i:=h.at (by omega) (by omega)
def XX.eNn (h:XX x x' e):AI.eN x'.2.2.2 (l! x.2.2.2)=e:=by rw[h.l];exact anb ..
def XX.nx (h:XX x x' e) (c:η) (ht:¬a=e.1):IN x' c a=IN x c a:=by
 unfold IN;rw[h.a,h.len];split
 .rfl
 .rw[aiv (by unfold nxp;rw[h.eNn,bT (λq=>ht q.symm)];rfl)];exact Oc λj z=>by unfold nxp;rw[h.eN z]
def XX.nxe (h:XX x x' e) (c:η):IN x c e.1= -1:=by
 unfold IN;split
 .rfl
 .exact WO λj q=>by unfold nxp;rw[bT (h.n j q)];rfl
def Pt {l m:Y ET} :∀{n:Nat},(∀k,k<n->eN m k=eN l k)->kG m a n=kG l a n
 |0,_=>rfl
 |n+1,h=>by rw[kG,kG,h n (ib n),Pt λk c=>h k (by omega)]
def XX.own (h:XX x x' e) (ht:¬a=e.1):kG x'.2.2.2 a (l! x'.2.2.2)=kG x.2.2.2 a (l! x.2.2.2):=by
 rw[h.len,kG,h.eNn,aE (λq=>ht q.symm)];exact Pt λk c=>h.eN c
def aim {fx:θ} (c:∀j:Int,0<=j->j<r.length->0<=aK aO r j/\aK aO r j<(l! fx:Int)):fxK r (fx++[aa]) a=fxK r fx a:=by
 unfold fxK;by_cases q:0<=a/\a<(r.length:Int)
 .obtain⟨h0,h1⟩:=c a q.1 q.2;rw[uN (T:=.bool) fx [aa] h0 h1,bK (p:=0<=a/\a<r.length/\aK aO r a<l! fx) ⟨q.1,q.2,h1⟩,bK (p:=0<=a/\a<r.length/\aK aO r a<l! (fx++[aa])) ⟨q.1,q.2,Int.lt_of_lt_of_le h1 (by rw[aD,aJ];exact Int.ofNat_le.2 (yR _))⟩]
 .rw[bT (λg=>q ⟨g.1,g.2.1⟩),bT (λg=>q ⟨g.1,g.2.1⟩)];rfl
def XX.fx (h:XX x x' e) {fx:θ} (hf:l! fx=l! x.2.2.2) (ht:¬a=e.1) (ns:η):fxN x' (fx++[aa]) a ns=fxN x fx a ns:=by
 unfold fxN;rw[h.own ht,h.a,h.s];congr 3;funext n;unfold fxQ;rw[aim λj q c=>?_];have:=wy (bE (T:=aO) (xs:=kG x.2.2.2 a (l! x.2.2.2)) q c);rw[hf];exact this
def enP (x:WN) (c:CF) (t:Int):Bool:=if IN x c.2.2.2.1 t<0 then aa else ((fH (x.1,c.1,t,(aK fP x.2.2.2 (IN x c.2.2.2.1 t)).2.1,(aK fP x.2.2.2 (IN x c.2.2.2.1 t)).2.2.1)).getD aa&&fxN x c.2.2.2.2.1 t (aK fP x.2.2.2 (IN x c.2.2.2.1 t)).2.2.2.2.2.1)
def aey (h:oG x) {c:CF} (A:CI x c) (t:Int):MZ x c t=enP x c t:=by
 suffices F:fF (x,c,t)=Z (enP x c t) by unfold MZ;rw[F];rfl
 refine cF ?_;unfold fF enP ba da bI bS bz aF;have hl:=h.ln;have ho:=A.ln;refine aV (L9 x c t (by omega) (by omega)) ?_;rcases V7 x c.2.2.2.1 t with e|⟨ht,k,I,e,e1,e2⟩
 .rw[e];exact aY (λ_=>aj rfl) λh=>bO h (by decide)
 rw[e];refine aY (λh=>bO h (by omega)) λ_=>cG (aQ ?_)
 rw[aE (by omega)];have hev:=h.ev I;let⟨b,N,_⟩:=HL x.1 c.1 (A.sb h.vl) (by decide) (by have:=h.vl.d;omega) t (eN x.2.2.2 k).2.1 (eN x.2.2.2 k).2.2.1;show Ok _ (·=((fH (x.1,c.1,t,(eN x.2.2.2 k).2.1,(eN x.2.2.2 k).2.2.1)).getD aa&&fxN x c.2.2.2.2.1 t (eN x.2.2.2 k).2.2.2.2.2.1));rw[N];refine aX (λz=>z=(b&&fxN x c.2.2.2.2.1 t (eN x.2.2.2 k).2.2.2.2.2.1)) (aV rfl (aM (λq=>aV (Rk x c t _ (by omega) hev.1) (aj ?_)) λq=>aj ?_)) λz D=>aj D
 .have q:b=J:=q;rw[q];rfl
 .have q:b=aa:=q;rw[q];rfl
def XX.ci (h:XX x x' e) {c:CF} (D:CI x c):CI x' (uf c):=by
 let⟨a1,a2,a3,a4,a5,a6,N,I,F,q⟩:=D;refine ⟨a1,by rw[h.a];exact a2,by rw[h.a];exact a3,by rw[h.a];exact a4,by rw[h.a];exact a5,by rw[h.a];exact a6,λz A=>?_,I,?_,?_⟩
 .have:=N z A;rw[h.len];omega
 .show (l! (c.2.2.2.2.1++[aa]))=_;rw[aD,h.len,F];rfl
 .show (l! (c.2.2.2.2.2++[0]))=_;rw[aD,h.len,q];rfl
def XX.en (h:XX x x' e) {c:CF} (q:CI x c) (ht:¬a=e.1):MZ x' (uf c) a=MZ x c a:=by
 rw[aey h.o' (h.ci q),aey h.o q];unfold enP;rw[show (uf c).2.2.2.1=c.2.2.2.1 from rfl,h.nx _ ht];rcases V7 x c.2.2.2.1 a with e|⟨_,k,z,e,e1,e2⟩
 .rw[e];rfl
 rw[e,h.at (by omega) (by omega),h.a];rw[show (uf c).2.2.2.2.1=c.2.2.2.2.1++[aa] from rfl,h.fx q.fx ht];rfl
def XX.ene (h:XX x x' e) {c:CF} (q:CI x c):MZ x c e.1=aa:=by
 rw[aey h.o q];unfold enP;rw[h.nxe];rfl
def XX.chT (h:XX x x' e) {c:CF} (q:CI x c) (ht:¬a=e.1):chT x' (uf c) a=AI.chT x c a:=by
 unfold AI.chT;rw[h.en q ht];split
 next he=>let⟨_,k,A,z,_⟩:=(X1 x h.o c q a).2 he;rw[show (uf c).2.2.2.1=c.2.2.2.1 from rfl,h.nx _ ht,z,h.at (by omega) (by omega)];rfl
 .rfl
def XX.chTe (h:XX x x' e) {c:CF} (q:CI x c):AI.chT x c e.1=[]:=by
 unfold AI.chT;rw[h.ene q,aE (by decide)]
def XX.mv (h:XX x x' e) {c:CF} (q:CI x c) {u:Int} (ht:¬a=e.1) (he:MZ x c a=J):JG x' (uf c) a u=uf (JG x c a u):=by
 let⟨_,k,A,z,_⟩:=(X1 x h.o c q a).2 he;unfold JG;rw[show (uf c).2.2.2.1=c.2.2.2.1 from rfl,h.nx _ ht,z,h.at (by omega) (by omega)];generalize aK fP x.2.2.2 (k:Int)=ev;have hfx:=q.fx;have hwk:=q.wk;unfold mvE uf;dsimp only;rw[h.a,h.fx hfx ht,zI c.2.2.2.2.1 [aa] _ (by omega) (by omega),zI c.2.2.2.2.1 [aa] _ (by omega) (by omega),zI c.2.2.2.2.2 [0] _ (by omega) (by omega),zI c.2.2.2.2.2 [0] _ (by omega) (by omega)];congr 5
 .split
  .rfl
  .split<;>rfl
 .split
  .split<;>rfl
  .split<;>rfl
end
section
variable {x x':WN} {e:ET}
def XX.nxE (h:XX x x' e) {c:CF} (q:nxE x c a=J):AI.nxE x' (uf c) a=J:=by
 have hi:=JD q;unfold AI.nxE at q ⊢;rw[al,decide_eq_true_iff,decide_eq_true_iff]at q ⊢;have ht:¬(aK fP x.2.2.2 a).1=e.1:=by
  have:=h.n a.toNat (by omega);unfold AI.eN at this
  rwa [show ((a.toNat:Nat):Int)=a by omega]at this
 refine ⟨⟨hi.1,by rw[h.len];omega⟩,?_⟩;rw[show (uf c).2.2.2.1=c.2.2.2.1 from rfl,h.at hi.1 hi.2,h.nx _ ht];exact q.2
def XX.ryE (h:XX x x' e) {c:CF} (A:CI x c) (q:ryE x c a=J):AI.ryE x' (uf c) a=J:=by
 unfold AI.ryE at q ⊢;rw[al]at q ⊢;have hi:=JD q.1;have ht:¬(aK fP x.2.2.2 a).1=e.1:=by
  have:=h.n a.toNat (by omega);unfold AI.eN at this
  rwa [show ((a.toNat:Nat):Int)=a by omega]at this
 exact⟨h.nxE q.1,by rw[h.at hi.1 hi.2,h.en A ht];exact q.2⟩
def XX.rc (h:XX x x' e) {c:CF} (F:CI x c) {g:wc} (A:RU x c g=J):RU x' (uf c) g=J:=by
 let⟨k,a,b,d,f,ns⟩:=g;unfold RU at A ⊢;dsimp only at A ⊢;have N:(uf c).2.2.2.1=c.2.2.2.1:=rfl;rw[N];split
 next q=>rw[aR q,al]at A;rw[al];exact⟨h.ryE F A.1,h.ryE F A.2⟩
 rename_i q;rw[aE q]at A;split
 next q=>rw[aR q,dq]at A;rw[dq];intro z I;have hcy:=A z I;unfold cyE at hcy ⊢;rw[al]at hcy ⊢;have hi:=JD hcy.1;exact⟨h.nxE hcy.1,by rw[h.at hi.1 hi.2];exact hcy.2⟩
 rename_i q;rw[aE q]at A;split
 next q=>rw[aR q]at A;rw[al,al,al]at A ⊢;refine ⟨A.1,A.2.1,A.2.2.1,?_⟩;have D:=A.2.2.2;unfold wkB at D ⊢;rw[al,decide_eq_true_iff,decide_eq_true_iff]at D ⊢;have e1:(uf c).2.2.2.2.2=c.2.2.2.2.2++[0]:=rfl;rw[e1,uN (T:=aO) c.2.2.2.2.2 [0] D.1.1 D.1.2];exact⟨⟨D.1.1,Int.lt_of_lt_of_le D.1.2 (by rw[aD,aJ];exact Int.ofNat_le.2 (yR _))⟩,D.2⟩
 rename_i q;rw[aE q]at A;split
 next q=>rw[aR q]at A;rw[al,al]at A ⊢;exact⟨A.1,A.2.1,h.ryE F A.2.2⟩
 next q=>rw[aE q]at A;cases A
def ams {c:CF} (z:CI x c) (g:wc):msB (uf c) g=msB c g:=by
 unfold msB;rw[show (uf c).2.2.2.1=c.2.2.2.1 from rfl,show (uf c).2.2.2.2.2=c.2.2.2.2.2++[0] from rfl];by_cases q:g.2.1∈c.2.2.2.1
 .have:=z.od _ q;rw[uN (T:=aO) c.2.2.2.2.2 [0] this.1 (by rw[z.wk];exact this.2)]
 .have:c.2.2.2.1.contains g.2.1=aa:=by rw[<- mP,dJ];exact q
  rw[this,dY,dY]
def XX.st (h:XX x x' e):Vx x'=uf (Vx x):=by
 unfold Vx uf;rw[h.s,h.len];dsimp only;rw[lA,lA]
def ai4 {i:Int} {c:η} (z v:Int) (A:∀j:Int,0<=j->j<r.length->0<=aK aO r j/\aK aO r j<(l! c:Int)):BO r a i (c++[v]) z=BO r a i c z++[v]:=by
 unfold BO;split
 next q=>have:=A _ q.1 q.2;exact zI c [v] i this.1 this.2
 .rfl
def PF {i v:Int}:∀(l c:η),(∀j:Int,0<=j->j<r.length->0<=aK aO r j/\aK aO r j<(l! c:Int))->l.foldl (BO r a i) (c++[v])=l.foldl (BO r a i) c++[v]
 |[],_,_=>rfl
 |z::own,c,q=>by rw[dg,dg,ai4 z v q,PF own _ (by rw[Yq];exact q)]
def PD {i:Int}:∀(l c:η),l.foldl (BO [] a i) c=c
 |[],_=>rfl
 |z::r,c=>by
  rw[dg,PD r];unfold BO;rw[aE];rintro⟨h1,q⟩;exact bO (Int.lt_of_le_of_lt h1 q) (by decide)
def ad7 {l:Y ET} :∀{n:Nat},(∀k,k<n->¬(eN l k).1=a)->kG l a n=[]
 |0,_=>rfl
 |n+1,h=>by rw[kG,aE (h n (ib n)),ad7 λk c=>h k (by omega)]
def XX.lu0 (h:XX x x' e):∀i,i<=l! x.2.2.2->HU x' i=HU x i++[-1]
 |0,_=>by rw[HU,HU,h.len,lA]
 |i+1,hi=>by
  rw[HU,HU,h.lu0 i (by omega)];unfold luE;rw[h.eN (by omega),h.s,Pt λk D=>h.eN (by omega)];have A:=DB x i;have c:∀j:Int,0<=j->j<l! (kG x.2.2.2 (AI.eN x.2.2.2 i).1 i)->0<=aK aO (kG x.2.2.2 (AI.eN x.2.2.2 i).1 i) j/\aK aO (kG x.2.2.2 (AI.eN x.2.2.2 i).1 i) j<(l! (HU x i):Int):=λj z q=>by
   have:=wy (bE (T:=aO) z q);rw[A];exact⟨this.1,Int.lt_trans this.2 (by omega)⟩
  rw[PF _ _ c,PF _ _ (by rw[Bd];exact c)]
def XX.lu (h:XX x x' e):HU x' (l! x'.2.2.2)=HU x (l! x.2.2.2)++[-1]:=by
 rw[h.len,HU,h.lu0 _ (bL _)];unfold luE;rw[h.eNn];have:kG x'.2.2.2 e.1 (l! x.2.2.2)=[]:=ad7 λk c=>by rw[h.eN c];exact h.n k c
 rw[this,PD,PD]
def XX.sn (h:XX x x' e) (hi:i<=l! x.2.2.2):sV x'.1 x'.2.2.1 x'.2.2.2 i=sV x.1 x.2.2.1 x.2.2.2 i:=by
 unfold sV;rw[h.a,h.s,h.l,EX hi]
def XX.sy (h:XX x x' e) {k:Int} (h0:0<=k) (c:k<l! x.2.2.2):aK oH (yV x' (l! x'.2.2.2)) k=aK oH (yV x (l! x.2.2.2)) k:=by
 have e:((k.toNat:Nat):Int)=k:=by omega
 rw[<- e,Cw x' (i:=k.toNat) (by rw[h.len];omega),Cw x (i:=k.toNat) (by omega),h.sn (by omega)]
def XX.gv (h:XX x x' e) {g:wc} (c:GV x.1 (l! x.2.2.2) (aK fP x.2.2.2) (aK oH (yV x (l! x.2.2.2))) g):GV x'.1 (l! x'.2.2.2) (aK fP x'.2.2.2) (aK oH (yV x' (l! x'.2.2.2))) g:=by
 have he:= @XX.at x x' e h;have N:= @XX.sy x x' e h;have hn:=h.len;rw[h.a];generalize aK fP x'.2.2.2=ev' at he ⊢;generalize aK oH (yV x' (l! x'.2.2.2))=sy' at N ⊢;generalize (l! x'.2.2.2)=n' at hn ⊢;generalize aK fP x.2.2.2=ev at he c;generalize aK oH (yV x (l! x.2.2.2))=sy at N c;generalize (l! x.2.2.2)=n at hn he N c;subst hn;rcases c with c|c|c|c
 .refine .inl ⟨c.1,c.2.1,c.2.2.1,c.2.2.2.1,?_⟩;let⟨q,A,D,I,a5,a6⟩:=c.2.2.2.2;unfold RW;rw[he q.1 q.2,he A.1 A.2];exact⟨⟨q.1,by omega⟩,⟨A.1,by omega⟩,D,I,a5,a6⟩
 .refine .inr (.inl ⟨c.1,c.2.1,c.2.2.1,c.2.2.2.1,c.2.2.2.2.1,?_⟩);let⟨q,A,D,I⟩:=c.2.2.2.2.2;have hin:∀k:Int,0<=k->k<l! g.2.2.2.2.2->0<=aK aO g.2.2.2.2.2 k/\aK aO g.2.2.2.2.2 k<(n:Int):=λk k0 k1=>D _ (bE (T:=aO) k0 k1)
  refine ⟨q,A,λz hz=>⟨(D z hz).1,by have:=(D z hz).2;omega⟩,λi hi=>?_⟩;let⟨b1,b2,b3⟩:=I i hi;have hi0:=hin (i:Int) (by omega) (by omega);have hm:=O_ i (n:=l! g.2.2.2.2.2) (by omega);have F:=hin _ hm.1 hm.2;rw[he hi0.1 hi0.2,he F.1 F.2,N F.1 F.2];refine ⟨b1,b2,λj hj=>?_⟩;have hj0:=hin (j:Int) (by omega) (by omega);rw[he hj0.1 hj0.2];exact b3 j hj
 .refine .inr (.inr (.inl ⟨c.1,c.2.1,c.2.2.1,c.2.2.2.1,?_⟩));let⟨q,A,D,I,a5,a6,a7,a8,a9,a10⟩:=c.2.2.2.2;unfold R9;rw[he q.1 q.2,he A.1 A.2,N q.1 q.2];refine ⟨⟨q.1,by omega⟩,⟨A.1,by omega⟩,D,I,a5,a6,a7,λk k0 k1=>?_,a9,a10⟩;rw[he (by omega) (by omega)];exact a8 k k0 k1
 .refine .inr (.inr (.inr ⟨c.1,c.2.1,?_⟩));let⟨⟨q,A,D,I⟩,⟨b1,b2,b3,b4⟩,c1,c2,c3,c4,c5⟩:=c.2.2;unfold LQ afi;rw[he q.1 q.2,he A.1 A.2,he D.1 D.2,he I.1 I.2,N q.1 q.2];refine ⟨⟨⟨q.1,by omega⟩,⟨A.1,by omega⟩,⟨D.1,by omega⟩,⟨I.1,by omega⟩⟩,⟨b1,b2,b3,λk k0 k1=>?_⟩,c1,c2,c3,c4,c5⟩;rw[he (by omega) (by omega)];exact b4 k k0 k1
def rX (a b:η):jH (a++b)=jH a++jH b:=cf
def Bn (a:η):l! (jH a)=l! a:=bN ..
def N3 {lu lu':η} {fx fx':θ}:∀{n:Nat},(∀k:Nat,k<n->kyU r fx' (aK aO lu' (k:Int)) (k:Int)=kyU r fx (aK aO lu (k:Int)) (k:Int))->Mm r lu' fx' n=Mm r lu fx n
 |0,_=>rfl
 |n+1,h=>by rw[Mm,Mm,h n (ib n),N3 λk q=>h k (by omega)]
def adw {c:CF} (z:CI x c) (hlu:l! r=l! x.2.2.2):vG (l! x.2.2.2+1) (uf c) (r++[-1])=jH (Mm c.2.2.2.1 r c.2.2.2.2.1 (l! x.2.2.2))++([48,32,48,32]++jH (kyB c)):=by
 have hfx:=z.fx;have hA:Mm c.2.2.2.1 (r++[-1]) (c.2.2.2.2.1++[aa]) (l! x.2.2.2)=Mm c.2.2.2.1 r c.2.2.2.2.1 (l! x.2.2.2):=N3 λk D=>by
  rw[uN (T:=aO) r [-1] (by omega) (by rw[hlu];omega)];unfold kyU;rw[uN (T:=.bool) c.2.2.2.2.1 [aa] (by omega) (by rw[hfx];omega)]
 have q:¬(l! x.2.2.2:Int)∈c.2.2.2.1:=λh=>by have:=z.od _ h;omega
 have q:c.2.2.2.1.contains (l! x.2.2.2:Int)=aa:=by rw[<- mP,dJ];exact q
 have A:aK aO (r++[-1]) (l! x.2.2.2:Int)= -1:=by rw[<- hlu];exact S8 (T:=aO) r (-1)
 unfold vG;show jH (Mm c.2.2.2.1 (r++[-1]) (c.2.2.2.2.1++[aa]) (l! x.2.2.2+1)++kyB c)=_;rw[Mm,hA,q,A,rX,rX,cr];rfl
def ale {c d:CF} (z:CI x c) (hd:CI x d) (hlu:l! r=l! x.2.2.2):vG (l! x.2.2.2+1) (uf c) (r++[-1])=vG (l! x.2.2.2+1) (uf d) (r++[-1])↔vG (l! x.2.2.2) c r=vG (l! x.2.2.2) d r:=by
 rw[adw z hlu,adw hd hlu];unfold vG;rw[rX,rX];have e:l! (jH (Mm c.2.2.2.1 r c.2.2.2.2.1 (l! x.2.2.2)))=l! (jH (Mm d.2.2.2.1 r d.2.2.2.2.1 (l! x.2.2.2))):=by rw[Bn,Bn,xF,xF]
 constructor
 .intro h;let⟨h1,q⟩:=List.append_inj h e;rw[h1,List.append_cancel_left q]
 .intro h;let⟨h1,q⟩:=List.append_inj h e;rw[h1,q]
def aqj {c d:CF} (z:CI x c) (hlu:l! r=l! x.2.2.2) {lu':η} (hd:(l! x.2.2.2:Int)∈d.2.2.2.1):¬vG (l! x.2.2.2+1) d lu'=vG (l! x.2.2.2+1) (uf c) (r++[-1]):=by
 rw[adw z hlu];unfold vG;rw[Mm,dJ.2 hd,rX,rX,cr];intro h;let⟨_,q⟩:=List.append_inj h (by rw[Bn,Bn,xF,xF]);rw[rX]at q;exact bO (List.cons.inj q).1 (by decide)
end
section
variable {x x':WN} {e:ET}
def cdc (x:WN) (c:CF):Y CF:=(I1 x c (l! x.1.2.2.2.2.1)).map λq=>JG x c q.1 q.2
def cdl (x:WN):Y CF->Y CF
 |[]=>[]
 |c::r=>cdc x c++cdl x r
def psc (c:CF->ζ) (g:wc) (nx:Y CF) (d:CF):Y CF:=if msB d g=J then nx else if c d∈nx.map c then nx else nx++[d]
def ahm (c:CF->ζ) (g:wc) (nx:Y QC) (d:QC):(NS c g nx d).map (·.1)=psc c g (nx.map (·.1)) d.1:=by
 have e:(nx.map (·.1)).map c=nx.map λq=>c q.1:=by rw[ic];rfl
 unfold NS psc;split
 .rfl
 .rw[e];split
  .rfl
  .rw[cf];rfl
def Yf (c:CF->ζ) (g:wc):∀(l nx:Y QC),(l.foldl (NS c g) nx).map (·.1)=(l.map (·.1)).foldl (psc c g) (nx.map (·.1))
 |[],nx=>rfl
 |d::r,nx=>by rw[dg,Yf c g r,ahm,b5,dg]
def Q3 (x:WN):∀L:Y QC,(Io x L).map (·.1)=cdl x (L.map (·.1))
 |[]=>rfl
 |q::r=>by
  rw[Io,cf,Q3 x r,b5,cdl];congr 1;unfold cdC cdc;rw[ic];rfl
def nxl (x:WN) (g:wc) (lu:η) (L:Y CF):Y CF:=(cdl x L).foldl (psc (λd=>vG (l! x.2.2.2) d lu) g) []
def fnc (x:WN) (g:wc) (lu:η):Nat->Y CF->Prop
 |0,_=>False
 |k+1,L=>(∃d∈cdl x L,RU x d g=J)\/fnc x g lu k (nxl x g lu L)
def alh (x:WN) (g:wc) (lu:η):∀(k:Nat) (L:Y QC),fnd x g lu k L↔fnc x g lu k (L.map (·.1))
 |0,L=>Iff.rfl
 |k+1,L=>by
  have h1:=alh x g lu k (nxL x g lu L);have c:(nxL x g lu L).map (·.1)=nxl x g lu (L.map (·.1)):=by
   unfold nxL nxl;rw[Yf,Q3];rfl
  rw[c]at h1;unfold fnd fnc;rw[h1,<-Q3];refine or_congr ⟨λ⟨d,a,b⟩=>⟨d.1,List.mem_map_of_mem (f:=(·.1)) a,b⟩,λ⟨d,a,b⟩=>?_⟩ Iff.rfl;obtain⟨q,q1,rfl⟩:=bR.1 a;exact⟨q,q1,b⟩
def pN (n:Nat) (c:CF):Bool:= !c.2.2.2.1.contains (n:Int)
def al8 {c:CF} (z:CI x c):pN (l! x.2.2.2) (uf c)=J:=by
 have q:¬(l! x.2.2.2:Int)∈c.2.2.2.1:=λh=>by have:=z.od _ h;omega
 unfold pN;rw[cK,<-mP,dJ];exact q
def aqc {c:CF} {u:Int} (h:pN i c=aa):pN i (JG x c a u)=aa:=by
 unfold pN at h ⊢;rw[nO,dJ]at h ⊢;rw[JF];exact fQ _ h
def amn {c d:CF} (h:pN i c=aa) (hd:d∈cdc x c):pN i d=aa:=by
 obtain⟨q,_,rfl⟩:=bR.1 hd;exact aqc h
def Ob {p:R->Bool} {l:Y R} (h:∀z∈l,p z=aa):l.filter p=[]:=by
 rw[List.filter_eq_nil_iff];intro z c;rw[h z c];decide
def ani (h:oG x) {c d:CF} (q:CI x c) (hd:d∈cdc x c):CI x d:=by
 obtain⟨z,h1,rfl⟩:=bR.1 hd;exact NZ h q _ (I0 h1)
def Q4 (h:oG x) {d:CF}:∀{L:Y CF},(∀c∈L,CI x c)->d∈cdl x L->CI x d
 |[],_,hd=>by cases hd
 |c::r,hL,hd=>by
  rw[cdl]at hd;rcases bF.1 hd with hd|hd
  .exact ani h (hL c (cS ..)) hd
  .exact Q4 h (λc q=>hL c (cq _ q)) hd
def Y6 {c:CF} {z:ν} (h:z∈chT x c a):z.1=a/\MZ x c a=J:=by
 unfold chT at h;split at h
 .rename_i he;refine ⟨?_,he⟩;unfold chE at h;split at h
  .rw[aA]at h;rw[h]
  .obtain⟨j,_,rfl⟩:=bR.1 h;rfl
 .cases h
def XX.cdc (h:XX x x' e) {c:CF} (D:CI x c):(AI.cdc x' (uf c)).filter (pN (l! x.2.2.2))=(AI.cdc x c).map uf:=by
 unfold AI.cdc;rw[h.a];generalize (l! x.1.2.2.2.2.1)=T;induction T with
 |zero=>rfl
 |succ t ih=>
  rw[I1,I1,cf,nN,ih,cf,cf];congr 1;by_cases ht:(t:Int)=e.1
  .have h1:AI.chT x c (t:Int)=[]:=by rw[ht];exact h.chTe D
   rw[h1,kV,kV];refine Ob λd hd=>?_
   obtain⟨A,hch,rfl⟩:=bR.1 hd;let⟨c1,c2⟩:=Y6 hch;let⟨_,k,I,g1,g2,_⟩:=(X1 x' h.o' (uf c) (h.ci D) (t:Int)).2 c2;have hkn:k=l! x.2.2.2:=by
    have I:=I;rw[h.len]at I;rcases bZ k (l! x.2.2.2) with q|q
    .rw[h.eN q]at g2;exact bO (g2.trans ht) (h.n k q)
    .omega
   unfold pN;rw[nO,dJ,JF,c1,g1,hkn];exact kE _ (aA.2 rfl)
  .rw[h.chT D ht];have:∀l:Y ν,(∀z∈l,z.1=(t:Int)/\MZ x c (t:Int)=J)->(l.map λA=>JG x' (uf c) A.1 A.2).filter (pN (l! x.2.2.2))=(l.map λA=>JG x c A.1 A.2).map uf:=λl hl=>by
    induction l with
    |nil=>rfl
    |cons z r ihl=>
     let⟨N,z2⟩:=hl z (cS ..);rw[b5,b5,b5,<-ihl λy hy=>hl y (cq _ hy)];have he:MZ x c z.1=J:=by rw[N];exact z2
     have F:¬z.1=e.1:=by rw[N];exact ht
     rw[h.mv D F he,gK (al8 (NZ h.o D _ he))]
   exact this _ λz F=>Y6 F
def XX.cdl (h:XX x x' e):∀{L' L:Y CF},(∀c∈L,CI x c)->L'.filter (pN (l! x.2.2.2))=L.map uf->(AI.cdl x' L').filter (pN (l! x.2.2.2))=(AI.cdl x L).map uf
 |[],L,_,hf=>by
  cases L with
  |nil=>rfl
  |cons c r=>cases hf
 |A::r',L,hL,hf=>by
  rw[AI.cdl,nN];by_cases hp:pN (l! x.2.2.2) A=J
  .rw[gK hp]at hf;cases L with
   |nil=>cases hf
   |cons c r=>
    rw[b5]at hf;let⟨h1,z⟩:=List.cons.inj hf;rw[h1,h.cdc (hL c (cS ..)),h.cdl (λc q=>hL c (cq _ q)) z,AI.cdl,cf]
  .rw[lK hp]at hf;rw[Ob λd hd=>amn (by simpa using hp) hd,gW];exact h.cdl hL hf
def BN {p:R->Bool} {l m:Y R} (h:l.filter p=m) {z:R} (c:z∈m):z∈l:=by
 rw[<- h]at c;exact (oN.1 c).1
def XX.psc (h:XX x x' e) (g:wc) (hlu:l! r=l! x.2.2.2) {nx nx':Y CF} {D:CF} (hnx:∀c∈nx,CI x c) (hf:nx'.filter (pN (l! x.2.2.2))=nx.map uf) {d:Y CF} (hd:∀c∈d,CI x c) (hdf:[D].filter (pN (l! x.2.2.2))=d.map uf):(AI.psc (λc=>vG (l! x.2.2.2+1) c (r++[-1])) g nx' D).filter (pN (l! x.2.2.2))=(d.foldl (AI.psc (λc=>vG (l! x.2.2.2) c r) g) nx).map uf:=by
 by_cases hp:pN (l! x.2.2.2) D=J
 .rw[gK hp,List.filter_nil]at hdf;obtain⟨c,rfl⟩:∃c,d=[c]:=by
   cases d with
   |nil=>cases hdf
   |cons c lu=>
    cases lu with
    |nil=>exact⟨c,rfl⟩
    |cons N lu=>cases hdf
  have A:=hd c (aA.2 rfl);have h1:D=uf c:=(List.cons.inj hdf).1;subst h1;rw[dg,List.foldl_nil];unfold AI.psc;rw[ams A];split
  .exact hf
  have hiff:vG (l! x.2.2.2+1) (uf c) (r++[-1])∈nx'.map (λc=>vG (l! x.2.2.2+1) c (r++[-1]))↔vG (l! x.2.2.2) c r∈nx.map λc=>vG (l! x.2.2.2) c r:=by
   constructor
   .intro hm;let⟨F,I,z⟩:=bR.1 hm;have hpq:pN (l! x.2.2.2) F=J:=by
     cases hpq:pN (l! x.2.2.2) F with
     |true=>rfl
     |false=>
      unfold pN at hpq;rw[nO,dJ]at hpq;exact bO z (aqj A hlu hpq)
    have:F∈nx.map uf:=by rw[<- hf];exact oN.2 ⟨I,hpq⟩
    obtain⟨q,hqn,rfl⟩:=bR.1 this;exact bR.2 ⟨q,hqn,(ale (hnx q hqn) A hlu).1 z⟩
   .intro hm;let⟨q,hqn,z⟩:=bR.1 hm;exact bR.2 ⟨uf q,BN hf (List.mem_map_of_mem hqn),(ale (hnx q hqn) A hlu).2 z⟩
  by_cases hm:vG (l! x.2.2.2) c r∈nx.map λc=>vG (l! x.2.2.2) c r
  .rw[aR (hiff.2 hm),aR hm];exact hf
  .rw[aE (λa=>hm (hiff.1 a)),aE hm,nN,hf,cf,gK hp];rfl
 .rw[lK hp,List.filter_nil]at hdf;have:d=[]:=by
   cases d with
   |nil=>rfl
   |cons c lu=>cases hdf
  subst this;rw[List.foldl_nil];unfold AI.psc;split
  .exact hf
  .split
   .exact hf
   .rw[nN,lK hp,List.filter_nil,dG];exact hf
def Pr {c:CF->ζ} {g:wc}:∀{l nx:Y CF} {q:CF},q∈l.foldl (psc c g) nx->q∈nx\/q∈l
 |[],nx,q,h=>.inl h
 |d::r,nx,q,h=>by
  rw[dg]at h;rcases Pr h with h|h
  .unfold psc at h;split at h
   .exact .inl h
   .split at h
    .exact .inl h
    .rcases bF.1 h with h|h
     .exact .inl h
     .rw[aA]at h;rw[h];exact .inr (cS ..)
  .exact .inr (cq _ h)
def XX.psf (h:XX x x' e) (g:wc) (hlu:l! r=l! x.2.2.2):∀{D' D nx nx':Y CF},(∀c∈D,CI x c)->(∀c∈nx,CI x c)->D'.filter (pN (l! x.2.2.2))=D.map uf->nx'.filter (pN (l! x.2.2.2))=nx.map uf->(D'.foldl (AI.psc (λc=>vG (l! x.2.2.2+1) c (r++[-1])) g) nx').filter (pN (l! x.2.2.2))=(D.foldl (AI.psc (λc=>vG (l! x.2.2.2) c r) g) nx).map uf
 |[],D,nx,nx',_,_,A,hf=>by
  cases D with
  |nil=>exact hf
  |cons c lu=>cases A
 |N::r',D,nx,nx',hDc,hnx,A,hf=>by
  rw[dg];by_cases hp:pN (l! x.2.2.2) N=J
  .rw[gK hp]at A;cases D with
   |nil=>cases A
   |cons c lu=>
    rw[b5]at A;let⟨h1,I⟩:=List.cons.inj A;have F:=hDc c (cS ..);rw[dg];refine h.psf g hlu (λc F=>hDc c (cq _ F)) (λq z=>?_) I ?_
    .rcases Pr (l:=[c]) z with z|z
     .exact hnx q z
     .rw[aA]at z;rw[z];exact F
    .exact h.psc g hlu hnx hf (d:=[c]) (λq z=>by rw[aA]at z;rw[z];exact F) (by rw[gK hp,h1];rfl)
  .rw[lK hp]at A;refine h.psf g hlu hDc hnx A ?_;exact h.psc g hlu hnx hf (d:=[]) (λq z=>by cases z) (by rw[lK hp];rfl)
def XX.fnc (h:XX x x' e) (g:wc) (hlu:l! r=l! x.2.2.2):∀{k:Nat} {L L':Y CF},(∀c∈L,CI x c)->L'.filter (pN (l! x.2.2.2))=L.map uf->AI.fnc x g r k L->AI.fnc x' g (r++[-1]) k L'
 |0,_,_,_,_,z=>z
 |k+1,L,L',hL,hf,z=>by
  have hcd:=h.cdl hL hf;rcases z with ⟨d,hd,A⟩|z
  .exact .inl ⟨uf d,BN hcd (List.mem_map_of_mem hd),h.rc (Q4 h.o hL hd) A⟩
  .refine .inr (h.fnc g hlu (λc q=>?_) ?_ z)
   .rcases Pr q with q|q
    .cases q
    .exact Q4 h.o hL q
   .unfold nxl;rw[h.len];exact h.psf g hlu (λc q=>Q4 h.o hL q) (λc q=>by cases q) hcd rfl
def alj {g:wc} :∀{k:Nat} {L:Y CF},AI.fnc x g r k L->AI.fnc x g r (k+1) L
 |0,_,h=>h.elim
 |k+1,L,h=>h.elim .inl λh=>.inr (alj h)
def XX.find (h:XX x x' e) (g:wc):∃p q,ku (x,g)=Z p/\ku (x',g)=Z q/\l! p.1<=l! x.2.2.2/\l! q.1<=l! x'.2.2.2/\(p.2=J->q.2=J):=by
 let⟨p,p1,p2,p3⟩:=agj x h.o g;let⟨q,q1,D,q3⟩:=agj x' h.o' g;refine ⟨p,q,p1,q1,p2,D,λa=>q3.2 ?_⟩;let⟨F,z⟩:=p3.1 a;refine ⟨h.gv F,?_⟩;rw[h.st,h.lu];rcases z with z|z
 .exact .inl (h.rc (Jg h.o) z)
 .rw[alh]at z ⊢;rw[h.len];refine .inr (alj (h.fnc g (DB x _) (λc A=>?_) ?_ z))
  .have A:c∈[Vx x]:=A;rw[aA]at A;rw[A];exact Jg h.o
  .show ([uf (Vx x)]:Y CF).filter _=[uf (Vx x)]
   rw[gK (al8 (Jg h.o))];rfl
end
def lE (x:d?):M (Bool):=
 (jn (bi x.2.1 3 (aF J) (aF (decide ((x.2.1:Int)=4)))) λx1=>(Z x1))
def jJ (x:pI×d?):M (Bool):=
 (jn (aw (lE x.1) λq=>(aI q (aw (lE x.2) λc=>(aI c (bi x.1.a x.b (bi x.1.2.1 4 (aF J) (aF (decide ((x.a:Int)=4)))) (aF aa)) (aF aa))) (aF aa))) λx1=>(Z x1))
def kw (x:jP×h!):M (Bool):=
 (bz fP x.1.d x.2.2 λq=>(bz fP x.1.d x.2.1 λz=>(bi q.1 z.1 (Z aa) (aw (m7 (x.1,x.2.1)) λF=>(jn (bi q.2.1 6 (aF ((decide ((q.2.1:Int)=6)),x.1,q,z,F.1)) (aF ((decide ((q.2.1:Int)=10)),x.1,q,z,F.1))) λc=>(aI c.1 (jn (bz c_ c.c c.a.a λz6=>(bi z6.1 c.b.1 (aF J) (bz c_ c.c c.a.a λN=>(aw (ma (N.2,c.b.1)) λy8=>(aF y8))))) λx5=>(Z x5)) (bi q.2.1 8 (bz c_ c.c c.a.a λI=>(Z (decide ((I.1:Int)=c.b.1)))) (bi q.2.1 17 (bz itK c.2.1.1.a c.a.a λD=>(bz c_ c.c D.2 λA=>(Z (decide ((A.1:Int)=c.b.1))))) (bi q.2.1 21 (Z (decide ((c.a.a:Int)=c.b.1))) (Z aa))))))))))
def vA (x:ν):M (Bool):=
 (jn (jO 0 x.1 (aF (fV x.1 x.2)) (aF aa)) λx1=>(Z x1))
def wB (x:J!):M (Bool):=
 (bz fP x.1.d x.a λc=>(bz fP x.1.d x.b λq=>(jn (bS x.a x.b (bi x.c 0 (bi x.e 0 (bi (bc x.i) 0 (gF c.1 q.1 (aw (jJ (c,q)) λA=>(aI A (bz mO x.1.1.1 c.a λz=>(aF (!z.2.2.2.1))) (aF aa))) (aF aa)) (aF aa)) (aF aa)) (aF aa)) (aF aa)) λD=>(Z D))))
def oR (x:J!):M (Bool):=
 (jn (gF x.a 0 (aF (J,x)) (gF x.b 0 (aF (J,x)) (gF x.c 0 (aF (J,x)) (gF x.e 0 (aF (J,x)) (bS (bc x.i) 2 (aF (J,x)) (aF ((fV 4 (bc x.i)),x))))))) λx1=>(aI x1.1 (Z aa) (iter (σ:=Int×J!) (λz=>(bS z.1 (bc x.i) (bz aO z.k z.1 λz3=>(aw (vA (z3,(bc z.2.1.d))) λy4=>(aI (!y4) (aF aa) (cW ((cM z.1),z.2))))) (aw (iter (σ:=Int×J!) (λq=>(bS q.1 (bc x.i) (jn (bz aO q.k q.1 λz7=>(bz aO q.k 0 λz8=>(bS z7 z8 (aF (J,q.2)) (bY (!decide (((bc x.i):Int)=0)) (bz aO q.k (fR (cM q.1) (bc x.i)) λz9=>(bz aO q.k q.1 λN=>(aw (kw (q.2.1,z9,N)) λy11=>(aF ((!y11),q.2))))))))) λx6=>(aI x6.1 (aF aa) (iter (σ:=Int×J!) (λc=>(bS c.1 q.1 (bz aO c.k q.1 λI=>(bz fP c.2.1.d I λF=>(bz aO c.k c.1 λD=>(bz fP c.2.1.d D λA=>(bi F.1 A.1 (aF (bV aa)) (cW ((cM c.1),c.2))))))) (aF (kS ((cM q.1),c.2))))) (0,x6.2)))) (aF J))) (0,z.2)) λr=>Z (bV r)))) (0,x1.2))))
def wC (x:J!):M (Bool):=
 (bz fP x.1.d x.a λq=>(bz fP x.1.d x.b λc=>(jn (gF x.c 0 (aF (J,x.1,x.2,q,c)) (gF x.e 0 (aF (J,x.1,x.2,q,c)) (bS 0 (bc x.i) (aF (J,x.1,x.2,q,c)) (gF q.2.1 18 (gF q.2.1 19 (aF (J,x.1,x.2,q,c)) (gF c.2.1 16 (aF (J,x.1,x.2,q,c)) (gF q.a c.a (aF (J,x.1,x.2,q,c)) (bi q.1 c.1 (aF (J,x.1,x.2,q,c)) (aF ((cZ x.a x.b),x.1,x.2,q,c)))))) (gF c.2.1 16 (aF (J,x.1,x.2,q,c)) (gF q.a c.a (aF (J,x.1,x.2,q,c)) (bi q.1 c.1 (aF (J,x.1,x.2,q,c)) (aF ((cZ x.a x.b),x.1,x.2,q,c))))))))) λA=>(aI A.1 (Z aa) (iter (σ:=Int×jP×Ir×pI×d?) (λz=>(bS z.1 z.a.2.1 (bz fP z.2.1.d z.1 λF=>(bi F.1 z.c (aF aa) (cW ((cM z.1),z.2)))) (aw (aw (m7 (z.2.1,z.a.2.1)) λI=>(bz fg I.1.d z.c λD=>(jn (bi D.1 3 (bi z.b.2.1 19 (aF J) (aF (decide ((z.b.b:Int)=z.c)))) (aF aa)) λN=>(Z N)))) λr=>Z (bV r)))) ((cM A.a.a),A.2))))))
def sv (x:J!):M (Bool):=
 (jn (bS 0 (bc x.i) (aF (J,x)) (jO x.b x.a (aF (J,x)) (aF ((fV x.e x.c),x)))) λx1=>(aI x1.1 (Z aa) (bz fP x1.2.1.d x1.b λq=>(bz fP x1.2.1.d x1.c λz3=>(bz fP x1.2.1.d x1.e λA=>(bz fP x1.2.1.d x1.g λz5=>(jn (gF q.1 z3.1 (aF (J,x1.2.1,x1.2.2,q)) (gF A.1 z5.1 (aF (J,x1.2.1,x1.2.2,q)) (bi q.1 A.1 (aF (J,x1.2.1,x1.2.2,q)) (aw (jJ (q,A)) λy7=>(aI (!y7) (aF (J,x1.2.1,x1.2.2,q)) (aw (jJ (z5,z3)) λy8=>(aF ((!y8),x1.2.1,x1.2.2,q)))))))) λx6=>(aI x6.1 (Z aa) (iter (σ:=Int×jP×Ir×d?) (λc=>(bS c.1 c.a.a (jn (bz fP c.2.1.d c.1 λI=>(bi I.1 c.b (bz fP c.2.1.d c.1 λF=>(aF ((decide ((F.2.1:Int)=15)),c.2))) (aF (aa,c.2)))) λz=>(aI z.1 (aF aa) (cW ((cM c.1),z.2)))) (aw (aw (m7 (c.2.1,c.a.2.1)) λN=>(bz fg N.1.d c.b λD=>(Z D.2.2))) λr=>Z (bV r)))) (x6.a.2.1,x6.2))))))))))
def py (x:J!):M (Bool):=
 (bi x.2.1 2 (aw (oR x) λy1=>(Z y1)) (jn (aw (vA (x.a,(bc x.1.d))) λN=>(aI (!N) (aF (J,x)) (aw (vA (x.b,(bc x.1.d))) λI=>(aI (!I) (aF (J,x)) (aw (vA (x.c,(bc x.1.d))) λF=>(aI (!F) (aF (J,x)) (aw (vA (x.e,(bc x.1.d))) λD=>(aF ((!D),x))))))))) λc=>(aI c.1 (Z aa) (bi c.a 1 (aw (wB c.2) λA=>(Z A)) (bi c.a 3 (aw (wC c.2) λz=>(Z z)) (bi c.a 4 (aw (sv c.2) λq=>(Z q)) (Z aa)))))))
abbrev H!:=(Y η)×e?
abbrev J?:=(jP×η)×Y η
def sJ (rr20_cycles:J?->M (Y η)) (x:J?):M (Y η):=
 (jn (α:=H!) (aw (py (x.1.1,2,0,0,0,0,x.1.2)) λN=>(aI N (bY (bl (ah ([]:η)+ah x.1.2) 8) (bY (bl (ah x.2+ah ([(([]:η)++x.1.2)])) 24) (aF ((x.2++([(([]:η)++x.1.2)])),x.1.1)))) (aF (x.2,x.1.1)))) λx1=>(bi (bc x.1.2) 4 (Z x1.1) (bz aO x.1.2 0 λD=>(iter (σ:=Int×H!) (λc=>(bS c.1 (bc c.h) (jn (α:=H!) (jn (aw (ma (x.1.2,c.1)) λI=>(aI (!I) (bz aO x.1.2 (aZ .i64 ((bc x.1.2)-1)) λA=>(aw (kw (c.2.2,c.1,A)) λF=>(aF (F,c.2)))) (aF (aa,c.2)))) λq=>(aI q.1 (bY (bl (ah ([]:η)+ah x.1.2) 8) (bY (bl (ah (([]:η)++x.1.2)+ah ([c.1])) 8) (aw (rr20_cycles ((q.2.2,((([]:η)++x.1.2)++([c.1]))),q.2.1)) λz=>(bY (ay (ah q.2.1) (ah q.2.1)&&J) (aF (z,q.2.2)))))) (aF q.2))) λx5=>(cW ((cM c.1),x5))) (aF c.2.1))) ((cM D),x1)))))
def nH:Nat->(J?)->M (Y η)
 |0,_=>U
 |n+1,x=>sJ (nH n) x
def zN (x:J?):M (Y η):=nH fI x
def qG (x:jP×η):M (Y η):=
 (jn (α:=H!) (aw (py (x.1,2,0,0,0,0,x.2)) λN=>(aI N (bY (bl (ah ([]:η)+ah x.2) 8) (bY (bl (ah ([]:Y η)+ah ([(([]:η)++x.2)])) 24) (aF ((([]:Y η)++([(([]:η)++x.2)])),x.1)))) (aF (([]:Y η),x.1)))) λx1=>(bi (bc x.2) 4 (Z x1.1) (bz aO x.2 0 λD=>(iter (σ:=Int×H!) (λc=>(bS c.1 (bc c.h) (jn (α:=H!) (jn (aw (ma (x.2,c.1)) λI=>(aI (!I) (bz aO x.2 (aZ .i64 ((bc x.2)-1)) λA=>(aw (kw (c.2.2,c.1,A)) λF=>(aF (F,c.2)))) (aF (aa,c.2)))) λq=>(aI q.1 (bY (bl (ah ([]:η)+ah x.2) 8) (bY (bl (ah (([]:η)++x.2)+ah ([c.1])) 8) (aw (zN ((q.2.2,((([]:η)++x.2)++([c.1]))),q.2.1)) λz=>(bY (ay (ah q.2.1) (ah q.2.1)&&J) (aF (z,q.2.2)))))) (aF q.2))) λx5=>(cW ((cM c.1),x5))) (aF c.2.1))) ((cM D),x1)))))
def up (x:(jP×Int×Int×Int×Int×Int×η)×Y Ir):M (Y Ir):=
 (aw (py x.1) λc=>(aI c (bY (bl (ah x.2+ah ([x.1.2])) 64) (Z (x.2++([x.1.2])))) (Z x.2)))
abbrev v!:=Int×jP×Y Ir
def wD (x:e?):M (Y Ir):=
 (iter (σ:=v!) (λx1=>(bS x1.1 (bc x.d) (iter (σ:=v!) (λI=>(bS I.1 (bc x.d) (aw (up ((I.2.1,1,x1.1,I.1,0,0,([]:η)),I.2.2)) λy3=>(bY (ay (ah I.2.2) (ah I.2.2)&&J) (cW ((cM I.1),I.2.1,y3)))) (aF (kS ((cM x1.1),I.2))))) (0,x1.2)) (aw (iter (σ:=v!) (λN=>(bS N.1 (bc x.d) (aw (qG (N.2.1,[N.1])) λy5=>(iter (σ:=Int×jP×(Y Ir)×Y η) (λA=>(bS A.1 (bc A.d) (kQ (.sl aO) A.d A.1 λz7=>(bY (bl (ah A.a+ah ([(2,0,0,0,0,z7)])) 64) (cW ((cM A.1),A.2.1,(A.a++([(2,0,0,0,0,z7)])),A.d)))) (aF (kS ((cM N.1),A.2.1,A.a))))) (0,N.2.1,N.2.2,y5))) (aw (iter (σ:=v!) (λx8=>(bS x8.1 (bc x.d) (iter (σ:=v!) (λF=>(bS F.1 (bc x.d) (aw (up ((F.2.1,3,x8.1,F.1,0,0,([]:η)),F.2.2)) λy10=>(bY (ay (ah F.2.2) (ah F.2.2)&&J) (cW ((cM F.1),F.2.1,y10)))) (aF (kS ((cM x8.1),F.2))))) (0,x8.2)) (aw (iter (σ:=v!) (λz=>(bS z.1 (bc x.d) (iter (σ:=v!) (λc=>(bS c.1 (bc x.d) (jn (α:=jP×Y Ir) (jn (bz fP c.2.1.d z.1 λz15=>(bz fP c.2.1.d c.1 λz16=>(gF z15.1 z16.1 (aF (J,c.2)) (bz fP c.2.1.d z.1 λz17=>(aw (lE z17) λy18=>(aI (!y18) (aF (J,c.2)) (bz fP c.2.1.d c.1 λz19=>(aw (lE z19) λy20=>(aF ((!y20),c.2)))))))))) λx14=>(aI x14.1 (aF x14.2) (iter (σ:=v!) (λD=>(bS D.1 (bc x.d) (iter (σ:=v!) (λq=>(bS q.1 (bc x.d) (aw (up ((q.2.1,4,z.1,c.1,D.1,q.1,([]:η)),q.2.2)) λy23=>(bY (ay (ah q.2.2) (ah q.2.2)&&J) (cW ((cM q.1),q.2.1,y23)))) (aF (kS ((cM D.1),q.2))))) D) (aF (bV D.2)))) (0,x14.2)))) λx13=>(cW ((cM c.1),x13))) (aF (kS ((cM z.1),c.2))))) ((cM z.1),z.2)) (aF z.2.2))) (0,x8.2)) λr=>Z (bV r)))) (0,N.2)) λr=>Z (bV r)))) (0,x1.2)) λr=>Z (bV r)))) (0,x,([]:Y Ir)))
def gT (x:jP×Int):M (Ir×Bool):=
 (aw (wD x.1) λc=>(bi (bc c) 0 (Z ((0,0,0,0,0,([]:η)),aa)) (bY (!decide (((bc c):Int)=0)) (bz F8 c (fR (aZ .i64 x.2) (bc c)) λq=>(Z (q,J))))))
def mW (_:Unit):M (Bool):=Z J
def fk (x:N!):M (Bool):=
 (aw (jS (x.1,8)) λq=>(bS (bc q.d) 2 (aw (mW ()) λy2=>(Z y2)) (bz fP q.d (aZ .i64 ((bc q.d)-1)) λz3=>(iter (σ:=Int×e?) (λc=>(bS c.1 (aZ .i64 ((bc q.d)-1)) (bz fP c.f c.1 λz5=>(bi z5.1 z3.1 (aw (mW ()) λy6=>(aF y6)) (cW ((cM c.1),c.2)))) (aw (bY (cZ 0 (aZ .i64 ((bc q.d)-1))&&cZ (aZ .i64 ((bc q.d)-1)) (ah c.f)) (aw (gT ((c.2.1,c.a,c.b,(ca (aS (aZ .i64 ((bc q.d)-1))) c.f)),x.2)) λD=>(aI (!D.2) (aw (mW ()) λy8=>(Z y8)) (aw (ku ((c.2.1,c.a,c.b,(ca (aS (aZ .i64 ((bc q.d)-1))) c.f)),D.1)) λA=>(aw (ku (c.2,D.1)) λz=>(jn (aI (!A.2) (jO (bc z.1) (bc c.f) (jO (bc A.1) (aZ .i64 ((bc q.d)-1)) (aw (mW ()) λI=>(aF I)) (aF aa)) (aF aa)) (aI z.2 (jO (bc z.1) (bc c.f) (jO (bc A.1) (aZ .i64 ((bc q.d)-1)) (aw (mW ()) λF=>(aF F)) (aF aa)) (aF aa)) (aF aa))) λN=>(Z N))))))) λr=>Z (bV r)))) (0,q)))))
def Mi (x:WN) (h:oG x) (q:i<=l! x.2.2.2):m7 (x,(i:Int))=Z (sV x.1 x.2.2.1 x.2.2.2 i):=by
 refine cF ?_;unfold m7 ba bI bS bz bc cW aF cM;have c:=h.ln;refine bn i (λa y=>y=((a:Int),x,0,sV x.1 x.2.2.1 x.2.2.2 a)) ?_ ?_ rfl
 .rintro a y hi rfl;refine aX (λz=>z=(J,x,0,sV x.1 x.2.2.1 x.2.2.2 a)) ?_ ?_
  .refine dx (aj ?_);dsimp only[ak];rw[oc.2 (by omega)]
  rintro z rfl;refine eU rfl (cG (aQ (aV (h.ch a (by omega)).eq (aj ?_))));dsimp only;rw[fd,Ge _ _ (by omega)]
 .rintro y rfl;refine aX (λz=>z=(aa,x,0,sV x.1 x.2.2.1 x.2.2.2 i)) (di (aj rfl)) ?_;rintro z rfl;exact jQ rfl (aj rfl)
def AO (e:ET):lE e=Z (acB e):=L1 e
def C6 (a b:ET):Ok (jJ (a,b)) λ_=>True:=by
 unfold jJ ba bQ bi aF;refine aX (λ_=>True) ?_ λ_ _=>aj trivial
 exact aV (AO a) (aM (λ_=>aV (AO b) (aM (λ_=>aL (λ_=>aL (λ_=>aj trivial) λ_=>aj trivial) λ_=>aj trivial) λ_=>aj trivial)) λ_=>aj trivial)
def DK (a b:Int):vA (a,b)=Z (decide (0<=a/\a<b)):=Se a b
def agm (x:WN) (h:oG x) (A:i<l! x.2.2.2) (hb:m<l! x.2.2.2):Ok (kw (x,(i:Int),(m:Int))) λ_=>True:=by
 unfold kw ba bQ b_ bI bi bz aF;refine cG (aQ (cG (aQ (aL (λ_=>aj trivial) λ_=>?_))));refine aV (Mi x h (vq A)) ?_;have F:=h.eni hb;have ga:=h.eni A;have D:=(h.nbi (vq A)).sb;have ge:=ga.e1;have hnm:=F.nm;have hcd:=F.cd;generalize sV x.1 x.2.2.1 x.2.2.2 i=s at D ge ⊢;refine aX (λz=>z=(decide ((eN x.2.2.2 m).2.1=6\/(eN x.2.2.2 m).2.1=10),x,(eN x.2.2.2 m),(eN x.2.2.2 i),s.1)) (aL (λp=>aj (by have p:(eN x.2.2.2 m).2.1=6:=p;simp[p])) λp=>aj (by have p:¬(eN x.2.2.2 m).2.1=6:=p;simp[p])) ?_;rintro z rfl;have lk:6<=(eN x.2.2.2 m).2.1/\(eN x.2.2.2 m).2.1<=11->0<=(eN x.2.2.2 m).2.2.1/\(eN x.2.2.2 m).2.2.1<l! s.1.1:=λq=>by have:=hnm.lk q;omega
 have N:∀o:Int,0<=o->o<l! s.1.1->(aK c_ s.1.1 o).2.length<=1000000:=λo h0 h1=>cA (D.rd _ (bE (T:=c_) h0 h1)) (by decide)
 refine aL (λq=>?_) λq=>aL (λq=>?_) λq8=>aL (λq=>?_) λq17=>aL (λ_=>aj trivial) λ_=>aj trivial
 .have:=lk (by omega);refine aX (λ_=>True) ?_ λ_ _=>aj trivial
  exact aG this.1 this.2 (aQ (aL (λ_=>aj trivial) λ_=>aG this.1 this.2 (aQ (aV (Md _ _ (N _ this.1 this.2)) (aj trivial)))))
 .have q:(eN x.2.2.2 m).2.1=8:=q;have:=lk (by omega);exact aG this.1 this.2 (aQ (aj trivial))
 .have q:(eN x.2.2.2 m).2.1=17:=q;have c:=hnm.cd (by omega);have I:=hcd _ (bE (T:=itK) c.1 c.2);exact aG c.1 c.2 (aQ (aG I.1 (by rw[ge];exact I.2) (aQ (aj trivial))))
def O0 (x:WN) (h:oG x) {b:Int} (z:0<=a/\a<l! x.2.2.2) (q:0<=b/\b<l! x.2.2.2):Ok (kw (x,a,b)) λ_=>True:=by
 obtain⟨i,rfl,hi⟩:=h.at z;obtain⟨j,rfl,c⟩:=h.at q;exact agm x h hi c
def amk (x:WN) (h:oG x) (g:wc) (A:0<=g.2.1/\g.2.1<l! x.2.2.2) (D:0<=g.2.2.1/\g.2.2.1<l! x.2.2.2):Ok (wB (x,g)) λ_=>True:=by
 unfold wB ba bQ b_ da bI fX bi bS gF bz bc aF;refine aG A.1 A.2 (aQ (aG D.1 D.2 (aQ ?_)));refine aX (λ_=>True) ?_ λ_ _=>aj trivial
 refine aY (λ_=>aL (λ_=>aL (λ_=>aL (λ_=>bW (λ_=>?_) λ_=>aj trivial) λ_=>aj trivial) λ_=>aj trivial) λ_=>aj trivial) λ_=>aj trivial
 let⟨r,c,_⟩:=C6 (aK fP x.2.2.2 g.2.1) (aK fP x.2.2.2 g.2.2.1);refine aV c (aM (λq=>?_) λ_=>aj trivial);have q:r=J:=q;subst q;let⟨i,hi,z⟩:=h.at A;have:acB (aK fP x.2.2.2 g.2.1)=J:=by
  unfold jJ ba bQ bi aF at c;rw[show lE ((aK fP x.2.2.2 g.2.1),(aK fP x.2.2.2 g.2.2.1)).1=_ from AO _]at c;cases F:acB (aK fP x.2.2.2 g.2.1) with
  |true=>rfl
  |false=>rw[F]at c;cases c
 unfold acB at this;rw[eX,decide_eq_true_iff,decide_eq_true_iff]at this;have hce:0<=(aK fP x.2.2.2 g.2.1).2.2.1/\(aK fP x.2.2.2 g.2.1).2.2.1<l! x.1.1:=by
  rw[hi]at this ⊢;exact (h.eni z).nm.ce this
 exact aG hce.1 hce.2 (aQ (aj trivial))
def W1 (x:WN) (h:oG x) (g:wc):Ok (oR (x,g)) λ_=>True:=by
 let⟨k,a,b,c,d,ns⟩:=g;unfold oR ba bQ b_ da bI fX tI bi bS gF bY bz bc cW aF cM;have hl:=h.ln;refine aX (λz=>z.2=(x,k,a,b,c,d,ns)/\(z.1=aa->2<=l! ns/\l! ns<=4)) ?_ ?_
 .refine bW (λ_=>aj ⟨rfl,nofun⟩) λ_=>bW (λ_=>aj ⟨rfl,nofun⟩) λ_=>bW (λ_=>aj ⟨rfl,nofun⟩) λ_=>bW (λ_=>aj ⟨rfl,nofun⟩) λ_=>aY (λ_=>aj ⟨rfl,nofun⟩) λq=>aj ⟨rfl,λh=>?_⟩
  dsimp only[ak]at q h;rw[nG]at h;omega
 rintro⟨r,z⟩ ⟨e,A⟩;dsimp only at e A;subst e;refine aM (λ_=>aj trivial) λq=>?_
 let⟨I,F⟩:=A q;refine bn (l! ns) (λi y=>y=((i:Int),x,k,a,b,c,d,ns)/\∀k:Nat,k<i->0<=aK aO ns (k:Int)/\aK aO ns (k:Int)<l! x.2.2.2) ?_ ?_ ⟨rfl,λj D=>bO D (dE _)⟩
 .rintro i y hi ⟨rfl,hp⟩;refine dx (cG (aQ (aV (DK _ _) (cH (λ_=>aj trivial) λq=>aj ⟨by dsimp only;rw[fd],λk hk=>?_⟩))));rcases bZ k i with g|g
  .exact hp k g
  .rw[show k=i by omega];exact bJ q
 rintro y ⟨rfl,hp⟩;have hin:∀k:Int,0<=k->k<l! ns->0<=aK aO ns k/\aK aO ns k<l! x.2.2.2:=λk N k1=>by
  have:=hp k.toNat (by omega)
  rwa [show ((k.toNat:Nat):Int)=k by omega]at this
 refine di (av (P:=λ_=>True) ?_ λ_ _=>aj trivial);refine bn (l! ns) (λi y=>y=((i:Int),x,k,a,b,c,d,ns)) ?_ ?_ rfl
 .rintro i y hi rfl;have hm:=O_ i (n:=l! ns) (by omega);have hii:=hin (i:Int) (by omega) (by omega);have him:=hin _ hm.1 hm.2;refine dx (aX (λz=>z.2=(x,k,a,b,c,d,ns)) ?_ ?_)
  .refine cG (aQ (cG (aQ (aY (λ_=>aj rfl) λ_=>l8 (by dsimp only[ak];omega) ?_))));dsimp only;rw[fd];refine aG hm.1 hm.2 (aQ (cG (aQ (av (O0 x h him hii) λ_ _=>aj rfl))))
  rintro⟨r,z⟩ e;dsimp only at e;subst e;refine aM (λ_=>aj trivial) λ_=>?_
  refine bn i (λj y=>y=((j:Int),x,k,a,b,c,d,ns)) ?_ ?_ rfl
  .rintro j y D rfl;have hij:=hin (j:Int) (by omega) (by omega);refine dx (cG (aQ (aG hii.1 hii.2 (aQ (cG (aQ (aG hij.1 hij.2 (aQ (aL (λ_=>aj trivial) λ_=>aj ?_)))))))));dsimp only;rw[fd]
  .rintro y rfl;refine di (aj ?_);dsimp only;rw[fd]
 .rintro y rfl;exact di (aj trivial)
def amu (x:WN) (h:oG x) (g:wc) (F:0<=g.2.1/\g.2.1<l! x.2.2.2) (D:0<=g.2.2.1/\g.2.2.1<l! x.2.2.2):Ok (wC (x,g)) λ_=>True:=by
 unfold wC ba bQ b_ da bI fX bi bS gF bz bc cW aF cM;have hl:=h.ln;refine aG F.1 F.2 (aQ (aG D.1 D.2 (aQ ?_)));refine aX (λz=>z.2=(x,g,aK fP x.2.2.2 g.2.1,aK fP x.2.2.2 g.2.2.1)/\(z.1=aa->g.2.2.1<g.2.1)) ?_ ?_
 .have no:∀{P:Prop},(J:Bool)=aa->P:=nofun
  refine bW (λ_=>aj ⟨rfl,no⟩) λ_=>bW (λ_=>aj ⟨rfl,no⟩) λ_=>aY (λ_=>aj ⟨rfl,no⟩) λ_=>?_
  refine bW (λ_=>bW (λ_=>aj ⟨rfl,no⟩) λ_=>?_) λ_=>?_
  .exact bW (λ_=>aj ⟨rfl,no⟩) λ_=>bW (λ_=>aj ⟨rfl,no⟩) λ_=>aL (λ_=>aj ⟨rfl,no⟩) λ_=>aj ⟨rfl,λq=>je.1 q⟩
  .exact bW (λ_=>aj ⟨rfl,no⟩) λ_=>bW (λ_=>aj ⟨rfl,no⟩) λ_=>aL (λ_=>aj ⟨rfl,no⟩) λ_=>aj ⟨rfl,λq=>je.1 q⟩
 rintro⟨r,z⟩ ⟨e,I⟩;dsimp only at e I;subst e;refine aM (λ_=>aj trivial) λq=>?_
 have hba:=I q;let⟨i,hi,c⟩:=h.at F;let⟨j,hj,A⟩:=h.at D;have ga:=h.eni c;have N:=h.eni A;refine bn (i-(j+1)) (λk y=>y=(((j+1+k:Nat):Int),x,g,aK fP x.2.2.2 g.2.1,aK fP x.2.2.2 g.2.2.1)) ?_ ?_ ?_
 .rintro k y hk rfl;refine dx (h:=by dsimp only;omega) (cG (aQ (aL (λ_=>aj trivial) λ_=>aj ?_)));dsimp only;rw[fd];rfl
 .rintro y rfl;refine di (h:=by dsimp only;omega) (av (P:=λ_=>True) ?_ λ_ _=>aj trivial);dsimp only;rw[hi];refine aV (Mi x h (vq c)) ?_;have t0:0<=(aK fP x.2.2.2 g.2.2.1).1/\(aK fP x.2.2.2 g.2.2.1).1<(sV x.1 x.2.2.1 x.2.2.2 i).1.2.2.2.length:=by
   rw[ga.e3,hj];exact⟨N.t0,N.t1⟩
  refine aG t0.1 t0.2 (aQ (aX (λ_=>True) (aL (λ_=>aL (λ_=>aj trivial) λ_=>aj trivial) λ_=>aj trivial) λ_ _=>aj trivial))
 .dsimp only;rw[jA];congr 1;omega
def afg (x:WN) (h:oG x) (g:wc) (D:0<=g.2.1/\g.2.1<l! x.2.2.2) (A:0<=g.2.2.1/\g.2.2.1<l! x.2.2.2) (N:0<=g.2.2.2.1/\g.2.2.2.1<l! x.2.2.2) (hd:0<=g.2.2.2.2.1/\g.2.2.2.2.1<l! x.2.2.2):Ok (sv (x,g)) λ_=>True:=by
 unfold sv ba bQ b_ da ia bI fX bi bS jO gF bz bc cW aF cM;have hl:=h.ln;refine aX (λz=>z.2=(x,g)/\(z.1=aa->g.2.1<g.2.2.1)) ?_ ?_
 .exact aY (λ_=>aj ⟨rfl,nofun⟩) λ_=>eh (λ_=>aj ⟨rfl,nofun⟩) λq=>aj ⟨rfl,λ_=>q⟩
 rintro⟨r,z⟩ ⟨e,I⟩;dsimp only at e I;subst e;refine aM (λ_=>aj trivial) λq=>?_
 have hab:=I q;refine aG D.1 D.2 (aQ (aG A.1 A.2 (aQ (aG N.1 N.2 (aQ (aG hd.1 hd.2 (aQ ?_)))))));refine aX (λz=>z.2=(x,g,aK fP x.2.2.2 g.2.1)) ?_ ?_
 .refine bW (λ_=>aj rfl) λ_=>bW (λ_=>aj rfl) λ_=>aL (λ_=>aj rfl) λ_=>?_
  exact av (C6 _ _) λ_ _=>cH (λ_=>aj rfl) λ_=>av (C6 _ _) λ_ _=>aj rfl
 rintro⟨r,z⟩ e;dsimp only at e;subst e;refine aM (λ_=>aj trivial) λq=>?_
 let⟨i,hi,c⟩:=h.at D;let⟨j,hj,hj1⟩:=h.at A;have F:=h.eni c;refine bn (j-i) (λk y=>y=(((i+k:Nat):Int),x,g,aK fP x.2.2.2 g.2.1)) ?_ ?_ ?_
 .rintro k y hk rfl;refine dx (h:=by dsimp only;omega) (aX (λz=>z.2=(x,g,aK fP x.2.2.2 g.2.1)) ?_ ?_)
  .exact cG (aQ (aL (λ_=>cG (aQ (aj rfl))) λ_=>aj rfl))
  rintro⟨r,z⟩ e;dsimp only at e;subst e;refine aM (λ_=>aj trivial) λ_=>aj ?_
  dsimp only;rw[fd];rfl
 .rintro y rfl;refine di (h:=by dsimp only;omega) (av (P:=λ_=>True) ?_ λ_ _=>aj trivial);dsimp only;rw[hi];refine aV (Mi x h (vq c)) ?_;have t0:0<=(eN x.2.2.2 i).1/\(eN x.2.2.2 i).1<(sV x.1 x.2.2.1 x.2.2.2 i).1.2.2.2.length:=by
   rw[F.e3];exact⟨F.t0,F.t1⟩
  exact aG t0.1 t0.2 (aQ (aj trivial))
 .dsimp only;rw[hi];rfl
def Re (x:WN) (h:oG x) (g:wc):Ok (py (x,g)) λ_=>True:=by
 unfold py ba bQ b_ da bI bi bc aF;refine aL (λ_=>av (W1 x h g) λ_ _=>aj trivial) λ_=>?_
 refine aX (λz=>z.2=(x,g)/\(z.1=aa->(0<=g.2.1/\g.2.1<l! x.2.2.2)/\(0<=g.2.2.1/\g.2.2.1<l! x.2.2.2)/\(0<=g.2.2.2.1/\g.2.2.2.1<l! x.2.2.2)/\(0<=g.2.2.2.2.1/\g.2.2.2.2.1<l! x.2.2.2))) ?_ ?_
 .have no:∀{P:Prop},(J:Bool)=aa->P:=nofun
  refine aV (DK _ _) (cH (λ_=>aj ⟨rfl,no⟩) λq1=>aV (DK _ _) (cH (λ_=>aj ⟨rfl,no⟩) λD=>aV (DK _ _) (cH (λ_=>aj ⟨rfl,no⟩) λq3=>aV (DK _ _) (aj ⟨rfl,λq4=>?_⟩))));have q4:decide (0<=g.2.2.2.2.1/\g.2.2.2.2.1<(l! x.2.2.2:Int))=J:=by simpa using q4
  exact⟨bJ q1,bJ D,bJ q3,bJ q4⟩
 rintro⟨r,z⟩ ⟨e,A⟩;dsimp only at e A;subst e;refine aM (λ_=>aj trivial) λq=>?_
 let⟨a,b,c,d⟩:=A q;exact aL (λ_=>av (amk x h g a b) λ_ _=>aj trivial) λ_=>aL (λ_=>av (amu x h g a b) λ_ _=>aj trivial) λ_=>aL (λ_=>av (afg x h g a b c d) λ_ _=>aj trivial) λ_=>aj trivial
def acf (P:Program) (f:Ty->TypeId->Bool):Y Field->Nat->Ty->Bool
 |[],_,.un=>J
 |[x],off,T=>ay x.offset off&&f T x.type&&ay (P.cellsOf x.type) T.size
 |x::y::r,off,.pr a b=>ay x.offset off&&f a x.type&&ay (P.cellsOf x.type) a.size&&acf P f (y::r) (off+a.size) b
 |_,_,_=>aa
def Zs (P:Program) (f:Ty->TypeId->Bool) (e:TypeId):Nat->Ty->Bool
 |1,T=>f T e&&ay (P.cellsOf e) T.size
 |m+2,.pr a b=>f a e&&ay (P.cellsOf e) a.size&&Zs P f e (m+1) b
 |_,_=>aa
def Cv (P:Program):Nat->Ty->TypeId->Bool
 |0,_,_=>aa
 |n+1,T,t=>match T,P.underlying t with
  |.int k,Z (.int c)=>k==c
  |.bool,Z .bool=>J
  |.str,Z .string=>J
  |.sl g,Z (.slice e)=>Cv P n g e&&ay (P.cellsOf e) g.size&&db 0 g.size
  |.st g,Z (.struct q)=>acf P (Cv P n) q.toList 0 g&&ay (P.cellsOf t) g.size
  |.st g,Z (.array m e)=>Zs P (Cv P n) e m g&&ay (P.cellsOf t) g.size
  |_,_=>aa
def X3:(T:Ty)->T.den->Prop
 |.int k,n=>(Lit.int k n).wf=J
 |.str,s=>ah s<=maxLen
 |.sl g,xs=>ah xs<=maxLen/\∀x∈(xs:Y g.den),X3 g x
 |.st t,v=>X3 t v
 |.pr a b,v=>X3 a v.1/\X3 b v.2
 |_,_=>True
def L8 (W:World) (T:Ty) (x:T.den) (cs:ξ):Prop:=l! cs=T.size/\∀(j:Nat) y v,(bP T x)[j]? =Z y->cs[j]? =Z v->lX (λ_=>False) W y v
def LJ (z:R) (P:Nat->R->Prop):∀n:Nat,(∀i,i<n->∃a,P i a)->∃l:Y R,l! l=n/\∀i x,l[i]? =Z x->P i x
 |0,_=>⟨[],rfl,λi x h=>by simp at h⟩
 |n+1,h=>by
  let⟨l,c,hp⟩:=LJ z P n (λi hi=>h i (by omega));let⟨a,A⟩:=h n (by omega);refine ⟨l++[a],by simp[c],λi x q=>?_⟩
  grind
def Addr.add_plain {a:Addr} (h:a.spot=U) (n:Nat):a.add n=⟨a.block,a.off+n,U⟩:=by
 unfold Addr.add;split
 next h0=>subst h0;cases a;subst h;rfl
 .rfl
variable {w:World} {v:Value}
def aap {a:Addr} (h:w.cell? a=Z v):a.spot=U:=by
 unfold O1 at h;split at h
 .simp_all
 .cases h
variable {A:ξ}
def L8.sub {x:T.den} (h:L8 w T x ((A.drop i).take m)) (z:m=T.size) (cs:i+m<=l! A):∀(j:Nat) y v,(bP T x)[j]? =Z y->A[i+j]? =Z v->lX (λ_=>False) w y v:=λj y v c q=>by
 refine h.2 j y v c ?_;have D:j<T.size:=by have:=(bm.1 c).1;rwa [bh]at this
 grind
section
variable {H:Type} {enc:TypeId×Value->H} {P:Program} {W:World} {base:Nat} {sp:Nat->Bool} {hd:Bool}
def Yj {f:Ty->TypeId->Bool} (F:∀(T:Ty) (t:TypeId) (cs:ξ) x,f T t=J->DataW.trod enc P W base sp hd m t cs=Z x->∃v,L8 W T v cs/\X3 T v) (cs:ξ) (ts:Y (DataW H×Y MemPlace)):
 ∀(fs:Y Field) (off k:Nat) (T:Ty),acf P f fs off T=J->off+T.size<=l! cs->(∀(i:Nat) (fl:Field),fs[i]? =Z fl->∃z,DataW.trod enc P W base sp hd m fl.type ((cs.drop fl.offset).take (P.cellsOf fl.type))=Z z)->
 ∃v,(∀(j:Nat) y u,(bP T v)[j]? =Z y->cs[off+j]? =Z u->lX (λ_=>False) W y u)/\X3 T v
 |[],off,k,.un,_,_,_=>⟨(),λj y u A=>by simp[bP]at A,trivial⟩
 |[x],off,k,T,h,hl,D=>by
  simp only[acf,al]at h;let⟨⟨h1,h2⟩,q⟩:=h;have h1:=au h1;have q:=au q;let⟨z,I⟩:=D 0 x rfl;let⟨v,c,hw⟩:=F T _ _ _ h2 I;rw[h1]at c;exact⟨v,c.sub q (by omega),hw⟩
 |x::x'::r,off,k,.pr a b,h,hl,D=>by
  simp only[acf,al]at h;let⟨⟨⟨h1,h2⟩,q⟩,h4⟩:=h;have h1:=au h1;have q:=au q;simp[Ty.size]at hl;let⟨z,I⟩:=D 0 x rfl;let⟨v,c,hw⟩:=F a _ _ _ h2 I;rw[h1]at c;have c:=c.sub q (by omega);let⟨v',hv',N⟩:=Yj F cs ts (x'::r) (off+a.size) (k+1) b h4 (by omega) (λi fl hi=>D (i+1) fl (by grind));refine ⟨(v,v'),λj y u A hu=>?_,hw,N⟩;simp[bP]at A;by_cases hj:j<a.size
  .rw[cE (by rw[bh];exact hj)]at A;exact c j y u A hu
  .rw[cw (by rw[bh];omega),bh]at A
   grind
def Yk {f:Ty->TypeId->Bool} {e:TypeId} (D:∀(T:Ty) (t:TypeId) (cs:ξ) x,f T t=J->DataW.trod enc P W base sp hd m t cs=Z x->∃v,L8 W T v cs/\X3 T v) (cs:ξ):
 ∀(n i:Nat) (T:Ty),Zs P f e n T=J->i*P.cellsOf e+T.size<=l! cs->(∀j,j<n->∃z,DataW.trod enc P W base sp hd m e ((cs.drop ((i+j)*P.cellsOf e)).take (P.cellsOf e))=Z z)->
 ∃v,(∀(j:Nat) y u,(bP T v)[j]? =Z y->cs[i*P.cellsOf e+j]? =Z u->lX (λ_=>False) W y u)/\X3 T v
 |0,i,T,h,_,_=>by cases h
 |1,i,T,h,hl,A=>by
  simp only[Zs,al]at h;have h3:=au h.2;let⟨z,F⟩:=A 0 (by omega);let⟨v,c,N⟩:=D T _ _ _ h.1 F;rw[dQ]at c;exact⟨v,c.sub h3 (by omega),N⟩
 |n+2,i,T,h,hl,A=>by
  cases T with
  |pr a b=>
   simp only[Zs,al]at h;let⟨⟨h1,h2⟩,h4⟩:=h;have h3:=au h2;simp[Ty.size]at hl;let⟨z,F⟩:=A 0 (by omega);let⟨v,c,N⟩:=D a _ _ _ h1 F;rw[dQ]at c;have c:=c.sub h3 (by omega);let⟨v',hv',I⟩:=Yk D cs (n+1) (i+1) b h4 (by grind) (λj hj=>by have:=A (j+1) (by omega);rwa [show i+(j+1)=i+1+j from by omega]at this);refine ⟨(v,v'),λj y u q hu=>?_,N,I⟩;simp[bP]at q;by_cases hj:j<a.size
   .rw[cE (by rw[bh];exact hj)]at q;exact c j y u q hu
   .rw[cw (by rw[bh];omega),bh]at q
    grind
  |_=>unfold Zs at h;cases h
def IK:∀(n:Nat) (T:Ty) (t:TypeId) (fI:Nat) (cs:ξ) x,Cv P n T t=J->(∀b,sp b=J)->DataW.trod enc P W base sp hd fI t cs=Z x->∃v,L8 W T v cs/\X3 T v
 |0,_,_,_,_,_,h,_,_=>by unfold Cv at h;cases h
 |n+1,T,t,fI,cs,x,h,hsp,ht=>by
  unfold Cv at h;split at h
  .rename_i k k' A;have hk:=eq_of_beq h;subst hk;obtain⟨m,rfl,_,I⟩:=DataW.trod_int A ht;refine ⟨m,⟨rfl,λj y v c z=>?_⟩,I⟩;cases j with
   |zero=>simp[bP]at c z;subst c z;exact .raw _
   |succ j=>simp[bP]at c
  .rename_i A;obtain⟨b,rfl,_⟩:=DataW.trod_bool A ht;refine ⟨b,⟨rfl,λj y v c z=>?_⟩,trivial⟩;cases j with
   |zero=>simp[bP]at c z;subst c z;exact .raw _
   |succ j=>simp[bP]at c
  .rename_i A;obtain⟨s,rfl,_,hs⟩:=DataW.trod_string A ht;refine ⟨s.data.toList,⟨rfl,λj y v c z=>?_⟩,by simpa[X3] using hs⟩;cases j with
   |zero=>simp[bP]at c z;subst c z;exact .raw _
   |succ j=>simp[bP]at c
  .rename_i g e A;simp only[al]at h;let⟨⟨h1,F⟩,h3⟩:=h;have F:=au F;have h3:0<g.size:=aW h3;rcases Go.Deep.open_slice A ht with ⟨rfl,_⟩|⟨a,len,cap,m,k,D,Pl,rfl,hb,hl,hm,hmm,_,hi⟩
   .refine ⟨[],⟨rfl,λj y v c z=>?_⟩,by simp[X3]⟩;cases j with
    |zero=>simp[bP]at c z;subst c z;exact .nil _ _ (by unfold maxLen;omega)
    |succ j=>simp[bP]at c
   .rw[hsp,aR rfl]at hmm;rw[F]at hi;let⟨xs,hx1,hx2⟩:=LJ g.zero (λi (v:g.den)=>∃cs',W.cells? base (a.add (i*g.size)) g.size=Z cs'/\L8 W g v cs'/\X3 g v) len (λi hil=>by
     let⟨cs',hc,htt⟩:=hi i (by omega);let⟨v,z,I⟩:=IK n g e k cs' _ h1 hsp htt;exact⟨v,cs',hc,z,I⟩)
    refine ⟨xs,⟨rfl,λj y v c z=>?_⟩,by show ah xs<=maxLen;omega,λy c=>?_⟩
    .cases j with
     |succ j=>simp[bP]at c
     |zero=>
      simp[bP]at c z;subst c z;by_cases h0:len=0
      .have:xs=[]:=eR.1 (by omega);subst this h0;exact .nil _ _ hm
      .obtain⟨x0,hx0⟩:∃x0,xs[0]? =Z x0:=⟨xs[0]'(by omega),aH (by omega)⟩
       let⟨cs0,hc0,_⟩:=hx2 0 x0 hx0;let⟨_,hcl0,hat0⟩:=World.cells?_some hc0;have hca:=hat0 0 h3;rw[aH (by omega)]at hca;have hspot:a.spot=U:=by
        have:=aap hca;simpa[Addr.add] using this
       have hblk:=World.block_lt_of_cell? W _ hca;rw[Nat.zero_mul,Addr.add_plain hspot,Addr.add_plain rfl]at hca hblk;have hcell:∀(i j:Nat) x,xs[i]? =Z x->j<g.size->∃cs',W.cell? ⟨a.block,a.off+(i*g.size+j),U⟩=cs'[j]? /\j<l! cs'/\L8 W g x cs':=λi j x hx hj=>by
        let⟨cs',hc,hr,_⟩:=hx2 i x hx;let⟨_,hcl,hat⟩:=World.cells?_some hc;have:=hat j hj;rw[Addr.add_plain hspot,Addr.add_plain rfl,pL]at this;exact⟨cs',this,by omega,hr⟩
       have hflat:∀j,j<l! xs*g.size->∃x,xs[j/g.size]? =Z x/\j%g.size<g.size/\j=j/g.size*g.size+j%g.size:=λj hj=>by
        have h5:j/g.size<l! xs:=Nat.div_lt_of_lt_mul (by rw[Nat.mul_comm];exact hj);exact⟨xs[j/g.size],aH h5,Nat.mod_lt _ h3,by rw[Nat.mul_comm];exact (Nat.div_add_mod j g.size).symm⟩
       have hlen:l! (List.flatMap (bP g) xs)=l! xs*g.size:=dN (bh g) xs;let⟨ab,ao,az⟩:=a;cases hspot;rw[<- hx1];refine .sl (List.flatMap (bP g) xs) (l! xs) cap ab ao (λj=>(W.cell? ⟨ab,ao+j,U⟩).getD undef) (by omega) hm (λh=>h) hblk (lq g xs) (λj hj=>?_) (λj y c=>?_)
       .obtain⟨x,hx,hjs,hje⟩:=hflat j (by omega);let⟨cs',g1,g2,_⟩:=hcell _ _ x hx hjs;rw[<- hje]at g1;simp only[g1,aH g2,Option.getD_some]
       .have hj:j<l! xs*g.size:=by rw[<- hlen];exact (bm.1 c).1
        let⟨x,hx,hjs,hje⟩:=hflat j hj;let⟨cs',g1,g2,g3⟩:=hcell _ _ x hx hjs;rw[<- hje]at g1;simp only[g1];rw[aH g2];refine g3.2 (j%g.size) y _ ?_ (aH g2);let⟨r,hr⟩:=FA (bh g) xs (j/g.size) x hx;have:((List.flatMap (bP g) xs).drop (j/g.size*g.size))[j%g.size]? =Z y:=by rw[iX,<-hje];exact c
        rw[hr,cE (by rw[bh];exact hjs)]at this;exact this
    .obtain⟨i,N⟩:=eA c;let⟨_,_,_,I⟩:=hx2 i y N;exact I
  .rename_i g fs A;simp only[al]at h;have F:=au h.2;obtain⟨xs,m,rfl,_,hl,hxl,hg⟩:=DataW.trod_struct A ht;let⟨v,z,I⟩:=Yj (f:=Cv P n) (m:=m) (λT t cs x h1 F=>IK n T t m cs x h1 hsp F) cs xs fs.toList 0 0 g h.1 (by omega) (λi fl hi=>by
    have N:fs[i]? =Z fl:=by simpa using hi
    have:=hg i fl N;have hlt:i<l! xs:=by rw[hxl];exact (cR.1 N).1
    rw[aH hlt]at this;exact⟨_,this⟩)
   exact⟨v,⟨by rw[hl,F];rfl,λj y u c A=>z j y u c (by rw[b6];exact A)⟩,I⟩
  .rename_i g m e A;simp only[al]at h;have F:=au h.2;obtain⟨xs,q,rfl,_,hl,hxl,hg⟩:=DataW.trod_array A ht;let⟨v,z,I⟩:=Yk (f:=Cv P n) (m:=q) (λT t cs x h1 F=>IK n T t q cs x h1 hsp F) cs m 0 g h.1 (by omega) (λj hj=>by
    have:=hg j hj;rw[aH (by omega)]at this;rw[b6];exact⟨_,this⟩)
   exact⟨v,⟨by rw[hl,F];rfl,λj y u c A=>z j y u c (by rw[Nat.zero_mul,b6];exact A)⟩,I⟩
  .cases h
variable {s:TypeId}
def R4 {r:Reach} (c:Cv P i T s=J) (h1:T.one=J) (h:Iv P W r m s v):v.cells.toList=[v]:=by
 cases i with
 |zero=>unfold Cv at c;cases c
 |succ i=>
  unfold Cv at c;unfold Iv at h;cases v with
  |agg cs=>
   split at c<;>rename_i q<;>first|(rw [q]at h;simp[]at h;unfold Cell.okWide at h;rw[q]at h;unfold Cell.ok at h;rw[q]at h;simp at h)|cases h1|cases c
  |_=>rfl
def V4 {r:Reach} (c:Cv P i T s=J) (h1:T.one=aa) (h:Iv P W r m s v):∃cs,v= .agg cs:=by
 cases i with
 |zero=>unfold Cv at c;cases c
 |succ i=>
  unfold Cv at c;unfold Iv at h;split at c<;>rename_i q<;>first|(rw [q]at h;let⟨cs,h,_⟩:=h;exact⟨cs,h⟩)|cases h1|cases c
def open_arg {n:Nat} {d:DataW H} {z:Y MemPlace} {r:Reach} (q:Cv P n T s=J) (hsp:∀b,sp b=J) (hok:Iv P W r i s v) (h:DataW.Trod enc P W base sp hd s v d z):∃x,lX (λ_=>False) W (fC T x) v/\X3 T x:=by
 let⟨fI,hf⟩:=h;let⟨x,c,D⟩:=IK n T s fI _ _ q hsp hf;refine ⟨x,?_,D⟩;by_cases h1:T.one=J
 .obtain⟨e1,e2⟩:=KP T x h1;exact c.2 0 _ v (by grind) (by rw[R4 q h1 hok];rfl)
 .obtain⟨cs,rfl⟩:=V4 q (by grind) hok;rw[qZ T x (by grind)];have I:l! cs.toList=l! (bP T x):=by rw[bh];exact c.1
  have:=lX.agg (O:=λ_=>False) (w:=W) (bP T x) cs.toList I (ou T x) (λj y u A F=>c.2 j y u A F);simpa using this
end
end
end Go.Proofs.YtlmflgjjamepmaaGreatDoor.AI
