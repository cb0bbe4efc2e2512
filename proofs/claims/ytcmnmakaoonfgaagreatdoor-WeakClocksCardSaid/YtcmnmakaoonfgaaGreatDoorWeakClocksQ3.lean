/-
  Texts of the proof, part 4 of 6: what is used to prove the statement. No condition.
-/
import Derived.Test.YtcmnmakaoonfgaaGreatDoorWeakClocksQ2
import Derived.KernelRfl
namespace Go.Proofs.YtcmnmakaoonfgaaGreatDoor.AI
open Go.RowKit
set_option maxRecDepth 100000
set_option maxHeartbeats 4000000
set_option linter.unusedVariables false
set_option linter.unusedSimpArgs false
set_option linter.defProp false
open _root_.Bool renaming true→J,false→af
open _root_.Int renaming ofNat_eq_natCast→ay,toNat→aM,ofNat→aS,toNat_natCast→a8,reduceEq→c8,reduceNeg→ep,le_trans→C5
open _root_.List renaming length→l!,length→aj,replicate→aG,length_singleton→cH,range→dE,take→dW,map→gD,cons_append→gI,length_cons→jX,set→oG,length_nil→pG,append→sO,nodup_cons→uF,getElem?_concat_length→vo,replicate_succ→yl,foldl_cons→zX,drop_eq_getElem_cons→Q1
open _root_.Nat renaming beq→aB,add_zero→dG,blt→eH
open _root_.Option renaming some→Z,none→U
open _root_.Prod renaming a→bk,b→bD,c→bQ,e→cS,d→db,f→dZ,h→eh,g→eV,k→iS,j→kZ,l→ly,i→md,n→me,m→mw,o→nM,ext→sC,p→w9,q→CY,s→Li
open _root_.Sum renaming inr→bZ,inl→lJ
noncomputable section
def rdE (e:ET):Bool:=decide (e.2.1=3)||decide (e.2.1=23)
def fl (l:Y ET) (t:Int):θ:=(l.filter λe=>decide (e.1=t)).map rdE
def Pb (l:Y ET) (t y:Int):Prop:=0<=y/\(fl l t).getD y.toNat af=J
def wC (l m:Y ET) (t:Int):fl (l++m) t=fl l t++fl m t:=by unfold fl;rw[List.filter_append,cr]
variable {a:Int}
def Ck {e:ET} (h:e.1=a):fl [e] a=[rdE e]:=by unfold fl;simp[h]
def yW {e:ET} (h:¬e.1=a):fl [e] a=[]:=by unfold fl;simp[h]
variable {k:Y ET}
def Pb.app {y:Int} (h:Pb k a y) (m:Y ET):Pb (k++m) a y:=by
 let⟨h0,h1⟩:=h;refine ⟨h0,?_⟩;rw[wC]
 grind
def Pb.lt {y:Int} (h:Pb k a y):y<l! (fl k a):=by
 let⟨h0,h1⟩:=h;rcases cJ y.toNat (l! (fl k a)) with g|g
 .omega
 .rw[aF,dI g]at h1;cases h1
def Pb.last {e:ET} (h:rdE e=J) (z:a=l! (fl k e.1)):Pb (k++[e]) e.1 a:=by
 subst z;refine ⟨by omega,?_⟩;rw[wC,Ck rfl,aF,cj (by simp),h];simp
def Wv (l:Y ET) (t:Int):l! (fl l t)<=l! l:=by unfold fl;rw[cm];exact EH ..
structure SCx (w:WT) (l:List ET) (sy:SY) (ce fu:η) (e:ET):Prop where
 en:EN w sy e.1 e.2.1 e.2.2.1
 rd:UK w sy e.1 e.2.1 e.2.2.1
 s1:e.2.1=1\/e.2.1=2->e.2.2.2.2.1= -1
 s2:¬(e.2.1=1\/e.2.1=2)->0<=e.2.2.2.2.1/\e.2.2.2.2.1<l! w.2.2.2.2.2/\(geti pR w.2.2.2.2.2 e.2.2.2.2.1).1=e.1
 de:0<l! e.2.2.2.2.2.1->e.2.1=5\/(e.2.1=3\/e.2.1=4)/\¬(geti lF w.1 e.2.2.1).2.2.1=0
 fr:0<l! e.2.2.2.2.2.2->e.2.1=4\/e.2.1=22
 nd:AN (l! (fl l e.1)) e.2.2.2.2.2.1
 nf:AN (l! (fl l e.1)) e.2.2.2.2.2.2
 rd1:∀y∈e.2.2.2.2.2.1,Pb l e.1 y
 rd2:∀y∈e.2.2.2.2.2.2,Pb l e.1 y
 va:VA w sy ce fu e.1 e.2.1 e.2.2.1 e.2.2.2.1
def thP:Nat->Y e!
 |0=>[]
 |n+1=>(1,0,af)::aG n (0,0,af)
def Yp (w:WT):SY:=(aG (l! w.2.1) (-1,[]),-1,aG (l! w.2.2.2.1) af,thP (l! w.2.2.2.2.1))
def ce0 (w:WT):η:=w.1.map λc=>c.2.2.2.2
def fu0 (w:WT):η:=aG (l! w.2.2.2.1) 0
inductive Acw (w:WT):List ET->SY->η->η->Prop
 |nil:Acw w [] (Yp w) (ce0 w) (fu0 w)
 |snoc {l:List ET} {sy:SY} {ce fu:η} {e:ET} (h:Acw w l sy ce fu) (hs:SCx w l sy ce fu e):Acw w (l++[e]) (ph w sy e.1 e.2.1 e.2.2.1 e.2.2.2.1).1 (ceP ce e) (fuP fu e)
def ahg (i:Nat):thP (i+2)=thP (i+1)++[(0,0,af)]:=by
 show (1,0,af)::aG (i+1) (0,0,af)=(1,0,af)::aG i (0,0,af)++[(0,0,af)]
 rw[wL,gI]
def Lp:∀n,l! (thP n)=n
 |0=>rfl
 |n+1=>by simp[thP]
def O0 (w:WT) (h:VL w):sZ w=Z (Yp w):=by
 let⟨w1,A,w3,L,N,w6⟩:=w;let⟨h1,h2,h3,h4,_,h5,h6⟩:=h;dsimp only at*
 refine cI ?_;unfold sZ bk bD bQ cS dZ eh iS bm bS bU be c7 aI cQ;refine bV (l! A) (λi x=>x.1=(i:Int)/\x.2.1=(w1,A,w3,L,N,w6)/\x.2.2.2=(-1,aG i (-1,[]))) ?_ ?_ ⟨rfl,rfl,rfl⟩
 .rintro i ⟨a,b,c,d,e⟩ hi ⟨D,e2,z⟩;obtain⟨rfl,rfl⟩:=z;subst D e2;with_reducible repeat' first|apply OS.ok;constructor|refine IM.mk λ_=>?_
  all_goals try simp[ay,tZ] at*
  all_goals first|omega|(simp;omega)|skip
  exact⟨fV,by rw[wL]⟩
 rintro⟨a,b,c,d,e⟩ ⟨D,e2,z⟩;obtain⟨rfl,rfl⟩:=z;subst e2;refine bP (λg4=>(by grind)) λ_=>?_
 refine aw (P:=λs=>s=Yp (w1,A,w3,L,N,w6)) ?_ λy hy=>ak hy
 refine bV (l! L) (λi x=>x.1=(i:Int)/\x.2.1=(w1,A,w3,L,N,w6)/\x.2.2.2=(-1,aG (l! A) (-1,[]),aG i af)) ?_ ?_ ⟨rfl,rfl,rfl⟩
 .rintro i ⟨a,b,c,d,e',f⟩ hi ⟨D,e2,z⟩;obtain⟨rfl,rfl,rfl⟩:=z;subst D e2;with_reducible repeat' first|apply OS.ok;constructor|refine IM.mk λ_=>?_
  all_goals try simp[ay,tZ] at*
  all_goals first|omega|(simp;omega)|skip
  exact⟨fV,by rw[wL]⟩
 rintro⟨a,b,c,d,e',f⟩ ⟨D,e2,z⟩;obtain⟨rfl,rfl,rfl⟩:=z;subst e2;refine bP (λg4=>(by grind)) λ_=>?_
 refine aw (P:=λs=>s=Yp (w1,A,w3,L,N,w6)) ?_ λy hy=>ak hy
 refine bV (l! N) (λi x=>x.1=(i:Int)/\x.2.1=(w1,A,w3,L,N,w6)/\x.2.2.2=(-1,aG (l! A) (-1,[]),aG (l! L) af,thP i)) ?_ ?_ ⟨rfl,rfl,rfl⟩
 .rintro i ⟨a,b,c,d,e'',f',g⟩ hi ⟨D,e2,z⟩;obtain⟨rfl,rfl,rfl,rfl⟩:=z;subst D e2;have hl:=Lp i;refine bP (λ_=>?_) λg4=>(by grind)
  refine gQ (aK (λh0=>ak ?_) λh0=>ak ?_)
  .have h0:((i:Nat):Int)=0:=h0;have h0:i=0:=by omega
   subst h0;exact bG (by grind) (by omega) (ak ⟨rfl,rfl,rfl⟩)
  .have h0:¬((i:Nat):Int)=0:=h0;obtain⟨j,rfl⟩:∃j,i=j+1:=⟨i-1,by omega⟩
   refine bG (by grind) (by omega) (ak ⟨fV,rfl,?_⟩);rw[ahg]
 rintro⟨a,b,c,d,e'',f',g⟩ ⟨D,e2,z⟩;obtain⟨rfl,rfl,rfl,rfl⟩:=z;refine bP (λg4=>(by grind)) λ_=>ak rfl
def YI {w:WT} (h:VL w):SB 0 (Yp w):=by
 let⟨h1,h2,N,L,_,D,A⟩:=h;refine ⟨by omega,by simp[Yp];omega,λl z=>?_,by simp[Yp];omega,by simp[Yp,Lp];omega⟩;rw[List.eq_of_mem_replicate z];simp
def OZ (w:WT) (h:VL w):ol w=Z (Yp w,ce0 w,fu0 w,aG (l! w.2.2.2.2.1) 0):=by
 have hs:=O0 w h;let⟨z,w2,w3,D,A,N⟩:=w;let⟨h1,h2,h3,h4,_,h5,h6⟩:=h;refine cI ?_;unfold ol bk bD bQ db eh bS bU bX be c7 aI cQ;refine aZ hs ?_;with_reducible repeat' first|apply OS.ok;constructor|refine IM.mk λ_=>?_
 all_goals try simp[ay,tZ] at*
 all_goals first|omega|skip
 refine bV (l! z) (λi x=>x.1=(i:Int)/\x.2.1=(z,w2,w3,D,A,N)/\x.2.2.2=(Yp (z,w2,w3,D,A,N),(z.take i).map (λc=>c.2.2.2.2),aG (l! D) 0,aG (l! A) 0)) ?_ ?_ ⟨rfl,rfl,rfl⟩
 .rintro i ⟨a,b,c,d,e,f,g⟩ hi ⟨e1,e2,L⟩;obtain⟨rfl,rfl,rfl,rfl⟩:=L;subst e1 e2;with_reducible repeat' first|apply OS.ok;constructor|refine IM.mk λ_=>?_
  all_goals try simp only[ay,tZ] at*
  all_goals first|omega|(simp;omega)|skip
  exact⟨fV,by rw[pH (T:=lF) hi,cr];rfl⟩
 rintro⟨a,b,c,d,e,f,g⟩ ⟨e1,e2,L⟩;obtain⟨rfl,rfl,rfl,rfl⟩:=L;refine bP (λg4=>(by grind)) λ_=>ak ?_
 rw[cY];rfl
def aaj (w:WT) (h:VL w):Ok (ol w) λs=>NB 0 s/\l! s.2.1=l! w.1/\l! s.2.2.1=l! w.2.2.2.1/\l! s.2.2.2=l! w.2.2.2.2.1:=
 awr (OZ w h) ⟨⟨YI h,by have:=h.c;simp[ce0];omega,by have:=h.f;simp[fu0];omega,by have:=h.t;simp;omega⟩,by simp[ce0],by simp[fu0],by simp⟩
def Vh (l:Y ET) (i t:Int) (z:η) (hl:l! l<=1000000000) (hi:0<=i/\i<=l! l) (N:l! z<=1000000000):Ok (sX (l,i,t,z)) λb=>b=J->∀y∈z,Pb (l.take i.toNat) t y:=by
 unfold sX bk db bm bS jK bX be c7 aI cQ;refine bV (l! z) (λk x=>x=(k:Int)/\∀j:Nat,j<k->Pb (l.take i.toNat) t (geti aP z (j:Int))) ?_ ?_ ⟨rfl,λj hj=>(by omega)⟩
 .rintro k x hk ⟨rfl,hx⟩;refine bP (λg4=>?_) λg4=>(by grind)
  refine pX (λx=>(i-x.2.2).toNat) (λx=>0<=x.2.2/\x.2.2<=i/\x.1=(l! (fl (l.take x.2.2.toNat) t):Int)/\(x.2.1=J->Pb (l.take x.2.2.toNat) t (geti aP z (k:Int)))) ?_ ⟨by simp,hi.1,by simp[fl],nofun⟩;rintro⟨a,b,(c:Int)⟩ ⟨L,c1,ha,D⟩;dsimp only at L c1 ha D;subst ha;obtain⟨c,rfl⟩:∃n:Nat,c=(n:Int):=⟨c.toNat,by omega⟩
  rw[a8]at D;dsimp only;rw[a8];have hfl:=Wv (l.take c) t;have htl:=ym c l;refine bP (λg5=>?_) λg5=>?_
  .have g5:(c:Int)<i:=g5;have htk:l.take (c+1)=l.take c++[geti gz l (c:Int)]:=pH (T:=gz) (by omega);refine aV (λy=>y.1=(l! (fl (l.take (c+1)) t):Int)/\(y.2=J->Pb (l.take (c+1)) t (geti aP z (k:Int)))) ?_ ?_
   .rw[htk,wC];refine aR L (by omega) (aU ?_);refine cq (λhne=>ak ⟨by rw[yW hne];simp,λh=>(D h).app _⟩) λhe=>?_
    have he:(geti gz l (c:Int)).1=t:=he;refine aV (λy=>y=J->Pb (l.take c++[geti gz l (c:Int)]) t (geti aP z (k:Int))) ?_ λy hy=>ak ⟨?_,hy⟩
    .refine aQ (λh=>ak λ_=>(D h).app _) λ_=>?_
     refine bH (aU ?_);refine aK (λN=>?_) λ_=>ak nofun
     have A:rdE (geti gz l (c:Int))=J->Pb (l.take c++[geti gz l (c:Int)]) t (geti aP z (k:Int)):=λh=>by
      rw[<- he]at N ⊢;exact Pb.last h N.symm
     refine aR L (by omega) (aU ?_);refine aK (λh=>ak λ_=>A (by unfold rdE;rw[bc h];rfl)) λ_=>?_
     exact aR L (by first|omega|(dsimp only;omega)) (aU (ak λh=>A (by unfold rdE;rw[h];simp)))
    .dsimp only;rw[Ck he,fV];simp
   .rintro⟨p,q⟩ ⟨hp,A⟩;refine ak ?_;dsimp only at hp A ⊢;rw[fV,a8]
    grind
  .refine aw (P:=λr=>match r with|.inl y=>y=((k+1:Nat):Int)/\∀j:Nat,j<k+1->Pb (l.take i.toNat) t (geti aP z (j:Int))|.inr r=>r=J->∀y∈z,Pb (l.take i.toNat) t y) ?_ λr hr=>ak ?_
   .refine eu (λ_=>ak nofun) λh=>ak ⟨fV,λj hj=>?_⟩
    grind
   .grind
 .rintro x ⟨rfl,hx⟩;refine bP (λg4=>(by grind)) λ_=>ak λ_=>iQ (T:=aP) hx
def CN (l:Y ET) (c:η):Prop:=∀t:Int,0<=t->t<l! c->geti aP c t=(l! (fl l t):Int)
variable {T:Ty}
def jH (xs:Y T.den) (j k:Int) (x:T.den) (D:0<=j) (z:j<l! xs) (A:0<=k):geti _ (cC xs j x) k=if k=j then x else geti _ xs k:=by
 unfold geti cC
 grind
variable {z:η}
def CN.next (h:CN k z) (e:ET) (h0:0<=e.1) (h1:e.1<l! z) (N:l! k<1000000):CN (k++[e]) (cC z e.1 (bn .i64 (geti aP z e.1+1))):=λt D A=>by
 rw[bW]at A;have:=Wv k e.1;rw[jH (T:=aP) _ _ _ _ h0 h1 D,wC];split
 next c=>subst c;rw[Ck rfl,h _ h0 h1,fV];simp
 next c=>rw[yW λL=>c L.symm,h _ D A];simp
def CN.bd (h:CN k z) (t:Int):(geti aP z t:Int)<=l! k:=by
 have key:∀c:Int,geti aP z t=c->c<=l! k:=by
  intro c e;rcases cJ t.toNat (l! z) with g|g
  .have h1:=h (t.toNat:Int) (by omega) (by omega);have D:=Wv k ((t.toNat:Nat):Int);have A:geti aP z t=geti aP z ((t.toNat:Nat):Int):=by unfold geti;rw[a8]
   grind
  .have:c=0:=by
    rw[<- e];unfold geti;rw[aF,dI g];rfl
   omega
 exact key _ rfl
structure Ht (w:WT) (e:ET):Prop where
 nm:NM w e.2.1 e.2.2.1
 t0:0<=e.1
 t1:e.1<l! w.2.2.2.2.1
 cd:∀c∈w.2.2.1,0<=c.2/\c.2<l! w.2.1
def am1 (w:WT) (l:Y ET):Ok (v7 (w,l)) λy=>y.2=0->(VL w/\SV0 w)/\(∀e∈l,Ht w e)/\∃sy ce fu,Acw w l sy ce fu:=by
 unfold v7 cS db iS bS bX be c7 aI cQ;refine bP (λ_=>ak nofun) λhl=>?_
 dsimp only[ay]at hl;refine aw (Ey w) λb hb=>?_
 refine eu (λ_=>ak nofun) λh=>?_
 let⟨L,hsv⟩:=hb h;refine aZ (OZ w L) ?_;have hs:NB 0 (Yp w,ce0 w,fu0 w,aG (l! w.2.2.2.2.1) 0):=⟨YI L,by have:=L.c;simp[ce0];omega,by have:=L.f;simp[fu0];omega,by have:=L.t;simp;omega⟩
 have hw:l! w.2.2.1<=1000:=by have:=L.d;omega
 refine bV (l! l) (λi x=>x.1=(i:Int)/\x.2.1=(w,l)/\NB i x.2.2/\(∀k:Nat,k<i->Ht w (geti gz l (k:Int)))/\Acw w (l.take i) x.2.2.1 x.2.2.2.1 x.2.2.2.2.1/\CN (l.take i) x.2.2.2.2.2/\l! x.2.2.2.2.2=l! w.2.2.2.2.1) ?_ ?_ ⟨rfl,rfl,hs,λk hk=>(by omega),.nil,λt t0 t1=>?_,by simp⟩
 .rintro i ⟨a,b,s⟩ hi ⟨e1,e2,e3,e4,e5,e6,e7⟩;dsimp only at e1 e2 e3 e4 e5 e6 e7;subst e1 e2;refine bP (λN=>?_) λN=>(by grind)
  refine bH (aU ?_);have hmem:=bI (T:=gz) (xs:=l) (j:=(i:Int)) (by omega) (by omega);have hbd:=e6.bd (geti gz l (i:Int)).1;have htl:=ym i l;have hbd:(geti aP s.2.2.2 (geti gz l (i:Int)).1:Int)<=1000000:=by grind
  refine aw (I0 w s e3 hw _ (.inr (C5 hbd (by decide))) (.inr (C5 hbd (by decide)))) λy hy=>?_
  have d1:y.2=J->(geti gz l (i:Int)).2.2.2.2.2.1.length<=1000000000:=λh=>by
   have h3:((geti gz l (i:Int)).2.2.2.2.2.1.length:Int)<=max (0:Int) (geti aP s.2.2.2 (geti gz l (i:Int)).1):=(hy.1 h).2.2.1.nd.len
   grind
  have d2:y.2=J->(geti gz l (i:Int)).2.2.2.2.2.2.length<=1000000000:=λh=>by
   have h3:((geti gz l (i:Int)).2.2.2.2.2.2.length:Int)<=max (0:Int) (geti aP s.2.2.2 (geti gz l (i:Int)).1):=(hy.1 h).2.2.1.nf.len
   grind
  refine aV (λx=>x.2.1=(w,l)/\x.2.2.2=y.1/\(x.1=af->y.2=J/\(∀z∈(geti gz l (i:Int)).2.2.2.2.2.1,Pb (l.take i) (geti gz l (i:Int)).1 z)/\∀z∈(geti gz l (i:Int)).2.2.2.2.2.2,Pb (l.take i) (geti gz l (i:Int)).1 z)) ?_ ?_
  .refine eu (λ_=>ak ⟨rfl,rfl,nofun⟩) λh=>?_
   refine aw (Vh l _ _ _ (by omega) ⟨by dsimp only;omega,by dsimp only;omega⟩ (d1 h)) λb1 hr1=>?_
   refine eu (λ_=>ak ⟨rfl,rfl,nofun⟩) λhb1=>?_
   refine aw (Vh l _ _ _ (by omega) ⟨by dsimp only;omega,by dsimp only;omega⟩ (d2 h)) λb2 hr2=>ak ⟨rfl,rfl,λhb2=>⟨h,hr1 hb1,hr2 (by simpa using hb2)⟩⟩
  .rintro⟨c,p,q,r⟩ ⟨f1,f2,f3⟩;dsimp only at f1 f2 f3;subst f1 f2;refine aQ (λ_=>ak nofun) λh=>?_
   let⟨f4,r1,r2⟩:=f3 h;let⟨A,g2,D,N⟩:=hy.1 f4;refine ak ?_;dsimp only;have htk:l.take (i+1)=l.take i++[geti gz l (i:Int)]:=pH (T:=gz) hi;have hc:=e6 _ A.t0 (by rw[e7];exact A.t1);have hnx:=eZ Prod.fst N;have hac:=e5.snoc (e:=geti gz l (i:Int)) ⟨A,D.rd,D.s1,D.s2,D.de,D.fr,by rw[<- hc];exact D.nd,by rw[<- hc];exact D.nf,r1,r2,D.va⟩;refine ⟨fV,rfl,g2.NB e3 (by omega),λk hk=>?_,by rw[htk,N];exact hac,by rw[htk,N];exact e6.next _ A.t0 (by rw[e7];exact A.t1) (by omega),by rw[N];unfold nxP;rw[bW];exact e7⟩;rcases cJ k i with h1|h1
   .exact e4 k h1
   .rw[show k=i by omega];exact⟨A.nm,A.t0,A.t1,A.cd⟩
 .rintro⟨a,b,s⟩ ⟨e1,e2,e3,e4,e5,_⟩;dsimp only at e1 e2 e3 e4 e5;subst e1 e2;rw[cY]at e5;refine bP (λN=>(by grind)) λ_=>ak λ_=>⟨⟨L,hsv⟩,iQ (T:=gz) e4,_,_,_,e5⟩
 .rw[dx]at t1;obtain⟨t,rfl⟩:∃n:Nat,t=(n:Int):=⟨t.toNat,by omega⟩
  rw[vB,aF,fT];split<;>simp[fl]
abbrev Kd0:Ty:=(.st (.pr .bool .bool))
abbrev Yd0:=(Int×E!)
abbrev Yd1:=(ν×b!)
abbrev Yd2:=(Int×h?)
def nD (x:n?):M (Int):=
 (jn (bS x.2 0 (aI J) (aI (dy (be x.1) x.2))) λz=>(aJ z (Z 0) (ky x.2 x.1 (Z (geti aP x.1 x.2)))))
def xu (it:Dr) (x:I?):M η:=
 (bU (dy 0 (lX (be x.1) (be x.2))&&dy (lX (be x.1) (be x.2)) (lX (be x.1) (be x.2))&&bh (aM (lX (be x.1) (be x.2))) 8) (it j! _ (λz=>(bS z.1 (aS (aj (aG (aM (lX (be x.1) (be x.2))) (0:Int)))) (aA (nD (x.1,z.1)) λD=>(aA (nD (x.2,z.1)) λA=>(ck (dK z.1 (aj z.2)) (c7 ((cQ z.1),(cC z.2 z.1 (lX D A))))))) (aI z.2))) (0,(aG (aM (lX (be x.1) (be x.2))) (0:Int)))))
def BX (x:I?):M η:=xu @iter x
def lx (x:I?):M η:=xu @hX x
def FY (x:n?):M (Int):=
 (jn (bS x.2 0 (aI J) (aI (dy (be x.1) x.2))) λz=>(aJ z (Z 0) (ky x.2 x.1 (Z (geti aP x.1 x.2)))))
def Te (x:η):M η:=
 (aJ (aB (aj x) 0) (IU (Z ([]:η)) (bU (bh (aj ([]:η)+aj x) 8) (Z (([]:η)++x)))) (bU (bh (aj ([]:η)+aj x) 8) (Z (([]:η)++x))))
def YW (x:η):M η:=chk (bh (aj x) 8) λ_=>Z x
def Mw (x:η):M η:=
 (aJ (aB (aj x) 0) (IU (Z ([]:η)) (bU (bh (aj ([]:η)+aj x) 8) (Z (([]:η)++x)))) (bU (bh (aj ([]:η)+aj x) 8) (Z (([]:η)++x))))
def vw (x:η):M η:=chk (bh (aj x) 8) λ_=>Z x
def qY (x:n?):M η:=
 (jn (jY 0 x.2 (aI (gE x.2 4)) (aI af)) λD=>(jn (aJ D (aI (lX (be x.1) (cQ x.2))) (aI (be x.1))) λz=>(bU (dy 0 z&&dy z z&&bh (aM z) 8) (jn (jn (aJ D (ck (dK x.2 (aj (Yr (aG (aM z) (0:Int)) x.1))) (aI ((gE (geti aP (Yr (aG (aM z) (0:Int)) x.1) x.2) 9223372036854775807),(Yr (aG (aM z) (0:Int)) x.1)))) (aI (af,(Yr (aG (aM z) (0:Int)) x.1)))) λA=>(aJ A.1 (ck (dK x.2 (aj A.2)) (ck (dK x.2 (aj A.2)) (aI (cC A.2 x.2 (bn .i64 ((geti aP A.2 x.2)+1)))))) (aI A.2))) λL=>(Z L)))))
def qC (x:eC×Int):M (Int):=
 (jn (bS x.2 0 (aI (J,x.1.1,x.1.2.1,x.1.a,x.1.b,x.1.c,x.1.h)) (aI ((dy (be x.1.a) x.2),x.1.1,x.1.2.1,x.1.a,x.1.b,x.1.c,x.1.h))) λz=>(aJ z.1 (Z (-1)) (ky x.2 z.b (Z ((geti itK z.b x.2).2)))))
abbrev Â:=eC×b!
def pM (x:Â):M q!:=
 (jn (bm x.a 6 (aI ((decide ((x.a:Int)=6)),(x.1.1,x.1.2.1,x.1.a,x.1.b,x.1.c,x.1.h),x.2.1,x.a,x.b,x.c,x.e,x.g,x.p)) (aI ((decide ((x.a:Int)=10)),(x.1.1,x.1.2.1,x.1.a,x.1.b,x.1.c,x.1.h),x.2.1,x.a,x.b,x.c,x.e,x.g,x.p))) λz=>(aJ z.1 (Z (z.c,af)) (bm x.a 8 (Z (z.c,J)) (bm x.a 17 (aA (qC ((z.2.1.1,z.2.1.2.1,z.2.1.a,z.2.1.b,z.2.1.c,z.2.1.h),z.c)) λA=>(Z (A,af))) (Z ((-1),af))))))
def pL (x:Â):M q!:=
 (jn (bm x.a 7 (aI ((decide ((x.a:Int)=7)),(x.1.1,x.1.2.1,x.1.a,x.1.b,x.1.c,x.1.h),x.2.1,x.a,x.b,x.c,x.e,x.g,x.p)) (aI ((decide ((x.a:Int)=11)),(x.1.1,x.1.2.1,x.1.a,x.1.b,x.1.c,x.1.h),x.2.1,x.a,x.b,x.c,x.e,x.g,x.p))) λz=>(aJ z.1 (Z (z.c,af)) (bm x.a 9 (Z (z.c,J)) (bm x.a 16 (aA (qC ((z.2.1.1,z.2.1.2.1,z.2.1.a,z.2.1.b,z.2.1.c,z.2.1.h),z.c)) λA=>(Z (A,af))) (Z ((-1),af))))))
def tw (it:Dr) (x:ζ):M (Bool):=
 (lt (geti ((.st (.pr .str (.pr .str (.pr .str (.pr .str (.pr .str (.pr .str (.pr .str (.pr .str (.pr .str (.pr .str (.pr .str (.pr .str (.pr .str (.pr .str (.pr .str (.pr .str (.pr .str (.pr .str (.pr .str (.pr .str (.pr .str .str))))))))))))))))))))))) ([kwV]) 0) λz=>(it (Int) _ (λA=>(bS A 22 (bU (dy 0 A&&gE A 22) (lt (geti (.str) [z.1,z.2.1,z.a,z.b,z.c,z.e,z.g,z.j,z.m,z.o,z.l,z.n,z.i,z.q,z.t,z.u,z.C,z.D,z.H,z.I,z.K,z.L] A) λD=>(aJ (decide ((x:ζ)=D)) (aI J) (c7 (cQ A))))) (aI af))) 0))
def sS (x:ζ):M (Bool):=tw @iter x
def lS (x:ζ):M (Bool):=tw @hX x
def xY (it:Dr) (x:ζ):M (Bool):=
 (jn (bS (be x) 1 (aI J) (bS 12 (be x) (aI J) (aA (lS x) λL=>(aI L)))) λx1=>(aJ x1 (Z af) (it (Y (ku×Unit)) _ (λz=>(aJ (eH (ML z) (aj (Pm z))) (jn (α:=Y (ku×Unit)) (jn (α:=Bool×Y (ku×Unit)) (jY 97 (rnP (Pm z) (ML z)) (jY (rnP (Pm z) (ML z)) 122 (aI (J,[(((Pm z),(aS ((ML z)+wdP (Pm z) (ML z)))),())])) (jY 65 (rnP (Pm z) (ML z)) (aI ((dy (rnP (Pm z) (ML z)) 90),[(((Pm z),(aS ((ML z)+wdP (Pm z) (ML z)))),())])) (aI (af,[(((Pm z),(aS ((ML z)+wdP (Pm z) (ML z)))),())])))) (jY 65 (rnP (Pm z) (ML z)) (aI ((dy (rnP (Pm z) (ML z)) 90),[(((Pm z),(aS ((ML z)+wdP (Pm z) (ML z)))),())])) (aI (af,[(((Pm z),(aS ((ML z)+wdP (Pm z) (ML z)))),())])))) λA=>(aJ A.1 (aI A.2) (jn (bS 0 (aS (ML z)) (bm (rnP (Pm z) (ML z)) 95 (aI (J,A.2)) (jY 48 (rnP (Pm z) (ML z)) (aI ((dy (rnP (Pm z) (ML z)) 57),A.2)) (aI (af,A.2)))) (aI (af,A.2))) λD=>(aJ D.1 (aI D.2) (c7 (bZ af)))))) λN=>(c7 N)) (aI J))) ([((x,0),())]))))
def xR (x:ζ):M (Bool):=xY @iter x
def pJ (x:ζ):M (Bool):=xY @hX x
def Az (it:Dr) (x:n?):M (Int):=
 (it (Int) _ (λz=>(bS z (be x.1) (bX aP x.1 z λA=>(bm x.2 A (aI z) (c7 (cQ z)))) (aI (-1)))) 0)
def E0 (x:n?):M (Int):=Az @iter x
def tf (x:n?):M (Int):=Az @hX x
def lC (x:n?):M (Bool):=
 (aA (tf x) λz=>(Z (dy 0 z)))
def kh (x:η×i?):M (Bool):=
 (aA (nD (x.1,x.2.2)) λz=>(Z (dy x.2.1 z)))
def uO (x:ν):M (Bool):=
 (jn (jY 0 x.1 (aI (gE x.1 x.2)) (aI af)) λz=>(Z z))
def uP (x:eC×q!):M (Bool):=
 (jn (aA (uO (x.2.1,(be x.1.2.1))) λA=>(aJ A (bX tC x.1.2.1 x.2.1 λz=>(aI ((z.2==x.2.2) !=af))) (aI af))) λD=>(Z D))
def py (it:Dr) (x:Y X6):M (dA×Bool):=
 (it (Int×Y ζ) _ (λD=>(bS D.1 (be x) (jn (α:=Int×Y ζ) (bX lF x D.1 λz=>(bU (bh (aj D.2+aj ([z.1])) 16) (bm z.a 0 (jK z.2.1 0 (c7 (bZ (([]:Y ζ),af))) (aI ((cQ D.1),(D.2++([z.1]))))) (jn (α:=Bool×P?) (bS z.a 1 (aI (J,(D.2++([z.1])),z)) (bS 4 z.a (aI (J,(D.2++([z.1])),z)) (aJ z.b (aI (J,(D.2++([z.1])),z)) (aI ((gE (bn .i64 ((be x)-D.1)) z.a),(D.2++([z.1])),z))))) λN=>(aJ N.1 (c7 (bZ (([]:Y ζ),af))) (it (Int×P?) _ (λA=>(bS A.1 N.c (bX lF x (bn .i64 (D.1+A.1)) λL=>(aJ (Po (.pr .str (.pr aP (.pr aP (.pr .bool (.pr aP .un))))) (L.1,L.2.1,L.a,L.b,L.f,()) (A.a,A.1,A.c,A.e,A.k,()) !=J) (aI (lJ (bZ (([]:Y ζ),af)))) (c7 ((cQ A.1),A.2.1,A.a,A.1,A.f)))) (aI (bZ ((bn .i64 (D.1+A.c)),A.2.1))))) (0,N.2))))))) λx2=>(c7 x2)) (aI (D.2,J)))) (0,([]:Y ζ)))
def pq (x:Y X6):M (dA×Bool):=py @iter x
def ij (x:Y X6):M (dA×Bool):=py @hX x
def px (it:Dr) (x:eC×Y ζ):M (Bool):=
 (bU (bh (aj (x.2:Y ζ)) 16) (it B! _ (λA=>(bS A.1 (be x.1.2.1) (bX tC x.1.2.1 A.1 λz2=>(bU (bh (aj A.2.2+aj ([z2.1])) 16) (c7 ((cQ A.1),A.2.1,(A.2.2++([z2.1])))))) (aA (it B! _ (λz=>(bS z.1 (be A.2.1.a) (bX itK A.2.1.a z.1 λz4=>(bU (bh (aj z.2.2+aj ([z4.1])) 16) (c7 ((cQ z.1),z.2.1,(z.2.2++([z4.1])))))) (aA (bU (bh (aj z.2.2+aj z.2.1.b) 16) (bU (bh (aj (z.2.2++z.2.1.b)+aj z.2.1.c) 16) (it (Int×nJ×Y ζ) _ (λD=>(bS D.1 (aS (aj ((z.2.2++z.2.1.b)++z.2.1.c))) (kq (.str) D.2.2 D.1 λL=>(jn (aA (pJ L) λy8=>(aJ (!y8) (aI (J,D.2)) (aI ((xl (K:=.str) (V:=.bool) L D.2.1 af),D.2)))) λN=>(aJ N.1 (aI af) (c7 ((cQ D.1),(uN (K:=.str) (V:=.bool) L J N.2.1),N.2.2))))) (aI J))) (0,([]:Y H?),((z.2.2++z.2.1.b)++z.2.1.c))))) λr=>Z (bZ r)))) (0,A.2)) λr=>Z (bZ r)))) (0,x)))
def po (x:eC×Y ζ):M (Bool):=px @iter x
def ef (x:eC×Y ζ):M (Bool):=px @hX x
def lM (it:Dr) (x:c!):M (Bool):=
 (it (π×c!) _ (λz=>(bS z.1.2.2 (be x.h) (bX pR x.h z.1.2.2 λL=>(jn (bS L.1 z.1.1 (aI (J,z.2,L)) (aI ((dy (be z.e) L.1),z.2,L))) λD=>(aJ D.1 (aI af) (jn (α:=(ν)×eC×Int×i?) (bS z.1.1 D.a (aI ((D.a,0),D.2)) (aI ((z.1.1,z.1.2.1),D.2))) λA=>(jK A.b A.1.2 (aI af) (c7 ((A.1.1,(cQ A.1.2),(cQ z.1.2.2)),A.2.1))))))) (aI J))) ((0,0,0),x))
def pm (x:c!):M (Bool):=lM @iter x
def gm (x:c!):M (Bool):=lM @hX x
def pA (it:Dr) (x:c!):M (Bool):=
 (jn (bS 12 (be x.1) (aI (J,x)) (bS 4 (be x.2.1) (aI (J,x)) (bS 2 (be x.a) (aI (J,x)) (bS 2 (be x.b) (aI (J,x)) (aI ((gE 60 (be x.h)),x)))))) λD=>(aJ D.1 (Z af) (jn (bS (be D.e) 1 (aI (J,D.2)) (aI ((gE 4 (be D.e)),D.2))) λA=>(aJ A.1 (Z af) (aA (ij A.2.1) λN=>(jn (aJ (!N.2) (aI (J,A.2)) (aA (ef (A.2,N.1)) λy5=>(aI ((!y5),A.2)))) λL=>(aJ L.1 (Z af) (it F? _ (λz=>(bS z.1 (be L.b) (bX itK L.b z.1 λz7=>(aA (uP (z.2,z7.2,af)) λy8=>(aJ (!y8) (aI af) (c7 ((cQ z.1),z.2))))) (aA (aA (gm z.2) λy9=>(Z y9)) λr=>Z (bZ r)))) (0,L.2)))))))))
def pu (x:c!):M (Bool):=pA @iter x
def ik (x:c!):M (Bool):=pA @hX x
def xZ (it:Dr) (x:c!):M rq:=
 (bU (dy 0 (be x.2.1)&&dy (be x.2.1) (be x.2.1)&&bh (aM (be x.2.1)) 32) (bU (dy 0 (be x.b)&&dy (be x.b) (be x.b)&&bh (aM (be x.b)) 1) (bU (dy 0 (be x.c)&&dy (be x.c) (be x.c)&&bh (aM (be x.c)) 24) (it Á _ (λz=>(bS z.1 (aS (aj (aG (aM (be x.2.1)) ((0,[]):j!)))) (ck (dK z.1 (aj z.b)) (c7 ((cQ z.1),z.2.1,z.a,(cC z.b z.1 ((-1),(geti ec z.b z.1).2)),z.f))) (aA (jn (α:=r?) (bS 0 (be z.h) (ck (dK 0 (aj z.h)) (aI (z.2.1,z.a,z.b,z.c,(cC z.h 0 (1,(geti iC z.h 0).2))))) (aI z.2)) λA=>(Z (A.a,A.2.1,A.d))) λr=>Z (bZ r)))) (0,0,(-1),(aG (aM (be x.2.1)) ((0,[]):j!)),(aG (aM (be x.b)) (af:Bool)),(aG (aM (be x.c)) ((0,(0,af)):e!)))))))
def xU (x:c!):M rq:=xZ @iter x
def pO (x:c!):M rq:=xZ @hX x
def r8 (it:Dr) (x:c!):M j_:=
 (aA (pO x) λD=>(bU (dy 0 0&&dy 0 (be x.1)&&bh (aM (be x.1)) 8) (bU (dy 0 (be x.b)&&dy (be x.b) (be x.b)&&bh (aM (be x.b)) 8) (bU (dy 0 (be x.c)&&dy (be x.c) (be x.c)&&bh (aM (be x.c)) 8) (it (Int×Int×V!) _ (λz=>(bS z.1 (be x.1) (bX lF x.1 z.1 λA=>(bU (bh (aj z.b+aj ([A.f])) 8) (c7 ((cQ z.1),z.2.1,z.a,(z.b++([A.f])),z.f)))) (aI z.2.2))) (0,0,D,(aG (aM 0) (0:Int)),(aG (aM (be x.b)) (0:Int)),(aG (aM (be x.c)) (0:Int))))))))
def rH (x:c!):M j_:=r8 @iter x
def fh (x:c!):M j_:=r8 @hX x
def fC (x:ν):M (Bool):=
 (jn (jY 0 x.1 (aI (gE x.1 x.2)) (aI af)) λz=>(Z z))
def m6 (x:eC×i?):M (Bool):=
 (jn (bm x.2.1 1 (aI ((decide ((x.2.1:Int)=1)),x.1)) (bm x.2.1 2 (aI ((decide ((x.2.1:Int)=2)),x.1)) (bm x.2.1 5 (aI ((decide ((x.2.1:Int)=5)),x.1)) (bm x.2.1 12 (aI ((decide ((x.2.1:Int)=12)),x.1)) (bm x.2.1 13 (aI ((decide ((x.2.1:Int)=13)),x.1)) (bm x.2.1 14 (aI ((decide ((x.2.1:Int)=14)),x.1)) (aI ((decide ((x.2.1:Int)=15)),x.1)))))))) λx1=>(aJ x1.1 (Z (decide ((x.2.2:Int)=(-1)))) (jn (bm x.2.1 3 (aI ((decide ((x.2.1:Int)=3)),x1.2)) (aI ((decide ((x.2.1:Int)=4)),x1.2))) λx2=>(aJ x2.1 (aA (fC (x.2.2,(be x2.2.1))) λy3=>(Z y3)) (jn (bm x.2.1 6 (aI ((decide ((x.2.1:Int)=6)),x2.2)) (aI ((decide ((x.2.1:Int)=7)),x2.2))) λL=>(aJ L.1 (jn (aA (fC (x.2.2,(be L.a))) λy6=>(aJ y6 (bX tC L.a x.2.2 λz7=>(aI (!z7.2))) (aI af))) λx5=>(Z x5)) (jn (bm x.2.1 8 (aI ((decide ((x.2.1:Int)=8)),L.2)) (bm x.2.1 9 (aI ((decide ((x.2.1:Int)=9)),L.2)) (bm x.2.1 10 (aI ((decide ((x.2.1:Int)=10)),L.2)) (aI ((decide ((x.2.1:Int)=11)),L.2))))) λD=>(aJ D.1 (jn (aA (fC (x.2.2,(be D.a))) λy10=>(aJ y10 (bX tC D.a x.2.2 λz11=>(aI z11.2)) (aI af))) λx9=>(Z x9)) (jn (bm x.2.1 16 (aI ((decide ((x.2.1:Int)=16)),D.2)) (bm x.2.1 17 (aI ((decide ((x.2.1:Int)=17)),D.2)) (bm x.2.1 18 (aI ((decide ((x.2.1:Int)=18)),D.2)) (aI ((decide ((x.2.1:Int)=19)),D.2))))) λA=>(aJ A.1 (aA (fC (x.2.2,(be A.b))) λy13=>(Z y13)) (jn (bm x.2.1 20 (aI ((decide ((x.2.1:Int)=20)),A.2)) (aI ((decide ((x.2.1:Int)=21)),A.2))) λz=>(aJ z.1 (aA (fC (x.2.2,(be z.e))) λy15=>(Z y15)) (jn (bm x.2.1 22 (aI ((decide ((x.2.1:Int)=22)),z.2)) (aI ((decide ((x.2.1:Int)=23)),z.2))) λN=>(aJ N.1 (aA (fC (x.2.2,(be N.c))) λy17=>(Z y17)) (Z af)))))))))))))))
def vA (it:Dr) (x:eC×w!):M (Bool):=
 (jn (jK (be x.2.1) (be x.1.2.1) (aI (J,x.1)) (jK (be x.b) (be x.1.b) (aI (J,x.1)) (aI ((!decide (((be x.f):Int)=(be x.1.c))),x.1)))) λA=>(aJ A.1 (Z af) (it F? _ (λz=>(bS z.1 (be A.b) (bX itK A.b z.1 λD=>(aA (fC (D.2,(be z.a))) λL=>(aJ (!L) (aI af) (c7 ((cQ z.1),z.2))))) (aI J))) (0,A.2))))
def Aj (x:eC×w!):M (Bool):=vA @iter x
def lw (x:eC×w!):M (Bool):=vA @hX x
def pN (x:T!):M (Bool):=
 (bm x.b 6 (bX ec x.2.1.1 x.f λz1=>(Z (decide ((z1.1:Int)=(-1))))) (bm x.b 10 (jn (α:=Bool) (bX ec x.2.1.1 x.f λz3=>(bm z3.1 (-1) (bX ec x.2.1.1 x.f λz4=>(aI (decide (((be z4.2):Int)=0)))) (aI af))) λx2=>(Z x2)) (bm x.b 8 (jn (α:=Bool) (bX ec x.2.1.1 x.f λz6=>(bm z6.1 (-1) (bX ec x.2.1.1 x.f λz7=>(aA (lC (z7.2,x.a)) λy8=>(aI (!y8)))) (aI af))) λx5=>(Z x5)) (jn (bm x.b 7 (aI ((decide ((x.b:Int)=7)),x.1,x.2.1)) (aI ((decide ((x.b:Int)=11)),x.1,x.2.1))) λA=>(aJ A.1 (bX ec A.a x.f λz10=>(Z (decide ((z10.1:Int)=x.a)))) (bm x.b 9 (bX ec A.a x.f λz11=>(aA (lC (z11.2,x.a)) λy12=>(Z y12))) (bm x.b 12 (Z (decide ((A.b:Int)=(-1)))) (bm x.b 13 (Z (decide ((A.b:Int)=x.a))) (bm x.b 14 (bX iC A.h x.a λz13=>(Z (!z13.2.2))) (bm x.b 15 (bX iC A.h x.a λz14=>(Z z14.2.2)) (jn (bm x.b 16 (aI ((decide ((x.b:Int)=16)),A.2)) (bm x.b 18 (aI ((decide ((x.b:Int)=18)),A.2)) (aI ((decide ((x.b:Int)=19)),A.2)))) λz=>(aJ z.1 (bX itK z.2.1.a x.f λz16=>(bX ec z.a z16.2 λz17=>(Z (decide ((z17.1:Int)=x.a))))) (bm x.b 20 (jn (jK x.f x.a (bX iC z.h x.f λz19=>(aI (decide ((z19.1:Int)=0)))) (aI af)) λx18=>(Z x18)) (bm x.b 21 (jn (jK x.f x.a (bX iC z.h x.f λN=>(aI (decide ((N.1:Int)=5)))) (aI af)) λx20=>(Z x20)) (bm x.b 22 (bX (.bool) z.c x.f λL=>(Z (!L))) (bm x.b 23 (bX (.bool) z.c x.f λD=>(Z D)) (Z J)))))))))))))))))
def kV (x:T!):M (Bool):=
 (jn (aA (lw (x.1,x.2.1)) λy2=>(aJ (!y2) (aI (J,x.1,x.2.1)) (aA (fC (x.a,(be x.1.c))) λy3=>(aJ (!y3) (aI (J,x.1,x.2.1)) (aA (m6 (x.1,x.d)) λy4=>(aI ((!y4),x.1,x.2.1))))))) λz=>(aJ z.1 (Z af) (bX iC z.h x.a λA=>(bm x.b 1 (Z (decide ((A.1:Int)=1))) (bm x.b 17 (jn (α:=Bool) (bm A.1 4 (bm A.2.1 x.f (bX itK z.2.1.a x.f λN=>(bX ec z.a N.2 λL=>(aI (decide ((L.1:Int)=(-1)))))) (aI af)) (aI af)) λx6=>(Z x6)) (jn (bm A.1 2 (aA (pN (z.2.1,z.2.2,x.2.2)) λD=>(aI D)) (aI af)) λx9=>(Z x9)))))))
def lO (x:eC×V!):M (Bool):=
 (jn (aA (lw (x.1,x.2.1)) λz=>(aJ z (bm (be x.a) (be x.1.1) (bm (be x.b) (be x.1.b) (aI (decide (((be x.f):Int)=(be x.1.c)))) (aI af)) (aI af)) (aI af))) λA=>(Z A))
def mE (x:Â):M (Bool):=
 (jn (bm x.a 1 (aI (J,x)) (aI ((decide ((x.a:Int)=2)),x))) λz=>(aJ z.1 (Z (decide ((z.g:Int)=(-1)))) (jn (jY 0 z.g (bS z.g (be z.2.1.h) (bX pR z.2.1.h z.g λA=>(aI (decide ((A.1:Int)=z.a)))) (aI af)) (aI af)) λD=>(Z D))))
def mJ (it:Dr) (x:eC×O?):M (Bool):=
 (jn (bm x.b 3 (bX lF x.1.1 x.c λz2=>(aI ((!decide ((z2.2.2.1:Int)=0)),x.2))) (bm x.b 4 (bX lF x.1.1 x.c λz3=>(aI ((!decide ((z3.2.2.1:Int)=0)),x.2))) (aI (af,x.2)))) λz=>(jn (bm z.b 5 (bm z.b 4 (aI (z.2.1,z.2.2,J,J)) (aI (z.2.1,z.2.2,J,(decide ((z.b:Int)=22))))) (bm z.b 4 (aI (z.2.1,z.2.2,z.1,J)) (aI (z.2.1,z.2.2,z.1,(decide ((z.b:Int)=22)))))) λx4=>(it (Int×j_×gJ×N?) _ (λA=>(bS A.1 2 (bU (dy 0 A.1&&gE A.1 2) (lt (geti ((.sl aP)) [x4.2.1.e,x4.2.1.k] A.1) λz6=>(jn (α:=Bool×j_×gJ×N?) (bS 0 (be z6) (bU (dy 0 A.1&&gE A.1 2) (bU (dK A.1 2) (lt (geti (.bool) [A.b,A.f] A.1) λz8=>(aI ((!z8),A.2))))) (aI (af,A.2))) λx7=>(aJ x7.1 (aI af) (it (ν×j_×gJ×N?) _ (λD=>(bS D.1.2 (be z6) (bX aP z6 D.1.2 λL=>(jn (jY L D.1.1 (aI (J,D.2)) (bX aP D.2.1.d D.a.1 λz12=>(aI ((dy z12 L),D.2)))) λN=>(aJ N.1 (aI (bZ af)) (c7 ((L,(cQ D.1.2)),N.2))))) (aI (lJ ((cQ A.1),D.2))))) ((0,0),x7.2)))))) (aI J))) (0,x4))))
def mC (x:eC×O?):M (Bool):=mJ @iter x
def fZ (x:eC×O?):M (Bool):=mJ @hX x
def mI (it:Dr) (x:O?):M (Bool):=
 (bm x.a 3 (bX aP x.1.2.1 x.b λz1=>(Z (decide ((x.c:Int)=z1)))) (bm x.a 23 (bX aP x.1.a x.b λz2=>(Z (decide ((x.c:Int)=z2)))) (bm x.a 5 (jn (bm x.c 0 (aI J) (aI (decide ((x.c:Int)=1)))) λx3=>(Z x3)) (jn (bm x.a 4 (aI ((decide ((x.a:Int)=4)),x)) (aI ((decide ((x.a:Int)=22)),x))) λD=>(aJ D.1 (Z J) (bm x.a 18 (it ((Int×Bool×Int)×b!) _ (λA=>(bS A.1.2.2 (be D.2.1.1.d) (jn (bX iC D.2.1.1.d A.1.2.2 λz7=>(jn (bm z7.1 3 (aI ((decide ((z7.2.1:Int)=A.b)),A.2)) (aI (af,A.2))) λx8=>(aJ x8.1 (aJ A.1.2.1 (aI (((cQ A.1.1),J),x8.2)) (aI (((cQ A.1.1),(decide ((x8.c:Int)=A.1.2.2))),x8.2))) (aI ((A.1.1,A.1.2.1),x8.2))))) λx6=>(c7 ((x6.1.1,x6.1.2,(cQ A.1.2.2)),x6.2))) (aA (jn (α:=Bool) (aJ A.1.2.1 (aI J) (bm A.1.1 0 (aI (decide ((A.c:Int)=(-1)))) (aI af))) λx9=>(Z x9)) λr=>Z (bZ r)))) ((0,af,0),D.2.2)) (bm x.a 19 (it Yd1 _ (λz=>(bS z.1.2 (be D.2.1.1.d) (jn (bX iC D.2.1.1.d z.1.2 λN=>(jn (bm N.1 3 (aI ((decide ((N.2.1:Int)=z.b)),z.2)) (aI (af,z.2))) λL=>(aJ L.1 (aI ((cQ z.1.1),L.2)) (aI (z.1.1,L.2))))) λx11=>(c7 ((x11.1,(cQ z.1.2)),x11.2))) (aI (decide ((z.c:Int)=z.1.1))))) ((0,0),D.2.2)) (Z (decide ((D.e:Int)=0))))))))))
def qu (x:O?):M (Bool):=mI @iter x
def gK (x:O?):M (Bool):=mI @hX x
def nB (x:eE×Int):M (Bool):=
 (jn (bm x.1.1 3 (aI (decide ((x.1.2.1:Int)=x.2))) (aI af)) λz=>(Z z))
def My (x:θ):M θ:=
 (aJ (aB (aj x) 0) (IU (Z ([]:θ)) (bU (bh (aj ([]:θ)+aj x) 1) (Z (([]:θ)++x)))) (bU (bh (aj ([]:θ)+aj x) 1) (Z (([]:θ)++x))))
def Td (x:θ):M θ:=chk (bh (aj x) 1) λ_=>Z x
def H8 (x:θ):M θ:=
 (aJ (aB (aj x) 0) (IU (Z ([]:θ)) (bU (bh (aj ([]:θ)+aj x) 1) (Z (([]:θ)++x)))) (bU (bh (aj ([]:θ)+aj x) 1) (Z (([]:θ)++x))))
def Mx (x:θ):M θ:=chk (bh (aj x) 1) λ_=>Z x
def Mv (x:Y eE):M (Y eE):=
 (aJ (aB (aj x) 0) (IU (Z ([]:Y eE)) (bU (bh (aj ([]:Y eE)+aj x) 24) (Z (([]:Y eE)++x)))) (bU (bh (aj ([]:Y eE)+aj x) 24) (Z (([]:Y eE)++x))))
def Tc (x:Y eE):M (Y eE):=chk (bh (aj x) 24) λ_=>Z x
def H6 (x:Y eE):M (Y eE):=
 (aJ (aB (aj x) 0) (IU (Z ([]:Y eE)) (bU (bh (aj ([]:Y eE)+aj x) 24) (Z (([]:Y eE)++x)))) (bU (bh (aj ([]:Y eE)+aj x) 24) (Z (([]:Y eE)++x))))
def Mu (x:Y eE):M (Y eE):=chk (bh (aj x) 24) λ_=>Z x
def H7 (x:η):M η:=
 (aJ (aB (aj x) 0) (IU (Z ([]:η)) (bU (bh (aj ([]:η)+aj x) 8) (Z (([]:η)++x)))) (bU (bh (aj ([]:η)+aj x) 8) (Z (([]:η)++x))))
def BZ (x:η):M η:=chk (bh (aj x) 8) λ_=>Z x
def tR (it:Dr) (x:w!):M Yd0:=
 (bU (dy 0 (be x.1)&&dy (be x.1) (be x.1)&&bh (aM (be x.1)) 32) (it (Int×rq×S!) _ (λz=>(bS z.1 (be x.1) (bX ec x.1 z.1 λA=>(aA (YW A.2) λN=>(ck (dK z.1 (aj z.d)) (c7 ((cQ z.1),z.2.1,z.a,(cC z.d z.1 (A.1,N))))))) (aA (aA (Mx z.2.1.a) λL=>(aA (Mu z.2.1.d) λD=>(Z (z.2.1.2.1,z.d,L,D)))) λr=>Z (bZ r)))) (0,x,0,(aG (aM (be x.1)) ((0,[]):j!)))))
def xT (x:w!):M Yd0:=tR @iter x
def lB (x:w!):M Yd0:=tR @hX x
abbrev K!:=jV×(θ)×(Y eE)×Int
def sg (it:Dr) (x:π×E!):M Yd0:=
 (it (ν×K!) _ (λz=>(bS z.1.2 (be x.d) (jn (kq iC z.b z.1.2 λL=>(jn (aA (nB (L,x.1.2.1)) λN=>(aJ N (bS z.1.1 0 (aI (J,z.2)) (aI ((decide ((z.1.2:Int)=x.1.2.2)),z.2))) (aI (af,z.2)))) λA=>(aJ A.1 (aI (z.1.2,A.2)) (aI (z.1.1,A.2))))) λD=>(c7 ((D.1,(cQ z.1.2)),D.2))) (aA (jn (α:=E!) (jY 0 z.1.1 (ck (dK z.1.1 (aj z.b)) (aI (z.2.1,z.a,(cC z.b z.1.1 (4,(geti iC z.b z.1.1).2))))) (aI (z.2.1,z.a,z.b))) λx6=>(Z (z.1.1,x6))) λr=>Z (bZ r)))) (((-1),0),x.2.1,x.a,x.d,x.1.1))
def vY (x:π×E!):M Yd0:=sg @iter x
def kD (x:π×E!):M Yd0:=sg @hX x
def nS (it:Dr) (x:ν×E!):M Yd0:=
 (it (ν×K!) _ (λz=>(bS z.1.2 (be x.d) (jn (α:=Int×K!) (kq iC z.b z.1.2 λD=>(aA (nB (D,x.1.2)) λL=>(aJ L (ck (dK z.1.2 (aj z.b)) (aI ((cQ z.1.1),z.2.1,z.a,(cC z.b z.1.2 (4,(geti iC z.b z.1.2).2)),z.f))) (aI (z.1.1,z.2))))) λA=>(c7 ((A.1,(cQ z.1.2)),A.2))) (aI (z.1.1,z.2.1,z.a,z.b)))) ((0,0),x.2.1,x.a,x.d,x.1.1))
def rK (x:ν×E!):M Yd0:=nS @iter x
def h_ (x:ν×E!):M Yd0:=nS @hX x
def rX (x:Int):M (Bool):=
 (Z (!decide ((x:Int)=x)))
def xW (x:ν):M (Bool):=
 (jn (aA (rX x.1) λA=>(aJ A (aA (rX x.2) λz=>(aJ (!z) (aI J) (aI (gE x.1 x.2)))) (aI (gE x.1 x.2)))) λD=>(Z D))
def s9 (x:Int):M (Int):=
 (jY 4294967296 x U (jY 65536 x U (jY 256 x U (ky (bn .u8 x) ([0,1,2,2,3,3,3,3,4,4,4,4,4,4,4,4,5,5,5,5,5,5,5,5,5,5,5,5,5,5,5,5,6,6,6,6,6,6,6,6,6,6,6,6,6,6,6,6,6,6,6,6,6,6,6,6,6,6,6,6,6,6,6,6,7,7,7,7,7,7,7,7,7,7,7,7,7,7,7,7,7,7,7,7,7,7,7,7,7,7,7,7,7,7,7,7,7,7,7,7,7,7,7,7,7,7,7,7,7,7,7,7,7,7,7,7,7,7,7,7,7,7,7,7,7,7,7,7,8,8,8,8,8,8,8,8,8,8,8,8,8,8,8,8,8,8,8,8,8,8,8,8,8,8,8,8,8,8,8,8,8,8,8,8,8,8,8,8,8,8,8,8,8,8,8,8,8,8,8,8,8,8,8,8,8,8,8,8,8,8,8,8,8,8,8,8,8,8,8,8,8,8,8,8,8,8,8,8,8,8,8,8,8,8,8,8,8,8,8,8,8,8,8,8,8,8,8,8,8,8,8,8,8,8,8,8,8,8,8,8,8,8,8,8,8,8,8,8,8,8,8,8,8,8,8,8]) (Z (bn .i64 (0+(bn .i64 (amo ([0,1,2,2,3,3,3,3,4,4,4,4,4,4,4,4,5,5,5,5,5,5,5,5,5,5,5,5,5,5,5,5,6,6,6,6,6,6,6,6,6,6,6,6,6,6,6,6,6,6,6,6,6,6,6,6,6,6,6,6,6,6,6,6,7,7,7,7,7,7,7,7,7,7,7,7,7,7,7,7,7,7,7,7,7,7,7,7,7,7,7,7,7,7,7,7,7,7,7,7,7,7,7,7,7,7,7,7,7,7,7,7,7,7,7,7,7,7,7,7,7,7,7,7,7,7,7,7,8,8,8,8,8,8,8,8,8,8,8,8,8,8,8,8,8,8,8,8,8,8,8,8,8,8,8,8,8,8,8,8,8,8,8,8,8,8,8,8,8,8,8,8,8,8,8,8,8,8,8,8,8,8,8,8,8,8,8,8,8,8,8,8,8,8,8,8,8,8,8,8,8,8,8,8,8,8,8,8,8,8,8,8,8,8,8,8,8,8,8,8,8,8,8,8,8,8,8,8,8,8,8,8,8,8,8,8,8,8,8,8,8,8,8,8,8,8,8,8,8,8,8,8,8,8,8,8]) (bn .u8 x))))))))))
def wj (x:Int):M (Int):=
 (aA (s9 x) λz=>(Z z))
def kU (it:Dr) (x:ν×η):M η:=
 (it j! _ (λD=>(bS D.1 x.1.2 (it j! _ (λz=>(jn (bS x.1.1 z.1 (kq aP z.2 z.1 λz4=>(kq aP z.2 (bn .i64 (z.1-1)) λz5=>(aA (xW (z4,z5)) λy6=>(aI (y6,z.2))))) (aI (af,z.2))) λA=>(aJ A.1 (kq aP A.2 (bn .i64 (z.1-1)) λL=>(kq aP A.2 z.1 λN=>(ck (dK z.1 (aj A.2)) (ck (dK (bn .i64 (z.1-1)) (aj (cC A.2 z.1 L))) (c7 ((bn .i64 (z.1-1)),(cC (cC A.2 z.1 L) (bn .i64 (z.1-1)) N))))))) (aI (lJ ((cQ D.1),A.2)))))) D) (aI D.2))) ((cQ x.1.1),x.2))
def kT (x:ν×η):M η:=kU @iter x
def gh (x:ν×η):M η:=kU @hX x
def pw (it:Dr) (x:π×η):M η:=
 (it ((Int×Int×Int×Bool×Bool)×η) _ (λz=>(jY (bn .i64 (z.1.2.1-z.1.1)) 12 (aA (gh ((z.1.1,z.1.2.1),z.2)) λA=>(bU (aB (aj z.2) (aj A)&&J) (aI A))) (bm z.1.a 0 U (aJ (!z.1.b) U U)))) ((x.1.1,x.1.2.1,x.1.2.2,J,J),x.2))
def pj (x:π×η):M η:=pw @iter x
def jU (x:π×η):M η:=pw @hX x
def yN (x:η):M η:=
 (aA (wj (bn .u64 (be x))) λA=>(aA (jU ((0,(be x),A),x)) λz=>(bU (aB (aj x) (aj z)&&J) (Z z))))
def AA (it:Dr) (x:η):M η:=
 (bS (be x) 2 (Z x) (it j! _ (λz=>(bS z.1 (be z.2) (kq aP z.2 z.1 λD=>(kq aP z.2 (bn .i64 (z.1-1)) λA=>(bm D A (bU (dy 0 z.1&&gE z.1 (aj z.2)) U) (c7 ((cQ z.1),z.2))))) (aI z.2))) (1,x)))
def Ak (x:η):M η:=AA @iter x
def mG (x:η):M η:=AA @hX x
def pY (x:ν):M (Bool×Int):=
 (Z ((decide ((x.1:Int)=x.2)),x.2))
def wB (it:Dr) (x:n?):M M!:=
 (it M! _ (λz=>(bS z.1 (be x.1) (kq aP z.2.1 z.1 λD=>(aA (pY (D,z.2.2)) λA=>(aJ A.1 (aI (z.1,z.2.1,A.2)) (c7 ((cQ z.1),z.2.1,A.2))))) (aI ((-1),z.2)))) (0,x))
def vZ (x:n?):M M!:=wB @iter x
def oy (x:n?):M M!:=wB @hX x
def uT (it:Dr) (x:n?):M j!:=
 (aA (oy x) λA=>(bU (aB (aj x.1) (aj A.2.1)&&J) (bm A.1 (-1) U (it (ν×u!) _ (λz=>(bS z.1.2 (be z.2.1) (jn (kq aP z.2.1 z.1.2 λL=>(aA (pY (L,z.2.2)) λD=>(aJ (!D.1) (ck (dK z.1.1 (aj z.2.1)) (aI ((cQ z.1.1),(cC z.2.1 z.1.1 L),D.2))) (aI (z.1.1,z.2.1,D.2))))) λN=>(c7 ((N.1,(cQ z.1.2)),N.2))) (aA (ck (dy 0 z.1.1&&gE z.1.1 (aj z.2.1)) (bU (dy 0 z.1.1&&gE z.1.1 (aj (dW (aM z.1.1) z.2.1++aG (aj z.2.1-aM z.1.1) (0:Int)))) (Z (z.2.2,(dW (aM z.1.1) (dW (aM z.1.1) z.2.1++aG (aj z.2.1-aM z.1.1) (0:Int))))))) λr=>Z (bZ r)))) ((A.1,(cQ A.1)),A.2)))))
def uM (x:n?):M j!:=uT @iter x
def jN (x:n?):M j!:=uT @hX x
def ia (x:W!):M (rq×q!):=
 (aA (kV (x.1,x.2.1,x.a,x.b,x.c)) λy1=>(aJ (!y1) (Z ((([]:Y j!),0,([]:θ),([]:Y eE)),0,af)) (aA (lB x.2.1) λA=>(jn (α:=Á) (bm x.b 1 (ck (dK x.a (aj A.d)) (aI (0,A.1,0,A.2.1,A.a,(cC A.d x.a (2,(geti iC A.d x.a).2))))) (bm x.b 2 (ck (dK x.a (aj A.d)) (aI (0,A.1,0,A.2.1,A.a,(cC A.d x.a (5,(geti iC A.d x.a).2))))) (jn (α:=Bool×eC×Á) (bm x.b 6 (aI ((decide ((x.b:Int)=6)),x.1,A.1,x.a,0,A.2)) (aI ((decide ((x.b:Int)=10)),x.1,A.1,x.a,0,A.2))) λN=>(aJ N.1 (ck (dK x.c (aj N.e)) (aI (0,N.a,N.c,(cC N.e x.c (N.b,(geti ec N.e x.c).2)),N.k))) (jn (bm x.b 7 (aI ((decide ((x.b:Int)=7)),N.2)) (aI ((decide ((x.b:Int)=11)),N.2))) λz=>(aJ z.1 (ck (dK x.c (aj z.e)) (aI (0,z.a,z.c,(cC z.e x.c ((-1),(geti ec z.e x.c).2)),z.k))) (bm x.b 8 (kq ec z.e x.c λz6=>U) (bm x.b 9 (kq ec z.e x.c λz7=>U) (bm x.b 12 (aI (0,z.d)) (bm x.b 13 (aI (0,(-1),z.f)) (bm x.b 14 (ck (dK z.b (aj z.p)) (aI (0,z.a,z.c,z.e,z.g,(cC z.p z.b ((geti iC z.p z.b).1,((geti iC z.p z.b).2).1,J))))) (bm x.b 15 (ck (dK z.b (aj z.p)) (aI (0,z.a,z.c,z.e,z.g,(cC z.p z.b ((geti iC z.p z.b).1,((geti iC z.p z.b).2).1,af))))) (bm x.b 16 (bX itK z.2.1.a x.c λz8=>(ck (dK z8.2 (aj z.e)) (ck (dK z.b (aj z.p)) (ck (dK z.b (aj (cC z.p z.b (3,(geti iC z.p z.b).2)))) (aI (0,z.a,z.c,(cC z.e z8.2 ((-1),(geti ec z.e z8.2).2)),z.g,(cC (cC z.p z.b (3,(geti iC z.p z.b).2)) z.b ((geti iC (cC z.p z.b (3,(geti iC z.p z.b).2)) z.b).1,x.c,((geti iC (cC z.p z.b (3,(geti iC z.p z.b).2)) z.b).2).2)))))))) (bm x.b 17 (bX itK z.2.1.a x.c λz9=>(ck (dK z9.2 (aj z.e)) (ck (dK z.b (aj z.p)) (ck (dK z.b (aj (cC z.p z.b (2,(geti iC z.p z.b).2)))) (aI (0,z.a,z.c,(cC z.e z9.2 (z.b,(geti ec z.e z9.2).2)),z.g,(cC (cC z.p z.b (2,(geti iC z.p z.b).2)) z.b ((geti iC (cC z.p z.b (2,(geti iC z.p z.b).2)) z.b).1,0,((geti iC (cC z.p z.b (2,(geti iC z.p z.b).2)) z.b).2).2)))))))) (bm x.b 18 (aA (kD ((z.a,x.f),z.h)) λL=>(bU (aB (aj z.p) (aj L.d)&&(aB (aj z.g) (aj L.a)&&(aB (aj z.e) (aj L.2.1)&&J))) (aI (L.1,z.a,z.c,L.2)))) (bm x.b 19 (aA (h_ ((z.a,x.c),z.h)) λD=>(bU (aB (aj z.p) (aj D.d)&&(aB (aj z.g) (aj D.a)&&(aB (aj z.e) (aj D.2.1)&&J))) (aI (D.1,z.a,z.c,D.2)))) (bm x.b 20 (ck (dK x.c (aj z.p)) (aI (0,z.a,z.c,z.e,z.g,(cC z.p x.c (1,(geti iC z.p x.c).2))))) (bm x.b 22 (ck (dK x.c (aj z.g)) (aI (0,z.a,z.c,z.e,(cC z.g x.c J),z.p))) (aI (0,z.a,z.f)))))))))))))))))))) λx3=>(Z ((x3.b,x3.2.1,x3.f),x3.1,J))))))
def rV (x:w!):M (Yd2×(π)×f?):=
 (bU (dy 0 (be x.1)&&dy (be x.1) (be x.1)&&bh (aM (be x.1)) 32&&decide (((be x.1):Int)=3)) (jn (α:=rq×Int×(π)×f?) (bS 0 (be x.1) (bX ec x.1 0 λz=>(aA (vw z.2) λL=>(bS 1 (be x.1) (bX ec x.1 1 λD=>(aA (vw D.2) λy5=>(bS 2 (be x.1) (bX ec x.1 2 λz6=>(aA (vw z6.2) λy7=>(bS 3 (be x.1) (bX ec x.1 3 λz8=>(aA (vw z8.2) λy9=>U)) (aI (x,0,(z.1,D.1,z6.1),L,y5,y7))))) (aI (x,0,(z.1,D.1,0),L,y5,([]:η)))))) (aI (x,0,(z.1,0,0),L,([]:η),([]:η)))))) (aI (x,0,(0,0,0),([]:η),([]:η),([]:η)))) λA=>(aA (Td A.1.a) λy10=>(aA (Tc A.1.d) λN=>(Z ((A.1.2.1,y10,N),A.2.2))))))
def lV (x:W!):M (rq×q!):=
 (aA (kV (x.1,x.2.1,x.a,x.b,x.c)) λy1=>(aJ (!y1) (Z ((([]:Y j!),0,([]:θ),([]:Y eE)),0,af)) (aA (rV x.2.1) λD=>(jn (α:=Int×Yd2×Int×((Int×η)×(Int×η)×Int)×Bool×η) (bm x.b 1 (ky x.a D.1.2.2 U) (bm x.b 2 (ky x.a D.1.2.2 U) (jn (α:=Bool×eC×Yd2×Int×Int×(π)×f?) (bm x.b 6 (aI ((decide ((x.b:Int)=6)),x.1,D.1,x.a,0,D.2)) (aI ((decide ((x.b:Int)=10)),x.1,D.1,x.a,0,D.2))) λA=>(aJ A.1 U (jn (bm x.b 7 (aI ((decide ((x.b:Int)=7)),A.2.1,A.a,A.b,A.c,(A.e.1,A.g,A.e.2.1,A.j,A.e.2.2),A.s)) (aI ((decide ((x.b:Int)=11)),A.2.1,A.a,A.b,A.c,(A.e.1,A.g,A.e.2.1,A.j,A.e.2.2),A.s))) λz=>(aJ z.1 U (bm x.b 8 (bm x.c 0 U (bm x.c 1 U (bm x.c 2 (bU (bh (aj z.k+aj ([z.b])) 8) (aA (yN (z.k++([z.b]))) λN=>(bU (aB (aj (z.k++([z.b]))) (aj N)&&J) (aA (mG N) λy7=>(bU (aB (aj N) (aj y7)&&J) (aI (0,z.a,z.c,((z.e.1,z.e.2.1),(z.e.a,z.e.b),z.e.f),J,y7))))))) U))) (bm x.b 9 (bm x.c 0 U (bm x.c 1 U (bm x.c 2 (aA (jN (z.k,z.b)) λy8=>(bU (aB (aj z.k) (aj z.k)&&J) (aI (0,z.a,z.c,((z.e.1,z.e.2.1),(z.e.a,z.e.b),z.e.f),af,y8.2)))) U))) (bm x.b 12 (aI (0,(z.b,z.a.2),z.c,((z.e.1,z.e.2.1),(z.e.a,z.e.b),z.e.f),J,z.k)) (bm x.b 13 (aI (0,((-1),z.a.2),z.c,((z.e.1,z.e.2.1),(z.e.a,z.e.b),z.e.f),J,z.k)) (bm x.b 14 (ky z.b z.a.2.2 U) (bm x.b 15 (ky z.b z.a.2.2 U) (bm x.b 16 U (bm x.b 17 U (bm x.b 18 U (bm x.b 19 U (bm x.b 20 (ky x.c z.a.2.2 U) (bm x.b 22 (ky x.c z.a.2.1 U) (aI (0,z.a,z.c,((z.e.1,z.e.2.1),(z.e.a,z.e.b),z.e.f),J,z.k)))))))))))))))))))) λL=>(Z (([L.b.1,L.b.2.1,(L.b.2.2,L.h)],L.2.1),L.1,J))))))
def tK (x:W!):M (rq×q!):=orE (ia x) (lV x)
def lP (x:eC×O?):M (j_×Bool):=
 (jn (α:=Bool×J!) (aA (lO (x.1,x.2.1)) λy2=>(aJ (!y2) (aI (J,x.1,x.2.1,x.2.2,0)) (bS x.a 0 (aI (J,x.1,x.2.1,x.2.2,0)) (jY (be x.1.c) x.a (aI (J,x.1,x.2.1,x.2.2,0)) (bS x.b 1 (aI (J,x.1,x.2.1,x.2.2,0)) (aI ((gE 23 x.b),x.1,x.2.1,x.2.2,0))))))) λD=>(aJ D.1 (Z (((([]:Y j!),0,([]:θ),([]:Y eE)),([]:η),([]:η),([]:η)),af)) (jn (aA (kV (D.2.1,D.a.1,D.b.1,D.b.2.1,D.b.a)) λy4=>(aJ (!y4) (aI (J,D.2)) (aA (mE (D.2.1,D.b)) λy5=>(aJ (!y5) (aI (J,D.2)) (aA (fZ (D.2.1,D.a,D.b)) λy6=>(aJ (!y6) (aI (J,D.2)) (aA (gK (D.a,D.b)) λy7=>(aI ((!y7),D.2))))))))) λx3=>(aJ x3.1 (Z (((([]:Y j!),0,([]:θ),([]:Y eE)),([]:η),([]:η),([]:η)),af)) (jn (α:=Int×J!) (bm x3.b.2.1 18 (aI (x3.b.b,x3.2)) (aI ((-1),x3.2))) λz=>(aA (tK (z.2.1,z.a.1,z.b.1,z.b.2.1,z.b.a,z.1)) λy9=>(aJ (!y9.2.2) (Z (((([]:Y j!),0,([]:θ),([]:Y eE)),([]:η),([]:η),([]:η)),af)) (aA (BZ z.a.2.1) λN=>(aA (BZ z.a.a) λL=>(aA (vw z.a.d) λy12=>(jn (bm z.b.2.1 4 (ck (dK z.b.a (aj N)) (aI (z.b,z.f,y9.1,(cC N z.b.a z.b.b),L,y12))) (bm z.b.2.1 22 (ck (dK z.b.a (aj L)) (aI (z.b,z.f,y9.1,N,(cC L z.b.a z.b.b),y12))) (aI (z.b,z.f,y9.1,N,L,y12)))) λA=>(kq aP A.h A.1.1 λz14=>(ck (dK A.1.1 (aj A.h)) (Z ((A.a,A.b,A.c,(cC A.h A.1.1 (cQ z14))),J)))))))))))))))
def kM (it:Dr) (x:Yd1×Y θ):M (Bool×Y θ):=
 (it ((ν×Int)×Y θ) _ (λA=>(bS A.1.2 2 (bU (dy 0 A.1.2&&gE A.1.2 2) (lt (geti ((.sl aP)) [x.1.g,x.1.p] A.1.2) λN=>(it ((ν×Int)×Y θ) _ (λz=>(bS z.1.2 (be N) (bX aP N z.1.2 λL=>(jn (bS L 0 (aI (((z.1.1.1,aS (aM z.1.1.2)),J),z.2)) (jY (aS (aM z.1.1.2)) L (aI (((z.1.1.1,aS (aM z.1.1.2)),J),z.2)) (bU (dK L (aM z.1.1.2)) (ky z.1.1.1 z.2 (bX (.bool) (kS (T:=.bool) z.2 z.1.1.1) L λz6=>(aI (((z.1.1.1,aS (aM z.1.1.2)),(!z6)),z.2))))))) λD=>(aJ D.1.2 (aI (bZ (af,D.2))) (c7 (((D.1.1.1,aS (aM D.1.1.2)),(cQ z.1.2)),D.2))))) (aI (lJ (((z.1.1.1,aS (aM z.1.1.2)),(cQ A.1.2)),z.2))))) (((A.1.1.1,aS (aM A.1.1.2)),0),A.2)))) (aI (J,A.2)))) (((x.1.1.1,aS (aM x.1.1.2)),0),x.2))
def nI (x:Yd1×Y θ):M (Bool×Y θ):=kM @iter x
def eU (x:Yd1×Y θ):M (Bool×Y θ):=kM @hX x
abbrev u?:=(η)×Y θ
def nP (it:Dr) (x:w?):M ν:=
 (bS 400 (be x.2) (Z (0,2)) (aA (ik x.1) λy1=>(aJ (!y1) (Z (0,1)) (aA (fh x.1) λy2=>(bU (dy 0 (be x.1.c)&&dy (be x.1.c) (be x.1.c)&&bh (aM (be x.1.c)) 24) (it (Int×(eC×Y gJ)×j_×u?) _ (λA=>(bS A.1 (be x.2) (bX gz x.2 A.1 λD=>(aA (lP (A.2.1.1,A.a,D)) λN=>(jn (aJ (!N.2) (aI (J,A.2.1,A.a,A.b,D,N.1,A.f)) (ck (dK D.1 (aj A.b)) (aA (eU (((D.1,aS (aM (m8 A.b D.1))),D),A.f)) λy7=>(aI ((!y7.1),A.2.1,A.a,A.b,D,N.1,y7.2))))) λz=>(aJ z.1 (aI (A.1,12)) (jn (α:=(eC×Y gJ)×j_×(η)×j_×Y θ) (ck (dK z.c.1 (aj z.b)) (bm z.c.2.1 3 (ky z.c.1 z.k (bU (aB (aM (m8 z.b z.c.1)) (aj (kS (T:=.bool) z.k z.c.1))&&bh ((aM (m8 z.b z.c.1))+aj ([J]:θ)) 1) (ck (dK z.c.1 (aj z.b)) (aI (z.2.1,z.a,(oG z.b (aM z.c.1) (aS (aj ((kS (T:=.bool) z.k z.c.1)++([J]))))),z.e,(mB (T:=.bool) (mB (T:=.bool) z.k z.c.1 []) z.c.1 ((kS (T:=.bool) z.k z.c.1)++([J])))))))) (ky z.c.1 z.k (bU (aB (aM (m8 z.b z.c.1)) (aj (kS (T:=.bool) z.k z.c.1))&&bh ((aM (m8 z.b z.c.1))+aj ([(decide ((z.c.2.1:Int)=23))]:θ)) 1) (ck (dK z.c.1 (aj z.b)) (aI (z.2.1,z.a,(oG z.b (aM z.c.1) (aS (aj ((kS (T:=.bool) z.k z.c.1)++([(decide ((z.c.2.1:Int)=23))]))))),z.e,(mB (T:=.bool) (mB (T:=.bool) z.k z.c.1 []) z.c.1 ((kS (T:=.bool) z.k z.c.1)++([(decide ((z.c.2.1:Int)=23))])))))))))) λL=>(c7 ((cQ A.1),L.1,L.b,L.a,L.f))))))) (aI (0,0)))) (0,x,y2,(aG (aM (be x.1.c)) (0:Int)),(aG (aM (be x.1.c)) ([]:θ)))))))))
def rI (x:w?):M ν:=nP @iter x
def gw (x:w?):M ν:=nP @hX x
def Sn (a b:Int):fC (a,b)=Z (decide (0<=a/\a<b)):=by
 refine cI ?_;unfold fC jY aI;with_reducible repeat' first|apply OS.ok;constructor|refine IM.mk λ_=>?_
 .by_cases h:a<b<;>simp[*,gE]
 .simp;omega
def Ym (l:η) (t:Int) (L:l! l<=1000):lC (l,t)=Z (l.contains t):=by
 refine cI ?_;unfold lC tf Az bm bS bX be c7 aI cQ;refine aw (P:=λy:Int=>0<=y↔t∈l) ?_ λy z=>ak ?_
 .refine g9 (l! l) (by omega) (λi x=>x=(i:Int)/\∀j,j<i->¬l.getD j 0=t) ?_ ?_ ⟨rfl,λj A=>by omega⟩
  .rintro i x hi ⟨rfl,D⟩;refine cW ?_;refine bH (aU (aK (λh=>ak ?_) λh=>ak ?_))
   .refine ⟨λ_=>?_,λ_=>by omega⟩;have h:t=geti aP l (i:Int):=h;rw[h];exact bI (T:=aP) (xs:=l) (by omega) (by omega)
   .refine ⟨fV,λj A=>?_⟩;have h:¬t=l.getD i 0:=h
    grind
  .rintro x ⟨rfl,D⟩;refine cP (ak ?_);refine ⟨λg=>(by omega),λg=>?_⟩;let⟨j,A,e⟩:=List.getElem_of_mem g
   grind
 .by_cases h:t∈l
  .have:=z.2 h;simp[dy,h,this]
  .have:¬0<=y:=λg=>h (z.1 g)
   simp[dy,h,this]
def as3 (w:WT) (s:SY) (A:l! w.2.2.1<=1000) (z:∀c∈w.2.2.1,0<=c.2/\c.2<l! w.2.1) (L:l! s.1=l! w.2.1) (e2:l! s.2.2.1=l! w.2.2.2.1) (D:l! s.2.2.2=l! w.2.2.2.2.1):lw (w,s)=Z J:=by
 refine cI ?_;unfold lw vA bk bD bQ dZ bS jK bX be c7 aI cQ;refine aV (λx=>x=(af,w)) ?_ ?_
 .refine cq (λh=>(h (by grind)).elim) λ_=>cq (λh=>(h (by grind)).elim) λ_=>ak ?_
  grind
 rintro x rfl;refine jP (g9 (l! w.2.2.1) (by omega) (λi x=>x=((i:Int),w)) ?_ ?_ rfl)
 .rintro i x hi rfl;refine cW ?_;refine bH (aU (aZ (Sn _ _) (cq (λh=>(h ?_).elim) λ_=>ak ?_)))
  .exact z _ (bI (T:=itK) (xs:=w.2.2.1) (j:=(i:Int)) (by omega) (by omega))
  .rw[fV]
 .rintro x rfl;exact cP (ak rfl)
def akw (w:WT) (k o:Int) (h:NM w k o):m6 (w,k,o)=Z J:=by
 refine cI ?_;let⟨k1,k2,L,lk,cn,th,D,no,z,rw_⟩:=h;unfold m6 bk bD bQ cS bm bX be aI;cases kdI k
 case no A _=>omega
 all_goals simp only[c8,ep,Rc,Sn]
 all_goals with_reducible repeat' first|apply OS.ok;constructor|refine IM.mk λ_=>?_
 all_goals try simp[ay,tZ] at*
 all_goals first|omega|exact rw_ ⟨by decide,by decide⟩|(simp [*,Bool.not_false,decide_true];done)
variable {i:Nat}
def asq (w:WT) (s:SY) (hs:SB i s) (hn:i<=1000) (t k o:Int) (he:EN w s t k o) (hr:UK w s t k o):pN (w,s,t,k,o)=Z J:=by
 refine cI ?_;let⟨nm,L,t1,cd,e1,e2,e3⟩:=id he;let⟨_,_,ce,lk,cn,th,fu,no,mu,rw_⟩:=nm;let⟨_,_,_,A,wr,ra,rl,rr,xb,xe,ab,ae,nt,sp,N,se,ge⟩:=hr;have hm:16<=k/\k<=19->0<=(geti itK w.2.2.1 o).2/\(geti itK w.2.2.1 o).2<l! w.2.1:=λh=>cd _ (bI (cn h).1 (cn h).2)
 have hH:6<=k/\k<=11->lC ((geti ec s.1 o).2,t)=Z ((geti ec s.1 o).2.contains t):=λh=>Ym _ _ (by
  have:=hs.rd _ (bI (T:=ec) (lk h).1 (by grind));omega)
 have lk1:6<=k/\k<=11->0<=o/\o<(l! s.1:Int):=λh=>by grind
 have D:t<(l! s.2.2.2:Int):=by omega
 have fu1:k=22\/k=23->0<=o/\o<(l! s.2.2.1:Int):=λh=>by have:=fu h;omega
 have th1:k=20\/k=21->0<=o/\o<(l! s.2.2.2:Int):=λh=>by have:=th h;omega
 have tr:∀{p:Prop} [Decidable p],p->decide p=J:=λh=>bc h
 unfold pN bk bD bQ dZ eh bm jK bX be aI;refine aK (λh=>?_) λn6=>?_
 .have h:k=6:=h;exact aR (lk1 (by omega)).1 (lk1 (by omega)).2 (aU (ak (tr (A (.inl h)))))
 refine aK (λh=>?_) λn10=>?_
 .have h:k=10:=h;refine gQ (aR (lk1 (by omega)).1 (lk1 (by omega)).2 (aU (aK (λ_=>?_) λg=>(g (A (.inr (.inr h)))).elim)));refine aR (lk1 (by omega)).1 (lk1 (by omega)).2 (aU (ak (ak (tr ?_))))
  grind
 refine aK (λh=>?_) λn8=>?_
 .have h:k=8:=h;refine gQ (aR (lk1 (by omega)).1 (lk1 (by omega)).2 (aU (aK (λ_=>?_) λg=>(g (A (.inr (.inl h)))).elim)));refine aR (lk1 (by omega)).1 (lk1 (by omega)).2 (aU (aZ (hH (by omega)) (ak (ak ?_))));rw[ra h];rfl
 refine aV (λx=>x.2=(w,s)/\(x.1=J↔k=7\/k=11)) (aK (λh=>ak ⟨rfl,λ_=>.inl h,λ_=>tr h⟩) λh=>ak ⟨rfl,λz=>.inr (bL z),λz=>tr (z.resolve_left h)⟩) ?_;rintro⟨b,x⟩ ⟨e,hb⟩;dsimp only at e hb;subst e;refine aQ (λh=>?_) λ_=>?_
 .have h:=hb.1 h;exact aR (lk1 (by omega)).1 (lk1 (by omega)).2 (aU (ak (tr (rl h))))
 refine aK (λh=>?_) λn9=>?_
 .have h:k=9:=h;refine aR (lk1 (by omega)).1 (lk1 (by omega)).2 (aU (aZ (hH (by omega)) (ak (rr h))))
 refine aK (λh=>ak (tr (xb h))) λ_=>aK (λh=>ak (tr (xe h))) λ_=>?_
 refine aK (λh=>aR L D (aU (ak (by grind)))) λ_=>aK (λh=>aR L D (aU (ak (ae h)))) λ_=>?_
 refine aV (λx=>x.2=(w,s)/\(x.1=J->k=16\/k=18\/k=19)) (aK (λh=>ak ⟨rfl,λ_=>.inl h⟩) λ_=>aK (λh=>ak ⟨rfl,λ_=>.inr (.inl h)⟩) λ_=>ak ⟨rfl,λh=>.inr (.inr (bL h))⟩) ?_;rintro⟨c,x⟩ ⟨e,hc⟩;dsimp only at e hc;subst e;refine aQ (λh=>?_) λ_=>?_
 .have h:=hc h;have hq:=hm (by omega);exact aR (cn (by omega)).1 (cn (by omega)).2 (aU (aR hq.1 (by grind) (aU (ak (tr (nt h))))))
 refine aK (λh=>?_) λ_=>?_
 .have h:k=20:=h;exact gQ (cq (λ_=>aR (th1 (.inl h)).1 (th1 (.inl h)).2 (aU (ak (ak (tr (sp h).2))))) λg=>((sp h).1 g).elim)
 refine aK (λh=>?_) λ_=>?_
 .have h:k=21:=h;exact gQ (cq (λ_=>aR (th1 (.inr h)).1 (th1 (.inr h)).2 (aU (ak (ak (tr (N h).2))))) λg=>((N h).1 g).elim)
 refine aK (λh=>aR (fu1 (.inl h)).1 (fu1 (.inl h)).2 (aU (ak (by grind)))) λ_=>aK (λh=>aR (fu1 (.inr h)).1 (fu1 (.inr h)).2 (aU (ak (ge h)))) λ_=>ak rfl
def Hu (w:WT) (s:SY) (hs:SB i s) (hn:i<=1000) (hw:l! w.2.2.1<=1000) (t k o:Int) (he:EN w s t k o) (z:UK w s t k o):kV (w,s,t,k,o)=Z J:=by
 refine cI ?_;let⟨nm,D,t1,cd,e1,e2,e3⟩:=id he;have hrd:=asq w s hs hn t k o he z;have t2:t<(l! s.2.2.2:Int):=by omega
 refine aV (λx=>x=(af,w,s)) ?_ ?_
 .refine aZ (as3 w s hw cd e1 e2 e3) (jO rfl (aZ (Sn _ _) ?_));refine cq (λh=>(h ⟨D,t1⟩).elim) λ_=>aZ (akw w k o nm) (ak rfl)
 rintro x rfl;refine jP (aR D t2 (aU ?_));refine aK (λh=>ak (bc (z.b h))) λn1=>?_
 refine aK (λh=>?_) λA=>?_
 .have h:k=17:=h;let⟨a1,a2,a3⟩:=z.wk h;let⟨N,L⟩:=nm.cd (by omega);have hq:=cd _ (bI (T:=itK) (xs:=w.2.2.1) (j:=o) N L);refine gQ (aK (λ_=>aK (λ_=>?_) λg=>(g a2).elim) λg=>(g a1).elim);exact aR N L (aU (aR hq.1 (by grind) (aU (ak (ak (bc a3))))))
 refine gQ (aK (λ_=>aZ hrd (ak (ak rfl))) λg=>(g (z.r n1 A)).elim)
def an0 (w:WT) (e:ET) (h1:e.2.1=1\/e.2.1=2->e.2.2.2.2.1= -1) (z:¬(e.2.1=1\/e.2.1=2)->0<=e.2.2.2.2.1/\e.2.2.2.2.1<l! w.2.2.2.2.2/\(geti pR w.2.2.2.2.2 e.2.2.2.2.1).1=e.1):mE (w,e)=Z J:=by
 refine cI ?_;refine aV (λx=>x.2=(w,e)/\(x.1=J↔e.2.1=1\/e.2.1=2)) (aK (λh=>ak ⟨rfl,λ_=>.inl h,λ_=>rfl⟩) λh=>ak ⟨rfl,λz=>.inr (bL z),λz=>bc (z.resolve_left h)⟩) ?_;rintro⟨b,x⟩ ⟨D,A⟩;subst D;refine aQ (λh=>ak (bc (h1 (A.1 h)))) λh=>?_
 let⟨a1,N,L⟩:=z λg=>by grind
 exact gQ (d_ (λ_=>cW (aR a1 N (aU (ak (ak (bc L)))))) λg=>(by grind))
def akt (h:Lf z) (i:Nat) (hi:i<l! z):∀l∈z.drop (i+1),z.getD i 0<l:=by
 induction z generalizing i with
 |nil=>cases hi
 |cons a z A=>
  cases i with
  |zero=>exact λl D=>h.1 l (by grind)
  |succ i=>exact A h.2 i (by grind)
def W6 (w:WT) (s:SN) (e:ET) (ce:e.2.1=3\/e.2.1=4->0<=e.2.2.1/\e.2.2.1<l! w.1) (de:0<l! e.2.2.2.2.2.1->e.2.1=5\/(e.2.1=3\/e.2.1=4)/\¬(geti lF w.1 e.2.2.1).2.2.1=0) (fr:0<l! e.2.2.2.2.2.2->e.2.1=4\/e.2.1=22) (t0:0<=e.1) (t1:e.1<l! s.2.2.2) (nd:AN (geti aP s.2.2.2 e.1) e.2.2.2.2.2.1) (nf:AN (geti aP s.2.2.2 e.1) e.2.2.2.2.2.2) (ld:l! e.2.2.2.2.2.1<=1000000) (lf:l! e.2.2.2.2.2.2<=1000000):fZ (w,s,e)=Z J:=by
 refine cI ?_;refine aV (λx=>x.2=(s,e)/\((e.2.1=3\/e.2.1=4)/\¬(geti lF w.1 e.2.2.1).2.2.1=0->x.1=J)) ?_ ?_
 .refine aK (λh=>?_) λn3=>aK (λh=>?_) λn4=>?_
  .exact aR (ce (.inl h)).1 (ce (.inl h)).2 (aU (ak ⟨rfl,λg=>by simpa using g.2⟩))
  .exact aR (ce (.inr h)).1 (ce (.inr h)).2 (aU (ak ⟨rfl,λg=>by simpa using g.2⟩))
  .exact ak ⟨rfl,λg=>(g.1.elim n3 n4).elim⟩
 rintro⟨b,x⟩ ⟨L,hb⟩;dsimp only at L hb;subst L;refine aV (λx=>x.1=s/\x.2.1=e/\(0<l! e.2.2.2.2.2.1->x.2.2.1=J)/\(0<l! e.2.2.2.2.2.2->x.2.2.2=J)) ?_ ?_
 .refine aK (λh5=>aK (λh4=>ak ⟨rfl,rfl,λ_=>rfl,λ_=>rfl⟩) λh4=>ak ⟨rfl,rfl,λ_=>rfl,λg=>?_⟩) λh5=>aK (λh4=>ak ⟨rfl,rfl,λg=>?_,λ_=>rfl⟩) λh4=>ak ⟨rfl,rfl,λg=>?_,λg=>?_⟩
  .grind
  .grind
  .grind
  .grind
 rintro⟨s',e',a,b'⟩ ⟨L,e2,h1,h2⟩;dsimp only at L e2 h1 h2;subst L e2;have key:∀(r:η),l! r<=1000000->AN (geti aP s'.2.2.2 e'.1) r->∀j:Nat,j<l! r->∀z∈r.drop (j+1),geti aP r (j:Int)<z:=λr _ h j N z hz=>akt h.a j N z hz
 refine g9 2 (by omega) (λi x=>x=((i:Int),s',e',a,b')) ?_ ?_ rfl
 .rintro i x hi rfl;refine cW ?_;refine cF (dj (by simp) (C' (by omega) (aU ?_)));have hr:∃r:η,geti (.sl (.int .i64)) [e'.2.2.2.2.2.1,e'.2.2.2.2.2.2] (i:Int)=r/\AN (geti aP s'.2.2.2 e'.1) r/\l! r<=1000000/\(0<l! r->geti (.bool) [a,b'] (i:Int)=J):=by
   match i,hi with
   |0,_=>exact⟨_,rfl,nd,ld,h1⟩
   |1,_=>exact⟨_,rfl,nf,lf,h2⟩
  let⟨r,er,hA,hl,hb'⟩:=hr;have er':geti (.sl aP) [e'.2.2.2.2.2.1,e'.2.2.2.2.2.2] (i:Int)=r:=er;dsimp only at er' ⊢;rw[er'];refine aV (λx=>x=(af,s',e',a,b')) ?_ ?_
  .refine bP (λg=>?_) λ_=>ak rfl
   have g':0<l! r:=by grind
   refine cF (a? (C' (by omega) (bH (aU (ak ?_)))));rw[hb' g'];rfl
  rintro x rfl;refine jP ?_;refine g9 (l! r) (by omega) (λj x=>x.1.2=(j:Int)/\x.2=(s',e',a,b')/\∀z∈r.drop j,x.1.1<z) ?_ ?_ ⟨rfl,rfl,λz hz=>?_⟩
  .rintro j ⟨⟨la,ix⟩,x⟩ N ⟨D,A,g3⟩;dsimp only at D A g3;subst D A;have m:geti aP r (j:Int)∈r:=bI (T:=aP) (xs:=r) (by omega) (by omega);have m2:geti aP r (j:Int)∈r.drop j:=by
    have:geti aP r (j:Int)=r[j]:=by
     show r.getD j 0=_
     grind
    rw[this,Q1 N];exact dk
   refine cW ?_;refine bH (aU (aV (λx=>x=(af,s',e',a,b')) ?_ ?_))
   .refine d_ (λg=>?_) λ_=>aR t0 t1 (aU (ak ?_))
    .grind
    .have:=(hA.m _ m).2;rw[m7.2 (show geti aP r (j:Int)<geti aP s'.2.2.2 e'.1 from this)]
   rintro x rfl;exact jP (ak ⟨fV,rfl,key r hl hA j N⟩)
  .rintro⟨⟨la,ix⟩,x⟩ ⟨D,A,_⟩;dsimp only at D A;subst D A;exact cP (ak (eZ (·,s',e',a,b') fV))
  .have:=(hA.m z (by grind)).1;dsimp only;omega
 .rintro x rfl;exact cP (ak rfl)
def axb (w:WT) (s:SN) (z:l! w.2.2.1<=1000) (t k o:Int) (he:EN w s.1 t k o) (hf:F16 w s):lO (w,s)=Z J:=by
 let⟨_,_,_,L,D,e2,A⟩:=he;let⟨f1,f2,N⟩:=hf;refine cI ?_;unfold lO bk bD bQ dZ bm be aI;refine gQ (aZ (as3 w s.1 z L D e2 A) (FP (aK (λ_=>aK (λ_=>ak (ak (bc ?_))) λg=>(g ?_).elim) λg=>(g ?_).elim)));all_goals dsimp [ay];omega
def Ln (th:Y e!) (c:Int) (i:Nat):wl th c (i+1)=if Pr c (geti iC th (i:Int)) then wl th c i++[(i:Int)] else wl th c i:=rfl
def amg (w:WT) (s:SN) (hs:SB i s.1) (e:ET) (hf:F16 w s) (he:EN w s.1 e.1 e.2.1 e.2.2.1) (va:VA w s.1 s.2.1 s.2.2.1 e.1 e.2.1 e.2.2.1 e.2.2.2.1):gK (s,e)=Z J:=by
 refine cI ?_;let⟨t,k,o,v,si,de,fr⟩:=e;let⟨z,s2,s3,s4⟩:=s;let⟨nm,t0,t1,cd,e1,e2,e3⟩:=he;let⟨_,_,ce,lk,cn,th,fu,_,_,_⟩:=nm;let⟨f1,f2,f3⟩:=hf;have hth:=hs.th;let⟨v3,v23,v5,vel⟩:=va;dsimp only at*
 unfold gK mI bk bD bQ cS db bm bS bX be c7 aI cQ;refine aK (λh=>?_) λn3=>?_
 .have h:k=3:=h;let⟨c0,c1⟩:=ce (.inl h);exact aR c0 (by rw[f1];exact c1) (aU (ak (bc (v3 h))))
 refine aK (λh=>?_) λn23=>?_
 .have h:k=23:=h;let⟨c0,c1⟩:=fu (.inr h);exact aR c0 (by rw[f2];exact c1) (aU (ak (bc (v23 h))))
 refine aK (λh=>?_) λn5=>?_
 .have h:k=5:=h;exact gQ (aK (λ_=>ak (ak rfl)) λg=>ak (ak (bc ((v5 h).resolve_left g))))
 refine aV (λx=>x.2=((z,s2,s3,s4),t,k,o,v,si,de,fr)/\(x.1=af->¬k=4/\¬k=22)) (aK (λh=>ak ⟨rfl,λh2=>(by rw[bc h]at h2;cases h2)⟩) λh=>ak ⟨rfl,λh2=>⟨h,Yt h2⟩⟩) ?_;rintro⟨b,x⟩ ⟨e,hb⟩;dsimp only at e hb;subst e;refine aQ (λh=>ak rfl) λh=>?_
 let⟨n4,n22⟩:=hb h;have vel:=vel n3 n23 n5 n4 n22;have hWl:=xO z.2.2.2 o (l! z.2.2.2);refine aK (λh=>?_) λn18=>?_
 .have h:k=18:=h;subst h;rw[Fk]at vel;refine g9 (l! z.2.2.2) (by omega) (λn x=>x.1.2.2=(n:Int)/\x.2=(t,18,o,v,si,de,fr)/\x.1.1=(l! (wl z.2.2.2 o n):Int)/\(x.1.2.1=J↔v∈wl z.2.2.2 o n)) ?_ ?_ ⟨rfl,rfl,rfl,by simp[wl]⟩
  .rintro n ⟨⟨c,hit,ix⟩,x⟩ hi ⟨D,A,L,N⟩;dsimp only at D A L N;subst D A L;have hl:=xO z.2.2.2 o n;refine cW ?_;refine aV (λx=>x.2=(t,18,o,v,si,de,fr)/\x.1.1=(l! (wl z.2.2.2 o (n+1)):Int)/\(x.1.2=J↔v∈wl z.2.2.2 o (n+1))) ?_ ?_
   .refine bH (aU (aV (λx=>x=(Pr o (geti iC z.2.2.2 (n:Int)),t,18,o,v,si,de,fr)) ?_ ?_))
    .unfold Pr;refine aK (λh=>ak ?_) λh=>ak ?_
     .dsimp only at h ⊢;rw[h];rfl
     .dsimp only at h ⊢;rw[dm h];rfl
    rintro x rfl;rw[Ln];dsimp only;cases hw:Pr o (geti iC z.2.2.2 (n:Int)) with
    |true=>
     refine FP (aQ (λh=>ak ⟨rfl,?_,?_⟩) λh=>ak ⟨rfl,?_,?_⟩)
     .dsimp only;rw[fV];simp
     .simp[N.1 h]
     .dsimp only;rw[fV];simp
     .have:¬v∈wl z.2.2.2 o n:=λg=>by rw[N.2 g]at h;cases h
      simp[this]
    |false=>exact jP (ak ⟨rfl,rfl,N⟩)
   rintro⟨⟨c,hit'⟩,x⟩ ⟨D,A,L⟩;dsimp only at D A L;subst D A;exact ak ⟨fV,rfl,rfl,L⟩
  .rintro⟨⟨c,hit,ix⟩,x⟩ ⟨D,A,L,N⟩;dsimp only at D A L N;subst D A L;refine cP (aw (P:=λy=>y=J) (gQ (aQ (λ_=>ak (ak rfl)) λh=>?_)) λy hy=>ak hy);have hn:¬v∈wl z.2.2.2 o (l! z.2.2.2):=λg=>by rw[N.2 g]at h;cases h
   by_cases h0:l! (wl z.2.2.2 o (l! z.2.2.2))=0
   .rw[aE h0]at vel;refine aK (λ_=>ak (ak (bc vel))) λg=>(g (by dsimp only;omega)).elim
   .rw[ax h0]at vel;have vel:v=Ew (wl z.2.2.2 o (l! z.2.2.2)) v:=vel;exact (hn (vel▸LJ v h0)).elim
 refine aK (λh=>?_) λn19=>?_
 .have h:k=19:=h;subst h;rw[ato]at vel;refine g9 (l! z.2.2.2) (by omega) (λn x=>x.1.2=(n:Int)/\x.2=(t,19,o,v,si,de,fr)/\x.1.1=(l! (wl z.2.2.2 o n):Int)) ?_ ?_ ⟨rfl,rfl,rfl⟩
  .rintro n ⟨⟨c,ix⟩,x⟩ hi ⟨D,A,L⟩;dsimp only at D A L;subst D A L;have hl:=xO z.2.2.2 o n;refine cW ?_;refine aV (λx=>x.2=(t,19,o,v,si,de,fr)/\x.1=(l! (wl z.2.2.2 o (n+1)):Int)) ?_ ?_
   .refine bH (aU (aV (λx=>x=(Pr o (geti iC z.2.2.2 (n:Int)),t,19,o,v,si,de,fr)) ?_ ?_))
    .unfold Pr;refine aK (λh=>ak ?_) λh=>ak ?_
     .dsimp only at h ⊢;rw[h];rfl
     .dsimp only at h ⊢;rw[dm h];rfl
    rintro x rfl;rw[Ln];dsimp only;cases hw:Pr o (geti iC z.2.2.2 (n:Int)) with
    |true=>
     refine FP (ak ⟨rfl,?_⟩);dsimp only;rw[fV];simp
    |false=>exact jP (ak ⟨rfl,rfl⟩)
   rintro⟨c,x⟩ ⟨D,A⟩;dsimp only at D A;subst D A;exact ak ⟨fV,rfl,rfl⟩
  .rintro⟨⟨c,ix⟩,x⟩ ⟨D,A,L⟩;dsimp only at D A L;subst D A L;exact cP (ak (bc vel))
 exact ak (bc (by rw[ard _ _ _ _ _ _ n18 n19]at vel;exact vel))
def ah8 (x:e!) (c:Int):nB (x,c)=Z (Pr c x):=by
 refine cI ?_;unfold nB Pr bm aI;refine gQ (aK (λh=>ak (ak ?_)) λh=>ak (ak ?_))
 .grind
 .grind
def aki (s:SY) (A:SB i s):lB s=Z (s.2.1,s.1,s.2.2.1,s.2.2.2):=by
 refine cI ?_;let⟨z,N,L,D⟩:=s;have hn:=A.n1;have hlk:=A.lk;have hdn:=A.dn;have hth:=A.th;have hrd:=A.rd;dsimp only at hlk hdn hth hrd;unfold lB tR bk db ck bS bU bX be c7 cQ;dsimp [ay];refine cF (cF (a? (a? (a! ?_))));refine g9 (l! z) (by omega) (λn x=>∃c d,x=((n:Int),(z,N,L,D),c,d)/\l! d=l! z/\∀j,j<n->d.getD j (0,[])=z.getD j (0,[])) ?_ ?_ ⟨_,_,rfl,by simp,λj hj=>by omega⟩
 .rintro n x hi ⟨c,d,rfl,hd,he⟩;have hr:=hrd _ (bI (T:=ec) (xs:=z) (j:=(n:Int)) (by omega) (by omega));refine cW ?_;refine bH (aU (aZ (x:=(geti ec z (n:Int)).2) (cI ?_) ?_))
  .exact bG (by grind) (by omega) (ak rfl)
  refine bH (bH (ak ⟨c,d.set n (geti ec z (n:Int)),?_,by simp[hd],λj hj=>?_⟩))
  .rw[fV];rfl
  .by_cases e:n=j
   .subst e;rw[aF,List.getElem?_set_self (by omega)];rfl
   .grind
 .rintro x ⟨c,d,rfl,hd,he⟩;have:d=z:=by
   refine sE hd λj g1 g2=>?_
   grind
  subst this;refine cP (aw (P:=λy=>y=(N,d,L,D)) ?_ λy hy=>ak hy);refine aZ (x:=L) (cI (bG (by grind) (by omega) (ak rfl))) (aZ (x:=D) (cI (bG (by grind) (by omega) (ak rfl))) (ak rfl))
def acy (l:η) (i u:Int):Ew (l++[i]) u=if (l! l)=0 then i else if i=u then i else Ew l u:=by
 unfold Ew;cases l with
 |nil=>
  by_cases h:u=i
  .subst h;simp
  .simp[h];rfl
 |cons a r=>
  have z:¬l! (a::r++[i])=0:=by simp
  have e2:¬l! (a::r)=0:=by simp
  by_cases h:i=u
  .subst h;simp
  .have h':¬u=i:=λg=>h g.symm
   rw[ax h];have:(a::r++[i]).contains u=(a::r).contains u:=by simp[h']
   rw[this];rfl
variable {N:Y (Int×Int×Bool)}
def LI {u:Int} (h:¬l! (wl N a i)=0):0<=Ew (wl N a i) u/\Ew (wl N a i) u<i:=by
 have:=sQ.1 (LJ u h);exact⟨this.1,this.2.1⟩
def OH {u:Int} (h:l! z=0):Ew z u= -1:=by unfold Ew;rw[aE h]
def an8 (s:SY) (o u:Int) (hs:l! s.2.2.2<=1000):kD ((s.2.1,o,u),s.1,s.2.2.1,s.2.2.2)=Z (Ew (wl s.2.2.2 o (l! s.2.2.2)) u,s.1,s.2.2.1,if (l! (wl s.2.2.2 o (l! s.2.2.2)))=0 then s.2.2.2 else AX s.2.2.2 (Ew (wl s.2.2.2 o (l! s.2.2.2)) u) 4):=by
 refine cI ?_;let⟨D,L,A,z⟩:=s;dsimp only at hs ⊢;unfold kD sg bk bD db ck bS jY kq be c7 aI cQ;refine g9 (l! z) (by omega) (λi x=>x=((Ew (wl z o i) u,(i:Int)),D,A,z,L)) ?_ ?_ rfl
 .rintro i x hi rfl;refine cW ?_;refine aV (λx=>x=(Ew (wl z o (i+1)) u,D,A,z,L)) ?_ ?_
  .refine bH (bH (aU ?_));refine aV (λx=>x=(decide (Pr o (geti iC z (i:Int))=J/\(l! (wl z o i)=0\/(i:Int)=u)),D,A,z,L)) ?_ ?_
   .refine aZ (ah8 _ _) (aQ (λh=>?_) λh=>ak ?_)
    .have h:Pr o (geti iC z (i:Int))=J:=h;refine bP (λg=>ak ?_) λg=>ak ?_
     .have:l! (wl z o i)=0:=xN λq=>by have:=(LI (u:=u) q).1;dsimp only at g;omega
      simp[h,this]
     .have:¬l! (wl z o i)=0:=λq=>by have:=OH (u:=u) q;dsimp only at g;omega
      simp[h,this]
    .grind
   rintro x rfl;rw[Ln];refine aK (λh=>ak ?_) λh=>ak ?_
   .rw[aE h.1,acy]
    grind
   .by_cases g:Pr o (geti iC z (i:Int))=J
    .rw[aE g,acy,ax λq=>h ⟨g,.inl q⟩,ax λq=>h ⟨g,.inr q⟩]
    .rw[ax g]
  rintro x rfl;exact ak (by dsimp only;rw[fV])
 .rintro x rfl;refine cP (aw (P:=λy=>y=(Ew (wl z o (l! z)) u,D,A,if (l! (wl z o (l! z)))=0 then z else AX z (Ew (wl z o (l! z)) u) 4)) ?_ λy N=>ak N);refine aV (λx=>x=(D,A,if (l! (wl z o (l! z)))=0 then z else AX z (Ew (wl z o (l! z)) u) 4)) ?_ ?_
  .refine d_ (λg=>?_) λg=>ak ?_
   .have h0:¬l! (wl z o (l! z))=0:=λq=>by have:=OH (u:=u) q;dsimp only at g;omega
    have hp:=LI (u:=u) h0;refine aR hp.1 hp.2 (aR hp.1 hp.2 (ak ?_));rw[ax h0];rfl
   .have:l! (wl z o (l! z))=0:=xN λq=>by have:=(LI (u:=u) q).1;dsimp only at g;omega
    rw[aE this]
  rintro x rfl;exact ak rfl
def ane (th:Y e!) (l:η) (i:Int):FX th (l++[i])=AX (FX th l) i 4:=by unfold FX;rw[eX];rfl
def and (l:η):∀(th:Y e!) (j:Int),0<=j->(∀z∈l,0<=z/\z<l! th/\¬z=j)->geti iC (FX th l) j=geti iC th j:=by
 induction l with
 |nil=>intro th j _ _;rfl
 |cons x r L=>
  intro th j D h;have A:=h x (by simp);refine (L (AX th x 4) j D λz N=>?_).trans ?_
  .have:=h z (by grind);unfold AX;rw[bW];exact this
  .unfold AX;rw[jH (T:=iC) th x j _ A.1 A.2.1 D,ax λq=>A.2.2 q.symm]
def YU (s:SY) (o:Int) (hs:l! s.2.2.2<=1000):h_ ((s.2.1,o),s.1,s.2.2.1,s.2.2.2)=Z ((l! (wl s.2.2.2 o (l! s.2.2.2)):Int),s.1,s.2.2.1,FX s.2.2.2 (wl s.2.2.2 o (l! s.2.2.2))):=by
 refine cI ?_;let⟨N,L,D,A⟩:=s;dsimp only at hs ⊢;unfold h_ nS bk bD db dZ ck bS kq be c7 aI cQ;refine g9 (l! A) (by omega) (λi x=>x=(((l! (wl A o i):Int),(i:Int)),N,D,FX A (wl A o i),L)) ?_ ?_ rfl
 .rintro i x hi rfl;have hl:=xO A o i;have hg:geti iC (FX A (wl A o i)) (i:Int)=geti iC A (i:Int):=and _ _ _ (by omega) λz hz=>by have:=sQ.1 hz;exact⟨this.1,by omega,by omega⟩
  have hq:=Lz (wl A o i) A;refine cW ?_;refine aV (λx=>x=((l! (wl A o (i+1)):Int),N,D,FX A (wl A o (i+1)),L)) ?_ ?_
  .refine bH (bH (aU (aZ (ah8 _ _) ?_)));rw[Ln];refine aQ (λh=>?_) λh=>ak ?_
   .have h:Pr o (geti iC A (i:Int))=J:=hg▸h;refine bH (bH (ak ?_));rw[aE h,ane];rw[fV];simp[bC,jX,pG];rfl
   .grind
  rintro x rfl;exact ak (by dsimp only;rw[fV])
 .rintro x rfl;exact cP (ak rfl)
def aqb (w:WT) (s:SY) (z:SB i s) (hn:i<=1000) (N:l! w.2.2.1<=1000) (t k o u:Int) (he:EN w s t k o) (hr:UK w s t k o) (D:¬k=8) (A:¬k=9):ia (w,s,t,k,o,u)=Z ((ph w s t k o u).1,(ph w s t k o u).2,J):=by
 refine cI ?_;unfold ia bk bD bQ cS eV db dZ eh iS w9 ck bm bU bX kq aI;refine aZ (Hu w s z hn N t k o he hr) (jO rfl (aZ (aki s z) ?_));suffices hmain:Ok _ _ from aV (λx=>((x.2.2.2.1,x.2.1,x.2.2.2.2),x.1)=ph w s t k o u) hmain λx L=>ak (by rw[<- L])
 obtain⟨nm,t0,t1,cd,e1,e2,e3⟩:=id he;obtain⟨_,_,ce,lk,cn,th,fu⟩:=nm;have hm:16<=k/\k<=19->0<=(geti itK w.2.2.1 o).2/\(geti itK w.2.2.1 o).2<l! w.2.1:=λh=>cd _ (bI (cn h).1 (cn h).2)
 cases kdI k
 case no hk _=>omega
 all_goals first|exact (D rfl).elim|exact (A rfl).elim|skip
 all_goals simp only[c8,ep,Rc]
 all_goals with_reducible repeat' first|apply OS.ok;constructor|refine IM.mk λ_=>?_
 all_goals try simp only[ay,tZ] at*
 all_goals try rw[bW]
 all_goals first|omega|exact (hm ⟨by decide,by decide⟩).1|exact e1▸(hm ⟨by decide,by decide⟩).2|exact rfl|skip
 .refine aZ (an8 s o u z.th) (bl ?_ (ak ?_))
  .have:aj (if (l! (wl s.2.2.2 o (l! s.2.2.2)))=0 then s.2.2.2 else AX s.2.2.2 (Ew (wl s.2.2.2 o (l! s.2.2.2)) u) 4)=l! s.2.2.2:=by
    split
    .rfl
    .exact bW ..
   dsimp only;rw[this];simp
  .rw[Fk];by_cases h:l! (wl s.2.2.2 o (l! s.2.2.2))=0
   .rw[aE h,aE h,OH h]
   .rw[ax h,ax h]
 .refine aZ (YU s o z.th) (bl ?_ (ak rfl));dsimp only;rw[Lz];simp
def DX:Nat->Y η
 |0=>[[]]
 |m+1=>DX m++(DX m).map ((3-(m:Int))::·)
def Q7:∀m,[]∈DX m
 |0=>by simp[DX]
 |m+1=>by simp[DX,Q7 m]
def HI:∀(m:Nat) (l:η),Lf l->(∀z∈l,4-(m:Int)<=z/\z<4)->l∈DX m
 |m,[],_,_=>Q7 m
 |0,a::r,_,h=>by have:=h a (by simp);omega
 |m+1,a::r,hA,h=>by
  have D:=h a (by simp);rw[DX,bO];by_cases e:a=3-(m:Int)
  .refine .inr (cu.2 ⟨r,HI m r hA.2 λz A=>?_,by rw[e]⟩);have:=h z (by grind);have:=hA.1 z A;omega
  .refine .inl (HI m (a::r) hA λz A=>?_);have:=h z A;rcases a_.1 A with rfl|A
   .omega
   .have:=hA.1 z A;omega
def aqj (h:Lf z) (D:∀l∈z,0<=l/\l<4):z∈DX 4:=HI 4 z h λl A=>by have:=D l A;omega
def in4:η:=[0,1,2,3]
def ac5 (h0:0<=a) (h1:a<4):a∈in4:=by
 have:a=0\/a=1\/a=2\/a=3:=by omega
 rcases this with rfl|rfl|rfl|rfl<;>simp[in4]
def awk (l:η) (t:Int):Bool:=l.contains t||((yN (l++[t])==Z (yo l [t]))&&(mG (yo l [t])==Z (yo l [t]))&&aB (l! (yo l [t])) (l! (l++[t])))
def axe (l:η) (t:Int):Bool:= !l.contains t||(jN (l,t)==Z (t,wo l t))
def amk:((DX 4).all λl=>in4.all λt=>awk l t)=J:=by kernel_rfl
def aof:((DX 4).all λl=>in4.all λt=>axe l t)=J:=by kernel_rfl
def srt8 (h:Lf z) (A:∀l∈z,0<=l/\l<4) (h0:0<=a) (h1:a<4) (D:¬a∈z):yN (z++[a])=Z (yo z [a])/\mG (yo z [a])=Z (yo z [a])/\l! (yo z [a])=l! (z++[a]):=by
 have:=iF.1 (iF.1 amk z (aqj h A)) a (ac5 h0 h1);unfold awk at this;simp_all
def del8 (h:Lf z) (A:∀l∈z,0<=l/\l<4) (h0:0<=a) (h1:a<4) (D:z.contains a=J):jN (z,a)=Z (a,wo z a):=by
 have:=iF.1 (iF.1 aof z (aqj h A)) a (ac5 h0 h1);unfold axe at this
 grind
def aoq (N L D:Int) (r0 A z:η) (h:Int) (d:θ) (th:Y e!) (h0:l! r0<=1000) (h1:l! A<=1000) (h2:l! z<=1000) (hd:l! d<=1000) (ht:l! th<=1000):rV ([(N,r0),(L,A),(D,z)],h,d,th)=Z ((h,d,th),(N,L,D),r0,A,z):=by
 refine cI ?_;have cl:∀l:η,l! l<=1000->vw l=Z l:=λl hl=>cI (a! (ak rfl))
 refine bl rfl (aV (λx=>x=(([(N,r0),(L,A),(D,z)],h,d,th),0,(N,L,D),r0,A,z)) ?_ ?_)
 .exact qP rfl (bl rfl (aU (aZ (cl _ h0) (qP rfl (bl rfl (aU (aZ (cl _ h1) (qP rfl (bl rfl (aU (aZ (cl _ h2) (jO rfl (ak rfl)))))))))))))
 rintro x rfl;refine aZ (x:=d) (cI (bG (by grind) (by omega) (ak rfl))) (aZ (x:=th) (cI (bG (by grind) (by omega) (ak rfl))) (ak rfl))
def aqc (w:WT) (s:SY) (z:SB i s) (N:i<=1000) (D:l! w.2.2.1<=1000) (t k o u:Int) (he:EN w s t k o) (L:UK w s t k o) (hk:k=8\/k=9):ia (w,s,t,k,o,u)=U:=by
 have h1:=Hu w s z N D t k o he L;have A:=aki s z;rcases hk with rfl|rfl
 .unfold ia bk bD bQ cS eV db dZ eh iS w9 ck bm bU bX kq aI;simp[h1,A,c8,ep,Rc];cases dK o (aj s.1)<;>rfl
 .unfold ia bk bD bQ cS eV db dZ eh iS w9 ck bm bU bX kq aI;simp[h1,A,c8,ep,Rc];cases dK o (aj s.1)<;>rfl
def aqa (w:WT) (s:SY) (L:SB i s) (hn:i<=900) (hw:l! w.2.2.1<=1000) (t k u:Int) (he:EN w s t k 2) (hr:UK w s t k 2) (hk:k=8\/k=9) (h3:l! s.1=3) (hA:Lf (geti ec s.1 2).2) (h4:∀z∈(geti ec s.1 2).2,0<=z/\z<4) (t4:t<4):lV (w,s,t,k,2,u)=Z ((ph w s t k 2 u).1,(ph w s t k 2 u).2,J):=by
 have h1:=Hu w s L (by omega) hw t k 2 he hr;have t0:=he.t0;have ra:=hr.ra;have rr:=hr.rr;have hrd:=L.rd;have hdn:=L.dn;have hth:=L.th;let⟨s1,h,d,th⟩:=s
 match s1,h3 with
 |[(a0,r0),(a1,D),(N,A)],_=>
  have g0:l! r0<=i:=hrd (a0,r0) (by simp);have g1:l! D<=i:=hrd (a1,D) (by simp);have g2:l! A<=i:=hrd (N,A) (by simp);have hA:Lf A:=hA;have hc:=aoq a0 a1 N r0 D A h d th (by omega) (by omega) (by omega) hdn hth;refine cI ?_;unfold lV bk bD bQ cS eV kZ dZ eh iS Li bm ky bU aI;rcases hk with rfl|rfl
  .have ra:A.contains t=af:=ra rfl;let⟨q1,q2,q3⟩:=srt8 hA h4 t0 t4 (by grind);simp[h1,hc,c8,ep,Rc];refine aV (λx=>x=(0,(h,d,th),0,(((a0,r0),(a1,D),N)),J,yo A [t])) ?_ ?_
   .refine bG (by grind) (by omega) (aZ q1 (bl ?_ (aZ q2 (bl ?_ (ak ?_)))))
    .rw[q3];simp
    .simp
    .rfl
   rintro x rfl;exact ak rfl
  .have rr:A.contains t=J:=rr rfl;have q1:=del8 hA h4 t0 t4 rr;simp[h1,hc,c8,ep,Rc];refine aV (λx=>x=(0,(h,d,th),0,(((a0,r0),(a1,D),N)),af,wo A t)) ?_ ?_
   .exact aZ q1 (bl (by simp) (ak rfl))
   rintro x rfl;exact ak rfl
def avy (w:WT) (s:SY) (L:SB i s) (hn:i<=900) (D:l! w.2.2.1<=1000) (t k o u:Int) (he:EN w s t k o) (N:UK w s t k o) (h2:k=8\/k=9->o=2) (h3:l! s.1=3) (hA:∀l∈s.1,Lf l.2/\∀z∈l.2,0<=z/\z<4) (t4:t<4):tK (w,s,t,k,o,u)=Z ((ph w s t k o u).1,(ph w s t k o u).2,J):=by
 unfold tK;by_cases A:k=8\/k=9
 .have:=h2 A;subst this;have hg:=hA _ (bI (T:=ec) (xs:=s.1) (j:=2) (by omega) (by omega));rw[aqc w s L (by omega) D t k 2 u he N A,aqa w s L hn D t k u he N A h3 hg.1 hg.2 t4];rfl
 .rw[aqb w s L (by omega) D t k o u he N (λh=>A (.inl h)) λh=>A (.inr h)];rfl
def acw (l:η) (h:l! l<=100000):BZ l=Z l:=cI (a! (ak rfl))
def aor (l:η) (h:l! l<=100000):vw l=Z l:=cI (a! (ak rfl))
def ay6 {n:Nat} (w:WT) (s:SN) (e:ET) (D:NB n s) (hn:n<=900) (hw:l! w.2.2.1<=1000) (hF:F16 w s) (N:EN w s.1 e.1 e.2.1 e.2.2.1) (hS:S16 w s e) (ld:l! e.2.2.2.2.2.1<=1000000) (lf:l! e.2.2.2.2.2.2<=1000000) (h2:e.2.1=8\/e.2.1=9->e.2.2.1=2) (h3:l! s.1.1=3) (hA:∀l∈s.1.1,Lf l.2/\∀z∈l.2,0<=z/\z<4) (t4:e.1<4):lP (w,s,e)=Z (nxP w s e,J):=by
 refine cI ?_;let⟨rd,q1,q2,de,fr,nd,nf,va⟩:=id hS;let⟨nm,L,t1,cd,e1,e2,e3⟩:=id N;let⟨k1,k2,ce,lk,cn,th,fu,_,_,_⟩:=nm;let⟨f1,f2,f3⟩:=id hF;have hsc:=D.c;have hsf:=D.f;have hsk:=D.k;refine aV (λx=>x=(af,w,s,e,0)) ?_ ?_
 .refine aZ (axb w s hw _ _ _ N hF) (jO rfl (cP (d_ (λg=>(by grind)) λ_=>cP (ak ?_))));rw[ja.2 (show e.2.1<=23 by omega)]
 rintro x rfl;refine jP (aV (λx=>x=(af,w,s,e,0)) ?_ ?_)
 .exact aZ (Hu w s.1 D.sb (by omega) hw _ _ _ N rd) (jO rfl (aZ (an0 w e q1 q2) (jO rfl (aZ (W6 w s e (λh=>ce h) de fr L (by omega) nd nf ld lf) (jO rfl (aZ (amg w s D.sb e hF N va) (ak rfl)))))))
 rintro x rfl;refine jP (aV (λx=>x.2=(w,s,e,0)/\ph w s.1 e.1 e.2.1 e.2.2.1 x.1=ph w s.1 e.1 e.2.1 e.2.2.1 e.2.2.2.1) ?_ ?_)
 .exact aK (λ_=>ak ⟨rfl,rfl⟩) λh=>ak ⟨rfl,ad8 _ _ _ _ _ _ _ h⟩
 rintro⟨u,x⟩ ⟨hx,hu⟩;dsimp only at hx hu;subst hx;refine aZ (avy w s.1 D.sb hn hw _ _ _ u N rd h2 h3 hA t4) (jO rfl (aZ (acw _ (by grind)) (aZ (acw _ (by grind)) (aZ (aor _ (by grind)) ?_))));rw[hu];refine aV (λx=>x.1=e/\x.2.2.1=(ph w s.1 e.1 e.2.1 e.2.2.1 e.2.2.2.1).1/\x.2.2.2.1=ceP s.2.1 e/\x.2.2.2.2.1=fuP s.2.2.1 e/\x.2.2.2.2.2=s.2.2.2) ?_ ?_
 .unfold ceP fuP;refine aK (λh=>?_) λh=>aK (λh'=>?_) λh'=>ak ⟨rfl,rfl,(ax h).symm,(ax h').symm,rfl⟩
  .have h:e.2.1=4:=h;have A:=ce (.inr h);exact aR A.1 (by grind) (aR A.1 (by grind) (ak ⟨rfl,rfl,(aE h).symm,(ax (by omega)).symm,rfl⟩))
  .have h:e.2.1=22:=h';have A:=fu (.inl h);exact aR A.1 (by grind) (aR A.1 (by grind) (ak ⟨rfl,rfl,(ax (by omega)).symm,(aE h).symm,rfl⟩))
 rintro⟨x1,x2,x3,x4,x5,x6⟩ ⟨h1,h2,h4,h5,h6⟩;simp only at h1 h2 h4 h5 h6;subst h1 h2 h4 h5 h6;have t2:x1.1<(l! s.2.2.2:Int):=by omega
 exact aR L t2 (aR L t2 (aU (aR L t2 (aR L t2 (ak rfl)))))
structure TP (t:η×Int):Prop where
 l0:l! t.1<=9223372036854775807
 by_:∀x∈t.1,0<=x/\x<=255
 a0:0<=t.2
 a1:t.2<=l! t.1
structure wX (t t':η×Int):Prop where
 e:t'.1=t.1
 m:t.2<=t'.2
 p:TP t'
def wX.refl {t:n?} (h:TP t):wX t t:=⟨rfl,dg _,h⟩
def wX.trans {a b c:n?} (h:wX a b) (g:wX b c):wX a c:=⟨g.e.trans h.e,C5 h.m g.m,g.p⟩
def gG (n:Int) (t:n?) (h:TP t):Ok (bF (n,t)) λy=>wX t y.2/\0<=y.1/\(1<=n->y.1<n)/\(t.2<l! t.1->1<=n->t.2<y.2.2):=by
 let⟨L,a⟩:=t;have hT:=h;let⟨l0,D,N,a1⟩:=h;dsimp only at l0 D N a1;unfold bF jY bU bX be aI cQ;refine aV (λx=>x.2=(L,a)/\(x.1=J->a=l! L\/n<1)/\(x.1=af->a<l! L/\1<=n)) ?_ ?_
 .refine d_ (λh=>ak ⟨rfl,λ_=>?_,nofun⟩) λh=>ak ⟨rfl,λA=>?_,λA=>?_⟩
  .grind
  .rw[rZ]at A;exact .inr A
  .rw[ja]at A;dsimp [ay]at h A;omega
 rintro⟨b,x⟩ ⟨e,h1,A⟩;subst e;refine aQ (λh=>ak ⟨wX.refl hT,dg _,λh3=>(by omega),λh3 h4=>?_⟩) λh=>?_
 .grind
 let⟨q1,q2⟩:=A h;refine aU ?_;have e1:bn .i64 (a+1)=a+1:=iI;rw[e1,iI (n:=a+1-1) (by omega) (by omega),show a+1-1=a by omega];have hz:=D _ (bI (T:=.int .u8) (xs:=L) (j:=a) N q1);refine aR N q1 (aU ?_);generalize (geti _ _ a)=z at hz;rw[iI (n:=z) (by omega) (by omega)];refine BU (by omega) (ak ?_);dsimp only;refine ⟨⟨rfl,by dsimp only;omega,⟨l0,D,by dsimp only;omega,by dsimp only;omega⟩⟩,Int.tmod_nonneg _ hz.1,λ_=>?_,λ_ _=>by omega⟩;exact Int.tmod_lt_of_pos _ (by omega)
def Yx (s:SY) (A:l! s.2.2.2<=1000) (y:η×I?):Ok (og (s,y)) λl=>l! l<=l! s.2.2.2:=by
 refine bV (l! s.2.2.2) (λi x=>x.1=(i:Int)/\l! x.2<=i) ?_ ?_ ⟨rfl,by simp⟩
 .rintro i ⟨a,b⟩ hi ⟨z,e2⟩;subst z;with_reducible repeat' first|apply OS.ok;constructor|refine IM.mk λ_=>?_
  all_goals try simp only[ay,tZ] at*
  all_goals first|omega|(simp;omega)|skip
  .exact⟨fV,by simp;omega⟩
  .exact⟨fV,by omega⟩
 .rintro⟨a,b⟩ ⟨z,e2⟩;refine bP (λD=>(by grind)) λ_=>ak e2
def aec (k u:Int) (t:n?) (h:TP t):Ok (pK ((k,u),t)) λy=>wX t y.2/\(k=3\/k=4->0<=y.1/\y.1<5):=by
 unfold pK bm kq aI cQ;cases kdI k
 case no D _=>
  simp only[D,c8,ep,Rc];exact ak ⟨wX.refl h,λh=>(by grind)⟩
 all_goals first
  |exact ak ⟨wX.refl h,λh=>(by grind)⟩
  |exact aw (gG 2 t h) λy A=>ak ⟨A.1,λh=>(by omega)⟩
  |exact aw (gG 3 t h) λy A=>ak ⟨A.1,λh=>(by grind)⟩
  |skip
 all_goals
  refine aw (gG 8 t h) λy A=>?_
  have h1:=A.2.1;have L:=A.2.2.1 (by omega);refine aR h1 (by omega) (aR h1 (by omega) (aU (ak ⟨A.1,λ_=>?_⟩)));have:∀z:Int,z∈([0,0,0,1,1,2,3,4]:η)->0<=z/\z<5:=by decide
  exact this _ (bI (T:=aP) h1 (by omega))
structure SZ (n:Nat) (s:SN):Prop where
 nb:NB n s
 c:l! s.2.1=5
 f:l! s.2.2.1=1
 k:l! s.2.2.2=4
def SZ.step {s y:SN} (h:SZ i s) (hp:SP i s y) (z:i+1<=100000):SZ (i+1) y:=
 ⟨hp.NB h.nb z,by rw[hp.c];exact h.c,by rw[hp.f];exact h.f,by rw[hp.k];exact h.k⟩
def adz (s:SN) (A:SZ i s) (k o:Int) (ho:k=3->0<=o/\o<5) (t:n?) (h:TP t):Ok (rM ((s,k,o),t)) λy=>wX t y.2:=by
 let⟨s1,s2,N,L⟩:=s;have hc:=A.c;have hf:=A.f;have hth:=A.nb.sb.th;dsimp only at hc hf hth;have D:=Yx s1 hth (s2,N,L);unfold rM bk bm bS bX be aI;cases kdI k
 case no hk _=>
  simp[hk,c8,ep,Rc];exact ak (wX.refl h)
 all_goals simp[c8,ep,Rc]
 all_goals first
  |exact ak (wX.refl h)
  |exact aw (gG 2 t h) λy z=>ak z.1
  |exact aw (gG 3 t h) λy z=>ak z.1
  |exact aw D λy z=>ak (wX.refl h)
  |exact aR (by decide) (by omega) (aU (ak (wX.refl h)))
  |exact aR (ho rfl).1 (by omega) (aU (ak (wX.refl h)))
  |skip
 refine aw D λl hl=>?_
 refine bP (λh1=>?_) λ_=>ak (wX.refl h)
 refine aw (gG _ t h) λy z=>?_
 have h2:=z.2.2.1 (by grind);exact aR z.2.1 h2 (aU (ak z.1))
def amm (t:n?) (h:TP t) (r:η) (hr:l! r<=1000000):Ok (iu (t,r)) λy=>l! y.1<=l! r/\wX t y.2.1/\y.2.2=r:=by
 refine bV (l! r) (λi x=>x.1=(i:Int)/\wX t x.2.1/\x.2.2.1=r/\l! x.2.2.2<=i) ?_ ?_ ⟨rfl,wX.refl h,rfl,by simp⟩
 .rintro i ⟨a,b,c,d⟩ hi ⟨L,e2,z,D⟩;dsimp only at L e2 z D;subst L z;refine bP (λg4=>?_) λg4=>(by grind)
  refine aV (λx=>wX t x.1/\x.2.1=c/\l! x.2.2<=i+1) ?_ ?_
  .refine bH (bH (aU ?_));refine aV (λx=>wX t x.2.1/\x.2.2=(c,d)) ?_ ?_
   .refine aQ (λ_=>?_) λ_=>ak ⟨e2,rfl⟩
    exact aw (gG 2 b e2.p) λy hy=>ak ⟨e2.trans hy.1,rfl⟩
   .rintro⟨p,q,u⟩ ⟨A,N⟩;subst N;refine aQ (λ_=>?_) λ_=>ak ⟨A,rfl,by dsimp only;omega⟩
    exact bG (by grind) (by omega) (ak ⟨A,rfl,by simp;omega⟩)
  .rintro⟨p,q,u⟩ ⟨A,N,f3⟩;subst N;refine ak ?_;exact⟨fV,A,rfl,f3⟩
 .rintro⟨a,b,c,d⟩ ⟨L,e2,z,D⟩;dsimp only at L e2 z D;subst z;refine bP (λg4=>(by grind)) λ_=>ak ⟨D,e2,rfl⟩
def aj8:vq ()=Z [3,3,3,3,3,4,4,4,4,4,5,5,5,6,6,6,7,7,7,8,9,10,11,12,13,14,14,15,16,16,17,17,18,18,19,20,1,1,2,21,22,23,23]:=rfl
abbrev RR:Type:=η×η×I?
structure RB4 (m:Nat) (r:RR):Prop where
 r0:l! r.1<=m
 r1:l! r.2.1<=m
 r2:l! r.2.2.1<=m
 r3:l! r.2.2.2<=m
def ak5 (s:SN) (hs:SZ i s) (w:WT) (hw:l! w.1=5) (t:n?) (h:TP t) (r:RR) (hr:RB4 1000000 r):Ok (rN ((s,w),t,r)) λy=>wX t y.2.1/\y.2.2=r/\(t.2<l! t.1->t.2<y.2.1.2)/\l! y.1.2.2.2.2.2.1<=1000000/\l! y.1.2.2.2.2.2.2<=1000000:=by
 let⟨r0,r1,r2,r3⟩:=r;let⟨h0,h1,h2,h3⟩:=hr;dsimp only at h0 h1 h2 h3;unfold rN ly me md bk bD bQ cS eV kZ mw nM Prod.v Prod.y eh iS bm bU bX be aI;refine aw (gG 4 t h) λy hy=>?_
 refine aZ aj8 ?_;refine aw (gG _ y.2 hy.1.p) λz hz=>?_
 let⟨y1,yt⟩:=y;let⟨z1,zt⟩:=z;let⟨ty,yy0,yy1,yy2⟩:=hy;let⟨tz,zz0,zz1,_⟩:=hz;dsimp only at ty yy0 yy1 yy2 tz zz0 zz1;have yy1:=yy1 (by decide);have hzl:=zz1 (by decide);refine aR zz0 hzl (aU ?_);generalize (geti _ _ z1)=k;refine aw (gG 6 zt tz.p) λv D=>?_
 let⟨v1,vt⟩:=v;have tv:=D.1;dsimp only at tv;have tt:=(ty.trans tz).trans tv;have hadv:t.2<l! t.1->t.2<vt.2:=λh=>by
  have:=yy2 h (by decide);have:=tz.m;have:=tv.m;omega
 refine aV (λx=>x.1=vt/\x.2.1=r0/\x.2.2.1=r1/\x.2.2.2.1=r2/\x.2.2.2.2.1=r3/\x.2.2.2.2.2.1=s/\x.2.2.2.2.2.2.1=w) ?_ ?_
 .refine aV (λx=>x.2.1=vt/\x.2.2.1=r0/\x.2.2.2.1=r1/\x.2.2.2.2.1=r2/\x.2.2.2.2.2.1=r3/\x.2.2.2.2.2.2.1=s/\x.2.2.2.2.2.2.2.1=w) ?_ ?_
  .with_reducible repeat' first|apply OS.ok;constructor|refine IM.mk λ_=>?_
   all_goals exact⟨rfl,rfl,rfl,rfl,rfl,rfl,rfl⟩
  .rintro⟨p,q⟩ hq;dsimp only at hq;with_reducible repeat' first|apply OS.ok;constructor|refine IM.mk λ_=>?_
   all_goals exact hq
 rintro⟨x1,x2,x3,x4,x5,x6,x7,x8,x9,x10⟩ ⟨L,f2,f3,f4,f5,f6,f7⟩;dsimp only at L f2 f3 f4 f5 f6 f7;subst L f2 f3 f4 f5 f6 f7;refine aw (aec _ _ _ tv.p) λo ho=>?_
 let⟨o1,ot⟩:=o;let⟨to,ho⟩:=ho;dsimp only at to ho;refine aw (adz _ hs _ _ (λhk=>ho (.inl hk)) _ to.p) λq hq=>?_
 let⟨q1,qt⟩:=q;dsimp only at hq;have N:=(tt.trans to).trans hq;have hadv2:t.2<l! t.1->t.2<qt.2:=λh=>by have:=hadv h;have:=to.m;have:=hq.m;omega
 have row:∀(T:n?) (c:η) {R:Type} (k:η×((η×Int)×η)->M R) (Q:R->Prop),wX t T->l! c<=1000000->(∀v T',wX T T'->l! v<=1000000->Ok (k (v,T',c)) Q)->Ok (aA (iu (T,c)) k) Q:=λT c R k Q A hc hk=>by
  refine aw (amm T A.p c hc) λy hy=>?_
  grind
 refine aV (λx=>wX t x.1/\(t.2<l! t.1->t.2<x.1.2)/\x.2.1=x2/\x.2.2.1=x3/\x.2.2.2.1=x4/\x.2.2.2.2.1=x5/\l! x.2.2.2.2.2.2.2.2.2.2.2<=1000000) ?_ ?_
 .refine aV (λx=>x.2.1=qt/\x.2.2.1=x2/\x.2.2.2.1=x3/\x.2.2.2.2.1=x4/\x.2.2.2.2.2.1=x5) ?_ ?_
  .refine aK (λ_=>ak ⟨rfl,rfl,rfl,rfl,rfl⟩) λ_=>?_
   refine aK (λhk=>?_) λ_=>aK (λhk=>?_) λ_=>ak ⟨rfl,rfl,rfl,rfl,rfl⟩
   .exact aR (ho (.inl hk)).1 (by dsimp only;rw[hw];exact (ho (.inl hk)).2) (aU (ak ⟨rfl,rfl,rfl,rfl,rfl⟩))
   .exact aR (ho (.inr hk)).1 (by dsimp only;rw[hw];exact (ho (.inr hk)).2) (aU (ak ⟨rfl,rfl,rfl,rfl,rfl⟩))
  .rintro⟨b,p1,p2,p3,p4,p5,p6⟩ ⟨L,f2,f3,f4,f5⟩;dsimp only at L f2 f3 f4 f5;subst L f2 f3 f4 f5;refine aQ (λ_=>?_) λ_=>ak ⟨N,hadv2,rfl,rfl,rfl,rfl,by simp⟩
   have adv3:∀T',wX p1 T'->t.2<l! t.1->t.2<T'.2:=λT' A h=>by have:=hadv2 h;have:=A.m;omega
   refine aK (λ_=>?_) λ_=>aK (λ_=>?_) λ_=>aK (λ_=>?_) λ_=>aK (λ_=>?_) λ_=>?_
   .refine row p1 p2 _ _ N h0 λv T' A D=>?_
    refine cF (jF rfl (vU ?_));exact ak ⟨N.trans A,adv3 T' A,rfl,rfl,rfl,rfl,D⟩
   .refine row p1 p3 _ _ N h1 λv T' A D=>?_
    refine cF (jF rfl (vU ?_));exact ak ⟨N.trans A,adv3 T' A,rfl,rfl,rfl,rfl,D⟩
   .refine row p1 p4 _ _ N h2 λv T' A D=>?_
    refine cF (jF rfl (vU ?_));exact ak ⟨N.trans A,adv3 T' A,rfl,rfl,rfl,rfl,D⟩
   .refine row p1 p5 _ _ N h3 λv T' A D=>?_
    refine cF (jF rfl (vU ?_));exact ak ⟨N.trans A,adv3 T' A,rfl,rfl,rfl,rfl,D⟩
   .omega
 rintro⟨u1,u2,u3,u4,u5,u6,u7,u8,u9,u10,u11,u12⟩ ⟨L,f2,f3,f4,f5,f6,f7⟩;dsimp only at L f2 f3 f4 f5 f6 f7;subst f3 f4 f5 f6;refine aV (λx=>wX t x.1/\(t.2<l! t.1->t.2<x.1.2)/\x.2.1=u2/\x.2.2.1=u3/\x.2.2.2.1=u4/\x.2.2.2.2.1=u5/\l! x.2.2.2.2.2.2.2.2.2.2.2.1<=1000000/\l! x.2.2.2.2.2.2.2.2.2.2.2.2<=1000000) ?_ ?_
 .refine aV (λx=>x.2=(u1,u2,u3,u4,u5,u6,u7,u8,u9,u10,u11,u12)) ?_ ?_
  .with_reducible repeat' first|apply OS.ok;constructor|refine IM.mk λ_=>?_
   all_goals rfl
  .rintro⟨b,x⟩ e;dsimp only at e;subst e;refine aQ (λ_=>?_) λ_=>ak ⟨L,f2,rfl,rfl,rfl,rfl,f7,by simp⟩
   have adv3:∀T',wX u1 T'->t.2<l! t.1->t.2<T'.2:=λT' A h=>by have:=f2 h;have:=A.m;omega
   refine aK (λ_=>?_) λ_=>aK (λ_=>?_) λ_=>aK (λ_=>?_) λ_=>aK (λ_=>?_) λ_=>?_
   .refine row u1 u2 _ _ L h0 λv T' A D=>?_
    refine cF (jF rfl (vU ?_));exact ak ⟨L.trans A,adv3 T' A,rfl,rfl,rfl,rfl,f7,D⟩
   .refine row u1 u3 _ _ L h1 λv T' A D=>?_
    refine cF (jF rfl (vU ?_));exact ak ⟨L.trans A,adv3 T' A,rfl,rfl,rfl,rfl,f7,D⟩
   .refine row u1 u4 _ _ L h2 λv T' A D=>?_
    refine cF (jF rfl (vU ?_));exact ak ⟨L.trans A,adv3 T' A,rfl,rfl,rfl,rfl,f7,D⟩
   .refine row u1 u5 _ _ L h3 λv T' A D=>?_
    refine cF (jF rfl (vU ?_));exact ak ⟨L.trans A,adv3 T' A,rfl,rfl,rfl,rfl,f7,D⟩
   .omega
 rintro⟨a1,a2,a3,a4,a5,a6,a7⟩ ⟨g1,g2,g3,g4,g5,g6,g7,g8⟩;dsimp only at g1 g2 g3 g4 g5 g6 g7 g8;subst g3 g4 g5 g6;exact ak ⟨g1,rfl,g2,g7,g8⟩
def EvS (e:ET):Prop:=l! e.2.2.2.2.2.1<=1000000/\l! e.2.2.2.2.2.2<=1000000
def amz (hm:i<=1000) (s:SN) (hs:SZ i s) (w:WT) (hw:l! w.1=5) (hwt:l! w.2.2.2.2.1=4) (hwc:l! w.2.2.1<=1000) (n:Int) (hn:n<=60) (t:n?) (h:TP t):Ok (ua ((s,w,n,af),t)) λy=>(∀e∈y.1,EvS e)/\l! y.1<=60:=by
 unfold ua bk bD bQ cS eV kZ mw nM Prod.w db eh iS w9 Li Prod.B bm bS bU bX be c7 aI;refine cF (cF (cF (dj (by simp) (dj (dg _) (bG (by grind) (by omega) (abm (by grind) ?_))))));refine aV (λx=>x=(t,s,w,[],[],[],[])) ⟨_,rfl,rfl⟩ ?_;rintro x rfl;refine pX (λx=>((l! t.1:Int)-x.1.2).toNat) (λx=>wX t x.1/\x.2.2.1=w/\SZ (i+l! x.2.2.2.1) x.2.1/\l! x.2.2.2.1<=60/\(∀e∈x.2.2.2.1,EvS e)/\RB4 (l! x.2.2.2.1) x.2.2.2.2) ?_ ⟨wX.refl h,rfl,(by simpa using hs),by simp,λe he=>(by cases he),⟨by simp,by simp,by simp,by simp⟩⟩;rintro⟨A,s,w',out,r⟩ ⟨i1,i2,N,i4,i5,i6⟩;dsimp only at i1 i2 N i4 i5 i6;subst i2;refine aV (λx=>x.2=(A,s,w',out,r)/\(x.1=J->l! out<60/\A.2<l! A.1)) ?_ ?_
 .refine bP (λh1=>ak ⟨rfl,λh2=>?_⟩) λ_=>ak ⟨rfl,nofun⟩
  rw[rZ]at h2
  grind
 rintro⟨b,x⟩ ⟨e,hb⟩;dsimp only at e hb;subst e;refine aQ (λh1=>?_) λ_=>ak ⟨i5,i4⟩
 let⟨ho,ht⟩:=hb h1;let⟨q0,q1,q2,q3⟩:=id i6;refine aV (λx=>wX A x.1/\A.2<x.1.2/\x.2.2.1=w'/\SZ (i+l! x.2.2.2.1) x.2.1/\l! x.2.2.2.1<=60/\(∀e∈x.2.2.2.1,EvS e)/\RB4 (l! x.2.2.2.1) x.2.2.2.2) ?_ ?_
 .refine aw (ak5 s N w' hw A i1.p r ⟨by omega,by omega,by omega,by omega⟩) λy hy=>?_
  let⟨ev,tp',r'⟩:=y;let⟨j1,j2,j3,L,D⟩:=hy;dsimp only at j1 j2 j3 L D;subst j2;have j3:=j3 ht;refine cF (jF rfl (cF (jF rfl (cF (jF rfl (cF (jF rfl (vU ?_))))))));refine aw (I0 w' s N.nb hwc ev (.inl (by omega)) (.inl (by omega))) λz hz=>?_
  refine eu (λ_=>ak ⟨j1,j3,rfl,N,i4,i5,i6⟩) λh2=>?_
  let⟨z1,z2⟩:=z;let⟨hE,hS,_⟩:=hz.1 h2;have hS2:=N.step hS (by omega);refine aV (λx=>x.1=tp'/\x.2.2.1=w'/\x.2.2.2.1=out/\EvS x.2.2.2.2.1/\x.2.2.2.2.2.1=z1/\RB4 (l! out+1) x.2.2.2.2.2.2) ?_ ?_
  .refine aV (λx=>x.2=(tp',s,w',out,ev,z1,r')) ?_ ?_
   .refine aK (λ_=>ak rfl) λ_=>ak rfl
   .rintro⟨b,x⟩ e;dsimp only at e;subst e;have hk:=N.k;let⟨ev1,ev2⟩:=ev;have t0:=hE.t0;have t1:=hE.t1;rw[hwt]at t1;dsimp only at t0 t1;refine aQ (λ_=>?_) λ_=>ak ⟨rfl,rfl,rfl,⟨L,D⟩,rfl,⟨by dsimp only;omega,by dsimp only;omega,by dsimp only;omega,by dsimp only;omega⟩⟩
    refine aK (λ_=>?_) λ_=>aK (λ_=>?_) λ_=>aK (λ_=>?_) λ_=>aK (λ_=>?_) λ_=>?_
    .exact aR (by decide) (by dsimp only;omega) (aU (a! (ak ⟨rfl,rfl,rfl,⟨L,D⟩,rfl,⟨by simp;omega,by dsimp only;omega,by dsimp only;omega,by dsimp only;omega⟩⟩)))
    .exact aR (by decide) (by dsimp only;omega) (aU (a! (ak ⟨rfl,rfl,rfl,⟨L,D⟩,rfl,⟨by dsimp only;omega,by simp;omega,by dsimp only;omega,by dsimp only;omega⟩⟩)))
    .exact aR (by decide) (by dsimp only;omega) (aU (a! (ak ⟨rfl,rfl,rfl,⟨L,D⟩,rfl,⟨by dsimp only;omega,by dsimp only;omega,by simp;omega,by dsimp only;omega⟩⟩)))
    .exact aR (by decide) (by dsimp only;omega) (aU (a! (ak ⟨rfl,rfl,rfl,⟨L,D⟩,rfl,⟨by dsimp only;omega,by dsimp only;omega,by dsimp only;omega,by simp;omega⟩⟩)))
    .dsimp only at *;omega
  .rintro⟨x1,x2,x3,x4,x5,x6,x7⟩ ⟨k1,k2,k3,k4,k5,k6⟩;dsimp only at k1 k2 k3 k4 k5 k6;subst k1 k2 k3 k5;refine a! (ak ⟨j1,j3,rfl,?_,by simp;omega,λe he=>?_,?_⟩)
   .grind
   .grind
   .grind
 rintro⟨tp',s',w'',out',r'⟩ ⟨k1,k2,k3,k4,k5,k6,k7⟩;dsimp only at k1 k2 k3 k4 k5 k6 k7;have e1:=i1.e;have a1:=k1.p.a1;have e2:=k1.e;refine ak ⟨⟨i1.trans k1,k3,k4,k5,k6,k7⟩,?_⟩;dsimp only;rw[e2,e1]at a1;omega
def C0:Y (ζ×s?):=[([120],0,0,af,0),([121],0,0,af,1),([118],0,0,J,0),([113],0,2,af,0),([113],1,2,af,0)]
def Km:Y H?:=[([109],af),([110],af),([114],J)]
def Pq:Y (ζ×Int):=[([99],0)]
def Yl:Y ζ:=[[102]]
def zM:Y ζ:=[[109,97,105,110],[116,49],[116,50],[116,51]]
structure WX (w:WT):Prop where
 c:w.1=C0
 l:w.2.1=Km
 d:w.2.2.1=Pq
 f:w.2.2.2.1=Yl
 t:∃n,1<=n/\n<=4/\w.2.2.2.2.1=zM.take n
 s:l! w.2.2.2.2.2<=60
 v:SV0 w
structure W0 (w:WT):Prop where
 c:l! w.1=5
 l:l! w.2.1=3
 d:l! w.2.2.1=1
 f:l! w.2.2.2.1=1
 t:l! w.2.2.2.2.1=4
 s:l! w.2.2.2.2.2<=24
 x:WX w
def W0.vl {w:WT} (h:W0 w):VL w:=⟨by rw[h.c];decide,by rw[h.l];decide,by rw[h.d];decide,by rw[h.f];decide,by rw[h.t];decide,by rw[h.t];decide,by have:=h.s;omega⟩
def nxS (i j:Nat):ν:=if j=0 then (if i=0 then (0,0) else ((i:Int)-1,6)) else (i,j)
def ab3 {l:Y π} {s:π}:Pk a (l++[s])=Yo a (Pk a l) s:=by unfold Pk;rw[eX];rfl
def X8:Ok (oK ()) W0:=by
 unfold oK bk bD bQ cS iS bS bU c7 aI cQ;refine bV 4 (λi x=>x.1=(i:Int)/\x.2.1=C0/\x.2.2.1=Km/\x.2.2.2.1=Pq/\x.2.2.2.2.1=Yl/\x.2.2.2.2.2.1=zM/\l! x.2.2.2.2.2.2<=6*i/\Pk 4 x.2.2.2.2.2.2=Z (nxS i 0)) ?_ ?_ ⟨rfl,rfl,rfl,rfl,rfl,rfl,by simp,rfl⟩
 .rintro i ⟨a,w1,w2,w3,w4,w5,w6⟩ hi ⟨e1,e2,e3,e4,N,L,e7,D⟩;subst e1;refine bP (λ_=>?_) λg=>(by grind)
  refine bV 6 (λj x=>x.1=(j:Int)/\x.2.1=w1/\x.2.2.1=w2/\x.2.2.2.1=w3/\x.2.2.2.2.1=w4/\x.2.2.2.2.2.1=w5/\l! x.2.2.2.2.2.2<=6*i+j/\Pk 4 x.2.2.2.2.2.2=Z (nxS i j)) ?_ ?_ ⟨rfl,rfl,rfl,rfl,rfl,rfl,by dsimp only;omega,D⟩
  .rintro j ⟨b,v1,v2,v3,v4,v5,v6⟩ hj ⟨d1,d2,d3,d4,d5,d6,d7,d8⟩;dsimp only at d1 d2 d3 d4 d5 d6 d7 d8;subst d1;refine cW ?_;refine bG (by grind) (by omega) (ak ?_);refine ⟨fV,d2,d3,d4,d5,d6,by simp;omega,?_⟩;rw[ab3,d8];by_cases z:j=0
   .subst z;by_cases A:i=0
    .subst A;rfl
    .rw[show nxS i 0=((i:Int)-1,6) by unfold nxS;simp[A],show nxS i (0+1)=((i:Int),1) by unfold nxS;simp];unfold Yo
     grind
   .rw[show nxS i j=((i:Int),(j:Int)) by unfold nxS;simp[z],show nxS i (j+1)=((i:Int),(j:Int)+1) by unfold nxS;simp];unfold Yo
    grind
  .rintro⟨b,v1,v2,v3,v4,v5,v6⟩ ⟨d1,d2,d3,d4,d5,d6,d7,d8⟩;subst d1 d2 d3 d4 d5 d6;refine cP (ak ?_);refine ⟨fV,e2,e3,e4,N,L,by omega,?_⟩;rw[d8];unfold nxS;simp
 .rintro⟨a,w1,w2,w3,w4,w5,w6⟩ ⟨e1,e2,e3,e4,N,L,e7,D⟩;dsimp only at e1 e2 e3 e4 N L e7 D;subst e2 e3 e4 N L;refine bP (λg=>(by grind)) λ_=>ak ?_
  refine ⟨rfl,rfl,rfl,rfl,rfl,by dsimp only;omega,rfl,rfl,rfl,rfl,⟨4,by decide,by decide,rfl⟩,by dsimp only;omega,?_⟩;show Pk 4 w6≠U;rw[D];simp
variable {j:Nat}
def SZ.mono {s:SN} (h:SZ i s) (hnm:i<=j) (hm:j<=100000):SZ j s:=
 ⟨⟨⟨hm,h.nb.sb.lk,λl z=>dc (h.nb.sb.rd l z) hnm,h.nb.sb.dn,h.nb.sb.th⟩,h.nb.c,h.nb.f,h.nb.k⟩,h.c,h.f,h.k⟩
def aai (w:WT) (z:W0 w):Ok (ol w) λs=>SZ 0 s:=by
 refine (aaj w z.vl).mono λs A=>⟨A.1,?_,?_,?_⟩
 .rw[A.2.1,z.c]
 .rw[A.2.2.1,z.f]
 .rw[A.2.2.2,z.t]
structure WB (w:WT):Prop where
 c:l! w.1<=12
 l:l! w.2.1<=4
 d:l! w.2.2.1<=2
 f:l! w.2.2.2.1<=2
 t:l! w.2.2.2.2.1<=4
 s:l! w.2.2.2.2.2<=60
def VL.wb {w:WT} (h:VL w):WB w:=⟨h.c,h.l,h.d,h.f,h.t,h.s⟩
structure TR (y:WT×List ET):Prop where
 wb:WB y.1
 vl:VL y.1
 ev:∀e∈y.2,Ht y.1 e
 len:l! y.2<=400
 ls:∀e∈y.2,EvS e
 wx:WX y.1
 ac:∃sy ce fu,Acw y.1 y.2 sy ce fu
def L4 (L:η) (n:Int) (hl:l! L<=9223372036854775807) (hb:∀x∈L,0<=x/\x<=255):Ok (rO (L,n)) TR:=by
 unfold rO bk bD bQ dZ eh bS jY jK bU kq be c7 aI cQ;refine aV (λx=>l! x<=600/\∀z∈x,0<=z/\z<=255) ?_ ?_
 .refine bP (λg=>?_) λg=>?_
  .dsimp only[ay]at g;refine cF (a? (a? (ak ⟨by dsimp only;rw[cL];simp;omega,λz N=>hb z (pT N)⟩)))
  .dsimp only[ay]at g;exact ak ⟨by dsimp only;omega,hb⟩
 rintro L' ⟨hL,hB⟩;refine aw X8 λw A=>?_
 have hvl:=A.vl;refine aw (aai w A) λs hs=>?_
 refine aw (gG 3 (L',0) ⟨by dsimp only;omega,hB,by dsimp only;omega,by dsimp only;omega⟩) λy hy=>?_
 let⟨y1,yt⟩:=y;let⟨ty,yy0,yy1,_⟩:=hy;have yy1:=yy1 (by decide);dsimp only at ty yy0 yy1;have ew:bn .i64 (1+y1)=1+y1:=iI;refine pX (λx=>(1+y1+1-x.1).toNat) (λx=>1<=x.1/\x.1<=2+y1/\x.2.1=yt/\x.2.2.1=w/\x.2.2.2.1=s/\((l! x.2.2.2.2:Nat):Int)<=2*x.1/\∀e∈x.2.2.2.2,EvS e) ?_ ⟨by dsimp only;omega,by dsimp only;omega,rfl,rfl,rfl,by simp,λe he=>?_⟩
 .rintro⟨a,t,w',s',es⟩ ⟨e1,e2,e3,e4,e5,e6,e7⟩;dsimp only at e1 e2 e3 e4 e5 e6 e7;subst e3 e4 e5;refine d_ (λg=>?_) λg=>?_
  .dsimp only at g;rw[ew]at g;refine a! (ak ?_);dsimp only;rw[iI (n:=a+1) (by omega) (by omega)];refine ⟨⟨by omega,by omega,rfl,rfl,rfl,by simp;omega,λe he=>?_⟩,by omega⟩;rcases bO.1 he with he|he
   .exact e7 e he
   .simp only[a_,cD,fG]at he;rcases he with he|he<;>subst he<;>exact⟨by simp,by simp⟩
  .refine aw (P:=TR) ?_ λr hr=>ak hr
   refine bV (l! es) (λi x=>x.1=(i:Int)/\TP x.2.1/\x.2.2.1=w'/\SZ i x.2.2.2.1/\x.2.2.2.2.1=es/\l! x.2.2.2.2.2<=i/\∀e∈x.2.2.2.2.2,EvS e) ?_ ?_ ⟨rfl,ty.p,rfl,hs,rfl,by simp,λe he=>(by cases he)⟩
   .rintro i ⟨b,t,w',s',es',out⟩ hi ⟨d1,d2,d3,D,d5,d6,d7⟩;dsimp only at d1 d2 d3 D d5 d6 d7;subst d1 d3 d5;refine cW ?_;refine aV (λx=>TP x.1/\x.2.1=w'/\SZ (i+1) x.2.2.1/\x.2.2.2.1=es'/\l! x.2.2.2.2<=i+1/\∀e∈x.2.2.2.2,EvS e) ?_ ?_
    .refine bH (bH (aU ?_));have N:=e7 _ (bI (T:=.st (.pr (.int .i64) (.pr (.int .i64) (.pr (.int .i64) (.pr (.int .i64) (.pr (.int .i64) (.pr (.sl (.int .i64)) (.sl (.int .i64))))))))) (xs:=es') (j:=(i:Int)) (by omega) (by omega));revert N;generalize (geti _ _ _)=z;intro N;refine aw (I0 w' s' D.nb (by rw[A.d];decide) z (.inl (by have:=N.1;omega)) (.inl (by have:=N.2;omega))) λv hv=>?_
     refine aQ (λh=>?_) λh=>ak ⟨d2,rfl,D.mono (by omega) (by omega),rfl,by dsimp only;omega,d7⟩
     refine a! (ak ⟨d2,rfl,D.step (hv.1 h).2.1 (by omega),rfl,by simp;omega,λe he=>?_⟩)
     grind
    .rintro⟨t,w'',s'',es'',out'⟩ ⟨f1,f2,f3,f4,f5,f6⟩;dsimp only at f1 f2 f3 f4 f5 f6;refine ak ?_;dsimp only;exact⟨fV,f1,f2,f3,f4,f5,f6⟩
   .rintro⟨b,t,w',s',es',out⟩ ⟨d1,d2,d3,D,d5,d6,d7⟩;dsimp only at d1 d2 d3 D d5 d6 d7;subst d1 d3 d5;refine cP ?_;refine aw (P:=TR) ?_ λr hr=>ak hr
    have hmin:Kz (lX n 0) 60<=60:=by
     unfold Kz;split
     .omega
     next h=>simp[gE]at h;exact h
    refine aw (amz (by omega) s' D w' A.c A.t (by rw[A.d];decide) _ hmin t d2) λv hv=>?_
    refine bG (by have:=hv.2;dsimp only;omega) (by omega) ?_;have hall:∀e∈out++v.1,EvS e:=λe he=>by grind
    refine aw (am1 w' (out++v.1)) λc hc=>?_
    refine cq (λ_=>?_) λh=>?_
    .exact aw X8 λu hu=>ak ⟨hu.vl.wb,hu.vl,λe he=>(by cases he),by simp,λe he=>(by cases he),hu.x,_,_,_,.nil⟩
    .exact ak ⟨(hc h).1.1.wb,(hc h).1.1,(hc h).2.1,by have:=hv.2;simp;omega,hall,A.x,(hc h).2.2⟩
 .rw[aC]at he;subst he;exact⟨by simp,by simp⟩
variable {m:Y θ}
def amv {e:ET} (L:0<=a) (D:a<l! m) (h1:∀y∈e.2.2.2.2.2.1,0<=y/\(kS (T:=.bool) m a).getD y.toNat af=J) (h2:∀y∈e.2.2.2.2.2.2,0<=y/\(kS (T:=.bool) m a).getD y.toNat af=J) (ld:l! e.2.2.2.2.2.1<=1000000) (N:l! e.2.2.2.2.2.2<=1000000):eU (((a,aS (l! (kS (T:=.bool) m a))),e),m)=Z (J,m):=by
 refine cI ?_;unfold eU kM eV w9 bS jY ky bU bX be c7 aI cQ;refine g9 2 (by omega) (λi x=>x=(((a,aS (l! (kS (T:=.bool) m a))),(i:Int)),m)) ?_ ?_ rfl
 .rintro i x hi rfl;refine bP (λ_=>?_) λg=>(by dsimp only at g;omega)
  refine cF (a? (C' (by dsimp only;omega) (aU ?_)));have hr:∃l:η,geti (.sl aP) [e.2.2.2.2.2.1,e.2.2.2.2.2.2] (i:Int)=l/\(∀y∈l,0<=y/\(kS (T:=.bool) m a).getD y.toNat af=J)/\l! l<=1000000:=by
   match i,hi with
   |0,_=>exact⟨_,rfl,h1,ld⟩
   |1,_=>exact⟨_,rfl,h2,N⟩
  let⟨l,er,hA,hl⟩:=hr;dsimp only;rw[er];generalize hR:kS (T:=.bool) m a=r at*
  refine g9 (l! l) (by omega) (λj x=>x=(((a,aS (l! r)),(j:Int)),m)) ?_ ?_ rfl
  .rintro j x hj rfl;refine cW ?_;have rows:=hA _ (bI (T:=aP) (xs:=l) (j:=(j:Int)) (by omega) (by omega));refine bH (aU (aV (λx=>x=(((a,aS (l! r)),af),m)) ?_ ?_))
   .obtain⟨z,hze⟩:∃z:Int,geti aP l (j:Int)=z:=⟨_,rfl⟩
    have rows:0<=z/\r.getD z.toNat af=J:=by rw[<- hze];exact rows
    dsimp only;rw[hze];have hz:z.toNat<l! r:=by
     rcases cJ z.toNat (l! r) with g|g
     .exact g
     .have:=rows.2;rw[aF,dI g]at this;cases this
    have A:(0:Int)<=z:=rows.1;have hzi:(z:Int)<(l! r:Int):=by omega
    refine bP (λg=>bA A (Int.not_le.2 g)) λ_=>d_ (λg=>bA hzi (AU.2 g)) λ_=>aR A hzi (aR L D ?_)
    rw[hR];refine aR A hzi (aU (ak ?_));have:geti (.bool) r z=J:=rows.2;dsimp only;rw[this];rfl
   rintro x rfl;refine jP (ak ?_);dsimp only;rw[fV];rfl
  .rintro x rfl;refine cP (ak ?_);dsimp only;rw[fV];rfl
 .rintro x rfl;exact bP (λg=>(by dsimp only at g;omega)) λ_=>ak rfl
abbrev W8 (n:Nat) (s:Y π):WT:=(C0,Km,Pq,Yl,zM.take n,s)
def WX.w8 {w:WT} (z:WX w):∃n,(n=1\/n=2\/n=3\/n=4)/\w=W8 n w.2.2.2.2.2:=by
 let⟨h1,h2,h3,N,⟨n,D,A,L⟩,_,_⟩:=z
 grind
abbrev sn8 (w:WT):SN:=(Yp w,ce0 w,fu0 w,aG (l! w.2.2.2.2.1) 0)
def Pj (s:Y π):fh (W8 1 s)=Z (sn8 (W8 1 s)):=by kernel_rfl
def st2 (s:Y π):fh (W8 2 s)=Z (sn8 (W8 2 s)):=by kernel_rfl
def st3 (s:Y π):fh (W8 3 s)=Z (sn8 (W8 3 s)):=by kernel_rfl
def st4 (s:Y π):fh (W8 4 s)=Z (sn8 (W8 4 s)):=by kernel_rfl
def au7 {w:WT} (z:WX w):fh w=Z (sn8 w):=by
 let⟨n,A,e⟩:=z.w8;rw[e];rcases A with rfl|rfl|rfl|rfl
 .exact Pj _
 .exact st2 _
 .exact st3 _
 .exact st4 _
abbrev VN4:Y ζ:=[[120],[121],[118],[113]]
def vc8:ij C0=Z (VN4,J):=by kernel_rfl
def vn1 (s:Y π):ef (W8 1 s,VN4)=Z J:=by kernel_rfl
def vn2 (s:Y π):ef (W8 2 s,VN4)=Z J:=by kernel_rfl
def vn3 (s:Y π):ef (W8 3 s,VN4)=Z J:=by kernel_rfl
def vn4 (s:Y π):ef (W8 4 s,VN4)=Z J:=by kernel_rfl
def vs8 {w:WT} (L:WX w) (hb:VL w):gm w=Z J:=by
 have hv:=L.v;have hs:=L.s;have ht:=hb.t0;refine cI ?_;unfold gm lM bk bD cS eh bS jK bX be c7 aI cQ;refine g9 (l! w.2.2.2.2.2) (by omega) (λi x=>∃t n:Int,x=((t,n,(i:Int)),w)/\Pk (l! w.2.2.2.2.1) (w.2.2.2.2.2.take i)=Z (t,n)/\0<=t/\t<l! w.2.2.2.2.1/\0<=n/\n<=i) ?_ ?_ ⟨0,0,rfl,rfl,by omega,by omega,by omega,by omega⟩
 .rintro i x hi ⟨t,n,rfl,h1,t0,N,n0,n1⟩;refine cW ?_;refine bH (aU ?_);have D:=ab2 hv (i+1);have A:Pk (l! w.2.2.2.2.1) (w.2.2.2.2.2.take (i+1))=Yo (l! w.2.2.2.2.1) (Z (t,n)) (geti pR w.2.2.2.2.2 (i:Int)):=by rw[L1 hi,h1]
  rw[A]at D;revert D A;generalize geti pR w.2.2.2.2.2 (i:Int)=z;intro D A;obtain⟨(a:Int),(b:Int),(c:Int)⟩:=z;have h5:(a=t/\b=n)\/(t<a/\a<l! w.2.2.2.2.1/\b=0):=by
   simp[Yo]at D
   grind
  refine aV (λx=>x=(af,w,a,b,c)) ?_ ?_
  .refine cP (ak ?_);rw[m7.2 (by grind)]
  rintro x rfl;rcases h5 with ⟨rfl,rfl⟩|⟨q1,q2,rfl⟩
  .refine aV (λx=>x=((a,b),w,a,b,c)) (cP (ak rfl)) ?_;rintro x rfl;refine cq (λg=>(g rfl).elim) λ_=>ak ⟨a,b+1,?_,?_,t0,N,by omega,by omega⟩
   .rw[iI (n:=b+1) (by omega) (by omega),fV]
   .rw[A];simp[Yo]
  .refine aV (λx=>x=((a,0),w,a,0,c)) (cW (ak rfl)) ?_;rintro x rfl;refine cq (λg=>(g rfl).elim) λ_=>ak ⟨a,1,?_,?_,by omega,q2,by omega,by omega⟩
   .rw[iI (n:=0+1) (by omega) (by omega),fV];rfl
   .rw[A];show (if a=t/\(0:Int)=n then Z (t,n+1) else if t<a/\a<_/\(0:Int)=0 then Z (a,1) else U)=Z (a,1)
    grind
 .rintro x ⟨t,n,rfl,_⟩;exact cP (ak rfl)
def VW8 {w:WT} (z:WX w) (N:VL w):ik w=Z J:=by
 have hs:=vs8 z N;have hvn:ef (w,VN4)=Z J:=by
  let⟨n,hn,e⟩:=z.w8;rw[e];rcases hn with rfl|rfl|rfl|rfl
  .exact vn1 _
  .exact vn2 _
  .exact vn3 _
  .exact vn4 _
 have hc:=z.c;have hd:=z.d;have hl:=z.l;let⟨w1,w2,w3,L,D,A⟩:=w;let⟨b1,b2,b3,b4,b0,b5,b6⟩:=N;subst hc hd hl;refine cI ?_;have f:∀n m:Nat,n<=m->gE (m:Int) (aS n)=af:=λn m h=>ja.2 (by grind)
 refine aV (λx=>x=(af,C0,Km,Pq,L,D,A)) ?_ ?_
 .refine jO rfl (jO rfl (jO rfl (jO (f _ 2 b4) (ak ?_))))
  grind
 rintro x rfl;refine jP (aV (λx=>x=(af,C0,Km,Pq,L,D,A)) ?_ ?_)
 .refine jO (ja.2 (by grind)) (ak ?_)
  grind
 rintro x rfl;refine jP (aZ vc8 (aV (λx=>x=(af,C0,Km,Pq,L,D,A)) ?_ ?_))
 .exact jP (aZ hvn (ak rfl))
 rintro x rfl;refine jP (g9 1 (by omega) (λi x=>x=((i:Int),C0,Km,Pq,L,D,A)) ?_ ?_ rfl)
 .rintro i x hi rfl;have:i=0:=by omega
  subst this;refine qP rfl (bl rfl (aU (aZ (x:=J) ?_ (jP (ak rfl)))));rfl
 .rintro x rfl;exact jO rfl (aZ (x:=J) (by rw[hs];rfl) (ak rfl))
abbrev eN (l:Y ET) (i:Nat):ET:=geti gz l (i:Int)
def pC (h:i<l! k):eN k i∈k:=bI (T:=gz) (by omega) (by omega)
def atd {e:ET} (h:i<l! k):eN (k++[e]) i=eN k i:=by
 unfold eN;rw[wT,wT,aF,aF,bT h]
def aoe (l:Y ET) (e:ET):eN (l++[e]) (l! l)=e:=by
 unfold eN;rw[wT,aF,cj (bJ _),w_];rfl
def Kk (w:WT) (l:Y ET):SY×I?:=l.foldl (λs e=>((ph w s.1 e.1 e.2.1 e.2.2.1 e.2.2.2.1).1,ceP s.2.1 e,fuP s.2.2 e)) (Yp w,ce0 w,fu0 w)
def OW (w:WT) (h:i<l! k):Kk w (k.take (i+1))=((ph w (Kk w (k.take i)).1 (eN k i).1 (eN k i).2.1 (eN k i).2.2.1 (eN k i).2.2.2.1).1,ceP (Kk w (k.take i)).2.1 (eN k i),fuP (Kk w (k.take i)).2.2 (eN k i)):=by
 rw[pH (T:=gz) h];unfold Kk;rw[eX];rfl
def Acw.all {w:WT} {D:SY} {A:η} (h:Acw w k D z A):Kk w k=(D,z,A)/\∀i,i<l! k->SCx w (k.take i) (Kk w (k.take i)).1 (Kk w (k.take i)).2.1 (Kk w (k.take i)).2.2 (eN k i):=by
 induction h with
 |nil=>exact⟨rfl,λi hi=>bA hi (bN _)⟩
 |snoc h N L=>
  rename_i k D z A e;let⟨h1,h2⟩:=L;refine ⟨by unfold Kk at h1 ⊢;rw[eX,h1];rfl,λi hi=>?_⟩;rw[bC,cH]at hi;rcases cJ i (l! k) with g|g
  .rw[sN (by omega),atd g];exact h2 i g
  .have:i=l! k:=by omega
   subst this;rw[sN (bJ _),cY,aoe,h1];exact N
def TR.sc {w:WT} (tr:TR (w,k)) (h:i<l! k):SCx w (k.take i) (Kk w (k.take i)).1 (Kk w (k.take i)).2.1 (Kk w (k.take i)).2.2 (eN k i):=by
 let⟨z,D,A,ac⟩:=tr.ac;exact ac.all.2 i h
def Q8 (r:η):Prop:=Lf r/\∀z∈r,0<=z/\z<4
def P8 (s:Y j!):Prop:=∀x∈s,Q8 x.2
def P8.get {s:Y j!} (h:P8 s) (o:Int):Q8 (geti ec s o).2:=by
 unfold geti;rw[aF];cases e:s[o.toNat]? with
 |none=>exact⟨trivial,λz A=>by cases A⟩
 |some x=>exact h x (ba e)
def P8.set {s:Y j!} (h:P8 s) (o a:Int) (A:Q8 z):P8 (cC s o (a,z)):=λx r=>by
 rcases Fw r with r|rfl
 .exact h x r
 .exact A
def Fj (p:Int->Bool):∀{l:η},Lf l->Lf (l.filter p)
 |[],_=>trivial
 |x::r,h=>by
  rw[List.filter_cons];split
  .exact⟨λy z=>h.1 y ((List.mem_filter.1 z).1),Fj p h.2⟩
  .exact Fj p h.2
def P8.ite {c:Prop} [Decidable c] {a b:SY×Int} (A:P8 a.1.1) (z:P8 b.1.1):P8 (if c then a else b).1.1:=by by_cases h:c<;>simp[h,A,z]
def P8.ap {w:WT} {s:SY} (h:P8 s.1) (k o v:Int) (L:0<=a) (D:a<4):P8 (ph w s a k o v).1.1:=by
 have ow:∀t b,P8 (YO s.1 t b):=λt b=>h.set t b (h.get t)
 have un:P8 (rdP s.1 o (yo (geti ec s.1 o).2 [a])):=h.set _ _ ⟨UP _ _,λz A=>by
  rcases BN.1 A with A|A
  .exact (h.get o).2 z A
  .rw[aC]at A;subst A;exact⟨L,D⟩⟩
 have wt:P8 (rdP s.1 o (wo (geti ec s.1 o).2 a)):=h.set _ _ ⟨Fj _ (h.get o).1,λz A=>(h.get o).2 z (List.mem_filter.1 A).1⟩;exact P8.ite h (P8.ite h (P8.ite (ow _ _) (P8.ite (ow _ _) (P8.ite un (P8.ite wt (P8.ite h (P8.ite h (P8.ite h (P8.ite h (P8.ite (ow _ _) (P8.ite (ow _ _) (P8.ite (P8.ite h h) (P8.ite h (P8.ite h (P8.ite h h)))))))))))))))
def EP (w:WT) (l:Y ET):SN:=l.foldl (nxP w) (sn8 w)
def Ra (w:WT) (h:i<l! k):EP w (k.take (i+1))=nxP w (EP w (k.take i)) (eN k i):=by
 rw[pH (T:=gz) h];unfold EP;rw[eX];rfl
structure K8 (w:WT) (l:List ET) (i:Nat) (s:SN):Prop where
 a:(s.1,s.2.1,s.2.2.1)=Kk w (l.take i)
 r:P8 s.1.1
 c:l! s.2.1=l! w.1
 f:l! s.2.2.1=l! w.2.2.2.1
 k:l! s.2.2.2=l! w.2.2.2.2.1
 n:CN (l.take i) s.2.2.2
def aaz {w:WT} (tr:TR (w,k)):∀i:Nat,i<=l! k->K8 w k i (EP w (k.take i))
 |0,_=>⟨rfl,λx D=>by rw[List.eq_of_mem_replicate D];exact⟨trivial,λz A=>by cases A⟩,by simp[EP,ce0],by simp[EP,fu0],by simp[EP],λt t0 t1=>by
   have:(aG (l! w.2.2.2.2.1) (0:Int)).getD t.toNat 0=0:=by grind
   exact this⟩
 |i+1,h=>by
  let⟨a,r,c,f,l,n⟩:=aaz tr i (by omega);have sc:=tr.sc (i:=i) (by omega);have L:=tr.len;have ht:=tr.wb.t;dsimp only at L ht;have en:=sc.en;have N:=en.t1;have htk:=ym i k;rw[Ra w (by omega)];refine ⟨?_,r.ap _ _ _ en.t0 (by omega),?_,?_,?_,?_⟩
  .rw[OW w (by omega),<-a];rfl
  .unfold nxP ceP;split
   .rw[bW];exact c
   .exact c
  .unfold nxP fuP;split
   .rw[bW];exact f
   .exact f
  .unfold nxP;rw[bW];exact l
  .have:=n.next (eN k i) en.t0 (by omega) (by omega);rw[pH (T:=gz) (show i<l! k by omega)];exact this
def asm {w:WT} (tr:TR (w,k)) (hi:i<l! k):lP (w,EP w (k.take i),eN k i)=Z (EP w (k.take (i+1)),J):=by
 let⟨a,r,c,f,l,n⟩:=aaz tr i (by omega);have sc:=tr.sc hi;have A:=tr.wx;have ht:=tr.wb.t;have hls:=tr.ls _ (pC hi);dsimp only at A ht hls;rw[Ra w hi];rw[<- a]at sc;generalize EP w (k.take i)=s at*
 generalize eN k i=e at*
 have en:=sc.en;have e1:=en.t1;have l3:l! w.2.1=3:=by rw[A.l];rfl
 have L:=n e.1 en.t0 (by omega);have b1:=tr.wb.c;have b4:=tr.wb.f;have b3:=tr.wb.d;dsimp only at b1 b4 b3;have q1:=en.e1;have q2:=en.e2;have q3:=en.e3;dsimp only at q1 q2 q3;refine ay6 (n:=4) w s e ⟨⟨by omega,by omega,λx N=>?_,by omega,by omega⟩,by omega,by omega,by omega⟩ (by omega) (by omega) ⟨c,f,l⟩ en ⟨sc.rd,sc.s1,sc.s2,sc.de,sc.fr,by rw[L];exact sc.nd,by rw[L];exact sc.nf,sc.va⟩ hls.1 hls.2 (λh=>?_) (by omega) r (by omega)
 .have:=LM x.2 0 4 (r x N).1 (r x N).2;omega
 .have D:=en.nm.lk (by omega);have z:=en.nm.rw (by omega);generalize e.2.2.1=o at D z;rw[A.l]at D z;have:o=0\/o=1\/o=2:=by have:Km.length=3:=rfl;omega
  rcases this with rfl|rfl|rfl
  .cases z
  .cases z
  .rfl
abbrev fN (l:Y ET) (i:Nat) (t:Int):θ:=fl (l.take i) t
def at9 (h:i<l! k) (e:(eN k i).1=a):fN k (i+1) a=fN k i a++[rdE (eN k i)]:=by
 unfold fN;rw[pH (T:=gz) h,wC,Ck e]
def ak4 (h:i<l! k) (e:¬(eN k i).1=a):fN k (i+1) a=fN k i a:=by
 unfold fN;rw[pH (T:=gz) h,wC,yW e,mU]
def ata (l:Y ET) (i:Nat) (t:Int):l! (fN l i t)<=l! l:=dc (Wv _ _) (List.length_take_le' ..)
structure RwB (w:WT) (l:List ET) (i:Nat) (lens:η) (rows:List θ):Prop where
 ll:l! lens=l! w.2.2.2.2.1
 lr:l! rows=l! w.2.2.2.2.1
 r:∀u:Nat,u<l! w.2.2.2.2.1->rows.getD u []=fN l i (u:Int)
 n:∀u:Nat,u<l! w.2.2.2.2.1->lens.getD u 0=aS (l! (fN l i (u:Int)))
def RwB.zero (w:WT) (l:Y ET):RwB w l 0 (aG (l! w.2.2.2.2.1) 0) (aG (l! w.2.2.2.2.1) []):=by
 refine ⟨dx ..,dx ..,λu z=>?_,λu z=>?_⟩
 .rw[aF,fT,aE z];rfl
 .rw[aF,fT,aE z];rfl
variable {b:Bool}
def RwB.next {w:WT} (hi:i<l! k) (h:RwB w k i z m) (D:0<=a) (t1:a<l! w.2.2.2.2.1) (et:(eN k i).1=a) (L:rdE (eN k i)=b):RwB w k (i+1) (oG z (aM a) (aS (aj (kS (T:=.bool) m a++[b])))) (mB (T:=.bool) (mB (T:=.bool) m a []) a (kS (T:=.bool) m a++[b])):=by
 let⟨h1,h2,A,N⟩:=h;have er:kS (T:=.bool) m a=fN k i a:=by
  have:=A a.toNat (by omega);rw[Kq D]at this;exact this
 have own:=at9 hi et;rw[L,<-er]at own;refine ⟨by rw[dD,h1],by unfold mB;rw[dD,dD,h2],λu lens=>?_,λu lens=>?_⟩
 .unfold mB;rw[aF,em];by_cases e:a.toNat=u
  .rw[aE e,dD,aE (by omega)];have e':(u:Int)=a:=by omega
   rw[e',own];rfl
  .rw[ax e,em,ax e,<-aF,A u lens,ak4 hi (by omega)]
 .rw[aF,em];by_cases e:a.toNat=u
  .rw[aE e,aE (by omega)];have e':(u:Int)=a:=by omega
   rw[e',own];rfl
  .rw[ax e,<-aF,N u lens,ak4 hi (by omega)]
def avx {w:WT} (tr:TR (w,k)):gw (w,k)=Z (0,0):=by
 have hl:l! k<=400:=tr.len;have hT:l! w.2.2.2.2.1<=4:=tr.wb.t;refine cI ?_;unfold gw nP bk bD bQ cS dZ iS ck bm bS ky bU bX be c7 aI cQ;refine jO (ja.2 (by dsimp only[ay];omega)) (aZ (VW8 tr.wx tr.vl) (jP (aZ (au7 tr.wx) ?_)));refine cF (cF (dj (by dsimp only[ay];omega) (a? (bG (by simp only[ay,a8];omega) (by omega) ?_))));refine g9 (l! k) (by omega) (λi x=>∃lens rows,x=((i:Int),(w,k),EP w (k.take i),lens,rows)/\RwB w k i lens rows) ?_ ?_ ⟨_,_,by simp only[ay,a8];rfl,RwB.zero w k⟩
 .rintro i x hi ⟨lens,rows,rfl,z⟩;have sc:=tr.sc hi;have N:=sc.en.t1;have e0:=sc.en.t0;have st:=asm tr hi;have hls:=tr.ls _ (pC hi);have fa:=ata k i (eN k i).1;have L:(eN k i).1=(((eN k i).1.toNat:Nat):Int):=by omega
  have A:kS (T:=.bool) rows (eN k i).1=fN k i (eN k i).1:=by
   have:=z.r (eN k i).1.toNat (by omega);rw[<- L]at this;exact this
  have en:aM (m8 lens (eN k i).1)=l! (kS (T:=.bool) rows (eN k i).1):=by
   have:=z.n (eN k i).1.toNat (by omega);rw[<- L,<-A]at this;unfold m8;rw[this];rfl
  have rd:eU (((((eN k i).1,aS (l! (kS (T:=.bool) rows (eN k i).1))),eN k i),rows))=Z (J,rows):=by
   refine amv e0 (by rw[z.lr];exact N) ?_ ?_ hls.1 hls.2
   .rw[A];exact sc.rd1
   .rw[A];exact sc.rd2
  have nx:=λb=>z.next hi e0 N rfl (b:=b)
  have l1:=z.ll;have l2:=z.lr;refine cW (bH (aU ?_));have hg:geti gz k (i:Int)=eN k i:=rfl;dsimp only;rw[hg];rw[<- A]at fa;clear sc hls A L;generalize eN k i=e at*
  refine aZ st ?_;refine aV (λx=>x=(af,(w,k),EP w (k.take i),lens,e,EP w (k.take (i+1)),rows)) ?_ ?_
  .refine jP (bH (bH ?_));dsimp only;rw[en];exact aZ rd (ak rfl)
  rintro x rfl;refine jP (aV (λx=>∃lens' rows',x=((w,k),EP w (k.take i),lens',EP w (k.take (i+1)),rows')/\RwB w k (i+1) lens' rows') ?_ ?_)
  .refine bH (bH ?_);dsimp only;rw[en];refine aK (λh=>bH (cF (bl (gr _) (bG (by rw[cH];omega) (by omega) (bH (bH (ak ⟨_,_,rfl,nx _ ?_⟩))))))) λh=>bH (cF (bl (gr _) (bG (by rw[cH];omega) (by omega) (bH (bH (ak ⟨_,_,rfl,nx _ ?_⟩))))))
   .unfold rdE;rw[bc h];rfl
   .unfold rdE;rw[dm h];rfl
  rintro x ⟨lens',rows',rfl,D⟩;refine ak ⟨lens',rows',?_,D⟩;dsimp only;rw[fV]
 .rintro x ⟨lens,rows,rfl,_⟩;exact cP (ak rfl)
abbrev lI:Ty:=(.pr aP (.pr aP alw))
abbrev uC:Ty:=(.st (.pr aP alw))
abbrev Ke2:Ty:=(.st (.pr Hs (.pr Hs Hs)))
abbrev AM:=((Int×Int×Int×Int×Bool)×(Y (Int×Bool))×Y (Int×Bool))
abbrev BK:=(Y d?)
abbrev Q?:=Int×e!
abbrev BG:=Q?
abbrev yc:=(Y ν)
abbrev b?:=(eC×Y gJ)×(Y η)×yc×(η)×(η)×(η)×(η)×(η)×(η)×BK×(η)×(Y AM)×(Y η)×Y η
abbrev Ye4:=b?
abbrev d!:=(eC×Y gJ)×(Y η)×yc×(η)×(η)×(η)×(η)×(η)×(η)×BK×(η)×(Y AM)×(Y η)×(Y η)×(η)×Bool
abbrev Ye5:=d!
abbrev c?:=(eC×Y gJ)×(Y η)×yc×(η)×(η)×(η)×(η)×(η)×(η)×BK×(η)×(Y AM)×(Y η)×(Y η)×gJ×η
abbrev Ye6:=c?
abbrev Ye7:=(Int×b!)
abbrev Ye8:=((eC×Y gJ)×(η)×(η)×(η)×(η)×(η)×(η)×BK×(Y η)×yc×(η)×(Y AM)×(Y η)×Y η)
abbrev Ã:=Int×c?
abbrev Ye9:=Ã
abbrev aac:=(Bool×Y η)
abbrev al5:=(Y θ)
def Au (it:Dr) (x:Int):M η:=
 (bU (dy 0 x&&dy x x&&bh (aM x) 8) (it j! _ (λz=>(bS z.1 (aS (aj (aG (aM x) (0:Int)))) (ck (dK z.1 (aj z.2)) (c7 ((cQ z.1),(cC z.2 z.1 (-1))))) (aI z.2))) (0,(aG (aM x) (0:Int)))))
def EY (x:Int):M η:=Au @iter x
def lz (x:Int):M η:=Au @hX x
def oJ (x:b!):M (Bool):=
 (jn (bm x.2.1 3 (aI J) (aI (decide ((x.2.1:Int)=4)))) λz=>(Z z))
def lR (x:Â):M (Int):=
 (jn (bm x.a 6 (aI ((decide ((x.a:Int)=6)),x)) (bm x.a 8 (aI ((decide ((x.a:Int)=8)),x)) (aI ((decide ((x.a:Int)=10)),x)))) λz=>(aJ z.1 (Z z.c) (bm x.a 17 (bX itK z.2.1.a z.c λA=>(Z A.2)) (bm x.a 12 (Z (be z.2.1.2.1)) (Z (-1))))))
def lQ (x:Â):M (Int):=
 (jn (bm x.a 7 (aI ((decide ((x.a:Int)=7)),x)) (bm x.a 9 (aI ((decide ((x.a:Int)=9)),x)) (aI ((decide ((x.a:Int)=11)),x)))) λz=>(aJ z.1 (Z z.c) (bm x.a 16 (bX itK z.2.1.a z.c λA=>(Z A.2)) (bm x.a 13 (Z (be z.2.1.2.1)) (Z (-1))))))
def iX (x:gJ×b?):M (η×b?):=
 (kq aP x.c x.1.1 λA=>(jn (α:=(eC×Y gJ)×(Y η)×yc×(η)×(η)×(η)×(η)×(η)×(η)×BK×(η)×(Y AM)×(Y η)×(Y η)×η) (bm x.1.2.1 1 (kq aP x.e x.1.1 λN=>(bU (bh (aj ([A])+aj ([N])) 8) (aI (x.2.1,x.a,x.b,x.c,x.e,x.g,x.j,x.m,x.o,x.l,x.n,x.i,x.q,x.r,(([A])++([N])))))) (bm x.1.2.1 21 (kq aP x.c x.1.a λL=>(bU (bh (aj ([A])+aj ([L])) 8) (aI (x.2.1,x.a,x.b,x.c,x.e,x.g,x.j,x.m,x.o,x.l,x.n,x.i,x.q,x.r,(([A])++([L])))))) (bm x.1.2.1 23 (ck (dK x.1.a (aj x.o)) (ky x.1.a x.r (bU (aB (aM (m8 x.o x.1.a)) (aj (kS (T:=aP) x.r x.1.a))) (bU (bh (aj ([A])+aj (kS (T:=aP) x.r x.1.a)) 8) (aI (x.2.1,x.a,x.b,x.c,x.e,x.g,x.j,x.m,x.o,x.l,x.n,x.i,x.q,x.r,(([A])++(kS (T:=aP) x.r x.1.a)))))))) (bm x.1.2.1 3 (bX lF x.2.1.1.1 x.1.a λz5=>(aJ z5.2.2.2.1 (ck (dK x.1.a (aj x.m)) (ky x.1.a x.q (bU (aB (aM (m8 x.m x.1.a)) (aj (kS (T:=aP) x.q x.1.a))) (bU (bh (aj ([A])+aj (kS (T:=aP) x.q x.1.a)) 8) (aI (x.2.1,x.a,x.b,x.c,x.e,x.g,x.j,x.m,x.o,x.l,x.n,x.i,x.q,x.r,(([A])++(kS (T:=aP) x.q x.1.a)))))))) (aI (x.2.1,x.a,x.b,x.c,x.e,x.g,x.j,x.m,x.o,x.l,x.n,x.i,x.q,x.r,[A])))) (bm x.1.2.1 17 (kq aP x.g x.1.1 λD=>(bU (bh (aj ([A])+aj ([D])) 8) (aI (x.2.1,x.a,x.b,x.c,x.e,x.g,x.j,x.m,x.o,x.l,x.n,x.i,x.q,x.r,(([A])++([D])))))) (aI (x.2.1,x.a,x.b,x.c,x.e,x.g,x.j,x.m,x.o,x.l,x.n,x.i,x.q,x.r,[A]))))))) λz=>(Z (z.r,z.1,z.2.1,z.a,z.b,z.c,z.e,z.g,z.j,z.m,z.o,z.l,z.n,z.i,z.q))))
def jR (x:Ye7×Y AM):M (Y AM):=
 (bm x.1.a 4 (ck (dK x.1.1 (aj x.2)) (Z (qR (S:=lI) x.2 x.1.1 (vV (S:=lI) 1 (dO lI x.2 x.1.1) (uN (K:=aP) (V:=.bool) x.1.b J (sJ (S:=lI) 1 (dO lI x.2 x.1.1))))))) (ck (dK x.1.1 (aj x.2)) (Z (qR (S:=lI) x.2 x.1.1 (vV (S:=lI) 0 (dO lI x.2 x.1.1) (uN (K:=aP) (V:=.bool) x.1.b J (sJ (S:=lI) 0 (dO lI x.2 x.1.1))))))))
abbrev v!:=(eC×Y gJ)×(Y η)×yc×(η)×(η)×(η)×(η)×(η)×(η)×BK×(η)×(Y AM)×(Y η)×(Y η)×b!
abbrev R!:=Ye7×b?
def mK (it:Dr) (x:R!):M Ye4:=
 (ck (dK x.1.2.1 (aj x.c)) (jn (α:=b?) (bm x.1.a 20 (ck (dK x.1.b (aj x.e)) (aI (x.2.1,x.a,x.b,(cC x.c x.1.2.1 x.1.1),(cC x.e x.1.b x.1.1),x.k))) (bm x.1.a 22 (ck (dK x.1.b (aj x.o)) (ky x.1.b x.r (bU (aB (aM (m8 x.o x.1.b)) (aj (kS (T:=aP) x.r x.1.b))&&bh ((aM (m8 x.o x.1.b))+aj ([x.1.1]:η)) 8) (ck (dK x.1.b (aj x.o)) (aI (x.2.1,x.a,x.b,(cC x.c x.1.2.1 x.1.1),x.e,x.g,x.j,x.m,(oG x.o (aM x.1.b) (aS (aj ((kS (T:=aP) x.r x.1.b)++([x.1.1]))))),x.l,x.n,x.i,x.q,(mB (T:=aP) (mB (T:=aP) x.r x.1.b []) x.1.b ((kS (T:=aP) x.r x.1.b)++([x.1.1]))))))))) (bm x.1.a 4 (ck (dK x.1.b (aj x.m)) (ky x.1.b x.q (bU (aB (aM (m8 x.m x.1.b)) (aj (kS (T:=aP) x.q x.1.b))&&bh ((aM (m8 x.m x.1.b))+aj ([x.1.1]:η)) 8) (ck (dK x.1.b (aj x.m)) (aI (x.2.1,x.a,x.b,(cC x.c x.1.2.1 x.1.1),x.e,x.g,x.j,(oG x.m (aM x.1.b) (aS (aj ((kS (T:=aP) x.q x.1.b)++([x.1.1]))))),x.o,x.l,x.n,x.i,(mB (T:=aP) (mB (T:=aP) x.q x.1.b []) x.1.b ((kS (T:=aP) x.q x.1.b)++([x.1.1]))),x.r)))))) (bm x.1.a 16 (ck (dK x.1.2.1 (aj x.j)) (aI (x.2.1,x.a,x.b,(cC x.c x.1.2.1 x.1.1),x.e,x.g,(cC x.j x.1.2.1 x.1.b),x.s))) (bm x.1.a 18 (jY 0 x.1.c (ck (dK x.1.c (aj x.g)) (ck (dK x.1.c (aj x.j)) (aI (x.2.1,x.a,x.b,(cC x.c x.1.2.1 x.1.1),x.e,(cC x.g x.1.c x.1.1),(cC x.j x.1.c (-1)),x.s)))) (aI (x.2.1,x.a,x.b,(cC x.c x.1.2.1 x.1.1),x.h))) (bm x.1.a 19 (it (Int×v!) _ (λz=>(bS z.1 (be x.j) (jn (α:=v!) (kq aP z.j z.1 λA=>(bm A z.D (ck (dK z.1 (aj z.g)) (ck (dK z.1 (aj z.j)) (aI (z.2.1,z.a,z.b,z.c,z.e,(cC z.g z.1 x.1.1),(cC z.j z.1 (-1)),z.s)))) (aI z.2))) λD=>(c7 ((cQ z.1),D))) (aI (bZ (z.2.1,z.a,z.b,z.c,z.e,z.g,z.j,z.m,z.o,z.l,z.n,z.i,z.q,z.t))))) (0,x.2.1,x.a,x.b,(cC x.c x.1.2.1 x.1.1),x.e,x.g,x.j,x.m,x.o,x.l,x.n,x.i,x.q,x.r,x.1.2)) (aI (x.2.1,x.a,x.b,(cC x.c x.1.2.1 x.1.1),x.h)))))))) λL=>(Z L)))
def qA (x:R!):M Ye4:=mK @iter x
def gL (x:R!):M Ye4:=mK @hX x
def iG (x:R!):M ((eC×Y gJ)×(Y η)×yc×(η)×(η)×(η)×(η)×(η)×(η)×BK×(Y η)×(Y η)×(η)×Y AM):=
 (aA (lQ (x.2.1.1,x.1.2)) λz=>(aJ (jL (x.1.2.1,z) x.l) (ky (c_ (x.1.2.1,z) x.l) x.i (bU (bh (aj x.n+1) 8) (aA (lR (x.2.1.1,x.1.2)) λD=>(jY 0 D (Z (x.2.1,x.a,x.b,x.c,x.e,x.g,x.j,x.m,x.o,(sG (x.1.2.1,D) (aS (aj (qR (S:=lI) x.i (c_ (x.1.2.1,z) x.l) ((((dO lI x.i (c_ (x.1.2.1,z) x.l)).1).1,(((dO lI x.i (c_ (x.1.2.1,z) x.l)).1).2).1,((((dO lI x.i (c_ (x.1.2.1,z) x.l)).1).2).2).1,x.1.1,(((((dO lI x.i (c_ (x.1.2.1,z) x.l)).1).2).2).2).2),(dO lI x.i (c_ (x.1.2.1,z) x.l)).2)))) (L2 (aj (qR (S:=lI) x.i (c_ (x.1.2.1,z) x.l) ((((dO lI x.i (c_ (x.1.2.1,z) x.l)).1).1,(((dO lI x.i (c_ (x.1.2.1,z) x.l)).1).2).1,((((dO lI x.i (c_ (x.1.2.1,z) x.l)).1).2).2).1,x.1.1,(((((dO lI x.i (c_ (x.1.2.1,z) x.l)).1).2).2).2).2),(dO lI x.i (c_ (x.1.2.1,z) x.l)).2))) (Ah (x.1.2.1,z) x.l))),x.q,x.r,(gD (shf (aj (qR (S:=lI) x.i (c_ (x.1.2.1,z) x.l) ((((dO lI x.i (c_ (x.1.2.1,z) x.l)).1).1,(((dO lI x.i (c_ (x.1.2.1,z) x.l)).1).2).1,((((dO lI x.i (c_ (x.1.2.1,z) x.l)).1).2).2).1,x.1.1,(((((dO lI x.i (c_ (x.1.2.1,z) x.l)).1).2).2).2).2),(dO lI x.i (c_ (x.1.2.1,z) x.l)).2)))) (sO x.n [(c_ (x.1.2.1,z) x.l)])),(sO (qR (S:=lI) x.i (c_ (x.1.2.1,z) x.l) ((((dO lI x.i (c_ (x.1.2.1,z) x.l)).1).1,(((dO lI x.i (c_ (x.1.2.1,z) x.l)).1).2).1,((((dO lI x.i (c_ (x.1.2.1,z) x.l)).1).2).2).1,x.1.1,(((((dO lI x.i (c_ (x.1.2.1,z) x.l)).1).2).2).2).2),(dO lI x.i (c_ (x.1.2.1,z) x.l)).2)) [((x.1.2.1,D,x.1.1,(-1),(decide ((x.1.a:Int)=8))),[],[])]))) (Z (x.2.1,x.a,x.b,x.c,x.e,x.g,x.j,x.m,x.o,(Ah (x.1.2.1,z) x.l),x.q,x.r,(sO x.n [(c_ (x.1.2.1,z) x.l)]),(qR (S:=lI) x.i (c_ (x.1.2.1,z) x.l) ((((dO lI x.i (c_ (x.1.2.1,z) x.l)).1).1,(((dO lI x.i (c_ (x.1.2.1,z) x.l)).1).2).1,((((dO lI x.i (c_ (x.1.2.1,z) x.l)).1).2).2).1,x.1.1,(((((dO lI x.i (c_ (x.1.2.1,z) x.l)).1).2).2).2).2),(dO lI x.i (c_ (x.1.2.1,z) x.l)).2)))))))) (aA (lR (x.2.1.1,x.1.2)) λA=>(jY 0 A (Z (x.2.1,x.a,x.b,x.c,x.e,x.g,x.j,x.m,x.o,(sG (x.1.2.1,A) (be x.i) (L2 (aj x.i) x.l)),x.q,x.r,(gD (shf (aj x.i)) x.n),(sO x.i [((x.1.2.1,A,x.1.1,(-1),(decide ((x.1.a:Int)=8))),[],[])]))) (Z (x.2.1,x.a,x.b,x.c,x.e,x.g,x.j,x.m,x.o,x.l,x.q,x.r,x.n,x.i))))))
def jT (x:Ã):M Ye6:=
 (jn (ck (dK x.1 (aj x.i)) (aJ (xl (K:=aP) (V:=.bool) x.u.a (sJ (S:=lI) 1 (dO lI x.i x.1)) af) (aI ((x.1,J),x.2)) (bm x.u.2.1 4 (ck (dK x.1 (aj x.i)) (aI ((x.1,(xl (K:=aP) (V:=.bool) x.u.a (sJ (S:=lI) 0 (dO lI x.i x.1)) af)),x.2))) (aI ((x.1,af),x.2))))) λz=>(aJ z.1.2 (ky z.1.1 z.i (lt ((((((dO lI z.i z.1.1).1).2).2).2).1) λD=>(kq (.sl aP) z.a D λA=>(aA (lx (z.E,A)) λL=>(Z (z.2.1,z.a,z.b,z.c,z.e,z.g,z.j,z.m,z.o,z.l,z.n,z.i,z.q,z.t,z.u,L)))))) (Z z.2)))
def jS (x:Int×d!):M Ye5:=
 (jn (ky x.1 x.i (lt (((((dO lI x.i x.1).1).2).2).1) λz2=>(kq gf x.b z2 λz3=>(aA (kh (x.u,z3)) λy4=>(aJ y4 (ky x.1 x.i (lt ((((((dO lI x.i x.1).1).2).2).2).1) λz5=>(kq gf x.b z5 λN=>(aA (kh (x.u,N)) λy7=>(aI ((x.1,(!y7)),x.2)))))) (aI ((x.1,af),x.2))))))) λz=>(aJ z.1.2 (ky z.1.1 z.i (lt ((((((dO lI z.i z.1.1).1).2).2).2).1) λL=>(kq (.sl aP) z.a L λD=>(aA (lx (z.u,D)) λA=>(Z (z.2.1,z.a,z.b,z.c,z.e,z.g,z.j,z.m,z.o,z.l,z.n,z.i,z.q,z.t,A,J)))))) (Z z.2)))
def r_ (it:Dr) (x:Ã):M Ye6:=
 (it (ν×c?) _ (λz=>(bS z.1.2 (be x.n) (jn (ck (dK z.1.2 (aj z.n)) (jn (ky (m8 z.n z.1.2) z.i (lt ((((dO lI z.i (m8 z.n z.1.2)).1).2).1) λz4=>(ky z.1.1 z.i (lt ((((dO lI z.i z.1.1).1).2).1) λz5=>(bm z4 z5 (ky (m8 z.n z.1.2) z.i (lt (((dO lI z.i (m8 z.n z.1.2)).1).1) λz6=>(ky z.1.1 z.i (lt (((dO lI z.i z.1.1).1).1) λz7=>(jK z6 z7 (ky (m8 z.n z.1.2) z.i (lt ((((((dO lI z.i (m8 z.n z.1.2)).1).2).2).2).2) λz8=>(aJ z8 (ky z.1.1 z.i (lt ((((((dO lI z.i z.1.1).1).2).2).2).2) λz9=>(aJ (!z9) (ky (m8 z.n z.1.2) z.i (lt ((((((dO lI z.i (m8 z.n z.1.2)).1).2).2).2).1) λz10=>(ky z.1.1 z.i (lt (((((dO lI z.i z.1.1).1).2).2).1) λz11=>(aI ((z.1.1,(m8 z.n z.1.2),(gE z10 z11)),z.2)))))) (aI ((z.1.1,(m8 z.n z.1.2),af),z.2))))) (ky (m8 z.n z.1.2) z.i (lt ((((((dO lI z.i (m8 z.n z.1.2)).1).2).2).2).1) λN=>(ky z.1.1 z.i (lt (((((dO lI z.i z.1.1).1).2).2).1) λL=>(aI ((z.1.1,(m8 z.n z.1.2),(gE N L)),z.2))))))))) (aI ((z.1.1,(m8 z.n z.1.2),af),z.2))))))) (aI ((z.1.1,(m8 z.n z.1.2),af),z.2))))))) λD=>(aJ D.1.2.2 (aA (jT (D.1.2.1,D.2)) λA=>(bU (aB (aj D.n) (aj A.l)&&(aB (aj D.o) (aj A.m)&&(aB (aj D.m) (aj A.j)&&(aB (aj D.j) (aj A.g)&&(aB (aj D.g) (aj A.e)&&(aB (aj D.e) (aj A.c)&&(aB (aj D.c) (aj A.b)&&(aB (aj D.b) (aj A.a)&&(aB (aj D.a) (aj A.2.1)&&J))))))))) (aI (D.1.1,A)))) (aI (D.1.1,D.2))))) λx2=>(c7 ((x2.1,(cQ z.1.2)),x2.2))) (aI z.2))) ((x.1,0),x.2))
def vX (x:Ã):M Ye6:=r_ @iter x
def kA (x:Ã):M Ye6:=r_ @hX x
def r9 (it:Dr) (x:Int×d!):M Ye5:=
 (it (ν×d!) _ (λz=>(bS z.1.2 (be x.n) (jn (ck (dK z.1.2 (aj z.n)) (jn (ky (m8 z.n z.1.2) z.i (lt ((((dO lI z.i (m8 z.n z.1.2)).1).2).1) λz4=>(ky z.1.1 z.i (lt ((((dO lI z.i z.1.1).1).2).1) λz5=>(bm z4 z5 (ky (m8 z.n z.1.2) z.i (lt (((dO lI z.i (m8 z.n z.1.2)).1).1) λz6=>(ky z.1.1 z.i (lt (((dO lI z.i z.1.1).1).1) λz7=>(jK z6 z7 (ky (m8 z.n z.1.2) z.i (lt ((((((dO lI z.i (m8 z.n z.1.2)).1).2).2).2).2) λz8=>(aJ z8 (ky z.1.1 z.i (lt ((((((dO lI z.i z.1.1).1).2).2).2).2) λz9=>(aJ (!z9) (ky (m8 z.n z.1.2) z.i (lt ((((((dO lI z.i (m8 z.n z.1.2)).1).2).2).2).1) λz10=>(ky z.1.1 z.i (lt (((((dO lI z.i z.1.1).1).2).2).1) λz11=>(aI ((z.1.1,(m8 z.n z.1.2),(gE z10 z11)),z.2)))))) (aI ((z.1.1,(m8 z.n z.1.2),af),z.2))))) (ky (m8 z.n z.1.2) z.i (lt ((((((dO lI z.i (m8 z.n z.1.2)).1).2).2).2).1) λN=>(ky z.1.1 z.i (lt (((((dO lI z.i z.1.1).1).2).2).1) λL=>(aI ((z.1.1,(m8 z.n z.1.2),(gE N L)),z.2))))))))) (aI ((z.1.1,(m8 z.n z.1.2),af),z.2))))))) (aI ((z.1.1,(m8 z.n z.1.2),af),z.2))))))) λD=>(aJ D.1.2.2 (aA (jS (D.1.2.1,D.2)) λA=>(bU (aB (aj D.n) (aj A.l)&&(aB (aj D.o) (aj A.m)&&(aB (aj D.m) (aj A.j)&&(aB (aj D.j) (aj A.g)&&(aB (aj D.g) (aj A.e)&&(aB (aj D.e) (aj A.c)&&(aB (aj D.c) (aj A.b)&&(aB (aj D.b) (aj A.a)&&(aB (aj D.a) (aj A.2.1)&&J))))))))) (aI (D.1.1,A)))) (aI (D.1.1,D.2))))) λx2=>(c7 ((x2.1,(cQ z.1.2)),x2.2))) (aI z.2))) ((x.1,0),x.2))
def vW (x:Int×d!):M Ye5:=r9 @iter x
def kz (x:Int×d!):M Ye5:=r9 @hX x
def nQ (it:Dr) (x:R!):M Ye8:=
 (bU (dy 0 (be x.2.1.1.c)&&dy (be x.2.1.1.c) (be x.2.1.1.c)&&bh (aM (be x.2.1.1.c)) 8) (aA (iX (x.1.2,x.2)) λy1=>(bU (aB (aj x.n) (aj y1.n)&&(aB (aj x.o) (aj y1.o)&&(aB (aj x.m) (aj y1.m)&&(aB (aj x.j) (aj y1.j)&&(aB (aj x.g) (aj y1.g)&&(aB (aj x.e) (aj y1.e)&&(aB (aj x.c) (aj y1.c)&&(aB (aj x.b) (aj y1.b)&&(aB (aj x.a) (aj y1.a)&&J))))))))) (it Ye9 _ (λx2=>(bS x2.1 (be y1.1) (jn (bX aP y1.1 x2.1 λz4=>(jY 0 z4 (kq (.sl aP) x2.a z4 λz5=>(aA (lx (x2.E,z5)) λy6=>(aI (x2.2.1,x2.a,x2.b,x2.c,x2.e,x2.g,x2.j,x2.m,x2.o,x2.l,x2.n,x2.i,x2.q,x2.t,x2.u,y6)))) (aI x2.2))) λx3=>(c7 ((cQ x2.1),x3))) (aA (jn (α:=c?) (aA (oJ x2.u) λy8=>(aJ y8 (it Ye9 _ (λx9=>(bS x9.1 (bn .i64 ((be x2.2.1.1.2.1)+1)) (jn (aJ (jL (x9.u.1,x9.1) x9.l) (aA (kA ((c_ (x9.u.1,x9.1) x9.l),x9.2)) λN=>(bU (aB (aj x9.n) (aj N.l)&&(aB (aj x9.o) (aj N.m)&&(aB (aj x9.m) (aj N.j)&&(aB (aj x9.j) (aj N.g)&&(aB (aj x9.g) (aj N.e)&&(aB (aj x9.e) (aj N.c)&&(aB (aj x9.c) (aj N.b)&&(aB (aj x9.b) (aj N.a)&&(aB (aj x9.a) (aj N.2.1)&&J))))))))) (aA (jR (((c_ (x9.u.1,x9.1) x9.l),N.t),N.n)) λy12=>(aI (N.1,N.2.1,N.a,N.b,N.c,N.e,N.g,N.j,N.m,N.o,N.l,y12,N.y))))) (aI x9.2)) λx10=>(c7 ((cQ x9.1),x10))) (aI (bZ x9.2)))) (0,x2.2)) (aI x2.2))) λx7=>(jn (aA (lQ (x7.1.1,x7.t)) λy14=>(aJ (jL (x7.t.1,y14) x7.o) (it (Int×(eC×Y gJ)×(Y η)×yc×(η)×(η)×(η)×(η)×(η)×(η)×BK×(η)×(Y AM)×(Y η)×(Y η)×gJ×(η)×Bool) _ (λz=>(aJ z.G (aA (kz (z.1,z.2.1,z.a,z.b,z.c,z.e,z.g,z.j,z.m,z.o,z.l,z.n,z.i,z.q,z.t,z.C,af)) λL=>(bU (aB (aj z.n) (aj L.l)&&(aB (aj z.o) (aj L.m)&&(aB (aj z.m) (aj L.j)&&(aB (aj z.j) (aj L.g)&&(aB (aj z.g) (aj L.e)&&(aB (aj z.e) (aj L.c)&&(aB (aj z.c) (aj L.b)&&(aB (aj z.b) (aj L.a)&&(aB (aj z.a) (aj L.2.1)&&J))))))))) (c7 (z.1,L.1,L.2.1,L.a,L.b,L.c,L.e,L.g,L.j,L.m,L.o,L.l,L.n,L.i,L.q,z.u,L.r)))) (aI (bZ (z.2.1,z.a,z.b,z.c,z.e,z.g,z.j,z.m,z.o,z.l,z.n,z.i,z.q,z.t,z.u,z.C))))) ((c_ (x7.t.1,y14) x7.o),x7.1,x7.2.1,x7.a,x7.b,x7.c,x7.e,x7.g,x7.j,x7.m,x7.o,x7.l,x7.n,x7.i,x7.q,x7.t,x7.F,J)) (aI x7))) λA=>(aA (qY (A.F,A.t.1)) λy17=>(bU (bh (aj A.2.1+aj ([y17])) 24) (bX aP y17 A.t.1 λz18=>(bU (bh (aj A.a+aj ([(z18,A.t.1)])) 16) (aA (iG ((x.1.1,A.t),A.1,(A.2.1++([y17])),(A.a++([(z18,A.t.1)])),A.b,A.c,A.e,A.g,A.j,A.m,A.o,A.l,A.n,A.i,A.q)) λD=>(bU (aB (aj A.l) (aj A.l)&&(aB (aj A.m) (aj D.m)&&(aB (aj A.j) (aj D.j)&&(aB (aj A.g) (aj D.g)&&(aB (aj A.e) (aj D.e)&&(aB (aj A.c) (aj D.c)&&(aB (aj A.b) (aj D.b)&&(aB (aj (A.a++([(z18,A.t.1)]))) (aj D.a)&&(aB (aj (A.2.1++([y17]))) (aj D.2.1)&&J))))))))) (aA (gL ((x.1.1,A.t),D.1,D.2.1,D.a,D.b,D.c,D.e,D.g,D.j,D.m,D.o,D.i,D.z,D.l,D.n)) λy20=>(bU (aB (aj D.i) (aj y20.l)&&(aB (aj D.m) (aj y20.m)&&(aB (aj D.j) (aj y20.j)&&(aB (aj D.g) (aj y20.g)&&(aB (aj D.e) (aj y20.e)&&(aB (aj D.c) (aj y20.c)&&(aB (aj D.b) (aj y20.b)&&(aB (aj D.a) (aj y20.a)&&(aB (aj D.2.1) (aj y20.2.1)&&J))))))))) (Z (y20.1,y20.b,y20.c,y20.e,y20.g,y20.j,y20.m,y20.o,y20.2.1,y20.a,y20.w)))))))))))) λr=>Z (bZ r)))) (0,y1.2.1,y1.a,y1.b,y1.c,y1.e,y1.g,y1.j,y1.m,y1.o,y1.l,y1.n,y1.i,y1.q,y1.r,x.1.2,(aG (aM (be x.2.1.1.c)) (0:Int)))))))
def rJ (x:R!):M Ye8:=nQ @iter x
def gx (x:R!):M Ye8:=nQ @hX x
abbrev g?:=(Y η)×yc×(η)×(η)×(η)×(η)×(η)×(η)×BK×(η)×(Y η)×(Y η)×Y AM
def vz (it:Dr) (x:w?):M Ye4:=
 (aA (lz (be x.1.c)) λy1=>(aA (lz (be x.1.c)) λy2=>(aA (lz (be x.1.c)) λN=>(aA (lz (be x.1.c)) λL=>(bU (dy 0 (be x.1.1)&&dy (be x.1.1) (be x.1.1)&&bh (aM (be x.1.1)) 24) (bU (dy 0 (be x.1.b)&&dy (be x.1.b) (be x.1.b)&&bh (aM (be x.1.b)) 24) (it (Int×(eC×Y gJ)×g?) _ (λz=>(bS z.1 (be x.2) (bX gz x.2 z.1 λD=>(aA (gx ((z.1,D),z.2.1,z.a,z.b,z.c,z.e,z.g,z.j,z.m,z.o,z.l,z.n,z.r,z.i,z.q)) λA=>(bU (aB (aj z.n) (aj z.n)&&(aB (aj z.o) (aj A.g)&&(aB (aj z.m) (aj A.e)&&(aB (aj z.j) (aj A.c)&&(aB (aj z.g) (aj A.b)&&(aB (aj z.e) (aj A.a)&&(aB (aj z.c) (aj A.2.1)&&(aB (aj z.b) (aj z.b)&&(aB (aj z.a) (aj z.a)&&J))))))))) (c7 ((cQ z.1),A.1,A.m,A.o,A.2.1,A.a,A.b,A.c,A.e,A.g,A.j,A.l,A.i,A.z,A.n))))) (aI (z.2.1,z.a,z.b,z.c,z.e,z.g,z.j,z.m,z.o,z.l,z.n,z.r,z.i,z.q)))) (0,x,([]:Y η),([]:Y ν),y1,y2,N,L,(aG (aM (be x.1.1)) (0:Int)),(aG (aM (be x.1.b)) (0:Int)),([]:Y d?),([]:η),(aG (aM (be x.1.1)) ([]:η)),(aG (aM (be x.1.b)) ([]:η)),([]:Y AM)))))))))
def Ai (x:w?):M Ye4:=vz @iter x
def lj (x:w?):M Ye4:=vz @hX x
def rL (x:w?):M ((Y η)×Int):=
 (aA (gw x) λA=>(jK A.2 0 (Z (([]:Y η),12)) (aA (lj x) λz=>(Z (z.2.1,0)))))
abbrev P!:=(eC×Y gJ)×(eC×Y gJ)×yc×gJ×g?
abbrev S?:=(eC×Y gJ)×(eC×Y gJ)×yc×g?
def Cd (it:Dr) (x:w?):M (yc×Int):=
 (aA (gw x) λy1=>(jK y1.2 0 (Z (([]:Y ν),12)) (aA (lj x) λN=>(it (Int×S?) _ (λD=>(bS D.1 (be x.2) (jn (α:=S?) (bX gz x.2 D.1 λz5=>(jn (aA (oJ z5) λy7=>(aJ (!y7) (aI (J,D.2.1,D.a,D.b,z5,D.f)) (bX lF D.2.1.1.1 z5.a λz8=>(aI (z8.2.2.2.1,D.2.1,D.a,D.b,z5,D.f))))) λx6=>(aJ x6.1 (aI (x6.2.1,x6.a,x6.b,x6.h)) (bU (dy 0 D.1&&dy D.1 (aj x6.2.1.2)) (it (Int×P!) _ (λA=>(bS A.1 (aS (aj (dW (aM D.1) x6.2.1.2))) (jn (α:=P!) (bX gz (dW (aM D.1) x6.2.1.2) A.1 λz11=>(jn (aA (oJ z11) λy13=>(aJ (!y13) (aI (J,A.2.1,A.a,A.b,A.c,z11,A.h)) (jK z11.a A.c.a (aI (J,A.2.1,A.a,A.b,A.c,z11,A.h)) (aI ((decide ((z11.1:Int)=A.c.1)),A.2.1,A.a,A.b,A.c,z11,A.h))))) λz=>(aJ z.1 (aI (z.2.1,z.a,z.b,z.c,z.k)) (jn (bm z.e.2.1 4 (aI (J,z.2.1,z.a,z.b,z.c,z.k)) (aI ((decide ((z.c.2.1:Int)=4)),z.2.1,z.a,z.b,z.c,z.k))) λx14=>(jn (aJ x14.1 (kq (.sl aP) x14.e D.1 λz16=>(kq gf x14.g A.1 λz17=>(aA (kh (z16,z17)) λy18=>(aI ((!y18),x14.2))))) (aI (af,x14.2))) λL=>(aJ L.1 (bU (bh (aj L.b+aj ([(A.1,D.1)])) 16) (aI (L.2.1,L.a,(L.b++([(A.1,D.1)])),L.f))) (aI L.2))))))) λx10=>(c7 ((cQ A.1),x10))) (aI (bZ (A.2.1,A.a,A.b,A.h))))) (0,x6.2)))))) λx4=>(c7 ((cQ D.1),x4))) (aI (D.b,0)))) (0,x,N.1,([]:Y ν),N.2.1,N.a,N.b,N.c,N.e,N.g,N.j,N.m,N.o,N.l,N.i,N.z,N.n)))))
def BW (x:w?):M (yc×Int):=Cd @iter x
def qS (x:w?):M (yc×Int):=Cd @hX x
def TN (it:Dr) (x:Unit):M eC:=
 (it F? _ (λA=>(bS A.1 (aS (aj ([[109,97,105,110],[116,49],[116,50],[116,51]]))) (it F? _ (λz=>(bS z.1 6 (bU (bh (aj z.k+aj ([(A.1,z.1,(bn .i64 ((bn .i64 ((bn .i64 (10*A.1))+z.1))+1)))])) 24) (c7 ((cQ z.1),z.2.1,z.a,z.b,z.c,z.e,(z.k++([(A.1,z.1,(bn .i64 ((bn .i64 ((bn .i64 (10*A.1))+z.1))+1)))]))))) (aI (lJ ((cQ A.1),z.2))))) (0,A.2)) (aI A.2))) (0,[([120],0,0,af,0),([121],0,0,af,1),([118],0,0,J,0),([113],0,2,af,0),([113],1,2,af,0)],[([109],af),([110],af),([114],J)],[([99],0)],[[102]],[[109,97,105,110],[116,49],[116,50],[116,51]],([]:Y π)))
def S8 (x:Unit):M eC:=TN @iter x
def F3 (x:Unit):M eC:=TN @hX x
def pZ (x:Bool):M w?:=
 (jn (aJ x (aI 1) (aI 3)) λA=>(aA (F3 ()) λz=>(Z (z,[(0,1,(-1),0,(-1),([]:η),([]:η)),(0,20,1,0,0,([]:η),([]:η)),(1,1,(-1),0,(-1),([]:η),([]:η)),(0,4,0,5,0,([]:η),([]:η)),(0,6,0,0,0,([]:η),([]:η)),(0,4,1,6,0,([]:η),([]:η)),(0,7,0,0,0,([]:η),([]:η)),(1,6,0,0,6,([]:η),([]:η)),(1,4,A,7,6,([]:η),([]:η)),(1,7,0,0,6,([]:η),([]:η)),(1,4,0,8,6,([]:η),([]:η))]))))
def vu (x:Unit):M (Bool):=
 (aA (pZ af) λN=>(aA (qS N) λz=>(aA (pZ J) λL=>(aA (qS L) λD=>(jn (α:=Bool) (bm z.2 0 (bm D.2 0 (bm (be z.1) 1 (bX gf z.1 0 λA=>(aJ (Po (.pr aP (.pr aP .un)) (A.1,A.2,()) (3,10,()) !=af) (aI (decide (((be D.1):Int)=0))) (aI af))) (aI af)) (aI af)) (aI af)) λx5=>(Z x5))))))
def qT (x:b!):M (Bool):=
 (jn (bm x.2.1 3 (aI J) (aI (decide ((x.2.1:Int)=4)))) λz=>(Z z))
def tJ (x:gJ×b!):M (Bool):=
 (jn (aA (qT x.1) λA=>(aJ A (aA (qT x.2) λz=>(aJ z (jK x.1.1 x.2.1 (bm x.1.a x.b (bm x.1.2.1 4 (aI J) (aI (decide ((x.a:Int)=4)))) (aI af)) (aI af)) (aI af))) (aI af))) λD=>(Z D))
abbrev L!:=(Y gJ)×Int
def nu (x:L!):M (Int):=
 (iter (σ:=Int) (λz=>(jY 0 z (bX gz x.1 z λD=>(bX gz x.1 x.2 λA=>(bm D.1 A.1 (aI z) (c7 (bn .i64 (z-1)))))) (aI (-1)))) (bn .i64 (x.2-1)))
abbrev C?:=eC×rq×Y BG
abbrev L?:=eC×(Y BG)×b!
def nk (x:eC×rq×L!):M (Y BG):=
 (iter (σ:=Int×C?) (λD=>(bS D.1 (be x.2.1.d) (jn (α:=C?) (bm x.d (be D.2.1.2.1) (jn (α:=C?) (bm D.a.2.1 D.1 (bU (bh (aj D.d+aj ([(D.1,(-1),(-1),af)])) 32) (aI (D.2.1,D.a,(D.d++([(D.1,(-1),(-1),af)]))))) (aI D.2)) λx3=>(aI x3)) (jn (α:=C?) (bX ec D.a.1 x.d λz5=>(bm z5.1 D.1 (bU (bh (aj D.d+aj ([(D.1,(-1),(-1),af)])) 32) (aI (D.2.1,D.a,(D.d++([(D.1,(-1),(-1),af)]))))) (aI D.2))) λx4=>(bX ec x4.2.1.1 x.d λz6=>(iter (σ:=Int×C?) (λx7=>(bS x7.1 (be z6.2) (jn (α:=C?) (bX aP z6.2 x7.1 λz9=>(bm z9 D.1 (bU (bh (aj x7.d+aj ([(D.1,(-1),(-1),J)])) 32) (aI (x7.2.1,x7.a,(x7.d++([(D.1,(-1),(-1),J)]))))) (aI x7.2))) λx8=>(c7 ((cQ x7.1),x8))) (aI (bZ x7.2)))) (0,x4))))) λx2=>(c7 ((cQ D.1),x2))) (aA (iter (σ:=Int×eC×Y BG) (λz=>(bS z.1 (be x.a) (jn (α:=eC×Y BG) (bX gz x.a z.1 λz12=>(aA (pM (z.2.1,z12)) λy13=>(aA (pL (z.2.1,z12)) λy14=>(jn (α:=(ν)×L?) (bm x.d (be z.2.1.2.1) (jn (α:=Int×L?) (bm z12.2.1 12 (aI (x.d,z.2.1,z.2.2,z12)) (aI ((-1),z.2.1,z.2.2,z12))) λx16=>(bm x16.c 13 (aI ((x16.1,x.d),x16.2)) (aI ((x16.1,(-1)),x16.2)))) (aI ((y13.1,y14.1),z.2.1,z.2.2,z12))) λx15=>(jn (α:=L?) (bm x15.1.2 x.d (iter (σ:=Int×L?) (λA=>(bS A.1 (be x15.a) (jn (jn (kq uC A.a A.1 λz21=>(bm z21.1 A.b (kq uC A.a A.1 λz22=>(aI ((gE z22.2.2.1 0),A.2))) (aI (af,A.2)))) λL=>(aJ L.1 (ck (dK A.1 (aj L.a)) (aI (L.2.1,(cC L.a A.1 ((geti uC L.a A.1).1,((geti uC L.a A.1).2).1,z.1,(((geti uC L.a A.1).2).2).2)),L.d))) (aI L.2))) λx19=>(c7 ((cQ A.1),x19))) (aI (bZ A.2)))) (0,x15.2)) (aI x15.2)) λN=>(bm x15.1.1 x.d (bU (bh (aj N.2.1+aj ([(N.a,z.1,(-1),y13.2)])) 32) (aI (N.1,(N.2.1++([(N.a,z.1,(-1),y13.2)]))))) (aI (N.1,N.2.1)))))))) λx11=>(c7 ((cQ z.1),x11))) (aI z.2.2))) (0,D.2.1,D.d)) λr=>Z (bZ r)))) (0,x.1,x.2.1,([]:Y BG)))
def tI (x:Â):M (Bool):=
 (jn (aA (qT x.2) λA=>(aJ A (jY 0 x.b (bS x.b (be x.1.1) (bX lF x.1.1 x.b λz=>(aI z.2.2.2.1)) (aI af)) (aI af)) (aI af))) λD=>(Z D))
def sU (x:L!):M (Int):=
 (aA (nu x) λA=>(jn (bS A 0 (aI J) (bX gz x.1 A λz3=>(aI (!decide ((z3.2.1:Int)=16))))) λx2=>(aJ x2 (Z (-1)) (iter (σ:=Int) (λz=>(bS z x.2 (jn (bX gz x.1 z λz6=>(bm z6.2.1 18 (bX gz x.1 z λz7=>(bX gz x.1 x.2 λz8=>(bm z7.2.2.2.1 z8.1 (aI J) (bX gz x.1 z λz9=>(bm z9.2.1 19 (bX gz x.1 z λz10=>(bX gz x.1 A λz11=>(aI (decide ((z10.2.2.1:Int)=z11.2.2.1))))) (aI af)))))) (bX gz x.1 z λN=>(bm N.2.1 19 (bX gz x.1 z λL=>(bX gz x.1 A λD=>(aI (decide ((L.2.2.1:Int)=D.2.2.1))))) (aI af))))) λx5=>(aJ x5 (aI z) (c7 (cQ z)))) (aI (-1)))) (cQ A)))))
def oM (x:eC×L!):M η:=
 (bX gz x.2.1 x.2.2 λz1=>(iter (σ:=Int×eC×(η)×b!) (λz=>(bS z.1 x.2.2 (bX gz x.2.1 z.1 λz3=>(jn (α:=eC×(η)×b!) (jn (bm z.c 1 (bm z3.2.1 20 (aI ((decide ((z3.a:Int)=z.b)),z.2.1,z.a,z.d,z3)) (aI (af,z.2.1,z.a,z.d,z3))) (aI (af,z.2.1,z.a,z.d,z3))) λL=>(aJ L.1 (bU (bh (aj L.a+aj ([z.1])) 8) (aI (L.2.1,(L.a++([z.1])),L.b))) (jn (bm L.b.2.1 21 (aI ((decide ((L.c:Int)=L.b.a)),L.2)) (aI (af,L.2))) λD=>(aJ D.1 (bU (bh (aj D.a+aj ([z.1])) 8) (aI (D.2.1,(D.a++([z.1])),D.b))) (jn (bm D.b.2.1 3 (aA (tI (D.2.1,D.b)) λy8=>(aJ y8 (bm D.e 4 (aI ((decide ((D.g:Int)=D.b.a)),D.2)) (aI (af,D.2))) (aI (af,D.2)))) (aI (af,D.2))) λA=>(aJ A.1 (bU (bh (aj A.a+aj ([z.1])) 8) (aI (A.2.1,(A.a++([z.1])),A.b))) (jn (bm A.b.2.1 23 (bm A.e 22 (aI ((decide ((A.g:Int)=A.b.a)),A.2.1,A.a,A.b)) (aI (af,A.2.1,A.a,A.b))) (aI (af,A.2.1,A.a,A.b))) λx9=>(aJ x9.1 (bU (bh (aj x9.a+aj ([z.1])) 8) (aI (x9.2.1,(x9.a++([z.1])),x9.d))) (aI x9.2))))))))) λx4=>(c7 ((cQ z.1),x4)))) (aA (jn (α:=η) (bm z.c 17 (aA (sU x.2) λN=>(jY 0 N (bU (bh (aj z.a+aj ([N])) 8) (aI (z.a++([N])))) (aI z.a))) (aI z.a)) λx10=>(Z x10)) λr=>Z (bZ r)))) (0,x.1,([]:η),z1)))
def oh (x:c!):M rq:=
 (iter (σ:=Int×Int×S!) (λz=>(bS z.1 (be x.2.1) (bU (bh (aj z.d+aj ([((-1),([]:η))])) 32) (c7 ((cQ z.1),z.2.1,z.a,(z.d++([((-1),([]:η))]))))) (aI (z.d,z.a,([]:θ),([]:Y eE))))) (0,0,(-1),([]:Y j!)))
def rQ (x:BG×Q?):M (Bool):=
 (jn (jK x.1.1 x.2.1 (aJ x.1.d (aJ (!x.f) (jY 0 x.1.a (aI (gE x.1.a x.a)) (aI af)) (aI af)) (jY 0 x.1.a (aI (gE x.1.a x.a)) (aI af))) (aI af)) λz=>(Z z))
def iv (x:BG×L!):M (Bool):=
 (jn (bX gz x.2.1 x.2.2 λz=>(bm z.1 x.1.1 (jY x.1.2.1 x.2.2 (bS x.1.a 0 (aI J) (aI (dy x.2.2 x.1.a))) (aI af)) (aI af))) λA=>(Z A))
def rP (x:ν×u?):M (Bool×u?):=
 (ck (dK x.1.1 (aj x.2.1)) (bU (dK x.1.2 (aM (m8 x.2.1 x.1.1))) (ky x.1.1 x.2.2 (bX (.bool) (kS (T:=.bool) x.2.2 x.1.1) x.1.2 λz=>(aJ z (Z (af,x.2)) (ck (dK x.1.1 (aj x.2.1)) (bU (dK x.1.2 (aM (m8 x.2.1 x.1.1))) (ky x.1.1 x.2.2 (ky x.1.2 (kS (T:=.bool) x.2.2 x.1.1) (Z (J,x.2.1,(mB (T:=.bool) x.2.2 x.1.1 (cC (kS (T:=.bool) x.2.2 x.1.1) x.1.2 J)))))))))))))
def kr (x:η×Y θ):M (η×Y θ):=
 (iter (σ:=Int×u?) (λD=>(bS D.1 (be x.1) (iter (σ:=Int×u?) (λA=>(bS A.1 (be D.2.1) (jn (α:=u?) (ck (dK A.1 (aj A.2.1)) (bU (dK D.1 (aM (m8 A.2.1 A.1))) (ky A.1 A.2.2 (bX (.bool) (kS (T:=.bool) A.2.2 A.1) D.1 λN=>(aJ (!N) (aI A.2) (iter (σ:=Int×u?) (λz=>(bS z.1 (be A.2.1) (jn (ck (dK D.1 (aj z.2.1)) (bU (dK z.1 (aM (m8 z.2.1 D.1))) (ky D.1 z.2.2 (bX (.bool) (kS (T:=.bool) z.2.2 D.1) z.1 λL=>(aJ L (ck (dK A.1 (aj z.2.1)) (bU (dK z.1 (aM (m8 z.2.1 A.1))) (ky A.1 z.2.2 (ky z.1 (kS (T:=.bool) z.2.2 A.1) (aI (z.2.1,(mB (T:=.bool) z.2.2 A.1 (cC (kS (T:=.bool) z.2.2 A.1) z.1 J)))))))) (aI z.2)))))) λx6=>(c7 ((cQ z.1),x6))) (aI (bZ z.2)))) (0,A.2))))))) λx3=>(c7 ((cQ A.1),x3))) (aI (lJ ((cQ D.1),A.2))))) (0,D.2)) (aI D.2))) (0,x))
abbrev Ä:=Int×(η)×al5×BG×Q?
def ub (x:((Y gJ)×BG×Int×Int×Int×Bool)×u?):M (Bool×u?):=
 (iter (σ:=Ä) (λA=>(bS A.1 (be x.1.1) (iter (σ:=Ä) (λz=>(bS z.1 (be x.1.1) (jn (aA (iv (z.b,x.1.1,A.1)) λy4=>(aJ y4 (aA (iv (z.f,x.1.1,z.1)) λN=>(aJ N (ck (dK A.1 (aj z.2.1)) (bU (dK z.1 (aM (m8 z.2.1 A.1))) (ky A.1 z.a (bX (.bool) (kS (T:=.bool) z.a A.1) z.1 λL=>(aI (L,z.2)))))) (aI (af,z.2)))) (aI (af,z.2)))) λD=>(aJ D.1 (aI (bZ (J,D.2.1,D.a))) (c7 ((cQ z.1),D.2)))) (aI (lJ ((cQ A.1),z.2))))) (0,A.2)) (aI (af,A.2.1,A.a)))) (0,x.2.1,x.2.2,x.1.2))
def uc (x:((Y gJ)×Int)×u?):M (η×al5×k!):=
 (bU (dy 0 (be x.1.1)&&dy (be x.1.1) (be x.1.1)&&bh (aM (be x.1.1)) 24) (iter (σ:=Int×(η)×al5×k!) (λz=>(bS z.1 (be x.1.1) (bU (dy 0 x.1.2&&dy x.1.2 x.1.2&&bh (aM x.1.2) 8) (ck (dK z.1 (aj z.b)) (bU (af|| !(aB (aj (aG (aM x.1.2) (0:Int))) 0)) (iter (σ:=Int×(η)×al5×k!) (λA=>(bS A.1 (be x.1.1) (jn (jn (bm A.1 z.1 (aI (J,A.2)) (ck (dK A.1 (aj A.2.1)) (bU (dK z.1 (aM (m8 A.2.1 A.1))) (ky A.1 A.a (bX (.bool) (kS (T:=.bool) A.a A.1) z.1 λz5=>(aI (z5,A.2))))))) λD=>(aJ D.1 (ck (dK z.1 (aj D.b)) (ky A.1 x.1.1 (lt ((geti gz x.1.1 A.1).1) λL=>(bU (dK L (aM (m8 D.b z.1))) (ky z.1 D.f (bX aP (kS (T:=aP) D.f z.1) L λN=>(bU (dK L (aM (m8 D.b z.1))) (ky z.1 D.f (ky L (kS (T:=aP) D.f z.1) (aI (D.2.1,D.a,D.b,(mB (T:=aP) D.f z.1 (cC (kS (T:=aP) D.f z.1) L (cQ N)))))))))))))) (aI D.2))) λx3=>(c7 ((cQ A.1),x3))) (aI (lJ ((cQ z.1),A.2))))) (0,z.2.1,z.a,(oG z.b (aM z.1) (aS (aj (aG (aM x.1.2) (0:Int))))),(mB (T:=aP) z.f z.1 (aG (aM x.1.2) (0:Int)))))))) (aI z.2))) (0,x.2.1,x.2.2,(aG (aM (be x.1.1)) (0:Int)),(aG (aM (be x.1.1)) ([]:η)))))
abbrev o?:=(eC×Y gJ)×(η)×(Y (Y BG))×Y θ
abbrev y?:=(eC×Y gJ)×(η)×(Y (Y BG))×BG×Y θ
abbrev G?:=Int×(eC×Y gJ)×(η)×(Y (Y BG))×BG×BG×Y θ
abbrev N!:=Int×(eC×Y gJ)×u?
def sT (x:w?):M (η×Y η):=
 (bU (dy 0 (be x.2)&&dy (be x.2) (be x.2)&&bh (aM (be x.2)) 24) (iter (σ:=N!) (λx1=>(bS x1.1 (aS (aj (aG (aM (be x.2)) (0:Int)))) (bU (dy 0 (be x.2)&&dy (be x.2) (be x.2)&&bh (aM (be x.2)) 1) (ck (dK x1.1 (aj x1.a)) (bU (af|| !(aB (aj (aG (aM (be x.2)) (af:Bool))) 0)) (c7 ((cQ x1.1),x1.2.1,(oG x1.a (aM x1.1) (aS (aj (aG (aM (be x.2)) (af:Bool))))),(mB (T:=.bool) x1.d x1.1 (aG (aM (be x.2)) (af:Bool)))))))) (aA (iter (σ:=N!) (λx2=>(bS x2.1 (be x.2) (jn (aA (nu (x.2,x2.1)) λy4=>(jY 0 y4 (ck (dK y4 (aj x2.a)) (bU (dK x2.1 (aM (m8 x2.a y4))) (ky y4 x2.d (ky x2.1 (kS (T:=.bool) x2.d y4) (aI (x2.2.1,x2.a,(mB (T:=.bool) x2.d y4 (cC (kS (T:=.bool) x2.d y4) x2.1 J)))))))) (aI x2.2))) λx3=>(aA (oM (x3.1.1,x.2,x2.1)) λy5=>(iter (σ:=N!) (λx6=>(bS x6.1 (be y5) (bX aP y5 x6.1 λz7=>(ck (dK z7 (aj x6.a)) (bU (dK x2.1 (aM (m8 x6.a z7))) (ky z7 x6.d (ky x2.1 (kS (T:=.bool) x6.d z7) (c7 ((cQ x6.1),x6.2.1,x6.a,(mB (T:=.bool) x6.d z7 (cC (kS (T:=.bool) x6.d z7) x2.1 J))))))))) (aI (lJ ((cQ x2.1),x6.2))))) (0,x3)))) (aA (iter (σ:=Int×o?) (λx8=>(jY x8.1 (be x8.2.1.1.2.1) (aA (oh x8.2.1.1) λy9=>(aA (nk (x8.2.1.1,y9,x.2,x8.1)) λy10=>(bU (bh (aj x8.b+aj ([y10])) 24) (iter (σ:=Int×o?) (λx11=>(bS x11.1 (be y10) (bX uC y10 x11.1 λz12=>(iter (σ:=Int×y?) (λD=>(bS D.1 (be y10) (jn (α:=y?) (bX uC y10 D.1 λz15=>(aA (rQ (D.c,z15)) λy16=>(aJ (!y16) (aI D.2) (iter (σ:=G?) (λx17=>(bS x17.1 (be x.2) (iter (σ:=G?) (λL=>(bS L.1 (be x.2) (jn (jn (aA (iv (L.c,x.2,x17.1)) λy21=>(aJ y21 (aA (iv (L.e,x.2,L.1)) λy22=>(aJ y22 (bX gz x.2 x17.1 λz23=>(bX gz x.2 L.1 λz24=>(aA (tJ (z23,z24)) λy25=>(aI (y25,L.2))))) (aI (af,L.2)))) (aI (af,L.2)))) λA=>(aJ A.1 (ck (dK A.c.a (aj A.a)) (bU (dK L.1 (aM (m8 A.a A.c.a))) (ky A.c.a A.k (ky L.1 (kS (T:=.bool) A.k A.c.a) (aI (A.2.1,A.a,A.b,A.c,A.e,(mB (T:=.bool) A.k A.c.a (cC (kS (T:=.bool) A.k A.c.a) L.1 J)))))))) (aI A.2))) λx19=>(c7 ((cQ L.1),x19))) (aI (lJ ((cQ x17.1),L.2))))) (0,x17.2)) (aI (bZ (x17.2.1,x17.a,x17.b,x17.c,x17.k))))) (0,D.2.1,D.a,D.b,D.c,z15,D.h))))) λx14=>(c7 ((cQ D.1),x14))) (aI (lJ ((cQ x11.1),D.2.1,D.a,D.b,D.h))))) (0,x11.2.1,x11.a,x11.b,z12,x11.f))) (aI (lJ ((cQ x8.1),x11.2))))) (0,x8.2.1,x8.a,(x8.b++([y10])),x8.f))))) (aA (aA (kr (x8.a,x8.f)) λy26=>(bU (aB (aj x8.a) (aj y26.1)&&J) (iter (σ:=Bool×o?) (λx27=>(aJ x27.1 (iter (σ:=(Bool×Int)×o?) (λN=>(bS N.1.2 (be x27.b) (kq (.sl uC) N.b N.1.2 λz29=>(iter (σ:=(Bool×Int)×o?) (λx30=>(bS x30.1.2 (be z29) (bX uC z29 x30.1.2 λz31=>(iter (σ:=(Bool×Int)×y?) (λz=>(bS z.1.2 (be z29) (jn (bX uC z29 z.1.2 λz34=>(jn (aA (rQ (z.c,z34)) λy36=>(aJ y36 (jY 0 z34.a (aA (ub ((x.2,z.c,z34),z.a,z.h)) λy37=>(bU (aB (aj z.a) (aj y37.2.1)&&J) (aJ y37.1 (aA (rP ((z.c.a,z34.a),y37.2)) λy38=>(bU (aB (aj y37.2.1) (aj y38.2.1)&&J) (aI (y38.1,z.2.1,y38.2.1,z.b,z.c,y38.2.2)))) (aI (af,z.2.1,y37.2.1,z.b,z.c,y37.2.2))))) (aI (af,z.2))) (aI (af,z.2)))) λx35=>(aJ x35.1 (aI (J,x35.2)) (aI (z.1.1,x35.2))))) λx33=>(c7 ((x33.1,(cQ z.1.2)),x33.2))) (aI (lJ ((z.1.1,(cQ x30.1.2)),z.2.1,z.a,z.b,z.h))))) ((x30.1.1,0),x30.2.1,x30.a,x30.b,z31,x30.f))) (aI (lJ ((x30.1.1,(cQ N.1.2)),x30.2))))) ((N.1.1,0),N.2))) (aA (aA (kr (N.a,N.f)) λy39=>(bU (aB (aj N.a) (aj y39.1)&&J) (c7 (N.1.1,N.2.1,y39.1,N.b,y39.2)))) λr=>Z (bZ r)))) ((af,0),x27.2)) (aA (aA (uc ((x.2,(be x27.2.1.1.c)),x27.a,x27.f)) λy40=>(bU (aB (aj x27.a) (aj y40.1)&&J) (Z y40.2.2))) λr=>Z (bZ r)))) (J,x8.2.1,y26.1,x8.b,y26.2)))) λr=>Z (bZ r)))) (0,x2.2.1,x2.a,([]:Y (Y BG)),x2.d)) λr=>Z (bZ r)))) (0,x1.2)) λr=>Z (bZ r)))) (0,x,(aG (aM (be x.2)) (0:Int)),(aG (aM (be x.2)) ([]:θ)))))
abbrev U!:=(ν×Int)×Y η
def BY (x:U!):M (Int×Y η):=
 (jn (bS x.1.2 0 (aI (((x.1.1.1,aS (aM x.1.1.2)),J),x.2)) (aI (((x.1.1.1,aS (aM x.1.1.2)),(dy (aS (aM x.1.1.2)) x.1.2)),x.2))) λz=>(aJ z.1.2 (Z (0,z.2)) (bU (dK x.1.2 (aM z.1.1.2)) (ky z.1.1.1 z.2 (bX aP (kS (T:=aP) z.2 z.1.1.1) x.1.2 λA=>(Z (A,z.2)))))))
abbrev B?:=(η×Int×Int)×Y η
def Di (it:Dr) (x:B?):M aac:=
 (it U! _ (λz=>(bS z.1.2 (lX (be x.1.1) (aS (aM z.1.1.2))) (aA (FY (x.1.1,z.1.2)) λD=>(aA (BY (((z.1.1.1,aS (aM z.1.1.2)),z.1.2),z.2)) λA=>(bS A.1 D (aI (af,A.2)) (c7 (((z.1.1.1,aS (aM z.1.1.2)),(cQ z.1.2)),A.2))))) (aI (J,z.2)))) (((x.1.2.1,aS (aM x.1.2.2)),0),x.2))
def H0 (x:B?):M aac:=Di @iter x
def sW (x:B?):M aac:=Di @hX x
abbrev X!:=(ν×η)×Y η
def Dh (it:Dr) (x:X!):M aac:=
 (it U! _ (λz=>(bS z.1.2 (lX (aS (aM z.1.1.2)) (be x.1.2)) (aA (BY (((z.1.1.1,aS (aM z.1.1.2)),z.1.2),z.2)) λA=>(aA (FY (x.1.2,z.1.2)) λD=>(bS D A.1 (aI (af,A.2)) (c7 (((z.1.1.1,aS (aM z.1.1.2)),(cQ z.1.2)),A.2))))) (aI (J,z.2)))) (((x.1.1.1,aS (aM x.1.1.2)),0),x.2))
def HZ (x:X!):M aac:=Dh @iter x
def sV (x:X!):M aac:=Dh @hX x
def Al (x:B?):M aac:=
 (jn (aA (sW ((x.1.1,x.1.2.1,aS (aM x.1.2.2)),x.2)) λz=>(aJ z.1 (aA (sV (((x.1.2.1,aS (aM x.1.2.2)),x.1.1),z.2)) λA=>(aI A)) (aI (af,z.2)))) λD=>(Z D))
def tO (it:Dr) (x:(Y η)×k!):M (Bool×k!):=
 (jK (be x.1) (be x.2.1) (Z (af,x.2)) (it (Int×k!) _ (λz=>(bS z.1 (be x.1) (bX (.sl aP) x.1 z.1 λD=>(ck (dK z.1 (aj z.2.1)) (aA (Al ((D,z.1,aS (aM (m8 z.2.1 z.1))),z.2.2)) λA=>(aJ (!A.1) (aI (af,z.2.1,A.2)) (c7 ((cQ z.1),z.2.1,A.2)))))) (aI (J,z.2)))) (0,x.2)))
def xS (x:(Y η)×k!):M (Bool×k!):=tO @iter x
def kc (x:(Y η)×k!):M (Bool×k!):=tO @hX x
def nO (x:η×Q!):M (Bool):=
 (aA (oL (x,24)) λL=>(aA (rL L) λD=>(jn (bm D.2 0 (aA (sT L) λA=>(aA (kc (D.1,A)) λz=>(bU (aB (aj A.1) (aj z.2.1)&&J) (aJ z.1 (aA (vu ()) λN=>(aI N)) (aI af))))) (aI af)) λx3=>(Z x3))))
variable {R:Type}
@[simp] theorem LL (t f:M R):aJ J t f=t:=Eq.trans rfl rfl
@[simp] theorem ap0 (t f:M R):aJ af t f=f:=Eq.trans rfl rfl
@[simp] theorem chk_t (k:J=J->M R):chk J k=k rfl:=Eq.trans rfl rfl
def wI (h:b=J) (k:M R):chk b (λ_=>k)=k:=by cases b with|true=>rfl|false=>cases h
@[simp] theorem abo {α:Type} (x:α) (k:α->M R):aA (Z x) k=k x:=Eq.trans rfl rfl
@[simp] theorem anp {α:Type} (x:α) (k:α->M R):jn (Z (.inr x)) k=k x:=Eq.trans rfl rfl
@[simp] theorem jn_l {α:Type} (r:R) (k:α->M R):jn (Z (.inl r)) k=Z r:=Eq.trans rfl rfl
def anq {σ:Type} {f:σ->M (σ⊕R)} {x:σ} {r:R} (h:iterN f i x=Z r) (z:i<=18446744073709551616):hX f x=Z r:=yQ h z
def aja {σ:Type} {f:σ->M (σ⊕R)} (n:Nat) (A:n<18446744073709551616) (st:Nat->σ) {r:R} (h0:∀i,i<n->f (st i)=Z (.inl (st (i+1)))) (h1:f (st n)=Z (.inr r)):hX f (st 0)=Z r:=by
 have key:∀k i,i+k=n->iterN f (k+1) (st i)=Z r:=by
  intro k;induction k with
  |zero=>intro i hi;have:i=n:=by omega
         subst this;simp[iterN,h1]
  |succ k z=>intro i hi;rw[iterN,h0 i (by omega)];exact z (i+1) (by omega)
 exact anq (key n 0 (by omega)) (by omega)
@[simp] theorem ajm {b:Int}:dy a b=J↔a<=b:=by unfold dy;simp
@[simp] theorem ajk {b:Int}:gE a b=J↔a<b:=by unfold gE;simp
def Gb {b:Int} (h:a<=b):dy a b=J:=ajm.2 h
def VM {b:Int} (h:a<b):gE a b=J:=ajk.2 h
def aqw {b:Int} (h:b<a):dy a b=af:=by unfold dy;simp;omega
def ajl {b:Int} (h:b<=a):gE a b=af:=by unfold gE;simp;omega
def ax2 (h0:0<=a) (h1:a<i):dK a i=J:=by unfold dK;rw[Gb h0,VM h1];rfl
def vy (h1:j<i):dK (j:Int) i=J:=ax2 (by omega) (by omega)
def ab7 (h0:i<=1099511627776) (h1:i*j<=1099511627776):bh i j=J:=by
 unfold bh;rw[bj h0,bj h1];rfl
def aqe (h0: -9223372036854775808<=a) (h1:a<=9223372036854775807):bn .i64 a=a:=by
 rw[Lm];unfold Q3;simp only[];rw[Gb h0,Gb h1];rfl
def Q2 (h:i<j) (z:j<=1099511627776):bn .i64 ((i:Int)+1)=((i+1:Nat):Int):=by
 rw[aqe (by omega) (by omega)];omega
def Ga (a b:Nat):lX (aS a) (aS b)=((max a b:Nat):Int):=by
 unfold lX;by_cases h:a<b
 .rw[VM (by simp;omega),aE rfl];simp;omega
 .rw[ajl (by simp;omega)];simp;omega
def ajw (xs:Y T.den) (i:Nat):geti _ xs (i:Int)=xs.getD i T.zero:=by unfold geti;simp
def ry (xs:Y R) (i:Nat) (x:R):cC xs (i:Int) x=xs.set i x:=by unfold cC;simp
def big:Nat:=1000000000
def jl (a b:η):η:=(dE (max (l! a) (l! b))).map λi=>lX (a.getD i 0) (b.getD i 0)
def Ic (a b:η):l! (jl a b)=max (l! a) (l! b):=by simp[jl]
def MI (a b:η) (i:Nat):(jl a b).getD i 0=lX (a.getD i 0) (b.getD i 0):=by
 unfold jl;simp[aF,bE];by_cases h:i<max (l! a) (l! b)
 .grind
 .rw[dI (by grind),dI (l:=a) (by omega),dI (l:=b) (by omega)];rfl
def Pd (c:η) (i:Nat):nD (c,(i:Int))=Z (c.getD i 0):=by
 unfold nD bS ky be aI;rw[ajl (by omega)];by_cases h:i<l! c
 .rw[aqw (by grind)];rw[wI (vy h),ajw];rfl
 .rw[Gb (by grind)];simp_all
def aqo:FY=nD:=rfl
def UE (a b:η) (N:l! a<=big) (L:l! b<=big):lx (a,b)=Z (jl a b):=by
 unfold big at N L;unfold lx xu ck bS bU be c7 aI cQ;rw[wI (by simp only[Ga];rw[Gb (by omega),Gb (by omega),ab7 (by omega) (by omega)];rfl)];simp only[Ga,a8,dx];have:=aja (σ:=j!) (R:=η) (max (l! a) (l! b)) (by omega) (λi=>((i:Int),(dE (max (l! a) (l! b))).map λk=>if k<i then lX (a.getD k 0) (b.getD k 0) else 0)) (f:=(λz=>(aJ (gE z.1 (aS (max (l! a) (l! b)))) (aA (nD (a,z.1)) λD=>(aA (nD (b,z.1)) λA=>(chk (dK z.1 (aj z.2)) λ_=>(chk (dK z.1 (aj z.2)) λ_=>(Z (lJ ((bn .i64 (z.1+1)),(cC z.2 z.1 (lX D A))))))))) (Z (bZ z.2))))) (r:=jl a b) ?_ ?_
 .refine Eq.trans ?_ this;congr 1;simp[Int.natCast_zero,bN,dV,aT,true_and];apply sE<;>simp
 .intro i hi;rw[VM (by grind),LL,Pd,Pd,abo,abo,wI (vy (by grind)),wI (vy (by grind)),Q2 hi (by omega),ry];congr 3;apply sE
  .simp
  .grind
 .simp[];rw[ajl (by simp),ap0];unfold jl;simp_all
def tk (c:η) (t:Nat):η:=(c++aG (t+1-l! c) 0).set t (c.getD t 0+1)
def Q6 (c:η) (t:Nat):l! (tk c t)=max (l! c) (t+1):=by simp[tk];omega
def padD (c:η) (n i:Nat):(c++aG n 0).getD i 0=c.getD i 0:=by grind
def EL (c:η) (t i:Nat):(tk c t).getD i 0=if i=t then c.getD t 0+1 else c.getD i 0:=by
 unfold tk
 grind
def akd (c:η) (n:Nat) (h:l! c<=n):Yr (aG n 0) c=c++aG (n-l! c) 0:=by
 unfold Yr;rw[dx,iE h,List.drop_replicate]
def apf (c:η) (t:Nat) (A:l! c<=big) (ht:t<4) (h0:0<=c.getD t 0) (h1:c.getD t 0<9223372036854775807):qY (c,(t:Int))=Z (tk c t):=by
 unfold big at A;unfold qY ck jY bU be aI cQ;rw[Gb (by omega),LL,anp,VM (by omega)];simp only[LL,anp];have L:lX (aS (l! c)) (bn .i64 ((t:Int)+1))=((max (l! c) (t+1):Nat):Int):=by
  rw[Q2 ht (by omega)];exact Ga _ _
 rw[L];rw[wI (by rw[Gb (by omega),Gb (by omega),ab7 (by omega) (by omega)];rfl)];rw[a8];have e2:Yr (aG (max (l! c) (t+1)) (0:Int)) c=c++aG (t+1-l! c) 0:=by
  rw[akd c _ (by omega)]
  grind
 rw[e2];have z:t<l! (c++aG (t+1-l! c) (0:Int)):=by simp;omega
 rw[wI (vy z),wI (vy z),anp];have D:geti aP (c++aG (t+1-l! c) (0:Int)) (t:Int)=c.getD t 0:=by
  exact padD c _ t
 rw[D,VM h1,LL,wI (vy z),wI (vy z),wI (vy z),wI (vy z),anp,aqe (by omega) (by omega),ry];rfl
abbrev WO:Type:=(Int×Int×Int×Int×Bool)×Y (Int×Bool)×Y (Int×Bool)
def fc (l:Y ET) (i:Nat):Nat:=(eN l i).1.toNat
def ct (l:Y ET) (u:Nat):Nat->Nat
 |0=>0
 |n+1=>ct l u n+if fc l n=u then 1 else 0
def Hb (l:Y ET) (u:Nat):∀{n m:Nat},n<=m->ct l u n<=ct l u m:=by
 intro n m h;induction h with
 |refl=>exact bJ _
 |step _ z=>exact dc z (by simp only[ct];omega)
def axf (l:Y ET) (u:Nat):∀n,ct l u n<=n
 |0=>bJ _
 |n+1=>by have:=axf l u n;simp only[ct];split<;>omega
def Fi (l:Y ET) (i:Nat):ct l (fc l i) (i+1)=ct l (fc l i) i+1:=by simp only[ct,bq]
def EA (T j:Nat) (x:η):Prop:=l! x=T/\∀u:Nat,u<T-> -1<=x.getD u 0/\x.getD u 0<(j:Int)
def EA.up (h:EA i j z):EA i (j+1) z:=⟨h.1,λu x=>by have:=h.2 u x;omega⟩
def EA.set (h:EA i j z) (u:Nat) (h0: -1<=a) (h1:a<=(j:Int)):EA i (j+1) (cC z (u:Int) a):=by
 refine ⟨by rw[bW];exact h.1,λk x=>?_⟩;rw[ry,aF,em];by_cases e:u=k
 .grind
 .rw[ax e,<-aF];have:=h.2 k x;omega
def EA.geti {T:Nat} (h:EA T j z) (h0:0<=a) (h1:a<T): -1<=AI.geti (T:=aP) z a/\AI.geti (T:=aP) z a<(j:Int):=by
 have e:a=((a.toNat:Nat):Int):=by omega
 exact h.2 _ (by omega)
def Pp (n j:Nat) (st:η) (si:Y η):Prop:=l! st=n/\l! si=n/\∀o:Nat,o<n->st.getD o 0=(l! (si.getD o []):Int)/\l! (si.getD o [])<=j/\∀v∈si.getD o [],0<=v/\v<(j:Int)
def Pp.up {si:Y η} (h:Pp i j z si):Pp i (j+1) z si:=⟨h.1,h.2.1,λo A=>by let⟨a,b,c⟩:=h.2.2 o A;exact⟨a,by omega,λv st=>by have:=c v st;omega⟩⟩
def Aq (z:η) (o:Nat):m8 z (o:Int)=z.getD o 0:=by unfold m8;rw[a8]
def tH (xss:Y η) (o:Nat):kS (T:=aP) xss (o:Int)=xss.getD o []:=by unfold kS;rw[a8]
def tY (w:WT) (la sp wa:η) (si ei:Y η) (e:ET):η:=[geti aP la e.1]++
 (if e.2.1=1 then [geti aP sp e.1] else if e.2.1=21 then [geti aP la e.2.2.1] else if e.2.1=23 then kS (T:=aP) ei e.2.2.1
  else if e.2.1=3 then (if (geti lF w.1 e.2.2.1).2.2.2.1=J then kS (T:=aP) si e.2.2.1 else []) else if e.2.1=17 then [geti aP wa e.1] else [])
def YD {w:WT} {e:ET} (hev:Ht w e) (hj:j<=1000) {c:Y η} {tm:Y ν} {sp wa wt st se:η} {op:Y d?} {re:η} {ar:Y WO} {si ei:Y η}
 (h1:EA (l! w.2.2.2.2.1) j z) (h2:EA (l! w.2.2.2.2.1) j sp) (h3:EA (l! w.2.2.2.2.1) j wa) (h4:Pp (l! w.1) j st si) (h5:Pp (l! w.2.2.2.1) j se ei):
 iX (e,(w,k),c,tm,z,sp,wa,wt,st,se,op,re,ar,si,ei)=Z (tY w z sp wa si ei e,(w,k),c,tm,z,sp,wa,wt,st,se,op,re,ar,si,ei):=by
 refine cI ?_;let⟨nm,L,D,cd⟩:=hev;let⟨t,l,o,v,s,r1,r2⟩:=e;dsimp only at nm L D;unfold iX ly me md CY bk bD bQ cS eV kZ mw nM Prod.r ck bm ky bU bX kq aI;dsimp only;have l1:=h1.1;have l2:=h2.1;have l3:=h3.1;have gY:∀{R:Type} {Q:R->Prop} {x:η} {u:Int} {l:Int->M R},l! x=l! w.2.2.2.2.1->0<=u->u<l! w.2.2.2.2.1->Ok (l (geti aP x u)) Q->Ok (chk (dK u (l! x)) λ_=>chk (dK u (l! x)) λ_=>lt (geti aP x u) l) Q:=λhl h0 h1 hk=>aR h0 (by omega) (aR h0 (by omega) (aU hk))
 refine gY l1 L D ?_;refine aV (λx=>x=((w,k),c,tm,z,sp,wa,wt,st,se,op,re,ar,si,ei,tY w z sp wa si ei (t,l,o,v,s,r1,r2))) ?_ ?_
 .refine aK (λg=>?_) λg1=>?_
  .refine gY l2 L D (bG (by simp) (by omega) (ak ?_));dsimp only;unfold tY;dsimp only;rw[aE g]
  refine aK (λg=>?_) λg2=>?_
  .obtain⟨la,A⟩:=nm.th (.inr g);refine gY l1 la A (bG (by simp) (by omega) (ak ?_));dsimp only;unfold tY
   grind
  have lst:∀{n:Nat} {xs:η} {xss:Y η},Pp n j xs xss->0<=o->o<n->aB (aM (m8 xs o)) (aj (kS (T:=aP) xss o))=J/\(aj (kS (T:=aP) xss o))<=j/\l! xs=n/\l! xss=n:=λ{n xs xss} h la A=>by
   have e:o=((o.toNat:Nat):Int):=by omega
   let⟨a,b,cc⟩:=h.2.2 o.toNat (by omega);rw[e,Aq,tH,a,a8];exact⟨gr _,b,h.1,h.2.1⟩
  refine aK (λg=>?_) λg3=>?_
  .obtain⟨la,A⟩:=nm.fu (.inr g);let⟨N,q2,q3,q4⟩:=lst h5 la A;refine aR la (by omega) (aR la (by omega) (aR la (by omega) (bl N (bG (by rw[cH];omega) (by omega) (ak ?_)))));dsimp only;unfold tY
   grind
  refine aK (λg=>?_) λg4=>?_
  .obtain⟨la,A⟩:=nm.ce (.inl g);let⟨N,q2,q3,q4⟩:=lst h4 la A;refine aR la A (aU ?_);refine aQ (λgv=>?_) λgv=>?_
   .refine aR la (by omega) (aR la (by omega) (aR la (by omega) (bl N (bG (by rw[cH];omega) (by omega) (ak ?_)))));dsimp only;unfold tY
    grind
   .refine ak ?_;dsimp only;unfold tY
    grind
  refine aK (λg=>?_) λg5=>?_
  .refine gY l3 L D (bG (by simp) (by omega) (ak ?_));dsimp only;unfold tY
   grind
  .refine ak ?_;dsimp only;unfold tY
   grind
 .rintro x rfl;exact ak rfl
def YV (o j:Int) (n:Nat) (wt wa:η):η:=(dE (l! wa)).map λu=>if u<n/\wt.getD u 0=o then j else wa.getD u 0
def Vw (o:Int) (n:Nat) (wt:η):η:=(dE (l! wt)).map λu=>if u<n/\wt.getD u 0=o then -1 else wt.getD u 0
def S7 (o j:Int) (n:Nat) (wt wa:η):l! (YV o j n wt wa)=l! wa:=by simp[YV]
def S6 (o:Int) (n:Nat) (wt:η):l! (Vw o n wt)=l! wt:=by simp[Vw]
def abu (o j:Int) (n:Nat) (wt wa:η) (z:i<l! wa):(YV o j n wt wa).getD i 0=if i<n/\wt.getD i 0=o then j else wa.getD i 0:=by
 unfold YV
 grind
def abt (o:Int) (n:Nat) (wt:η) (z:i<l! wt):(Vw o n wt).getD i 0=if i<n/\wt.getD i 0=o then -1 else wt.getD i 0:=by
 unfold Vw
 grind
def aiv (o j:Int) (wt wa:η):YV o j 0 wt wa=wa:=by
 unfold YV;apply sE
 .simp
 .intro k h1 z;simp[aF,aH z]
def aiu (o:Int) (wt:η):Vw o 0 wt=wt:=by
 unfold Vw;apply sE
 .simp
 .intro k h1 z;simp[aF,aH z]
def asw {j:Int} {wa:η} (h:z.getD i 0≠a):YV a j (i+1) z wa=YV a j i z wa:=by
 unfold YV
 grind
def asv (h:z.getD i 0≠a):Vw a (i+1) z=Vw a i z:=by
 unfold Vw
 grind
def ang {j:Int} {wa:η} (h:z.getD i 0=a):YV a j (i+1) z wa=cC (YV a j i z wa) (i:Int) j:=by
 rw[ry];unfold YV;apply sE
 .simp
 .grind
def anf (h:z.getD i 0=a):Vw a (i+1) z=cC (Vw a i z) (i:Int) (-1):=by
 rw[ry];unfold Vw;apply sE
 .simp
 .grind
def z_ (j:Int) (e:ET) (sp:η):η:=if e.2.1=20 then cC sp e.2.2.1 j else sp
def EJ (j:Int) (e:ET) (wt wa:η):η:=if e.2.1=18 then (if 0<=e.2.2.2.1 then cC wa e.2.2.2.1 j else wa) else if e.2.1=19 then YV e.2.2.1 j (l! wt) wt wa else wa
def HE (e:ET) (wt:η):η:=if e.2.1=16 then cC wt e.1 e.2.2.1 else if e.2.1=18 then (if 0<=e.2.2.2.1 then cC wt e.2.2.2.1 (-1) else wt) else if e.2.1=19 then Vw e.2.2.1 (l! wt) wt else wt
def QQ (k:Int) (j:Int) (e:ET) (st:η) (si:Y η):η:=if e.2.1=k then oG st (aM e.2.2.1) (aS (aj (kS (T:=aP) si e.2.2.1++[j]))) else st
def QP (k:Int) (j:Int) (e:ET) (si:Y η):Y η:=if e.2.1=k then mB (T:=aP) (mB (T:=aP) si e.2.2.1 []) e.2.2.1 (kS (T:=aP) si e.2.2.1++[j]) else si
def adb (k j:Int) (e:ET) (si:Y η) (A:i<l! si) (h0:e.2.1=k->0<=e.2.2.1):(QP k j e si).getD i []=if e.2.1=k/\e.2.2.1=(i:Int) then si.getD i []++[j] else si.getD i []:=by
 unfold QP;by_cases h:e.2.1=k
 .rw[aE h];have z:e.2.2.1=((e.2.2.1.toNat:Nat):Int):=by omega
  unfold mB;rw[aF,em];by_cases q:e.2.2.1.toNat=i
  .rw[aE q,dD,aE (by omega),aE ⟨h,by omega⟩];simp only[Option.getD_some];rw[z,tH,q]
  .grind
 .grind
def ap3 (k j:Int) (e:ET) (si:Y η):l! (QP k j e si)=l! si:=by
 unfold QP mB;split
 .simp
 .rfl
def ap4 (k j:Int) (e:ET) (st:η) (si:Y η) (A:i<l! st) (h0:e.2.1=k->0<=e.2.2.1):(QQ k j e st si).getD i 0=if e.2.1=k/\e.2.2.1=(i:Int) then (l! (si.getD i []++[j]):Int) else st.getD i 0:=by
 unfold QQ;by_cases h:e.2.1=k
 .rw[aE h];have z:e.2.2.1=((e.2.2.1.toNat:Nat):Int):=by omega
  rw[aF,em];by_cases q:e.2.2.1.toNat=i
  .rw[aE q,aE (by omega),aE ⟨h,by omega⟩];rw[z,tH,q];rfl
  .grind
 .grind
def Pp.ad {si:Y η} (h:Pp i j z si) (k:Int) (e:ET) (h0:e.2.1=k->0<=e.2.2.1):Pp i (j+1) (QQ k (j:Int) e z si) (QP k (j:Int) e si):=by
 let⟨a,b,c⟩:=h;refine ⟨by unfold QQ;split<;>simp[a],by rw[ap3,b],λo st=>?_⟩;rw[ap4 _ _ _ _ _ (by omega) h0,adb _ _ _ _ (by omega) h0]
 grind
def EA.wa {wt:η} (h:EA i j z) (e:ET) (A:e.2.1=18->e.2.2.2.1<i):EA i (j+1) (EJ (j:Int) e wt z):=by
 unfold EJ;split
 .rename_i g;split
  .rename_i D;have e0:e.2.2.2.1=((e.2.2.2.1.toNat:Nat):Int):=by omega
   exact h.set _ (by omega) (dg _)
  .exact h.up
 .split
  .refine ⟨by rw[S7];exact h.1,λu wa=>?_⟩;rw[abu _ _ _ _ _ (by rw[h.1];exact wa)];split
   .omega
   .have:=h.2 u wa;omega
  .exact h.up
def LS (e:ET) (wt:η):l! (HE e wt)=l! wt:=by
 unfold HE;split
 .exact bW _ _ _
 .split
  .split
   .exact bW _ _ _
   .rfl
  .split
   .exact S6 _ _ _
   .rfl
def EA.sp (h:EA i j z) (e:ET) (h0:e.2.1=20->0<=e.2.2.1):EA i (j+1) (z_ (j:Int) e z):=by
 unfold z_;split
 .rename_i g;have e0:e.2.2.1=((e.2.2.1.toNat:Nat):Int):=by omega
  exact h.set _ (by omega) (dg _)
 .exact h.up
def ak8 {w:WT} {e:ET} (hev:Ht w e) (hj:j<=1000) (hT:l! w.2.2.2.2.1<=4) (hv:e.2.1=18->e.2.2.2.1<l! w.2.2.2.2.1) {c:Y η} {tm:Y ν} {sp wa wt st se:η} {op:Y d?} {re:η} {ar:Y WO} {si ei:Y η}
 (h1:EA (l! w.2.2.2.2.1) j z) (h2:EA (l! w.2.2.2.2.1) j sp) (h3:EA (l! w.2.2.2.2.1) j wa) (hwt:l! wt=l! w.2.2.2.2.1) (h4:Pp (l! w.1) j st si) (h5:Pp (l! w.2.2.2.1) j se ei):
 gL (((j:Int),e),(w,k),c,tm,z,sp,wa,wt,st,se,op,re,ar,si,ei)=Z ((w,k),c,tm,cC z e.1 (j:Int),z_ (j:Int) e sp,EJ (j:Int) e wt wa,HE e wt,QQ 4 (j:Int) e st si,QQ 22 (j:Int) e se ei,op,re,ar,QP 4 (j:Int) e si,QP 22 (j:Int) e ei):=by
 refine cI ?_;let⟨nm,N,t1,cd⟩:=hev;let⟨t,l,o,v,s,D,A⟩:=e;dsimp only at nm N t1 hv;unfold gL mK ly me md CY Prod.t Prod.D bk bD bQ cS eV kZ mw nM Prod.r eh iS Li ck bm bS jY ky bU kq be c7 aI cQ;dsimp only;have l1:=h1.1;have l2:=h2.1;have l3:=h3.1;have cB:∀{R:Type} {Q:R->Prop} {n:Nat} {u:Int} {l:M R},0<=u->u<n->Ok l Q->Ok (ck (dK u n) l) Q:=λh0 h1 hk=>aR h0 h1 (aR h0 h1 hk)
 refine cB N (by omega) ?_;refine aV (λx=>x=((w,k),c,tm,cC z t (j:Int),z_ (j:Int) (t,l,o,v,s,D,A) sp,EJ (j:Int) (t,l,o,v,s,D,A) wt wa,HE (t,l,o,v,s,D,A) wt,QQ 4 (j:Int) (t,l,o,v,s,D,A) st si,QQ 22 (j:Int) (t,l,o,v,s,D,A) se ei,op,re,ar,QP 4 (j:Int) (t,l,o,v,s,D,A) si,QP 22 (j:Int) (t,l,o,v,s,D,A) ei)) ?_ ?_
 .unfold z_ EJ HE QQ QP;dsimp only;have lst:∀{n:Nat} {xs:η} {xss:Y η},Pp n j xs xss->0<=o->o<n->aB (aM (m8 xs o)) (aj (kS (T:=aP) xss o))=J/\(aM (m8 xs o))<=j/\l! xs=n/\l! xss=n:=λ{n xs xss} h la L=>by
   have e:o=((o.toNat:Nat):Int):=by omega
   let⟨a,b,cc⟩:=h.2.2 o.toNat (by omega);rw[e,Aq,tH,a,a8];exact⟨gr _,b,h.1,h.2.1⟩
  refine aK (λg=>?_) λg1=>?_
  .obtain⟨la,L⟩:=nm.th (.inl g);refine cB la (by omega) (ak ?_);subst g;simp only[c8,bq,dV]
  refine aK (λg=>?_) λg2=>?_
  .obtain⟨la,L⟩:=nm.fu (.inl g);let⟨q1,q2,q3,q4⟩:=lst h5 la L;refine cB la (by omega) (aR la (by omega) (cF (bl q1 (bG (by rw[cH];omega) (by omega) (cB la (by omega) (ak ?_))))));subst g;simp only[c8,bq,dV]
  refine aK (λg=>?_) λg3=>?_
  .obtain⟨la,L⟩:=nm.ce (.inr g);let⟨q1,q2,q3,q4⟩:=lst h4 la L;refine cB la (by omega) (aR la (by omega) (cF (bl q1 (bG (by rw[cH];omega) (by omega) (cB la (by omega) (ak ?_))))));subst g;simp only[c8,bq,dV]
  refine aK (λg=>?_) λg4=>?_
  .refine cB N (by omega) (ak ?_);subst g;simp only[c8,bq,dV]
  refine aK (λg=>?_) λg5=>?_
  .subst g;refine d_ (λv0=>?_) λv0=>?_
   .have v1:=hv rfl;refine cB v0 (by omega) (cB v0 (by omega) (ak ?_));simp only[c8,bq,dV,v0]
   .refine ak ?_;simp only[c8,bq,dV,Int.not_le.2 v0]
  refine aK (λg=>?_) λg6=>?_
  .subst g;refine g9 (l! wt) (by omega) (λi x=>x=((i:Int),(w,k),c,tm,cC z t (j:Int),sp,YV o (j:Int) i wt wa,Vw o i wt,st,se,op,re,ar,si,ei,(t,19,o,v,s,D,A))) ?_ ?_ (by rw[aiv,aiu];simp only[Int.natCast_zero])
   .rintro i x hi rfl;refine cW ?_;refine aV (λx=>x=((w,k),c,tm,cC z t (j:Int),sp,YV o (j:Int) (i+1) wt wa,Vw o (i+1) wt,st,se,op,re,ar,si,ei,(t,19,o,v,s,D,A))) ?_ ?_
    .dsimp only;have ib:dK (i:Int) (l! (Vw o i wt))=J:=LC.2 ⟨by omega,by rw[S6];omega⟩;refine bl ib (bl ib (aU ?_));have gv:geti aP (Vw o i wt) (i:Int)=wt.getD i 0:=by
      rw[vB,abt _ _ _ hi,ax (by omega)]
     rw[gv];refine aK (λh=>?_) λh=>?_
     .have h:wt.getD i 0=o:=h;refine cB (by omega) (by rw[S7];omega) (cB (by omega) (by rw[S6];omega) (ak ?_));rw[ang h,anf h]
     .have h:¬wt.getD i 0=o:=h;refine ak ?_;rw[asw h,asv h]
    .rintro x rfl;refine ak ?_;show _=_;rw[fV]
   .rintro x rfl;refine cP (ak ?_);simp only[c8,bq,dV]
  .refine ak ?_;simp only[g1,g2,g3,g4,g5,g6,dV]
 .rintro x rfl;exact ak rfl
def fA (w:WT) (e:ET):Int:=if e.2.1=7\/e.2.1=9\/e.2.1=11 then e.2.2.1 else if e.2.1=16 then (geti itK w.2.2.1 e.2.2.1).2 else if e.2.1=13 then (l! w.2.1:Int) else -1
def mS (w:WT) (e:ET):Int:=if e.2.1=6\/e.2.1=8\/e.2.1=10 then e.2.2.1 else if e.2.1=17 then (geti itK w.2.2.1 e.2.2.1).2 else if e.2.1=12 then (l! w.2.1:Int) else -1
def Jd {w:WT} {e:ET} (hev:Ht w e):lQ (w,e)=Z (fA w e):=by
 refine cI ?_;let⟨nm,L,D,cd⟩:=hev;let⟨t,k,o,v,s,r1,N⟩:=e;dsimp only at nm L D;unfold lQ bk bQ bm bX be aI;refine aV (λx=>x=(decide (k=7\/k=9\/k=11),w,t,k,o,v,s,r1,N)) ?_ ?_
 .refine aK (λg=>ak ?_) λA=>aK (λg=>ak ?_) λz=>ak ?_
  .grind
  .grind
  .grind
 .rintro x rfl;unfold fA;refine aK (λg=>ak ?_) λA=>?_
  .rw[aE g]
  rw[ax A];refine aK (λg=>?_) λz=>?_
  .have g:k=16:=g;let⟨o0,o1⟩:=nm.cd ⟨by omega,by omega⟩;rw[aE g];exact aR o0 o1 (aU (ak rfl))
  rw[ax z];refine aK (λg=>ak ?_) λg3=>ak ?_
  .rw[aE g];rfl
  .rw[ax g3]
def Kj {w:WT} {e:ET} (hev:Ht w e):lR (w,e)=Z (mS w e):=by
 refine cI ?_;let⟨nm,L,D,cd⟩:=hev;let⟨t,k,o,v,s,r1,N⟩:=e;dsimp only at nm L D;unfold lR bk bQ bm bX be aI;refine aV (λx=>x=(decide (k=6\/k=8\/k=10),w,t,k,o,v,s,r1,N)) ?_ ?_
 .refine aK (λg=>ak ?_) λA=>aK (λg=>ak ?_) λz=>ak ?_
  .grind
  .grind
  .grind
 .rintro x rfl;unfold mS;refine aK (λg=>ak ?_) λA=>?_
  .rw[aE g]
  rw[ax A];refine aK (λg=>?_) λz=>?_
  .have g:k=17:=g;let⟨o0,o1⟩:=nm.cd ⟨by omega,by omega⟩;rw[aE g];exact aR o0 o1 (aU (ak rfl))
  rw[ax z];refine aK (λg=>ak ?_) λg3=>ak ?_
  .rw[aE g];rfl
  .rw[ax g3]
def OpI (n:Nat) (op:Y d?):Prop:=∀x∈op,0<=x.2/\x.2<(n:Int)
def ReI (n:Nat) (re:η):Prop:=∀v∈re,0<=v/\v<(n:Int)
def ahp (h0:0<=a) (h1:a<(i:Int)):shf i a=a:=by
 unfold shf;rw[aE (by exact bj (by omega))]
def ReI.shf (h:ReI i z):z.map (AI.shf i)=z:=by
 have:z.map (AI.shf i)=z.map id:=kO λv re=>ahp (h v re).1 (h v re).2
 rw[this,List.map_id]
def OpI.shf {op:Y d?} (h:OpI i op):L2 i op=op:=by
 unfold L2;have:op.map (λe=>(e.1,AI.shf i e.2))=op.map id:=kO λx z=>by rw[ahp (h x z).1 (h x z).2];rfl
 rw[this,List.map_id]
def uQ {k z:ν}:Ib k z=J↔k=z:=by
 unfold Ib;rw[au,bR,bR];exact⟨λh=>sC h.1 h.2,λh=>by rw[h];exact⟨rfl,rfl⟩⟩
def gg (k:ν):∀{op:Y d?},jL k op=J->(k,c_ k op)∈op
 |[],h=>by cases h
 |e::r,h=>by
  simp only[jL,c_]at h ⊢;cases z:Ib k e.1 with
  |true=>
   rw[uQ.1 z];exact dk ..
  |false=>
   rw[z,Bool.false_or]at h;exact cg _ (gg k h)
def FW (k:ν) {x:d?}:∀{op:Y d?},x∈Ah k op->x∈op
 |[],h=>by cases h
 |e::r,h=>by
  simp[Ah]at h;cases z:Ib k e.1 with
  |true=>rw[z]at h;exact cg _ h
  |false=>
   rw[z]at h;rcases a_.1 h with h|h
   .grind
   .exact cg _ (FW k h)
def OpI.del {op:Y d?} (h:OpI i op) (k:ν):OpI i (Ah k op):=λx z=>h x (FW k z)
def IC (j:Int) (o:WO):WO:=((o.1.1,o.1.2.1,o.1.2.2.1,j,o.1.2.2.2.2),o.2)
abbrev bf (ar:Y WO) (i:Int):WO:=dO lI ar i
def scQ (w:WT) (e:ET) (op:Y d?):Bool:=jL (e.1,fA w e) op
def xP (w:WT) (e:ET) (op:Y d?):Y d?:=if scQ w e op=J then Ah (e.1,fA w e) op else op
def yB (w:WT) (e:ET) (op:Y d?) (re:η):η:=if scQ w e op=J then re++[c_ (e.1,fA w e) op] else re
def yC (w:WT) (j:Int) (e:ET) (op:Y d?) (ar:Y WO):Y WO:=if scQ w e op=J then qR (S:=lI) ar (c_ (e.1,fA w e) op) (IC j (bf ar (c_ (e.1,fA w e) op))) else ar
def Re (w:WT) (e:ET) (op:Y d?) (ar:Y WO):Y d?:=if 0<=mS w e then sG (e.1,mS w e) (l! ar:Int) (xP w e op) else xP w e op
def BJ (w:WT) (j:Int) (e:ET) (op:Y d?) (ar:Y WO):Y WO:=if 0<=mS w e then yC w j e op ar++[((e.1,mS w e,j,-1,decide (e.2.1=8)),[],[])] else yC w j e op ar
def BR (w:WT) (j:Int) (e:ET) (op:Y d?) (ar:Y WO):l! (yC w j e op ar)=l! ar:=by
 unfold yC qR;split
 .exact dD ..
 .rfl
def U1 {w:WT} {e:ET} (hev:Ht w e) {c:Y η} {tm:Y ν} {sp wa wt st se:η} {op:Y d?} {re:η} {ar:Y WO} {si ei:Y η}
 (h1:OpI (l! ar) op) (h2:ReI (l! ar) re) (h3:l! re<=1000):
 iG (((j:Int),e),(w,k),c,tm,z,sp,wa,wt,st,se,op,re,ar,si,ei)=Z ((w,k),c,tm,z,sp,wa,wt,st,se,Re w e op ar,si,ei,yB w e op re,BJ w (j:Int) e op ar):=by
 refine cI ?_;unfold iG ly me md CY bk bD bQ cS eV kZ mw nM Prod.r jY ky bU be;dsimp only;refine aZ (Jd hev) ?_;refine aQ (λL=>?_) λL=>?_
 .have hm:=gg _ L;have D:=h1 _ hm;dsimp only at D;have la:scQ w e op=J:=L;refine aR D.1 D.2 (a! (aZ (Kj hev) ?_));have N:aj (qR (S:=lI) ar (c_ (e.1,fA w e) op) (IC (j:Int) (bf ar (c_ (e.1,fA w e) op))))=l! ar:=by unfold qR;exact dD ..
  have hR:ReI (l! ar) (re++[c_ (e.1,fA w e) op]):=λv A=>by
   rcases bO.1 A with A|A
   .exact h2 v A
   .simp only[aC]at A;subst A;exact D
  refine d_ (λg=>ak ?_) λg=>ak ?_
  .unfold Re BJ yB xP yC;rw[aE g,aE g,aE la,aE la,aE la];have e1:=(h1.del (e.1,fA w e)).shf;have e2:=hR.shf;rw[<- N]at e1 e2;refine sC rfl (sC rfl (sC rfl (sC rfl (sC rfl (sC rfl (sC rfl (sC rfl (sC rfl (sC ?_ (sC rfl (sC rfl (sC ?_ rfl))))))))))))
   .show sG (e.1,mS w e) (aS (aj (qR (S:=lI) ar (c_ (e.1,fA w e) op) (IC (j:Int) (bf ar (c_ (e.1,fA w e) op)))))) (L2 (aj (qR (S:=lI) ar (c_ (e.1,fA w e) op) (IC (j:Int) (bf ar (c_ (e.1,fA w e) op))))) (Ah (e.1,fA w e) op))=_;rw[e1,N];rfl
   .exact e2
  .unfold Re BJ yB xP yC;rw[ax (Int.not_le.2 g),ax (Int.not_le.2 g),aE la,aE la,aE la];rfl
 .have la:¬scQ w e op=J:=by unfold scQ;rw[L];simp
  refine aZ (Kj hev) (d_ (λg=>ak ?_) λg=>ak ?_)
  .unfold Re BJ yB xP yC;rw[aE g,aE g,ax la,ax la,ax la,h1.shf,h2.shf];rfl
  .unfold Re BJ yB xP yC;rw[ax (Int.not_le.2 g),ax (Int.not_le.2 g),ax la,ax la,ax la]
section
def aon (c:η) (a:Int) (u:Nat):kh (c,a,(u:Int))=Z (decide (a<=c.getD u 0)):=by
 unfold kh;dsimp only;rw[Pd];rfl
def cvr (clk:η) (x:ν):Bool:=decide (x.1<=clk.getD x.2.toNat 0)
def akf (clk:η) {x:ν} (h:0<=x.2):kh (clk,x)=Z (cvr clk x):=by
 let⟨a,b⟩:=x;have e:b=((b.toNat:Nat):Int):=by omega
 unfold cvr;rw[e,aon,a8]
def jc (c:Y η) (i:Int):η:=c.getD i.toNat []
def jt (tm:Y ν) (i:Int):ν:=tm.getD i.toNat (0,0)
abbrev WO.th (o:WO):Int:=o.1.1
abbrev WO.lk (o:WO):Int:=o.1.2.1
abbrev WO.bg (o:WO):Int:=o.1.2.2.1
abbrev WO.en (o:WO):Int:=o.1.2.2.2.1
abbrev WO.rd (o:WO):Bool:=o.1.2.2.2.2
def qK (P Q:WO):Bool:=decide (P.lk=Q.lk)&&(!decide (P.th=Q.th)&&(!(P.rd&&Q.rd)&&gE P.en Q.bg))
abbrev VD (o:Int) (m:Y q!):Bool:=xl (K:=.int .i64) (V:=.bool) o m af
def Un (P:WO) (e:ET):Bool:=VD e.2.2.1 P.2.2||(decide (e.2.1=4)&&VD e.2.2.1 P.2.1)
def Bw (c:Y η) (ar:Y WO) (q:Int) (e:ET) (clk:η) (p:Int):η:=if qK (bf ar p) (bf ar q)=J/\Un (bf ar p) e=J then jl clk (jc c (bf ar p).en) else clk
def vP (c:Y η) (tm:Y ν) (ar:Y WO) (q:Int) (s:η×Bool) (p:Int):η×Bool:=if qK (bf ar p) (bf ar q)=J/\cvr s.1 (jt tm (bf ar p).bg)=J/\cvr s.1 (jt tm (bf ar p).en)=af then (jl s.1 (jc c (bf ar p).en),J) else s
structure CkL (T j:Nat) (c:List η) (tm:List ν):Prop where
 cl:l! c=j
 tl:l! tm=j
 ln:∀i:Nat,i<j->l! (c.getD i [])=T
 th:∀i:Nat,i<j->0<=(tm.getD i (0,0)).2
def EnI (j:Nat) (ar:Y WO) (re:η):Prop:=∀p∈re,(0<=p/\p<(l! ar:Int))/\(0<=(bf ar p).bg/\(bf ar p).bg<(j:Int))/\(0<=(bf ar p).en/\(bf ar p).en<(j:Int))
def CkL.jc {c:Y η} {tm:Y ν} (h:CkL i j c tm) {T:Int} (h0:0<=T) (h1:T<(j:Int)):l! (AI.jc c T)=i:=h.ln _ (by omega)
def CkL.jt {c:Y η} {tm:Y ν} (h:CkL i j c tm) {T:Int} (h0:0<=T) (h1:T<(j:Int)):0<=(AI.jt tm T).2:=h.th _ (by omega)
def aha {c:Y η} {tm:Y ν} (h:CkL i j c tm) {ar:Y WO} {e:ET} (clk:l! z=i) {p:Int} (h0:0<=(bf ar p).en) (h1:(bf ar p).en<(j:Int)):l! (Bw c ar a e z p)=i:=by
 unfold Bw;split
 .rw[Ic,clk,h.jc h0 h1];exact Nat.max_self _
 .exact clk
def ah9 {c:Y η} {tm:Y ν} (h:CkL i j c tm) {ar:Y WO} {s:η×Bool} (z:l! s.1=i) {p:Int} (h0:0<=(bf ar p).en) (h1:(bf ar p).en<(j:Int)):(vP c tm ar a s p).1.length=i:=by
 unfold vP;split
 .show (l! (jl s.1 _))=i;rw[Ic,z,h.jc h0 h1];exact Nat.max_self _
 .exact z
variable {w:WT} {l:Y ET} {c:Y η} {tm:Y ν} {la sp wa wt st se:η} {op:Y d?} {re:η} {ar:Y WO} {si ei:Y η}
def adw (hT:i<=4) (h:CkL i j c tm) (hp:(0<=a/\a<(l! ar:Int))/\(0<=(bf ar a).bg/\(bf ar a).bg<(j:Int))/\(0<=(bf ar a).en/\(bf ar a).en<(j:Int))) {e:ET} (N:l! z=i):
 jT (a,(w,l),c,tm,la,sp,wa,wt,st,se,op,re,ar,si,ei,e,z)=Z ((w,l),c,tm,la,sp,wa,wt,st,se,op,re,ar,si,ei,e,if Un (bf ar a) e=J then jl z (jc c (bf ar a).en) else z):=by
 refine cI ?_;let⟨⟨p0,clk⟩,_,n0,D⟩:=hp;unfold jT ly me md CY Prod.t Prod.u bk bD bQ cS eV kZ mw nM Prod.E ck bm ky kq aI;refine aV (λx=>x=((a,Un (bf ar a) e),(w,l),c,tm,la,sp,wa,wt,st,se,op,re,ar,si,ei,e,z)) ?_ ?_
 .refine aR p0 clk (aR p0 clk ?_);refine aQ (λg=>ak ?_) λg=>?_
  .have g:VD e.2.2.1 (bf ar a).2.2=J:=g;unfold Un;rw[g];rfl
  have g:VD e.2.2.1 (bf ar a).2.2=af:=g;refine aK (λA=>aR p0 clk (aR p0 clk (ak ?_))) λA=>ak ?_
  .unfold Un;rw[g,bc (show e.2.1=4 from A)];rfl
  .unfold Un;rw[g,dm (show ¬e.2.1=4 from A)];rfl
 .rintro x rfl;refine aQ (λg=>?_) λg=>ak ?_
  .have L:=h.cl;refine aR p0 clk (aU ?_);refine aR n0 (by grind) (aR n0 (by grind) (aU ?_));refine aZ (UE z (jc c (bf ar a).en) (by unfold big;omega) (by rw[h.jc n0 D];unfold big;omega)) (ak ?_);rw[aE g]
  .grind
def adv (hT:i<=4) (h:CkL i j c tm) (hp:(0<=a/\a<(l! ar:Int))/\(0<=(bf ar a).bg/\(bf ar a).bg<(j:Int))/\(0<=(bf ar a).en/\(bf ar a).en<(j:Int))) (N:l! z=i):
 jS (a,(w,l),c,tm,la,sp,wa,wt,st,se,op,re,ar,si,ei,z,b)=Z ((w,l),c,tm,la,sp,wa,wt,st,se,op,re,ar,si,ei,if cvr z (jt tm (bf ar a).bg)=J/\cvr z (jt tm (bf ar a).en)=af then (jl z (jc c (bf ar a).en),J) else (z,b)):=by
 refine cI ?_;let⟨⟨p0,clk⟩,⟨b0,b1⟩,n0,D⟩:=hp;have L:=h.cl;have ht:=h.tl;unfold jS ly me md CY Prod.t Prod.u bk bD bQ cS eV kZ mw nM ky kq aI;refine aV (λx=>x=((a,cvr z (jt tm (bf ar a).bg)&& !cvr z (jt tm (bf ar a).en)),(w,l),c,tm,la,sp,wa,wt,st,se,op,re,ar,si,ei,z,b)) ?_ ?_
 .refine aR p0 clk (aU (aR b0 (by grind) (aR b0 (by grind) (aU ?_))));refine aZ (akf z (h.jt b0 b1)) ?_;refine aQ (λg=>?_) λg=>ak ?_
  .refine aR p0 clk (aU (aR n0 (by grind) (aR n0 (by grind) (aU ?_))));refine aZ (akf z (h.jt n0 D)) (ak ?_);have g:cvr z (jt tm (bf ar a).bg)=J:=g;rw[g,fo];rfl
  .have g:cvr z (jt tm (bf ar a).bg)=af:=g
   grind
 .rintro x rfl;refine aQ (λg=>?_) λg=>ak ?_
  .refine aR p0 clk (aU ?_);refine aR n0 (by grind) (aR n0 (by grind) (aU ?_));refine aZ (UE z (jc c (bf ar a).en) (by unfold big;omega) (by rw[h.jc n0 D];unfold big;omega)) (ak ?_)
   grind
  .grind
def aj1 {Q:R->Prop} {P S:WO} {q:Int} (p0:0<=a) (D:a<(i:Int)) (q0:0<=q) (A:q<(i:Int)) {k:Bool->M R} (z:Ok (k (qK P S)) Q):
 Ok (chk (dK a i) λ_=>lt P.lk λz4=>chk (dK q i) λ_=>lt S.lk λz5=>aJ (decide (z4=z5)) (chk (dK a i) λ_=>lt P.th λz6=>chk (dK q i) λ_=>lt S.th λz7=>aJ (!decide (z6=z7)) (chk (dK a i) λ_=>lt P.rd λz8=>aJ z8 (chk (dK q i) λ_=>lt S.rd λz9=>aJ (!z9) (chk (dK a i) λ_=>lt P.en λz10=>chk (dK q i) λ_=>lt S.bg λz11=>k (gE z10 z11)) (k af)) (chk (dK a i) λ_=>lt P.en λN=>chk (dK q i) λ_=>lt S.bg λL=>k (gE N L))) (k af)) (k af)) Q:=by
 unfold qK at z;refine aR p0 D (aU (aR q0 A (aU ?_)));refine aK (λg1=>?_) λg1=>?_
 .rw[bc g1,fo]at z;refine aR p0 D (aU (aR q0 A (aU ?_)));refine cq (λg2=>?_) λg2=>?_
  .rw[dm g2,Bool.not_false,fo]at z;refine aR p0 D (aU ?_);refine aQ (λg3=>?_) λg3=>?_
   .rw[g3,fo]at z;refine aR q0 A (aU ?_);refine eu (λg4=>?_) λg4=>?_
    .rw[g4,Bool.not_false,fo]at z;exact aR p0 D (aU (aR q0 A (aU z)))
    .grind
   .rw[g3,mi,Bool.not_false,fo]at z;exact aR p0 D (aU (aR q0 A (aU z)))
  .grind
 .grind
def sR (d:R) {xs:Y R} (h:i<l! xs):xs.take (i+1)=xs.take i++[xs.getD i d]:=by
 rw[List.take_add_one,aH h,aF,aH h];rfl
def yU (d:R) {xs:Y R} (h:i<l! xs):xs.getD i d∈xs:=by
 rw[aF,aH h];exact List.getElem_mem h
def WZ (hT:i<=4) (h:CkL i j c tm) (q0:0<=a) (D:a<(l! ar:Int)) (L:EnI j ar re) (hrl:l! re<=1000) {e:ET} (N:l! z=i):
 kA (a,(w,l),c,tm,la,sp,wa,wt,st,se,op,re,ar,si,ei,e,z)=Z ((w,l),c,tm,la,sp,wa,wt,st,se,op,re,ar,si,ei,e,re.foldl (Bw c ar a e) z):=by
 refine cI ?_;unfold kA r_ ly me md bk bD bQ cS eV kZ mw nM ck bm bS jK ky bU be c7 aI cQ;refine g9 (l! re) (by omega) (λT x=>x=((a,(T:Int)),(w,l),c,tm,la,sp,wa,wt,st,se,op,re,ar,si,ei,e,(re.take T).foldl (Bw c ar a e) z)/\l! ((re.take T).foldl (Bw c ar a e) z)=i) ?_ ?_ ⟨by simp,by simpa using N⟩
 .rintro T x hi ⟨rfl,hcl⟩;refine cW ?_;have hpe:=L _ (yU 0 hi);have hiA:m8 re (T:Int)=re.getD T 0:=Aq re T;generalize hp:re.getD T 0=p at*
  let⟨⟨p0,A⟩,hb,clk⟩:=hpe;refine aV (λx=>x=(a,(w,l),c,tm,la,sp,wa,wt,st,se,op,re,ar,si,ei,e,Bw c ar a e ((re.take T).foldl (Bw c ar a e) z) p)) ?_ ?_
  .refine aR (by simp) (by grind) (aR (by simp) (by grind) ?_);rw[hiA];refine aV (λx=>x=((a,p,qK (bf ar p) (bf ar a)),(w,l),c,tm,la,sp,wa,wt,st,se,op,re,ar,si,ei,e,(re.take T).foldl (Bw c ar a e) z)) ?_ ?_
   .with_reducible exact aj1 (P:=bf ar p) (S:=bf ar a) (k:=λb=>Z (bZ ((a,p,b),(w,l),c,tm,la,sp,wa,wt,st,se,op,re,ar,si,ei,e,(re.take T).foldl (Bw c ar a e) z))) p0 A q0 D (ak rfl)
   .rintro x rfl;refine aQ (λg=>?_) λg=>ak ?_
    .refine aZ (adw hT h ⟨⟨p0,A⟩,hb,clk⟩ hcl) (bl (by simp) (ak ?_));unfold Bw
     grind
    .unfold Bw
     grind
  .rintro x rfl;refine ak ⟨?_,?_⟩
   .rw[sR 0 hi,eX,hp];rw[fV];rfl
   .rw[sR 0 hi,eX,hp];exact aha h hcl clk.1 clk.2
 .rintro x ⟨rfl,_⟩;refine cP (ak ?_);rw[cY]
def WY (hT:i<=4) (h:CkL i j c tm) (q0:0<=a) (L:a<(l! ar:Int)) (N:EnI j ar re) (hrl:l! re<=1000) {clk:Bool} (hc:l! z=i):
 kz (a,(w,l),c,tm,la,sp,wa,wt,st,se,op,re,ar,si,ei,z,clk)=Z ((w,l),c,tm,la,sp,wa,wt,st,se,op,re,ar,si,ei,re.foldl (vP c tm ar a) (z,clk)):=by
 refine cI ?_;unfold kz r9 ly me md bk bD bQ cS eV kZ mw nM ck bm bS jK ky bU be c7 aI cQ;refine g9 (l! re) (by omega) (λT x=>x=((a,(T:Int)),(w,l),c,tm,la,sp,wa,wt,st,se,op,re,ar,si,ei,(re.take T).foldl (vP c tm ar a) (z,clk))/\((re.take T).foldl (vP c tm ar a) (z,clk)).1.length=i) ?_ ?_ ⟨by simp,by simpa using hc⟩
 .rintro T x hi ⟨rfl,hcl⟩;refine cW ?_;have hpe:=N _ (yU 0 hi);have hiA:m8 re (T:Int)=re.getD T 0:=Aq re T;generalize hp:re.getD T 0=p at*
  let⟨⟨p0,D⟩,hb,A⟩:=hpe;refine aV (λx=>x=(a,(w,l),c,tm,la,sp,wa,wt,st,se,op,re,ar,si,ei,vP c tm ar a ((re.take T).foldl (vP c tm ar a) (z,clk)) p)) ?_ ?_
  .refine aR (by simp) (by grind) (aR (by simp) (by grind) ?_);rw[hiA];refine aV (λx=>x=((a,p,qK (bf ar p) (bf ar a)),(w,l),c,tm,la,sp,wa,wt,st,se,op,re,ar,si,ei,(re.take T).foldl (vP c tm ar a) (z,clk))) ?_ ?_
   .with_reducible exact aj1 (P:=bf ar p) (S:=bf ar a) (k:=λb=>Z (bZ ((a,p,b),(w,l),c,tm,la,sp,wa,wt,st,se,op,re,ar,si,ei,(re.take T).foldl (vP c tm ar a) (z,clk)))) p0 D q0 L (ak rfl)
   .rintro x rfl;generalize (re.take T).foldl (vP c tm ar a) (z,clk)=s at*
    refine aQ (λg=>?_) λg=>ak ?_
    .refine aZ (adv hT h ⟨⟨p0,D⟩,hb,A⟩ hcl) (bl (by simp) (ak ?_));unfold vP
     grind
    .unfold vP
     grind
  .rintro x rfl;refine ak ⟨?_,?_⟩
   .rw[sR 0 hi,eX,hp];rw[fV];rfl
   .rw[sR 0 hi,eX,hp];exact ah9 h hcl A.1 A.2
 .rintro x ⟨rfl,_⟩;refine cP (ak ?_);rw[cY]
end
def u_ (a b:η):Prop:=∀u:Nat,a.getD u 0<=b.getD u 0
def u_.rfl :u_ z z:=λ_=>dg _
def u_.trans {b c:η} (h:u_ z b) (h':u_ b c):u_ z c:=λu=>C5 (h u) (h' u)
def at3 (a b:Int):a<=lX a b:=by unfold lX;by_cases h:gE a b=J<;>simp only[h,bq]<;>first|(have:=rZ.1 h;omega)|simp
def at2 (a b:Int):b<=lX a b:=by
 unfold lX;by_cases h:gE a b=J
 .rw[aE h];exact dg _
 .have:=ja.1 (Sl.2 h);rw[ax h];omega
def Tk (a b:Int):lX a b=a\/lX a b=b:=by
 unfold lX;by_cases h:gE a b=J
 .right;simp[h]
 .left;simp[h]
def MB (a b:η):u_ a (jl a b):=λu=>by rw[MI];exact at3 _ _
def Tf (a b:η):u_ b (jl a b):=λu=>by rw[MI];exact at2 _ _
def Oj {b:η} (h:u_ z b) {x:ν} (a:cvr z x=J):cvr b x=J:=by
 unfold cvr at a ⊢;rw[bR]at a ⊢;exact C5 a (h _)
def Qj (ar:Y WO) (q:Int) (e:ET):Y WO:=if e.2.1=4 then qR (S:=lI) ar q (vV (S:=lI) 1 (bf ar q) (uN (K:=.int .i64) (V:=.bool) e.2.2.1 J (sJ (S:=lI) 1 (bf ar q)))) else qR (S:=lI) ar q (vV (S:=lI) 0 (bf ar q) (uN (K:=.int .i64) (V:=.bool) e.2.2.1 J (sJ (S:=lI) 0 (bf ar q))))
def U3 {ar:Y WO} {e:ET} (q0:0<=a) (z:a<(l! ar:Int)):jR ((a,e),ar)=Z (Qj ar a e):=by
 refine cI ?_;unfold jR Qj bk bD ck bm;refine aK (λg=>?_) λg=>?_
 .exact aR q0 z (aR q0 z (ak (by grind)))
 .exact aR q0 z (aR q0 z (ak (by grind)))
def ag4 (e:ET):oJ e=Z (decide (e.2.1=3\/e.2.1=4)):=by
 refine cI ?_;refine aV (λx=>x=decide (e.2.1=3\/e.2.1=4)) ?_ ?_
 .refine aK (λg=>ak ?_) λg=>ak ?_
  .grind
  .grind
 .rintro x rfl;exact ak rfl
def S0 {ar:Y WO} (o:WO) (i:Int) (h:a.toNat<l! ar):bf (qR (S:=lI) ar a o) i=if i.toNat=a.toNat then o else bf ar i:=by
 unfold bf qR dO
 grind
structure Sam (ar ar':List WO):Prop where
 ln:l! ar'=l! ar
 hd:∀i:Int,(bf ar' i).1=(bf ar i).1
 eq:∀i:Int,(bf ar i).en≠ -1->bf ar' i=bf ar i
def Sam.rfl (ar:Y WO):Sam ar ar:=⟨Eq.refl _,λ_=>Eq.refl _,λ_ _=>Eq.refl _⟩
def WM (ar:Y WO) (q:Int) (e:ET):l! (Qj ar q e)=l! ar:=by
 unfold Qj qR;split<;>exact dD ..
def Co {ar:Y WO} (e:ET) (i:Int) (h:a.toNat<l! ar):bf (Qj ar a e) i=if i.toNat=a.toNat then (if e.2.1=4 then ((bf ar a).1,(bf ar a).2.1,uN (K:=.int .i64) (V:=.bool) e.2.2.1 J (bf ar a).2.2) else ((bf ar a).1,uN (K:=.int .i64) (V:=.bool) e.2.2.1 J (bf ar a).2.1,(bf ar a).2.2)) else bf ar i:=by
 unfold Qj;by_cases g:e.2.1=4
 .rw[aE g,aE g,S0 _ _ h];rfl
 .rw[ax g,ax g,S0 _ _ h];rfl
def Sam.ent {ar ar':Y WO} (h:Sam ar ar') (e:ET) (D:a.toNat<l! ar) (L:(bf ar a).en= -1):Sam ar (Qj ar' a e):=by
 let⟨h1,N,A⟩:=h;have hi:∀i:Int,i.toNat=a.toNat->bf ar i=bf ar a:=λi hi=>by unfold bf dO;rw[hi]
 refine ⟨by rw[WM,h1],λi=>?_,λi z=>?_⟩
 .rw[Co e i (by omega)]
  grind
 .rw[Co e i (by omega),ax]
  .exact A i z
  .grind
def Sam.mat {ar ar':Y WO} (h:Sam ar ar') (p q:Int):qK (bf ar' p) (bf ar' q)=qK (bf ar p) (bf ar q):=by
 unfold qK WO.lk WO.th WO.rd WO.en WO.bg;rw[h.hd p,h.hd q]
def Sam.EnI {ar ar':Y WO} (h:Sam ar ar') {re:η} (z:EnI j ar re):AI.EnI j ar' re:=λp hp=>by
 let⟨⟨a,b⟩,A,d,f⟩:=z p hp;have e:=h.eq p (by omega);rw[h.ln,e];exact⟨⟨a,b⟩,A,d,f⟩
def aqq {I:η->Prop} {c:Y η} {ar:Y WO} {q:Int} {e:ET}:∀(L:η) (clk:η),I clk->(∀clk p,p∈L->qK (bf ar p) (bf ar q)=J->Un (bf ar p) e=J->I clk->I (jl clk (jc c (bf ar p).en)))->
 I (L.foldl (Bw c ar q e) clk)/\u_ clk (L.foldl (Bw c ar q e) clk)/\∀p∈L,qK (bf ar p) (bf ar q)=J->Un (bf ar p) e=J->u_ (jc c (bf ar p).en) (L.foldl (Bw c ar q e) clk)
 |[],clk,h,_=>⟨h,u_.rfl,λp hp=>by cases hp⟩
 |p::L,clk,h,A=>by
  have h1:I (Bw c ar q e clk p)/\u_ clk (Bw c ar q e clk p)/\(qK (bf ar p) (bf ar q)=J->Un (bf ar p) e=J->u_ (jc c (bf ar p).en) (Bw c ar q e clk p)):=by
   unfold Bw;by_cases g:qK (bf ar p) (bf ar q)=J/\Un (bf ar p) e=J
   .rw[aE g];exact⟨A clk p (dk ..) g.1 g.2 h,MB _ _,λ_ _=>Tf _ _⟩
   .rw[ax g];exact⟨h,u_.rfl,λa b=>bA ⟨a,b⟩ g⟩
  let⟨a,b,d⟩:=aqq L _ h1.1 λclk p hp=>A clk p (cg _ hp)
  refine ⟨a,h1.2.1.trans b,λD z m1 m2=>?_⟩;rcases a_.1 z with rfl|z
  .exact (h1.2.2 m1 m2).trans b
  .exact d D z m1 m2
def unc (tm:Y ν) (ar:Y WO) (re:η) (clk:η):Nat:=l! (re.filter λp=> !cvr clk (jt tm (bf ar p).en))
def ahd {tm:Y ν} {ar:Y WO} {re:η} {b:η} (h:u_ z b):unc tm ar re b<=unc tm ar re z:=by
 unfold unc;induction re with
 |nil=>exact bJ _
 |cons p r a=>
  simp[List.filter_cons];cases A:cvr z (jt tm (bf ar p).en) with
  |true=>rw[Oj h A];exact a
  |false=>grind
def as8 {tm:Y ν} {ar:Y WO} {re:η} {b:η} (h:u_ z b) {p:Int} (hp:p∈re) (h0:cvr z (jt tm (bf ar p).en)=af) (h1:cvr b (jt tm (bf ar p).en)=J):unc tm ar re b<unc tm ar re z:=by
 induction re with
 |nil=>cases hp
 |cons x r a=>
  have hle:=ahd (tm:=tm) (ar:=ar) (re:=r) h;unfold unc at a hle ⊢;simp[List.filter_cons];rcases a_.1 hp with rfl|hp
  .grind
  .have a:=a hp;cases A:cvr z (jt tm (bf ar x).en) with
   |true=>rw[Oj h A];exact a
   |false=>grind
def aih {I:η->Prop} {c:Y η} {tm:Y ν} {ar:Y WO} {q:Int} {re:η} (htm:∀p∈re,cvr (jc c (bf ar p).en) (jt tm (bf ar p).en)=J):∀(L:η) (s:η×Bool),(∀p∈L,p∈re)->I s.1->(∀clk p,p∈L->qK (bf ar p) (bf ar q)=J->cvr clk (jt tm (bf ar p).bg)=J->I clk->I (jl clk (jc c (bf ar p).en)))->
 I (L.foldl (vP c tm ar q) s).1/\u_ s.1 (L.foldl (vP c tm ar q) s).1/\((L.foldl (vP c tm ar q) s).2=J->s.2=J\/unc tm ar re (L.foldl (vP c tm ar q) s).1<unc tm ar re s.1)/\
 ((L.foldl (vP c tm ar q) s).2=af->s.2=af/\(L.foldl (vP c tm ar q) s).1=s.1/\∀p∈L,qK (bf ar p) (bf ar q)=J->cvr s.1 (jt tm (bf ar p).bg)=J->cvr s.1 (jt tm (bf ar p).en)=J)
 |[],s,_,h,_=>⟨h,u_.rfl,λh=>.inl h,λh=>⟨h,rfl,λp hp=>by cases hp⟩⟩
 |p::L,s,hL,h,z=>by
  have hpr:=hL p (dk ..);by_cases g:qK (bf ar p) (bf ar q)=J/\cvr s.1 (jt tm (bf ar p).bg)=J/\cvr s.1 (jt tm (bf ar p).en)=af
  .have A:vP c tm ar q s p=(jl s.1 (jc c (bf ar p).en),J):=by unfold vP;rw[aE g]
   let⟨a,b,d,f⟩:=aih htm L (jl s.1 (jc c (bf ar p).en),J) (λp hp=>hL p (cg _ hp)) (z s.1 p (dk ..) g.1 g.2.1 h) λclk p hp=>z clk p (cg _ hp)
   simp[zX,A];have hlt:unc tm ar re (jl s.1 (jc c (bf ar p).en))<unc tm ar re s.1:=as8 (MB _ _) hpr g.2.2 (Oj (Tf _ _) (htm p hpr));refine ⟨a,(MB _ _).trans b,λ_=>.inr (Nat.lt_of_le_of_lt (ahd b) hlt),λhf=>?_⟩
   grind
  .have A:vP c tm ar q s p=s:=by unfold vP;rw[ax g]
   let⟨a,b,d,f⟩:=aih htm L s (λp hp=>hL p (cg _ hp)) h λclk p hp=>z clk p (cg _ hp)
   grind
def UN (j:Int) (e:ET) (sp:η):l! (z_ j e sp)=l! sp:=by unfold z_;split<;>simp only[bW]
def UM (j:Int) (e:ET) (wt wa:η):l! (EJ j e wt wa)=l! wa:=by
 unfold EJ;split
 .split<;>simp only[bW]
 .split<;>simp only[S7]
def adc (k j:Int) (e:ET) (st:η) (si:Y η):l! (QQ k j e st si)=l! st:=by unfold QQ;split<;>simp only[dD]
def zH (e:ET) (op:Y d?) (ar:Y WO):Nat->Y WO
 |0=>ar
 |n+1=>if jL (e.1,(n:Int)) op=J then Qj (zH e op ar n) (c_ (e.1,(n:Int)) op) e else zH e op ar n
def Hn {e:ET} {op:Y d?} {ar:Y WO} (h:jL (e.1,(i:Int)) op=J):zH e op ar (i+1)=Qj (zH e op ar i) (c_ (e.1,(i:Int)) op) e:=aE h
def Uy {e:ET} {op:Y d?} {ar:Y WO} (h:¬jL (e.1,(i:Int)) op=J):zH e op ar (i+1)=zH e op ar i:=ax h
def ng (w:WT) (e:ET) (op:Y d?) (ar:Y WO):Y WO:=if e.2.1=3\/e.2.1=4 then zH e op ar (l! w.2.1+1) else ar
def zG {e:ET} {op:Y d?} {ar:Y WO} (h1:OpI (l! ar) op) (A:∀x∈op,(bf ar x.2).en= -1):∀n,Sam ar (zH e op ar n)
 |0=>Sam.rfl ar
 |n+1=>by
  have z:=zG (e:=e) h1 A n;unfold zH;split
  next D=>have hm:=gg _ D;have:=h1 _ hm;exact z.ent e (by omega) (A _ hm)
  .exact z
def CS {w:WT} {e:ET} {op:Y d?} {ar:Y WO} (h1:OpI (l! ar) op) (z:∀x∈op,(bf ar x.2).en= -1):Sam ar (ng w e op ar):=by
 unfold ng;split
 .exact zG h1 z _
 .exact Sam.rfl ar
structure JI (w:WT) (c:List η) (tm:List ν) (src:η) (op:List (ν×Int)) (re:η) (ar:List WO) (e:ET) (I:η->Prop):Prop where
 i0:I (aG (l! w.2.2.2.2.1) 0)
 i1:∀clk i,i∈src->0<=i->I clk->I (jl clk (jc c i))
 i2:∀clk (lk:Int) p,(e.2.1=3\/e.2.1=4)->0<=lk->lk<=(l! w.2.1:Int)->jL (e.1,lk) op=J->p∈re->qK (bf ar p) (bf ar (c_ (e.1,lk) op))=J->Un (bf ar p) e=J->I clk->I (jl clk (jc c (bf ar p).en))
 i3:∀clk p,jL (e.1,fA w e) op=J->p∈re->qK (bf ar p) (bf ar (c_ (e.1,fA w e) op))=J->cvr clk (jt tm (bf ar p).bg)=J->I clk->I (jl clk (jc c (bf ar p).en))
 it:∀clk,I clk->l! clk=l! w.2.2.2.2.1/\0<=clk.getD e.1.toNat 0/\clk.getD e.1.toNat 0<1000000000
structure JR (w:WT) (c:List η) (tm:List ν) (src:η) (op:List (ν×Int)) (re:η) (ar:List WO) (e:ET) (clk:η):Prop where
 a:∀i∈src,0<=i->u_ (jc c i) clk
 b:(e.2.1=3\/e.2.1=4)->∀lk:Int,0<=lk->lk<=(l! w.2.1:Int)->jL (e.1,lk) op=J->∀p∈re,qK (bf ar p) (bf ar (c_ (e.1,lk) op))=J->Un (bf ar p) e=J->u_ (jc c (bf ar p).en) clk
 c:jL (e.1,fA w e) op=J->∀p∈re,qK (bf ar p) (bf ar (c_ (e.1,fA w e) op))=J->cvr clk (jt tm (bf ar p).bg)=J->cvr clk (jt tm (bf ar p).en)=J
set_option maxRecDepth 10000 in
def amj {w:WT} {l:Y ET} {e:ET} (hev:Ht w e) {j:Nat} (hj:j<=400) (hT:l! w.2.2.2.2.1<=4) (hL:l! w.2.1<=4) (hv:e.2.1=18->e.2.2.2.1<l! w.2.2.2.2.1) {c:Y η} {tm:Y ν} {la sp wa wt st se:η} {op:Y d?} {re:η} {ar:Y WO} {si ei:Y η}
 (h1:EA (l! w.2.2.2.2.1) j la) (h2:EA (l! w.2.2.2.2.1) j sp) (h3:EA (l! w.2.2.2.2.1) j wa) (hwt:l! wt=l! w.2.2.2.2.1) (h4:Pp (l! w.1) j st si) (h5:Pp (l! w.2.2.2.1) j se ei)
 (hc:CkL (l! w.2.2.2.2.1) j c tm) (ho:OpI (l! ar) op) (hoo:∀x∈op,(bf ar x.2).en= -1) (hr:EnI j ar re) (hrl:l! re<=400) (htm:∀p∈re,cvr (jc c (bf ar p).en) (jt tm (bf ar p).en)=J)
 {I:η->Prop} (hI:JI w c tm (tY w la sp wa si ei e) op re ar e I):
 Ok (gx (((j:Int),e),(w,l),c,tm,la,sp,wa,wt,st,se,op,re,ar,si,ei)) λy=>∃clk,(I clk/\JR w c tm (tY w la sp wa si ei e) op re ar e clk)/\y=((w,l),cC la e.1 (j:Int),z_ (j:Int) e sp,EJ (j:Int) e wt wa,HE e wt,QQ 4 (j:Int) e st si,QQ 22 (j:Int) e se ei,Re w e op (ng w e op ar),c++[tk clk e.1.toNat],tm++[((tk clk e.1.toNat).getD e.1.toNat 0,e.1)],yB w e op re,BJ w (j:Int) e op (ng w e op ar),QP 4 (j:Int) e si,QP 22 (j:Int) e ei):=by
 have t0:=hev.t0;have t1:=hev.t1;have hsl:l! (tY w la sp wa si ei e)<=401:=by
  have q:∀{n:Nat} {xs:η} {xss:Y η} {o:Int},Pp n j xs xss->0<=o->o<n->l! (kS (T:=aP) xss o)<=400:=λ{n xs xss o} h o0 o1=>by
   have e:o=((o.toNat:Nat):Int):=by omega
   obtain⟨a,b,cc⟩:=h.2.2 o.toNat (by omega);rw[e,tH];omega
  unfold tY;rw[bC,cH];split
  .simp
  .split
   .simp
   .split
    .rename_i g;have:=q h5 (hev.nm.fu (.inr g)).1 (hev.nm.fu (.inr g)).2;omega
    .split
     .rename_i g;split
      .have:=q h4 (hev.nm.ce (.inl g)).1 (hev.nm.ce (.inl g)).2;omega
      .simp
     .split<;>simp
 have hsv:∀v∈tY w la sp wa si ei e,v<(j:Int):=by
  have q:∀{n:Nat} {xs:η} {xss:Y η} {o:Int},Pp n j xs xss->0<=o->o<n->∀v∈kS (T:=aP) xss o,v<(j:Int):=λ{n xs xss o} h o0 o1 v hv=>by
   have e:o=((o.toNat:Nat):Int):=by omega
   rw[e,tH]at hv;exact ((h.2.2 o.toNat (by omega)).2.2 v hv).2
  intro v hv;unfold tY at hv;rcases bO.1 hv with hv|hv
  .rw[aC]at hv;rw[hv];exact (h1.geti t0 t1).2
  .split at hv
   .rw[aC]at hv;rw[hv];exact (h2.geti t0 t1).2
   .split at hv
    .rename_i g;rw[aC]at hv;rw[hv];exact (h1.geti (hev.nm.th (.inr g)).1 (hev.nm.th (.inr g)).2).2
    .split at hv
     .rename_i g;exact q h5 (hev.nm.fu (.inr g)).1 (hev.nm.fu (.inr g)).2 v hv
     .split at hv
      .rename_i g;split at hv
       .exact q h4 (hev.nm.ce (.inl g)).1 (hev.nm.ce (.inl g)).2 v hv
       .cases hv
      .split at hv
       .rw[aC]at hv;rw[hv];exact (h3.geti t0 t1).2
       .cases hv
 generalize hsrc:tY w la sp wa si ei e=src at*
 have hcl:=hc.cl;unfold gx nQ ly me md CY Prod.t Prod.u Prod.C bk bD bQ cS eV kZ mw nM Prod.w Prod.y Prod.z Prod.r Prod.F Prod.E Prod.G bS jY bU bX kq be c7 aI cQ;dsimp only;refine cF (cF (dj (by dsimp only[ay];omega) (a? (bG (by simp only[ay,a8];omega) (by omega) ?_))));refine aZ (YD hev (by omega) h1 h2 h3 h4 h5) ?_;rw[hsrc];dsimp only;refine bl (by simp only[gr,io]) ?_;refine g9 (l! src) (by omega) (λi x=>∃clk,x=((i:Int),(w,l),c,tm,la,sp,wa,wt,st,se,op,re,ar,si,ei,e,clk)/\I clk/\∀v∈src.take i,0<=v->u_ (jc c v) clk) ?_ ?_ ⟨aG (l! w.2.2.2.2.1) 0,by simp only[ay,a8];rfl,hI.i0,λv hv=>by simp at hv⟩
 .rintro i x hi ⟨clk,rfl,hk,hs⟩;refine cW ?_;have hvm:=yU 0 hi;have hgv:geti aP src (i:Int)=src.getD i 0:=vB src i;have hlt:=hsv _ hvm;have htk:=sR 0 hi;generalize src.getD i 0=v at*
  refine aV (λx=>∃clk',x=((w,l),c,tm,la,sp,wa,wt,st,se,op,re,ar,si,ei,e,clk')/\I clk'/\∀v∈src.take (i+1),0<=v->u_ (jc c v) clk') ?_ ?_
  .refine bH (aU ?_);dsimp only;have hgv':geti aP src (i:Int)=v:=hgv;rw[hgv'];refine d_ (λv0=>?_) λv0=>?_
   .refine aR v0 (by omega) (aR v0 (by omega) (aU ?_));refine aZ (UE clk (jc c v) (by have:=(hI.it clk hk).1;unfold big;omega) (by rw[hc.jc v0 hlt];unfold big;omega)) (ak ⟨_,rfl,hI.i1 clk v hvm v0 hk,λu hu u0=>?_⟩);rw[htk]at hu;rcases bO.1 hu with hu|hu
    .exact (hs u hu u0).trans (MB _ _)
    .rw[aC]at hu;rw[hu];exact Tf _ _
   .refine ak ⟨clk,rfl,hk,λu hu u0=>?_⟩;rw[htk]at hu;rcases bO.1 hu with hu|hu
    .exact hs u hu u0
    .rw[aC]at hu;omega
  .rintro x ⟨clk',rfl,hk',hs'⟩;refine ak ⟨clk',?_,hk',hs'⟩;show (bn .i64 ((i:Int)+1),_)=_;rw[fV]
 rintro x ⟨clk,rfl,hk,hs⟩;rw[cY]at hs;refine cP ?_;refine aw (P:=λy=>∃clk,(I clk/\JR w c tm src op re ar e clk)/\y=((w,l),cC la e.1 (j:Int),z_ (j:Int) e sp,EJ (j:Int) e wt wa,HE e wt,QQ 4 (j:Int) e st si,QQ 22 (j:Int) e se ei,Re w e op (ng w e op ar),c++[tk clk e.1.toNat],tm++[((tk clk e.1.toNat).getD e.1.toNat 0,e.1)],yB w e op re,BJ w (j:Int) e op (ng w e op ar),QP 4 (j:Int) e si,QP 22 (j:Int) e ei)) ?_ λy hy=>ak hy
 have sam:=CS (w:=w) (e:=e) ho hoo;have hrl':l! re<=1000:=by omega
 refine aV (λx=>∃clk,x=((w,l),c,tm,la,sp,wa,wt,st,se,op,re,ng w e op ar,si,ei,e,clk)/\I clk/\(∀v∈src,0<=v->u_ (jc c v) clk)/\((e.2.1=3\/e.2.1=4)->∀lk:Int,0<=lk->lk<=(l! w.2.1:Int)->jL (e.1,lk) op=J->∀p∈re,qK (bf ar p) (bf ar (c_ (e.1,lk) op))=J->Un (bf ar p) e=J->u_ (jc c (bf ar p).en) clk)) ?_ ?_
 .dsimp only;refine aZ (ag4 e) ?_;refine aK (λhacc=>?_) λhacc=>?_
  .refine g9 (l! w.2.1+1) (by omega) (λi x=>∃clk,x=((i:Int),(w,l),c,tm,la,sp,wa,wt,st,se,op,re,zH e op ar i,si,ei,e,clk)/\I clk/\(∀v∈src,0<=v->u_ (jc c v) clk)/\∀lk:Int,0<=lk->lk<(i:Int)->jL (e.1,lk) op=J->∀p∈re,qK (bf ar p) (bf ar (c_ (e.1,lk) op))=J->Un (bf ar p) e=J->u_ (jc c (bf ar p).en) clk) ?_ ?_ ⟨clk,rfl,hk,hs,λlk h0 h1=>by omega⟩
   .rintro i x hi ⟨clk,rfl,hk,hs,hb⟩;have hwr:bn .i64 (aS (l! w.2.1)+1)=((l! w.2.1+1:Nat):Int):=fV;refine cW ?_ (by dsimp only;rw[hwr];omega);have si_:=zG (e:=e) ho hoo i;refine aV (λx=>∃clk',x=((w,l),c,tm,la,sp,wa,wt,st,se,op,re,zH e op ar (i+1),si,ei,e,clk')/\I clk'/\(∀v∈src,0<=v->u_ (jc c v) clk')/\∀lk:Int,0<=lk->lk<((i+1:Nat):Int)->jL (e.1,lk) op=J->∀p∈re,qK (bf ar p) (bf ar (c_ (e.1,lk) op))=J->Un (bf ar p) e=J->u_ (jc c (bf ar p).en) clk') ?_ ?_
    .dsimp only;refine aQ (λhq=>?_) λhq=>?_
     .have hm:=gg _ hq;have hqr:=ho _ hm;dsimp only at hqr;have q0:=hqr.1;have q1:c_ (e.1,(i:Int)) op<(l! (zH e op ar i):Int):=by rw[si_.ln];exact hqr.2
      refine aZ (WZ hT hc q0 q1 (si_.EnI hr) hrl' (hI.it clk hk).1) (bl (by simp only[gr,io]) ?_);refine aZ (U3 q0 q1) (ak ?_);have pe:∀p∈re,bf (zH e op ar i) p=bf ar p:=λp hp=>si_.eq p (by have:=(hr p hp).2.2;omega)
      obtain⟨r1,r2,r3⟩:=aqq (I:=I) (c:=c) (ar:=zH e op ar i) (q:=c_ (e.1,(i:Int)) op) (e:=e) re clk hk (λclk p hp m1 m2 hk=>by
       rw[si_.mat]at m1;rw[pe p hp]at m2 ⊢;exact hI.i2 clk (i:Int) p hacc (by omega) (by omega) hq hp m1 m2 hk)
      refine ⟨_,by rw[Hn hq],r1,λv hv v0=>(hs v hv v0).trans r2,λlk l0 l1 ho' p hp m1 m2=>?_⟩;by_cases hlk:lk=(i:Int)
      .subst hlk;have:=r3 p hp (by rw[si_.mat];exact m1) (by rw[pe p hp];exact m2);rw[pe p hp]at this;exact this
      .exact (hb lk l0 (by omega) ho' p hp m1 m2).trans r2
     .refine ak ⟨clk,by rw[Uy (by rw[hq];simp)],hk,hs,λlk l0 l1 ho' p hp m1 m2=>?_⟩;by_cases hlk:lk=(i:Int)
      .subst hlk;have hq:jL (e.1,(i:Int)) op=af:=hq;rw[hq]at ho';cases ho'
      .exact hb lk l0 (by omega) ho' p hp m1 m2
    .rintro x ⟨clk',rfl,a,b,d⟩;refine ak ⟨clk',?_,a,b,d⟩;show (bn .i64 ((i:Int)+1),_)=_;rw[fV]
   .rintro x ⟨clk,rfl,a,b,d⟩;have hwr:bn .i64 (aS (l! w.2.1)+1)=((l! w.2.1+1:Nat):Int):=fV;refine cP (ak ⟨clk,by unfold ng;rw[aE hacc],a,b,λ_ lk l0 l1=>d lk l0 (by omega)⟩) (by dsimp only;rw[hwr];omega)
  .exact ak ⟨clk,by unfold ng;rw[ax hacc],hk,hs,λh=>bA h hacc⟩
 rintro x ⟨clk,rfl,hk,hs,hb⟩;dsimp only;refine aV (λx=>∃clk,x=((w,l),c,tm,la,sp,wa,wt,st,se,op,re,ng w e op ar,si,ei,e,clk)/\I clk/\JR w c tm src op re ar e clk) ?_ ?_
 .refine aZ (Jd hev) ?_;refine aQ (λhq=>?_) λhq=>?_
  .have hm:=gg _ hq;have hqr:=ho _ hm;dsimp only at hqr;have q0:=hqr.1;have q1:c_ (e.1,fA w e) op<(l! (ng w e op ar):Int):=by rw[sam.ln];exact hqr.2
   have pe:∀p∈re,bf (ng w e op ar) p=bf ar p:=λp hp=>sam.eq p (by have:=(hr p hp).2.2;omega)
   have uncL:∀clk,unc tm (ng w e op ar) re clk<=l! re:=λclk=>by unfold unc;exact EH ..
   refine aim 1000 (λx=>2*unc tm (ng w e op ar) re x.2.2.2.2.2.2.2.2.2.2.2.2.2.2.2.2.1+if x.2.2.2.2.2.2.2.2.2.2.2.2.2.2.2.2.2=J then 1 else 0) (λx=>∃clk ag,x=(c_ (e.1,fA w e) op,(w,l),c,tm,la,sp,wa,wt,st,se,op,re,ng w e op ar,si,ei,e,clk,ag)/\I clk/\(∀v∈src,0<=v->u_ (jc c v) clk)/\((e.2.1=3\/e.2.1=4)->∀lk:Int,0<=lk->lk<=(l! w.2.1:Int)->jL (e.1,lk) op=J->∀p∈re,qK (bf ar p) (bf ar (c_ (e.1,lk) op))=J->Un (bf ar p) e=J->u_ (jc c (bf ar p).en) clk)/\(ag=af->∀p∈re,qK (bf ar p) (bf ar (c_ (e.1,fA w e) op))=J->cvr clk (jt tm (bf ar p).bg)=J->cvr clk (jt tm (bf ar p).en)=J)) ?_ ?_ ⟨clk,J,rfl,hk,hs,hb,nofun⟩
   .rintro x ⟨clk,ag,rfl,hk,hs,hb,hd⟩;dsimp only;refine aQ (λhag=>?_) λhag=>?_
    .refine aZ (WY hT hc q0 q1 (sam.EnI hr) hrl' (hI.it clk hk).1) (bl (by simp only[gr,io]) (ak ?_));obtain⟨r1,r2,r3,r4⟩:=aih (I:=I) (c:=c) (tm:=tm) (ar:=ng w e op ar) (q:=c_ (e.1,fA w e) op) (re:=re) (λp hp=>by rw[pe p hp];exact htm p hp) re (clk,af) (λp hp=>hp) hk (λclk p hp m1 m2 hk=>by
      rw[sam.mat]at m1;rw[pe p hp]at m2 ⊢;exact hI.i3 clk p hq hp m1 m2 hk)
     generalize List.foldl (vP c tm (ng w e op ar) (c_ (e.1,fA w e) op)) (clk,af) re=s at*
     obtain⟨sc,sa⟩:=s;dsimp only at r1 r2 r3 r4;refine ⟨⟨sc,sa,rfl,r1,λv hv v0=>(hs v hv v0).trans r2,λh lk l0 l1 ho' p hp m1 m2=>(hb h lk l0 l1 ho' p hp m1 m2).trans r2,λh p hp m1 m2=>?_⟩,?_⟩
     .obtain⟨_,f2,f3⟩:=r4 h;rw[f2]at m2 ⊢;have:=f3 p hp (by rw[sam.mat];exact m1) (by rw[pe p hp];exact m2);rw[pe p hp]at this;exact this
     .grind
    .have hag:ag=af:=hag;exact ak ⟨clk,rfl,hk,hs,hb,λ_=>hd hag⟩
   .dsimp only;have:=uncL clk;rw[aE rfl];omega
  .refine ak ⟨clk,rfl,hk,hs,hb,λh=>?_⟩;have hq:jL (e.1,fA w e) op=af:=hq;rw[hq]at h;cases h
 rintro x ⟨clk,rfl,hk,hj'⟩;dsimp only;obtain⟨k1,k2,k3⟩:=hI.it clk hk;have et:e.1=((e.1.toNat:Nat):Int):=by omega
 have htick:qY (clk,e.1)=Z (tk clk e.1.toNat):=by
  rw[et,a8];exact apf clk e.1.toNat (by unfold big;omega) (by omega) k2 (by omega)
 refine aZ htick ?_;have htl:=hc.tl;have hlt:l! (tk clk e.1.toNat)=l! w.2.2.2.2.1:=by rw[Q6,k1];omega
 refine bG (by rw[cH];omega) (by omega) (aR t0 (by rw[hlt];exact t1) (aU (bG (by rw[cH];omega) (by omega) ?_)));have hgt:geti aP (tk clk e.1.toNat) e.1=(tk clk e.1.toNat).getD e.1.toNat 0:=by
  rw[et,vB,a8]
 have hgt':geti aP (tk clk e.1.toNat) e.1=(tk clk e.1.toNat).getD e.1.toNat 0:=hgt;rw[hgt'];refine aZ (U1 hev (by rw[sam.ln];exact ho) (λv hv=>by rw[sam.ln];exact (hr v hv).1) hrl') ?_;dsimp only;refine bl (by simp only[gr,io]) ?_;refine aZ (ak8 hev (by omega) hT hv h1 h2 h3 hwt h4 h5) ?_;dsimp only;refine bl (by simp only[bW,UN,UM,LS,adc,gr,io]) (ak ⟨clk,⟨hk,hj'⟩,rfl⟩)
def FR {ar:Y WO} :bf ar a=bf ar (a.toNat:Int):=by unfold bf dO;rw[a8]
def FU {ar:Y WO} (o:WO) (h:a.toNat<l! ar):bf (ar++[o]) a=bf ar a:=by
 unfold bf dO;rw[aF,aF,bT h]
def Lw (ar:Y WO) (o:WO):bf (ar++[o]) (l! ar:Int)=o:=by
 unfold bf dO;rw[a8,aF,vo];rfl
def AS (op:Y d?):Prop:=(op.map (·.1)).Nodup
def abr (k:ν) {x:d?}:∀{op:Y d?},AS op->x∈Ah k op->x.1≠k
 |[],_,h=>by cases h
 |e::r,A,h=>by
  unfold AS at A;rw[ch,uF]at A;simp[Ah]at h;cases z:Ib k e.1 with
  |true=>
   rw[z]at h;intro he;exact A.1 (by rw[<- uQ.1 z,<-he];exact List.mem_map_of_mem h)
  |false=>
   rw[z]at h;rcases a_.1 h with h|h
   .rw[h];intro he;rw[uQ.2 he.symm]at z;cases z
   .exact abr k A.2 h
def AS.del (k:ν):∀{op:Y d?},AS op->AS (Ah k op)
 |[],h=>h
 |e::r,z=>by
  unfold AS at z ⊢;rw[ch,uF]at z;simp[Ah];cases D:Ib k e.1 with
  |true=>exact z.2
  |false=>
   rw[ch,uF];refine ⟨λh=>z.1 ?_,AS.del k z.2⟩;let⟨x,A,hxe⟩:=cu.1 h;rw[<- hxe];exact List.mem_map_of_mem (FW k A)
def Mo {k:ν} {x:d?}:∀{op:Y d?},AS op->x∈sG k a op->x=(k,a)\/(x∈op/\x.1≠k)
 |[],_,h=>.inl (aC.1 h)
 |e::r,A,h=>by
  unfold AS at A;rw[ch,uF]at A;simp[sG]at h;cases z:Ib k e.1 with
  |true=>
   rw[z]at h;rcases a_.1 h with h|h
   .exact .inl h
   .refine .inr ⟨cg _ h,λhe=>A.1 ?_⟩;rw[<- uQ.1 z,<-he];exact List.mem_map_of_mem h
  |false=>
   rw[z]at h;rcases a_.1 h with h|h
   .rw[h];exact .inr ⟨dk ..,λhe=>by rw[uQ.2 he.symm]at z;cases z⟩
   .rcases Mo A.2 h with h|h
    .exact .inl h
    .grind
def Ro {k:ν} {y:ν}:∀{op:Y d?},y∈(sG k a op).map (·.1)->y=k\/y∈op.map (·.1)
 |[],h=>.inl (by simpa[sG] using h)
 |e::r,h=>by
  simp only[sG]at h;cases z:Ib k e.1 with
  |true=>grind
  |false=>
   rw[z]at h;rcases a_.1 h with h|h
   .grind
   .rcases Ro h with h|h
    .exact .inl h
    .grind
def AS.put (k:ν) (v:Int):∀{op:Y d?},AS op->AS (sG k v op)
 |[],_=>by simp[AS,sG]
 |e::r,z=>by
  unfold AS at z ⊢;rw[ch,uF]at z;simp[sG];cases A:Ib k e.1 with
  |true=>
   show (k::r.map (·.1)).Nodup;rw[uQ.1 A,uF];exact z
  |false=>
   show (e.1::(sG k v r).map (·.1)).Nodup;rw[uF];refine ⟨λh=>?_,AS.put k v z.2⟩;rcases Ro h with h|h
   .rw[uQ.2 h.symm]at A;cases A
   .exact z.1 h
structure WS (j:Nat) (op:List (ν×Int)) (re:η) (ar:List WO):Prop where
 ks:AS op
 o:∀x∈op,(0<=x.2/\x.2<(l! ar:Int))/\(bf ar x.2).th=x.1.1/\(bf ar x.2).lk=x.1.2/\(bf ar x.2).en= -1/\0<=x.1.2
 a:∀k:Nat,k<l! ar->(0<=(bf ar k).bg/\(bf ar k).bg<(j:Int))/\((bf ar k).en= -1\/((bf ar k).bg<(bf ar k).en/\(bf ar k).en<(j:Int)))
 r:∀p∈re,(0<=p/\p<(l! ar:Int))/\(bf ar p).en≠ -1
 rl:l! re<=j
def WS.op {op:Y d?} {re:η} {ar:Y WO} (h:WS j op re ar):OpI (l! ar) op:=λx z=>(h.o x z).1
def WS.oo {op:Y d?} {re:η} {ar:Y WO} (h:WS j op re ar):∀x∈op,(bf ar x.2).en= -1:=λx z=>(h.o x z).2.2.2.1
def WS.en {op:Y d?} {re:η} {ar:Y WO} (h:WS j op re ar):EnI j ar re:=λp hp=>by
 let⟨⟨p0,z⟩,p2⟩:=h.r p hp;let⟨D,A⟩:=h.a p.toNat (by omega)
 grind
def WS.sam {op:Y d?} {re:η} {ar ar':Y WO} (h:WS j op re ar) (s:Sam ar ar'):WS j op re ar':=by
 let⟨h1,h2,N,L,D⟩:=h;have e:∀i:Int,(bf ar' i).1=(bf ar i).1:=s.hd;refine ⟨h1,λx z=>?_,λk A=>?_,λp hp=>?_,D⟩
 .have:=h2 x z;unfold WO.th WO.lk WO.en at this ⊢;rw[e,s.ln];exact this
 .have:=N k (by rw[<- s.ln];exact A)
  grind
 .have:=L p hp;unfold WO.en at this ⊢;rw[e,s.ln];exact this
def rA {w:WT} {e:ET} {op:Y d?} {ar:Y WO} (hi:OpI (l! ar) op) (i:Int):bf (yC w a e op ar) i=if scQ w e op=J/\i.toNat=(c_ (e.1,fA w e) op).toNat then IC a (bf ar (c_ (e.1,fA w e) op)) else bf ar i:=by
 unfold yC;by_cases z:scQ w e op=J
 .rw[aE z];have:=hi _ (gg _ z);rw[S0 _ _ (by omega)]
  grind
 .grind
def Fz {w:WT} {e:ET} {op:Y d?} (z:AS op) {x:d?} (h:x∈xP w e op):x∈op/\(scQ w e op=J->x.1≠(e.1,fA w e)):=by
 unfold xP at h;split at h
 .exact⟨FW _ h,λ_=>abr _ z h⟩
 .grind
def Rd {w:WT} {e:ET} {op:Y d?} (z:AS op):AS (xP w e op):=by
 unfold xP;split
 .exact z.del _
 .exact z
def SA {w:WT} {e:ET} {op:Y d?} {re:η} {ar:Y WO} (h:WS j op re ar) {x:d?} (A:x∈xP w e op) (z:Int):bf (yC w z e op ar) x.2=bf ar x.2:=by
 let⟨h1,N⟩:=Fz h.ks A;rw[rA h.op,ax];rintro⟨D,L⟩;have hm:=gg _ D;have a1:=h.o _ h1;have a2:=h.o _ hm
 grind
def WS.next {w:WT} {e:ET} {op:Y d?} {re:η} {ar:Y WO} (h:WS j op re ar):WS (j+1) (Re w e op ar) (yB w e op re) (BJ w (j:Int) e op ar):=by
 have z:=BR w (j:Int) e op ar;have m1:WS (j+1) (xP w e op) (yB w e op re) (yC w (j:Int) e op ar):=by
  refine ⟨Rd h.ks,λx A=>?_,λk N=>?_,λp hp=>?_,?_⟩
  .rw[SA h A,z];exact h.o x (Fz h.ks A).1
  .rw[z]at N;rw[rA h.op];split
   .rename_i hz;have hm:=h.o _ (gg _ hz.1);dsimp only at hm;have ha:=h.a (c_ (e.1,fA w e) op).toNat (by omega);unfold IC
    grind
   .have ha:=h.a k N;omega
  .unfold yB at hp;have old:p∈re->(0<=p/\p<(l! (yC w (j:Int) e op ar):Int))/\(bf (yC w (j:Int) e op ar) p).en≠ -1:=λhp=>by
    let⟨L,D⟩:=h.r p hp;rw[z];refine ⟨L,?_⟩;rw[rA h.op];split
    .unfold IC;dsimp only[WO.en];omega
    .exact D
   split at hp
   .rename_i hq;rcases bO.1 hp with hp|hp
    .exact old hp
    .rw[aC]at hp;subst hp;have hm:=h.o _ (gg _ hq);rw[z];refine ⟨hm.1,?_⟩;rw[rA h.op,aE ⟨hq,rfl⟩];unfold IC;dsimp only[WO.en];omega
   .exact old hp
  .unfold yB;have:=h.rl
   grind
 unfold Re BJ;by_cases g:0<=mS w e
 .rw[aE g,aE g];generalize hn:((e.1,mS w e,(j:Int),-1,decide (e.2.1=8)),([],[]))=new;have hlen:(l! (yC w (j:Int) e op ar++[new]:Y WO):Int)=(l! ar:Int)+1:=by grind
  have hat:bf (yC w (j:Int) e op ar++[new]) (l! ar:Int)=new:=by rw[<- z];exact Lw _ _
  refine ⟨m1.ks.put _ _,λx A=>?_,λk N=>?_,λp hp=>?_,m1.rl⟩
  .rcases Mo m1.ks A with rfl|⟨A,_⟩
   .grind
   .obtain⟨⟨q0,L⟩,D⟩:=m1.o x A;rw[z]at L;rw[FU _ (by omega),hlen];exact⟨⟨q0,by omega⟩,D⟩
  .rw[bC,cH,z]at N;by_cases hz:k=l! ar
   .grind
   .rw[FU _ (by omega)];exact m1.a k (by omega)
  .obtain⟨⟨q0,L⟩,D⟩:=m1.r p hp;rw[z]at L;rw[FU _ (by omega),hlen];exact⟨⟨q0,by omega⟩,D⟩
 .grind
structure JCw (w:WT) (l:List ET) (j:Nat) (c:List η) (clk:η):Prop where
 ln:l! clk=l! w.2.2.2.2.1
 b:∀u:Nat,0<=clk.getD u 0/\clk.getD u 0<=(ct l u j:Int)
 cl:∀i:Nat,i<j->(c.getD i []).getD (fc l i) 0<=clk.getD (fc l i) 0->u_ (c.getD i []) clk
structure CI (w:WT) (l:List ET) (j:Nat) (c:List η) (tm:List ν) (la:η):Prop where
 k:CkL (l! w.2.2.2.2.1) j c tm
 tv:∀i:Nat,i<j->tm.getD i (0,0)=((c.getD i []).getD (fc l i) 0,(fc l i:Int))
 nn:∀i:Nat,i<j->∀u:Nat,0<=(c.getD i []).getD u 0/\(c.getD i []).getD u 0<=(ct l u (i+1):Int)
 own:∀i:Nat,i<j->(c.getD i []).getD (fc l i) 0=(ct l (fc l i) (i+1):Int)
 cls:∀i k:Nat,i<j->k<j->(c.getD i []).getD (fc l i) 0<=(c.getD k []).getD (fc l i) 0->u_ (c.getD i []) (c.getD k [])
 lav:∀u:Nat,u<l! w.2.2.2.2.1->(0<=la.getD u 0->la.getD u 0<(j:Int)/\fc l (la.getD u 0).toNat=u/\ct l u j=ct l u ((la.getD u 0).toNat+1))/\(la.getD u 0<0->ct l u j=0)
def CI.cvr {w:WT} {l:Y ET} {c:Y η} {tm:Y ν} {la:η} (h:CI w l j c tm la) (h0:0<=a) (h1:a<(j:Int)) (clk:η):AI.cvr clk (jt tm a)=J↔(jc c a).getD (fc l a.toNat) 0<=clk.getD (fc l a.toNat) 0:=by
 unfold AI.cvr jt jc;rw[h.tv a.toNat (by omega),bR,a8]
def JCw.join {w:WT} {l:Y ET} {c:Y η} {tm:Y ν} {la:η} (h:CI w l j c tm la) (clk:JCw w l j c z) (h0:0<=a) (h1:a<(j:Int)):JCw w l j c (jl z (jc c a)):=by
 have hi:a.toNat<j:=by omega
 refine ⟨by rw[Ic,clk.ln,h.k.jc h0 h1];exact Nat.max_self _,λu=>?_,λk hkj hle=>?_⟩
 .rw[MI];have i:=clk.b u;have b:=h.nn a.toNat hi u;have d:=Hb l u (show a.toNat+1<=j from hi);have e:jc c a=c.getD a.toNat []:=rfl;rw[e];rcases Tk (z.getD u 0) ((c.getD a.toNat []).getD u 0) with h|h<;>rw[h]<;>omega
 .rw[MI]at hle;rcases Tk (z.getD (fc l k) 0) ((jc c a).getD (fc l k) 0) with e|e
  .rw[e]at hle;exact (clk.cl k hkj hle).trans (MB _ _)
  .rw[e]at hle;exact (h.cls k a.toNat hkj hi hle).trans (Tf _ _)
def JCw.zero {w:WT} {l:Y ET} {c:Y η} {tm:Y ν} {la:η} (h:CI w l j c tm la):JCw w l j c (aG (l! w.2.2.2.2.1) 0):=by
 have z:∀u:Nat,(aG (l! w.2.2.2.2.1) (0:Int)).getD u 0=0:=λu=>by grind
 refine ⟨dx ..,λu=>by rw[z];omega,λi hi hle=>?_⟩;rw[z,h.own i hi]at hle;have:=Fi l i;omega
def LW (clk:η) (t:Nat):u_ clk (tk clk t):=λu=>by
 rw[EL];split
 next h=>rw[h];omega
 .exact dg _
def CI.next {w:WT} {l:Y ET} {c:Y η} {tm:Y ν} {la:η} (h:CI w l j c tm la) (hla:EA (l! w.2.2.2.2.1) j la) (t0:0<=(eN l j).1) (t1:(eN l j).1<l! w.2.2.2.2.1) (hk:JCw w l j c z) (hp:0<=la.getD (fc l j) 0->u_ (jc c (la.getD (fc l j) 0)) z):
 CI w l (j+1) (c++[tk z (fc l j)]) (tm++[((tk z (fc l j)).getD (fc l j) 0,(eN l j).1)]) (cC la (eN l j).1 (j:Int))/\u_ z ((c++[tk z (fc l j)]).getD j [])/\∀u,u≠fc l j->((c++[tk z (fc l j)]).getD j []).getD u 0=z.getD u 0:=by
 have hcl:=h.k.cl;have htl:=h.k.tl;have et:(eN l j).1=(fc l j:Int):=by unfold fc;omega
 have tlt:fc l j<l! w.2.2.2.2.1:=by omega
 have N:∀i:Nat,i<j->(c++[tk z (fc l j)]).getD i []=c.getD i []:=λi hi=>by
  rw[aF,aF,bT (by omega)]
 have gj:(c++[tk z (fc l j)]).getD j []=tk z (fc l j):=by
  rw[aF,<-hcl,vo];rfl
 have tl:∀i:Nat,i<j->(tm++[((tk z (fc l j)).getD (fc l j) 0,(eN l j).1)]).getD i (0,0)=tm.getD i (0,0):=λi hi=>by
  simp only[aF,bT (show i<l! tm by omega)]
 have tj:(tm++[((tk z (fc l j)).getD (fc l j) 0,(eN l j).1)]).getD j (0,0)=((tk z (fc l j)).getD (fc l j) 0,(eN l j).1):=by
  rw[aF,<-htl,vo];rfl
 have hown:z.getD (fc l j) 0=(ct l (fc l j) j:Int):=by
  have hb:=hk.b (fc l j);let⟨a1,a2⟩:=h.lav (fc l j) tlt;by_cases h0:0<=la.getD (fc l j) 0
  .obtain⟨q1,q2,q3⟩:=a1 h0;have:=hp h0 (fc l j);have ho:=h.own (la.getD (fc l j) 0).toNat (by omega);rw[q2]at ho;have e:jc c (la.getD (fc l j) 0)=c.getD (la.getD (fc l j) 0).toNat []:=rfl;rw[e,ho,<-q3]at this;omega
  .have:=a2 (by omega);omega
 have htk:(tk z (fc l j)).getD (fc l j) 0=(ct l (fc l j) (j+1):Int):=by
  rw[EL,aE rfl,hown,Fi];omega
 refine ⟨⟨⟨by simp[hcl],by simp[htl],λi hi=>?_,λi hi=>?_⟩,λi hi=>?_,λi hi u=>?_,λi hi=>?_,λi k hi hkk hle=>?_,λu D=>?_⟩,by rw[gj];exact LW _ _,λu D=>by rw[gj,EL,ax D]⟩
 .rcases cJ i j with clk|clk
  .rw[N i clk];exact h.k.ln i clk
  .have:i=j:=by omega
   subst this;rw[gj,Q6,hk.ln];omega
 .rcases cJ i j with clk|clk
  .rw[tl i clk];exact h.k.th i clk
  .have:i=j:=by omega
   subst this;rw[tj];exact t0
 .rcases cJ i j with clk|clk
  .rw[tl i clk,N i clk];exact h.tv i clk
  .have:i=j:=by omega
   subst this;rw[tj,gj,et]
 .rcases cJ i j with clk|clk
  .rw[N i clk];exact h.nn i clk u
  .have:i=j:=by omega
   subst this;rw[gj];by_cases D:u=fc l i
   .rw[D,htk];omega
   .rw[EL,ax D];have:=hk.b u;have:=Hb l u (show i<=i+1 by omega);omega
 .rcases cJ i j with clk|clk
  .rw[N i clk];exact h.own i clk
  .have:i=j:=by omega
   subst this;rw[gj];exact htk
 .rcases cJ i j with clk|clk
  .rcases cJ k j with A|A
   .rw[N i clk,N k A] at*
    exact h.cls i k clk A hle
   .have:k=j:=by omega
    subst this;rw[N i clk,gj] at*
    refine u_.trans (hk.cl i clk ?_) (LW _ _);by_cases D:fc l i=fc l k
    .rw[D,hown];have ho:=h.own i clk;rw[D]at ho;rw[ho];have:=Hb l (fc l k) (show i+1<=k from clk);omega
    .rw[EL,ax D]at hle;exact hle
  .have:i=j:=by omega
   subst this;rcases cJ k i with A|A
   .rw[N k A,gj,htk]at hle;have:=(h.nn k A (fc l i)).2;have:=Hb l (fc l i) (show k+1<=i from A);have:=Fi l i;omega
   .have:k=i:=by omega
    subst this;exact u_.rfl
 .rw[et,ry];have hll:=hla.1;rw[aF,em];by_cases L:fc l j=u
  .rw[aE L,aE (by omega)];simp only[Option.getD_some];refine ⟨λ_=>⟨by omega,by rw[a8];exact L,by rw[a8]⟩,λhz=>by omega⟩
  .rw[ax L,<-aF];have hc:ct l u (j+1)=ct l u j:=by simp only[ct,ax L,dG]
   rw[hc];let⟨a1,a2⟩:=h.lav u D;refine ⟨λhz=>?_,a2⟩;let⟨q1,q2,q3⟩:=a1 hz;exact⟨by omega,q2,q3⟩
structure WkG (w:WT) (l:List ET) (j:Nat) (c:List η) (tm:List ν) (la sp wa wt st se:η) (op:List (ν×Int)) (re:η) (ar:List WO) (si ei:List η):Prop where
 ci:CI w l j c tm la
 ws:WS j op re ar
 la:EA (l! w.2.2.2.2.1) j la
 sp:EA (l! w.2.2.2.2.1) j sp
 wa:EA (l! w.2.2.2.2.1) j wa
 wt:l! wt=l! w.2.2.2.2.1
 st:Pp (l! w.1) j st si
 se:Pp (l! w.2.2.2.1) j se ei
structure JK (w:WT) (c:List η) (tm:List ν) (src:η) (op:List (ν×Int)) (re:η) (ar:List WO) (e:ET) (I:η->Prop):Prop where
 i0:I (aG (l! w.2.2.2.2.1) 0)
 i1:∀clk i,i∈src->0<=i->I clk->I (jl clk (jc c i))
 i2:∀clk (lk:Int) p,(e.2.1=3\/e.2.1=4)->0<=lk->lk<=(l! w.2.1:Int)->jL (e.1,lk) op=J->p∈re->qK (bf ar p) (bf ar (c_ (e.1,lk) op))=J->Un (bf ar p) e=J->I clk->I (jl clk (jc c (bf ar p).en))
 i3:∀clk p,jL (e.1,fA w e) op=J->p∈re->qK (bf ar p) (bf ar (c_ (e.1,fA w e) op))=J->cvr clk (jt tm (bf ar p).bg)=J->I clk->I (jl clk (jc c (bf ar p).en))
structure CKj (w:WT) (l:List ET) (j:Nat) (c:List η) (tm:List ν) (la sp wa:η) (op:List (ν×Int)) (re:η) (ar:List WO) (si ei:List η) (clk:η):Prop where
 jc:JCw w l j c clk
 jr:JR w c tm (tY w la sp wa si ei (eN l j)) op re ar (eN l j) clk
 js:∀I,JK w c tm (tY w la sp wa si ei (eN l j)) op re ar (eN l j) I->I clk
def TR.note {w:WT} {l:Y ET} (tr:TR (w,l)) (D:j<l! l):(eN l j).2.1=18->(eN l j).2.2.2.1<l! w.2.2.2.2.1:=λh=>by
 have sc:=tr.sc D;have en:=sc.en;have z:=sc.va.el (by omega) (by omega) (by omega) (by omega) (by omega);rw[h,Fk]at z;split at z
 .omega
 .rename_i A;have:=(LI (u:=(eN l j).2.2.2.1) A).2;have e3:=en.e3
  grind
def ae2 (w:WT) (la sp wa:η) (si ei:Y η) (e:ET):geti aP la e.1∈tY w la sp wa si ei e:=by
 unfold tY;exact eR _ (aC.2 rfl)
def aax {w:WT} {e:ET} (hev:Ht w e) {la sp wa st se:η} {si ei:Y η} (h1:EA (l! w.2.2.2.2.1) j la) (N:EA (l! w.2.2.2.2.1) j sp) (L:EA (l! w.2.2.2.2.1) j wa) (D:Pp (l! w.1) j st si) (A:Pp (l! w.2.2.2.1) j se ei):∀v∈tY w la sp wa si ei e,v<(j:Int):=by
 have t0:=hev.t0;have t1:=hev.t1;have q:∀{n:Nat} {xs:η} {xss:Y η} {o:Int},Pp n j xs xss->0<=o->o<n->∀v∈kS (T:=aP) xss o,v<(j:Int):=λ{n xs xss o} h o0 o1 v z=>by
  have e:o=((o.toNat:Nat):Int):=by omega
  exact ((h.2.2 o.toNat (by omega)).2.2 v z).2
 intro v z;rcases bO.1 z with z|z
 .rw[aC]at z;rw[z];exact (h1.geti t0 t1).2
 .split at z
  .rw[aC]at z;rw[z];exact (N.geti t0 t1).2
  .split at z
   next g=>rw[aC]at z;rw[z];exact (h1.geti (hev.nm.th (.inr g)).1 (hev.nm.th (.inr g)).2).2
   .split at z
    next g=>exact q A (hev.nm.fu (.inr g)).1 (hev.nm.fu (.inr g)).2 v z
    .split at z
     .rename_i g;split at z
      .exact q D (hev.nm.ce (.inl g)).1 (hev.nm.ce (.inl g)).2 v z
      .cases z
     .split at z
      .rw[aC]at z;rw[z];exact (L.geti t0 t1).2
      .cases z
def WkG.step {w:WT} {l:Y ET} (tr:TR (w,l)) (D:j<l! l) {c:Y η} {tm:Y ν} {la sp wa wt st se:η} {op:Y d?} {re:η} {ar:Y WO} {si ei:Y η} (g:WkG w l j c tm la sp wa wt st se op re ar si ei):
 Ok (gx (((j:Int),eN l j),(w,l),c,tm,la,sp,wa,wt,st,se,op,re,ar,si,ei)) λy=>∃clk,CKj w l j c tm la sp wa op re ar si ei clk/\y=((w,l),cC la (eN l j).1 (j:Int),z_ (j:Int) (eN l j) sp,EJ (j:Int) (eN l j) wt wa,HE (eN l j) wt,QQ 4 (j:Int) (eN l j) st si,QQ 22 (j:Int) (eN l j) se ei,Re w (eN l j) op (ng w (eN l j) op ar),c++[tk clk (fc l j)],tm++[((tk clk (fc l j)).getD (fc l j) 0,(eN l j).1)],yB w (eN l j) op re,BJ w (j:Int) (eN l j) op (ng w (eN l j) op ar),QP 4 (j:Int) (eN l j) si,QP 22 (j:Int) (eN l j) ei):=by
 have N:l! l<=400:=tr.len;have wb:=tr.wb;have hev:Ht w (eN l j):=tr.ev _ (pC D);have hen:=g.ws.en;have hlt:=aax hev g.la g.sp g.wa g.st g.se;have htm:∀p∈re,cvr (jc c (bf ar p).en) (jt tm (bf ar p).en)=J:=λp hp=>by
  let⟨_,_,q0,A⟩:=hen p hp;exact (g.ci.cvr q0 A _).2 (dg _)
 have hrl:=g.ws.rl;refine Ok.mono (amj (I:=λclk=>JCw w l j c clk/\∀I,JK w c tm (tY w la sp wa si ei (eN l j)) op re ar (eN l j) I->I clk) hev (by omega) wb.t wb.l (tr.note D) g.la g.sp g.wa g.wt g.st g.se g.ci.k g.ws.op g.ws.oo hen (by omega) htm ?_) ?_
 .refine ⟨⟨JCw.zero g.ci,λI h=>h.i0⟩,λclk i hi h0 z=>⟨z.1.join g.ci h0 (hlt i hi),λI h=>h.i1 clk i hi h0 (z.2 I h)⟩,λclk lk p a b d f hp m1 m2 z=>?_,λclk p a hp m1 m2 z=>?_,λclk z=>?_⟩
  .obtain⟨_,_,q0,A⟩:=hen p hp;exact⟨z.1.join g.ci q0 A,λI h=>h.i2 clk lk p a b d f hp m1 m2 (z.2 I h)⟩
  .obtain⟨_,_,q0,A⟩:=hen p hp;exact⟨z.1.join g.ci q0 A,λI h=>h.i3 clk p a hp m1 m2 (z.2 I h)⟩
  .have:=z.1.b (eN l j).1.toNat;have:=axf l (eN l j).1.toNat j;exact⟨z.1.ln,by omega,by omega⟩
 .rintro y ⟨clk,⟨⟨k1,k2⟩,k3⟩,L⟩;exact⟨clk,⟨k1,k3,k2⟩,L⟩
def WkG.next {w:WT} {l:Y ET} (tr:TR (w,l)) (A:j<l! l) {c:Y η} {tm:Y ν} {la sp wa wt st se:η} {op:Y d?} {re:η} {ar:Y WO} {si ei:Y η} (g:WkG w l j c tm la sp wa wt st se op re ar si ei) (clk:CKj w l j c tm la sp wa op re ar si ei z):
 WkG w l (j+1) (c++[tk z (fc l j)]) (tm++[((tk z (fc l j)).getD (fc l j) 0,(eN l j).1)]) (cC la (eN l j).1 (j:Int)) (z_ (j:Int) (eN l j) sp) (EJ (j:Int) (eN l j) wt wa) (HE (eN l j) wt) (QQ 4 (j:Int) (eN l j) st si) (QQ 22 (j:Int) (eN l j) se ei) (Re w (eN l j) op (ng w (eN l j) op ar)) (yB w (eN l j) op re) (BJ w (j:Int) (eN l j) op (ng w (eN l j) op ar)) (QP 4 (j:Int) (eN l j) si) (QP 22 (j:Int) (eN l j) ei):=by
 have hev:Ht w (eN l j):=tr.ev _ (pC A);have t0:=hev.t0;have t1:=hev.t1;have D:(eN l j).1=(fc l j:Int):=by unfold fc;omega
 have sam:=CS (w:=w) (e:=eN l j) g.ws.op g.ws.oo;have hlast:geti aP la (eN l j).1=la.getD (fc l j) 0:=by rw[D,vB]
 refine ⟨(g.ci.next g.la t0 t1 clk.jc λh0=>?_).1,(g.ws.sam sam).next,?_,g.sp.sp _ λh=>(hev.nm.th (.inl h)).1,g.wa.wa _ (tr.note A),by rw[LS];exact g.wt,g.st.ad 4 _ λh=>(hev.nm.ce (.inr h)).1,g.se.ad 22 _ λh=>(hev.nm.fu (.inl h)).1⟩
 .rw[<- hlast];exact clk.jr.a _ (ae2 ..) (by grind)
 .exact g.la.set _ (by omega) (dg _)
def an9 {n:Nat} (A:n<=1000):lz (n:Int)=Z (aG n (-1)):=by
 refine cI ?_;unfold lz Au ck bS bU c7 aI cQ;refine cF (cF (a? (a? (a! ?_))));refine g9 n (by omega) (λi x=>x=((i:Int),aG i (-1)++aG (n-i) 0)) ?_ ?_ (by simp)
 .rintro i x hi rfl;refine cW ?_ (by grind);have z:dK (i:Int) (aj (aG i (-1:Int)++aG (n-i) 0))=J:=LC.2 ⟨by omega,by simp;omega⟩;refine bl z (bl z (ak ?_));rw[fV,ry];have h1:n-i=(n-(i+1))+1:=by omega
  rw[List.set_append_right _ _ (by simp),dx,w_,h1,yl,List.set_cons_zero,wL (n:=i),iT];rfl
 .rintro x rfl;refine cP (ak ?_) (by simp);simp
def WkG.zero (w:WT) (l:Y ET):WkG w l 0 [] [] (aG (l! w.2.2.2.2.1) (-1)) (aG (l! w.2.2.2.2.1) (-1)) (aG (l! w.2.2.2.2.1) (-1)) (aG (l! w.2.2.2.2.1) (-1)) (aG (l! w.1) 0) (aG (l! w.2.2.2.1) 0) [] [] [] (aG (l! w.1) []) (aG (l! w.2.2.2.1) []):=by
 have m1:∀(n u:Nat),u<n->(aG n (-1:Int)).getD u 0= -1:=λn u h=>by grind
 have rw_:∀n:Nat,EA n 0 (aG n (-1)):=λn=>⟨dx ..,λu z=>by rw[m1 n u z];omega⟩
 have A:∀n:Nat,Pp n 0 (aG n 0) (aG n []):=λn=>⟨dx ..,dx ..,λo D=>by
  rw[aF,aF,fT,fT,aE D,aE D];exact⟨rfl,bJ _,λv N=>by cases N⟩⟩
 refine ⟨⟨⟨rfl,rfl,λi hi=>bA hi (bN _),λi hi=>bA hi (bN _)⟩,λi hi=>bA hi (bN _),λi hi=>bA hi (bN _),λi hi=>bA hi (bN _),λi k hi=>bA hi (bN _),λu z=>⟨λh=>by rw[m1 _ u z]at h;omega,λ_=>rfl⟩⟩,⟨List.nodup_nil,λx L=>(by cases L),λk hk=>bA hk (bN _),λp hp=>(by cases hp),bJ _⟩,rw_ _,rw_ _,rw_ _,dx ..,A _,A _⟩
def WkH:Type:=Nat->Y η->Y ν->η->η->η->η->η->η->Y d?->η->Y WO->Y η->Y η->Prop
structure HK (w:WT) (l:List ET) (H:WkH):Prop where
 z:H 0 [] [] (aG (l! w.2.2.2.2.1) (-1)) (aG (l! w.2.2.2.2.1) (-1)) (aG (l! w.2.2.2.2.1) (-1)) (aG (l! w.2.2.2.2.1) (-1)) (aG (l! w.1) 0) (aG (l! w.2.2.2.1) 0) [] [] [] (aG (l! w.1) []) (aG (l! w.2.2.2.1) [])
 s:∀j c tm la sp wa wt st se op re ar si ei clk,j<l! l->WkG w l j c tm la sp wa wt st se op re ar si ei->H j c tm la sp wa wt st se op re ar si ei->CKj w l j c tm la sp wa op re ar si ei clk->
  H (j+1) (c++[tk clk (fc l j)]) (tm++[((tk clk (fc l j)).getD (fc l j) 0,(eN l j).1)]) (cC la (eN l j).1 (j:Int)) (z_ (j:Int) (eN l j) sp) (EJ (j:Int) (eN l j) wt wa) (HE (eN l j) wt) (QQ 4 (j:Int) (eN l j) st si) (QQ 22 (j:Int) (eN l j) se ei) (Re w (eN l j) op (ng w (eN l j) op ar)) (yB w (eN l j) op re) (BJ w (j:Int) (eN l j) op (ng w (eN l j) op ar)) (QP 4 (j:Int) (eN l j) si) (QP 22 (j:Int) (eN l j) ei)
def af7 {w:WT} {l:Y ET} (tr:TR (w,l)) {H:WkH} (L:HK w l H):Ok (lj (w,l)) λy=>∃c tm la sp wa wt st se op re ar si ei,y=((w,l),c,tm,la,sp,wa,wt,st,se,op,re,ar,si,ei)/\WkG w l (l! l) c tm la sp wa wt st se op re ar si ei/\H (l! l) c tm la sp wa wt st se op re ar si ei:=by
 have hl:l! l<=400:=tr.len;have wb:=tr.wb;have N:=wb.t;have hC:=wb.c;have hF:=wb.f;dsimp only at N hC hF;unfold lj vz ly me md CY bk bD bQ cS eV kZ mw nM Prod.z Prod.r bS bU bX be c7 aI cQ;dsimp only;have A:=an9 (n:=l! w.2.2.2.2.1) (by omega);refine aZ A (aZ A (aZ A (aZ A ?_)));refine cF (cF (dj (by simp) (a? (bG (by grind) (by omega) ?_))));refine cF (cF (dj (by simp) (a? (bG (by grind) (by omega) ?_))));refine g9 (l! l) (by omega) (λi x=>∃c tm la sp wa wt st se op re ar si ei,x=((i:Int),(w,l),c,tm,la,sp,wa,wt,st,se,op,re,si,ei,ar)/\WkG w l i c tm la sp wa wt st se op re ar si ei/\H i c tm la sp wa wt st se op re ar si ei) ?_ ?_ ⟨_,_,_,_,_,_,_,_,_,_,_,_,_,by simp only[ay,a8];rfl,WkG.zero w l,L.z⟩
 .rintro i x hi ⟨c,tm,la,sp,wa,wt,st,se,op,re,ar,si,ei,rfl,g,h⟩;refine cW ?_;refine aR (by simp) (by omega) (aU ?_);refine aw (g.step tr hi) ?_;rintro y ⟨clk,D,rfl⟩;refine bl (by simp[bW,UN,UM,LS,adc,gr,io]) (ak ⟨_,_,_,_,_,_,_,_,_,_,_,_,_,?_,g.next tr hi D,L.s i c tm la sp wa wt st se op re ar si ei clk hi g h D⟩);rw[fV]
 .rintro x ⟨c,tm,la,sp,wa,wt,st,se,op,re,ar,si,ei,rfl,g,h⟩;exact cP (ak ⟨c,tm,la,sp,wa,wt,st,se,op,re,ar,si,ei,rfl,g,h⟩)
def ap1:vu ()=Z J:=by kernel_rfl
abbrev IT:Type:=ω
abbrev CT:Type:=WT×Y (Int×Y IT)
def tN (a b:Int):j6 (a,b)=Z (decide (0<=a/\a<b)):=by
 refine cI ?_;unfold j6 jY aI;with_reducible repeat' first|apply OS.ok;constructor|refine IM.mk λ_=>?_
 .by_cases h:a<b<;>simp[*,gE]
 .simp;omega
def I2 (k:Int):qW k=Z (decide (1<=k/\k<=5)):=by
 refine cI ?_;unfold qW jY aI;with_reducible repeat' first|apply OS.ok;constructor|refine IM.mk λ_=>?_
 .by_cases h:k<=5<;>simp[*,dy]
 .simp;omega
def jB (i:IT):η:=
 if i.1=1\/i.1=6\/i.1=10\/i.1=27 then [i.2.1]
 else if i.1=2\/i.1=3 then [i.2.1,i.2.2.1]
 else if i.1=4 then [i.2.1,i.2.2.1,i.2.2.2.1]
 else if i.1=7 then [i.2.1,i.2.2.2.1]
 else if i.1=8\/i.1=26 then [i.2.2.1]
 else if i.1=9 then [i.2.2.1,i.2.2.2.1]
 else []
def vF (i:IT):kC i=Z (jB i):=by
 let⟨z,i2⟩:=i;unfold kC jB bk bD bQ bm aI;by_cases h1:z=1
 .subst h1;rfl
 by_cases h2:z=6
 .subst h2;rfl
 by_cases h3:z=10
 .subst h3;rfl
 by_cases h4:z=27
 .subst h4;rfl
 by_cases h5:z=2
 .subst h5;rfl
 by_cases h6:z=3
 .subst h6;rfl
 by_cases h7:z=4
 .subst h7;rfl
 by_cases N:z=7
 .subst N;rfl
 by_cases L:z=8
 .subst L;rfl
 by_cases D:z=26
 .subst D;rfl
 by_cases A:z=9
 .subst A;rfl
 simp[h1,h2,h3,h4,h5,h6,h7,N,L,D,A,decide_false,bcF,jnr,fG,dV]
def FF (z:IT):l! (jB z)<=3:=by
 unfold jB
 (repeat' split)<;>simp
def aj7 (l:Y IT) (a:Int) (D:l! l<=1000000):Ok (qF (l,a)) λ_=>True:=by
 unfold qF bm bS jY bX be c7 aI cQ;refine pX (λx=>((l! l:Int)+1-x.2).toNat) (λx=>0<=x.2/\x.2<=(l! l:Int)+1) ?_ ⟨by dsimp only;omega,by dsimp only;omega⟩;rintro⟨(a:Int),(n:Int)⟩ ⟨h0,h1⟩;refine d_ (λg=>?_) λ_=>ak trivial
 dsimp [ay]at g;refine aV (λ_=>True) ?_ λb _=>ak ?_
 .refine aV (λb=>b=af->0<=a/\a<(l! l:Int)) ?_ ?_
  .refine bP (λ_=>ak nofun) λL=>ak λh=>?_
   rw[m7]at h
   grind
  .intro b z;refine aQ (λ_=>ak trivial) λh=>?_
   let⟨q0,A⟩:=z h;refine aR q0 (by omega) (aU ?_);refine aZ (I2 _) ?_;refine eu (λ_=>ak trivial) λ_=>?_
   refine aR q0 (by omega) (aU ?_);refine aK (λ_=>?_) λ_=>ak trivial
   exact aR q0 (by omega) (aU (ak trivial))
 .dsimp only;rw[iI];omega
structure AR (w:WT) (b n:Int):Prop where
 b0:0<=b
 b1:b<l! w.1
 ix:(geti lF w.1 b).2.1=0
 sz:¬(geti lF w.1 b).2.2.1=0
 sn:(geti lF w.1 b).2.2.1=n
def XX (w:WT) (b n:Int):Ok (qG (w,b,n)) λr=>r=J->AR w b n:=by
 refine gQ ?_;refine aZ (tN _ _) ?_;refine aK (λh=>?_) λ_=>ak (ak nofun)
 refine aR h.1 h.2 (aU (aK (λh1=>?_) λ_=>ak (ak nofun)));refine aR h.1 h.2 (aU (cq (λA=>?_) λ_=>ak (ak nofun)));exact aR h.1 h.2 (aU (ak (ak λz=>⟨h.1,h.2,h1,A,bL z⟩)))
def YR (w:WT) (i:IT):Ok (mF (w,i)) λb=>b=J->(i.1=7->AR w i.2.2.1 i.2.2.2.2.1)/\(i.1=9->AR w i.2.1 i.2.2.2.2.1):=by
 have tr:∀{b:Bool},¬i.1=7->¬i.1=9->b=J->(i.1=7->AR w i.2.2.1 i.2.2.2.2.1)/\(i.1=9->AR w i.2.1 i.2.2.2.2.1):=λh1 z _=>⟨λh=>(h1 h).elim,λh=>(z h).elim⟩
 unfold mF bk bD bQ cS eV bm jY bX be aI;simp only[tN,obs];refine aK (λh6=>?_) λ_=>?_
 .refine aV (λ_=>True) ?_ λ_ _=>ak (tr (by omega) (by omega))
  refine aK (λh=>?_) λ_=>ak trivial
  exact aR h.1 h.2 (aU (ak trivial))
 refine aK (λh8=>?_) λ_=>?_
 .refine aV (λ_=>True) ?_ λ_ _=>ak (tr (by omega) (by omega))
  refine aK (λh=>?_) λ_=>ak trivial
  exact aR h.1 h.2 (aU (ak trivial))
 refine aK (λA=>?_) λD=>?_
 .exact aw (XX _ _ _) λ_ h=>ak λz=>⟨λ_=>h z,λN=>by have A:i.1=7:=A;omega⟩
 refine aK (λN=>?_) λL=>?_
 .exact aw (XX _ _ _) λ_ h=>ak λz=>⟨λA=>(D A).elim,λ_=>h z⟩
 have tr:∀{b:Bool},b=J->(i.1=7->AR w i.2.2.1 i.2.2.2.2.1)/\(i.1=9->AR w i.2.1 i.2.2.2.2.1):=tr D L;refine aV (λx=>x.2=(w,i)) (aK (λ_=>ak rfl) λ_=>ak rfl) ?_;rintro⟨b,x⟩ e;subst e;refine aQ (λ_=>?_) λ_=>?_
 .refine aV (λ_=>True) ?_ λ_ _=>ak tr
  refine aK (λh=>?_) λ_=>ak trivial
  exact aR h.1 h.2 (aU (ak trivial))
 refine aV (λx=>x.2=(w,i)) (aK (λ_=>ak rfl) λ_=>aK (λ_=>ak rfl) λ_=>aK (λ_=>ak rfl) λ_=>ak rfl) ?_;rintro⟨b,x⟩ e;subst e;refine aQ (λ_=>?_) λ_=>?_
 .refine aV (λ_=>True) ?_ λ_ _=>ak tr
  refine aK (λh=>?_) λ_=>ak trivial
  exact aR h.1 h.2 (aU (ak trivial))
 refine aV (λx=>x.2=(w,i)) (aK (λ_=>ak rfl) λ_=>aK (λ_=>ak rfl) λ_=>ak rfl) ?_;rintro⟨b,x⟩ e;subst e;refine aQ (λ_=>ak tr) λ_=>?_
 refine aV (λx=>x.2=(w,i)) (aK (λ_=>ak rfl) λ_=>ak rfl) ?_;rintro⟨b,x⟩ e;with_reducible repeat' first|apply OS.ok;constructor|refine IM.mk λ_=>?_
 all_goals exact tr
structure VI (n:Int) (i:IT):Prop where
 o1:1<=i.1
 o2:i.1<=28
 r:∀j∈jB i,0<=j/\j<n
structure VT (t:Int×List IT):Prop where
 r0:0<=t.1
 r1:t.1<=32
 i:∀i∈t.2,VI t.1 i
structure VJ (w:WT) (k:Int) (i:IT):Prop where
 a7:i.1=7->AR w i.2.2.1 i.2.2.2.2.1
 a9:i.1=9->AR w i.2.1 i.2.2.2.2.1
 se:i.1=28->i.2.2.2.2.2= -1
 si:¬i.1=28->0<=i.2.2.2.2.2/\i.2.2.2.2.2<l! w.2.2.2.2.2/\(geti pR w.2.2.2.2.2 i.2.2.2.2.2).1=k
def LU (w:WT) (k:Int) (c:Int×Y IT) (hc:l! c.2<=1000000):Ok (iM (w,k,c)) λb=>b=J->VT c/\∀i∈c.2,VJ w k i:=by
 unfold iM bk bD bQ cS db eh Li bm bS jK bX be c7 aI cQ;refine aV (λx=>x.2=(w,c)/\(x.1=af->0<=c.1/\c.1<=32)) ?_ ?_
 .refine bP (λ_=>ak ⟨rfl,nofun⟩) λh0=>bP (λ_=>ak ⟨rfl,nofun⟩) λh1=>ak ⟨rfl,λ_=>⟨h0,h1⟩⟩
 rintro⟨b,x⟩ ⟨e,D⟩;dsimp only at e D;subst e;refine aQ (λ_=>ak nofun) λh=>?_
 let⟨r0,r1⟩:=D h;refine bV (l! c.2) (λi x=>x.1=(i:Int)/\x.2=(w,c)/\∀q:Nat,q<i->VI c.1 (geti sF c.2 (q:Int))/\VJ w k (geti sF c.2 (q:Int))) ?_ ?_ ⟨rfl,rfl,λk hk=>by omega⟩
 .rintro i ⟨a,x⟩ hi ⟨e1,e2,L⟩;dsimp only at e1 e2 L;subst e1 e2;refine cW ?_;refine bH (aU ?_);generalize hz:(geti _ _ _)=z;refine aV (λx=>x.2=(w,c,z)/\(x.1=af->(1<=z.1/\z.1<=28)/\(z.1=7->AR w z.2.2.1 z.2.2.2.2.1)/\(z.1=9->AR w z.2.1 z.2.2.2.2.1))) ?_ ?_
  .refine bP (λ_=>ak ⟨rfl,nofun⟩) λh0=>bP (λ_=>ak ⟨rfl,nofun⟩) λh1=>?_
   refine aQ (λ_=>ak ⟨rfl,nofun⟩) λ_=>?_
   refine aw (YR w z) λy hy=>?_
   refine eu (λ_=>ak ⟨rfl,nofun⟩) λhyt=>?_
   exact aw (aj7 c.2 _ hc) λy _=>ak ⟨rfl,λ_=>⟨⟨h0,h1⟩,hy hyt⟩⟩
  rintro⟨b,x⟩ ⟨e,D⟩;dsimp only at e D;subst e;refine aQ (λ_=>ak nofun) λh=>?_
  let⟨⟨o1,o2⟩,a7,a9⟩:=D h;refine aV (λx=>x.2=(w,c,z)/\(x.1=af->(z.1=28->z.2.2.2.2.2= -1)/\(¬z.1=28->0<=z.2.2.2.2.2/\z.2.2.2.2.2<l! w.2.2.2.2.2/\(geti pR w.2.2.2.2.2 z.2.2.2.2.2).1=k))) ?_ ?_
  .simp only[tN,obs];refine aK (λA=>?_) λA=>?_
   .refine cq (λ_=>ak ⟨rfl,nofun⟩) λhm=>?_
    exact cq (λh=>(h A).elim) λ_=>ak ⟨rfl,λ_=>⟨λ_=>hm,λh=>(h A).elim⟩⟩
   .refine cq (λ_=>?_) λh=>(A h).elim
    refine cq (λ_=>ak ⟨rfl,nofun⟩) λh=>?_
    exact aR h.1 h.2 (aU (ak ⟨rfl,λh2=>⟨λh3=>(A h3).elim,λ_=>⟨h.1,h.2,by simpa using h2⟩⟩⟩))
  rintro⟨b,x⟩ ⟨e,hsi⟩;dsimp only at e hsi;subst e;refine aQ (λ_=>ak nofun) λhbs=>?_
  let⟨se,si⟩:=hsi hbs;refine aV (λx=>x.2=(w,c,z)) ?_ ?_
  .simp only[tN,obs];with_reducible repeat' first|apply OS.ok;constructor|refine IM.mk λ_=>?_
   all_goals rfl
  rintro⟨b,x⟩ e;dsimp only at e;subst e;refine aQ (λ_=>ak nofun) λ_=>?_
  refine aZ (vF z) ?_;refine bV (l! (jB z)) (λj x=>x.1=(j:Int)/\x.2=(w,c)/\∀k:Nat,k<j->0<=geti aP (jB z) (k:Int)/\geti aP (jB z) (k:Int)<c.1) ?_ ?_ ⟨rfl,rfl,λk hk=>by omega⟩
  .rintro j ⟨a,x⟩ hj ⟨d1,N,d3⟩;dsimp only at d1 N d3;subst d1 N;refine cW ?_;refine bH (aU ?_);refine aZ (tN _ _) ?_;refine cq (λ_=>ak nofun) λh=>ak ?_
   dsimp only at h ⊢;have hj32:l! (jB z)<=3:=FF z;refine ⟨fV,rfl,λk hk=>?_⟩
   grind
  .rintro⟨a,x⟩ ⟨d1,N,d3⟩;dsimp only at d1 N d3;subst d1 N;refine cP (ak ?_);dsimp only;refine ⟨fV,rfl,λk hk=>?_⟩;rcases cJ k i with h1|h1
   .exact L k h1
   .rw[show k=i by omega,hz];exact⟨⟨o1,o2,iQ (T:=aP) d3⟩,⟨a7,a9,se,si⟩⟩
 .rintro⟨a,x⟩ ⟨e1,e2,L⟩;refine cP (ak λ_=>⟨⟨r0,r1,iQ (T:=sF) (p:=VI c.1) λq hq=>(L q hq).1⟩,iQ (T:=sF) (p:=VJ w k) λq hq=>(L q hq).2⟩)
structure VC (c:CT):Prop where
 vl:VL c.1
 tl:l! c.2=l! c.1.2.2.2.2.1
 t:∀t∈c.2,VT t
 sv:SV0 c.1
 j:∀k:Nat,k<l! c.2->∀i∈(geti zP c.2 (k:Int)).2,VJ c.1 (k:Int) i
structure CB (c:CT):Prop where
 th:l! c.2<=1000000
 ins:∀t∈c.2,l! t.2<=1000000
 rg:∀t∈c.2,1<=t.1
 wx:WX c.1
 ok:kB c=Z J
def X_ (c:CT) (h1:l! c.2<=1000000) (h2:∀t∈c.2,l! t.2<=1000000):Ok (kB c) λb=>b=J->VC c:=by
 let⟨w,l⟩:=c;dsimp only at h1 h2;unfold kB bQ bS bX be c7 aI cQ;refine aV (λx=>x.2=(w,l)/\(x.1=af->(VL w/\SV0 w)/\l! l=l! w.2.2.2.2.1)) ?_ ?_
 .refine aw (Ey w) λb N=>?_
  refine eu (λ_=>ak ⟨rfl,nofun⟩) λh=>ak ⟨rfl,λh3=>⟨N h,?_⟩⟩
  simp at h3;omega
 rintro⟨b,x⟩ ⟨e,hx⟩;subst e;refine aQ (λ_=>ak nofun) λh=>?_
 let⟨⟨hv,hsv⟩,hl⟩:=hx h;refine bV (l! l) (λi x=>x.1=(i:Int)/\x.2=(w,l)/\∀k:Nat,k<i->VT (geti zP l (k:Int))/\∀q∈(geti zP l (k:Int)).2,VJ w (k:Int) q) ?_ ?_ ⟨rfl,rfl,λk A=>by omega⟩
 .rintro i ⟨a,x⟩ hi ⟨L,e2,D⟩;subst L e2;refine cW ?_;refine bH (aU ?_);have hm:=bI (T:=zP) (xs:=l) (j:=(i:Int)) (by omega) (by omega);revert hm;generalize hz:(geti zP l (i:Int))=z;intro hm;refine aw (LU w _ z (h2 z hm)) λb N=>?_
  refine eu (λ_=>ak nofun) λh=>ak ?_
  refine ⟨fV,rfl,λk A=>?_⟩
  grind
 .rintro⟨a,x⟩ ⟨L,e2,D⟩;subst L e2;refine cP (ak λ_=>⟨hv,hl,iQ (T:=zP) (p:=VT) λk A=>(D k A).1,hsv,λk A=>(D k A).2⟩)
section
abbrev TT:Type:=Int×η×Y η×Int
structure TL (F:Int->Prop) (E:Nat) (l:η):Prop where
 a:Lf l
 m:∀y∈l,0<=y/\y<(E:Int)
 f:∀y∈l,F y
variable {F:Int->Prop}
def TL.len {l:η} (h:TL F i l):l! l<=i:=by
 have:=LM l 0 i h.a h.m;omega
def TL.nil (E:Nat):TL F E []:=⟨trivial,λy z=>(by cases z),λy z=>(by cases z)⟩
def TL.uni {b:η} (D:TL F i z) (A:TL F i b):TL F i (yo z b):=
 ⟨UP z b,λy a=>by
   rcases BN.1 a with h|h
   .exact D.m y h
   .exact A.m y h,λy a=>(BN.1 a).elim (D.f y) (A.f y)⟩
def TL.mono {A:Int->Prop} {l:η} (h:TL F i l) (hf:i<=j) (L:∀y,F y->A y):TL A j l:=⟨h.a,λy z=>⟨(h.m y z).1,by have:=(h.m y z).2;omega⟩,λy z=>L y (h.f y z)⟩
structure TH (F:Int->Prop) (E:Nat) (s:TT):Prop where
 r:l! s.2.1<=32
 t:l! s.2.2.1<=32
 l:∀l∈s.2.2.1,TL F E l
 e0:0<=s.2.2.2
 e1:s.2.2.2<=(E:Int)
def TH.zero (E:Nat):TH F E (0,[],[],0):=⟨by simp,by simp,λl z=>(by cases z),by simp,by simp⟩
def TH.mono {z:Int->Prop} {s:TT} (h:TH F i s) (hf:i<=j) (L:∀y,F y->z y):TH z j s:=⟨h.r,h.t,λl D=>(h.l l D).mono hf L,h.e0,by have:=h.e1;omega⟩
def zS (s:TT) (E:Nat) (hE:E<=100000) (h:TH F E s):cE s=Z ((s.1,s.2.2.2),s.2.1,s.2.2.1):=by
 let⟨h1,h2,N,h4,h5⟩:=h;refine cI ?_;unfold cE bk bD bQ db eh bS bU bX be c7 aI cQ;refine bG (by grind) (by omega) ?_;refine bV (l! s.2.2.1) (λi x=>x.1=(i:Int)/\x.2.1=s/\x.2.2.2.1=(s.1,s.2.2.2)/\x.2.2.2.2.1=s.2.1/\x.2.2.2.2.2=s.2.2.1.take i) ?_ ?_ ⟨rfl,rfl,rfl,rfl,rfl⟩
 .rintro i ⟨a,b,c,d,e,f⟩ hi ⟨L,e2,D,A,z⟩;dsimp only at L e2 D A z;subst L e2 z;refine cW ?_;refine bH (aU ?_);have hz:=(N _ (bI (T:=.sl (.int .i64)) (xs:=b.2.2.1) (j:=(i:Int)) (by omega) (by omega))).len;refine bG (by grind) (by omega) ?_;refine bG (by grind) (by omega) (ak ?_);refine ⟨fV,rfl,D,A,?_⟩;rw[pH (T:=.sl (.int .i64)) hi];rfl
 .rintro⟨a,b,c,d,e,f⟩ ⟨L,e2,D,A,z⟩;dsimp only at L e2 D A z;subst e2;refine cP (ak ?_)
  grind
def yp (b:Bool):Ok (gk b) λ_=>True:=by
 unfold gk;with_reducible repeat' first|apply OS.ok;constructor|refine IM.mk λ_=>?_
 all_goals trivial
def Jh (n:Int):Ok (ny n) λ_=>True:=by
 unfold ny bS aI;with_reducible repeat' first|apply OS.ok;constructor|refine IM.mk λ_=>?_
 all_goals trivial
def ala (x:ν):Ok (wg x) λ_=>True:=by
 unfold wg bm;refine aK (λ_=>ak trivial) λ_=>aK (λ_=>?_) λ_=>ak trivial
 exact aw (yp _) λ_ _=>ak trivial
def agr (x:π):Ok (xi x) λ_=>True:=by
 have z:∀b,Ok (aA (gk b) λy=>Z (y,J)) λ_=>True:=λb=>aw (yp _) λ_ _=>ak trivial
 refine aK (λ_=>ak trivial) λ_=>aK (λ_=>ak trivial) λ_=>aK (λ_=>ak trivial) λ_=>?_
 refine aK (λ_=>aK (λ_=>ak trivial) λh=>BU h (ak trivial)) λ_=>?_
 refine aK (λ_=>aK (λ_=>ak trivial) λh=>BU h (ak trivial)) λ_=>?_
 refine aK (λ_=>z _) λ_=>aK (λ_=>z _) λ_=>aK (λ_=>z _) λ_=>aK (λ_=>z _) λ_=>aK (λ_=>z _) λ_=>aK (λ_=>z _) λ_=>?_
 refine aK (λ_=>aV (λ_=>True) (cq (λ_=>aw (yp _) λ_ _=>ak trivial) λ_=>aw (yp _) λ_ _=>ak trivial) λ_ _=>ak trivial) λ_=>?_
 exact aK (λ_=>aV (λ_=>True) (cq (λ_=>aw (yp _) λ_ _=>ak trivial) λ_=>aw (yp _) λ_ _=>ak trivial) λ_ _=>ak trivial) λ_=>ak trivial
def ae1 (E:Nat) (hE:E<=100000) (i:IT) (p:ν) (R:η) (T:Y η) (D:∀j∈jB i,0<=j/\j<(l! R:Int)) (o1:1<=i.1) (o2:i.1<=5) (hR:l! R<=32) (z:l! T=l! R) (hl:∀l∈T,TL F E l):Ok (yJ ((i,p),R,T)) λy=>y.1.1.2=p.2/\l! y.2.1=l! R/\l! y.2.2=l! T/\∀l∈y.2.2,TL F E l:=by
 unfold yJ bk bD bQ ck bm bS bU bX kq be c7 aI cQ;refine aZ (vF i) ?_;have h3:=FF i;refine bV (l! (jB i)) (λj x=>x.1=(j:Int)/\x.2.1=R/\x.2.2.1=T/\x.2.2.2.1=i/\x.2.2.2.2.1=p) ?_ ?_ ⟨rfl,rfl,rfl,rfl,rfl⟩
 .rintro j ⟨a,b,c,d,e⟩ hj ⟨e1,e2,e3,e4,L⟩;dsimp only at e1 e2 e3 e4 L;subst e1 e2 e3 e4;refine cW ?_;have hz:=D _ (bI (T:=aP) (xs:=jB d) (j:=(j:Int)) (by omega) (by omega));refine aV (λx=>x.2=(b,c,d,e)/\x.1=af) ?_ ?_
  .refine bH (aU ?_);refine bP (λg=>?_) λ_=>?_
   .dsimp only at g;omega
   refine bH (aU (ak ⟨rfl,?_⟩));dsimp only;rw[m7];exact hz.2
  rintro⟨b',x⟩ ⟨f1,N⟩;dsimp only at f1 N;subst f1 N;refine aQ nofun λ_=>ak ?_
  dsimp only;exact⟨fV,rfl,rfl,rfl,L⟩
 .rintro⟨a,b,c,d,e⟩ ⟨e1,e2,e3,e4,L⟩;dsimp only at e1 e2 e3 e4 L;subst e1 e2 e3 e4;refine cP ?_;let⟨e,e'⟩:=e;dsimp only at L;subst L;refine aw (P:=λy=>y.1.1.2=e.2/\l! y.2.1=l! b/\l! y.2.2=l! c/\∀l∈y.2.2,TL F E l) ?_ λr D=>ak D
  have hA:d.1≠5->0<=d.2.1/\d.2.1<(l! b:Int):=λh5=>D _ (by
   unfold jB;(repeat' split)<;>simp<;>omega)
  have hB:2<=d.1->d.1≠5->0<=d.2.2.1/\d.2.2.1<(l! b:Int):=λh2 h5=>D _ (by
   unfold jB;(repeat' split)<;>simp<;>omega)
  have hC:d.1=4->0<=d.2.2.2.1/\d.2.2.2.1<(l! b:Int):=λh5=>D _ (by
   unfold jB;(repeat' split)<;>simp<;>omega)
  have hg:∀{j:Int},0<=j->j<(l! b:Int)->TL F E (geti (.sl (.int .i64)) c j):=λh0 h1=>hl _ (bI (T:=.sl (.int .i64)) (xs:=c) h0 (by rw[z];exact h1))
  refine aV (λx=>x.2.1=b/\x.2.2.1=c/\x.2.2.2.1=d/\x.2.2.2.2.1=e/\TL F E x.1.2.2/\d.1≠5) ?_ ?_
  .refine aK (λ_=>ak ⟨rfl,rfl,rfl,hl⟩) λA=>?_
   refine aK (λ_=>ak ⟨rfl,rfl,rfl,rfl,TL.nil E,A⟩) λn1=>?_
   dsimp only at n1 A;let⟨b0,b1⟩:=hB (by omega) A;refine aK (λ_=>?_) λn2=>?_
   .refine aR b0 b1 (aR b0 b1 (aU ?_));refine aR b0 (by dsimp only;rw[z];exact b1) (aR b0 (by dsimp only;rw[z];exact b1) (aU ?_));exact ak ⟨rfl,rfl,rfl,rfl,hg b0 b1,A⟩
   refine aK (λ_=>?_) λn3=>?_
   .refine aw (Jh _) λy _=>?_
    refine aR b0 b1 (aR b0 b1 (aU ?_));refine aw (ala _) λy _=>?_
    refine aR b0 (by dsimp only;rw[z];exact b1) (aR b0 (by dsimp only;rw[z];exact b1) (aU ?_));exact ak ⟨rfl,rfl,rfl,rfl,hg b0 b1,A⟩
   dsimp only at n2 n3;let⟨c0,c1⟩:=hC (by omega);refine aw (Jh _) λy _=>?_
   refine aR b0 b1 (aR b0 b1 (aU ?_));refine aR c0 c1 (aR c0 c1 (aU ?_));refine aw (agr _) λy _=>?_
   refine aR b0 (by dsimp only;rw[z];exact b1) (aR b0 (by dsimp only;rw[z];exact b1) (aU ?_));refine aR c0 (by dsimp only;rw[z];exact c1) (aR c0 (by dsimp only;rw[z];exact c1) (aU ?_));have g1:=hg b0 b1;have g2:=hg c0 c1;refine aZ (X' _ _ (dc g1.len (by omega)) (dc g2.len (by omega))) ?_;exact ak ⟨rfl,rfl,rfl,rfl,g1.uni g2,A⟩
  rintro⟨⟨v,ok,tn⟩,b',c',d',e',e''⟩ ⟨f1,N,f3,f4,f5,f6⟩;dsimp only at f1 N f3 f4 f5 f6;subst f1 N f3 f4;let⟨a0,a1⟩:=hA f6;have ht:=f5.len;refine a! ?_;refine aR a0 a1 (aR a0 a1 (aR a0 (by dsimp only;rw[z];exact a1) (aR a0 (by dsimp only;rw[z];exact a1) (ak ?_))));refine ⟨rfl,bW ..,bW ..,λl hm=>?_⟩;rcases Fw hm with h|h
  .exact hl l h
  .rw[h];exact f5
def aga (E:Nat) (hE:E<=100000) (c:Int×Y IT) (hc:l! c.2<=1000000) (hv:VT c) (s:TT) (h:TH F E s):Ok (ou (c,s)) λy=>TH F E y.1/\(l! y.1.2.1=0\/y.1.2.2.2=s.2.2.2):=by
 unfold ou bk bD bQ db dZ eh bm bS jY jK bU bX be c7 aI cQ;have N:=h;let⟨h1,h2,h3,h4,h5⟩:=h;refine aV (λx=>x.2.1=c/\x.2.2.1=s/\(x.1=af->(l! s.2.1:Int)=c.1/\(l! s.2.2.1:Int)=c.1)) ?_ ?_
 .refine cq (λ_=>ak ⟨rfl,rfl,nofun⟩) λg=>ak ⟨rfl,rfl,λh=>?_⟩
  simp at h;exact⟨g,h⟩
 rintro⟨b,c',s',z⟩ ⟨D,e2,L⟩;dsimp only at D e2 L;subst D e2;refine aQ (λ_=>ak ⟨TH.zero E,.inl rfl⟩) λhb=>?_
 let⟨q1,q2⟩:=L hb;refine aZ (zS s' E hE N) ?_;refine pX (λx=>((l! c'.2:Int)+1-x.1).toNat) (λx=>0<=x.1/\x.1<=(l! c'.2:Int)+1/\x.2.1=c'/\x.2.2.1.2=s'.2.2.2/\l! x.2.2.2.2.1=l! s'.2.1/\l! x.2.2.2.2.2=l! s'.2.2.1/\∀l∈x.2.2.2.2.2,TL F E l) ?_ ⟨by dsimp only;omega,by dsimp only;omega,rfl,rfl,rfl,rfl,h3⟩;rintro⟨(n:Int),c,⟨(A:Int),ev⟩,z',R,T⟩ ⟨n0,n1,D,e2,L,e4,e5⟩;dsimp only at n0 n1 D e2 L e4 e5;subst D e2;refine d_ (λg=>?_) λ_=>ak ⟨TH.zero E,.inl rfl⟩
 refine aV (λx=>x.2=(c,(A,s'.2.2.2),z',R,T)/\(x.1=af->0<=A/\A<(l! c.2:Int))) ?_ ?_
 .refine bP (λ_=>ak ⟨rfl,nofun⟩) λg1=>ak ⟨rfl,λh=>?_⟩
  rw[m7]at h;exact⟨g1,h⟩
 rintro⟨b',x⟩ ⟨f1,f2⟩;subst f1;refine aQ (λ_=>ak ⟨TH.zero E,.inl rfl⟩) λhb=>?_
 let⟨p0,p1⟩:=f2 hb;refine aR p0 p1 (aU ?_);have hi:=hv.i _ (bI (T:=sF) (xs:=c.2) (j:=A) p0 p1);revert hi;generalize (geti sF _ _)=i;intro hi;refine aZ (I2 _) ?_;refine cq (λ_=>ak ⟨⟨by dsimp only;omega,by dsimp only;omega,e5,h4,h5⟩,.inr rfl⟩) λhsil=>?_
 refine aK (λ_=>ak ⟨TH.zero E,.inl rfl⟩) λhn=>?_
 refine aw (ae1 E hE i (A,s'.2.2.2) R T (λj hj=>by have:=hi.r j hj;omega) hsil.1 hsil.2 (by omega) (by omega) e5) λy hy=>?_
 let⟨k1,k2,k3,k4⟩:=hy;refine cF (jF k3.symm (cF (jF k2.symm (vU ?_))));refine eu (λ_=>ak ⟨TH.zero E,.inl rfl⟩) λ_=>ak ?_
 rw[iI]
 grind
end
abbrev ST:Type:=SY×η×η×Y TT
structure TF (c:Int×List IT) (t:TT):Prop where
 p0:0<=t.1
 p1:t.1<(l! c.2:Int)
 r:(l! t.2.1:Int)=c.1
 t:(l! t.2.2.1:Int)=c.1
structure FSx (c:CT) (s:ST):Prop where
 vc:VC c
 cd:∀d∈c.1.2.2.1,0<=d.2/\d.2<(l! c.1.2.1:Int)
 e3:l! s.1.2.2.2=l! c.1.2.2.2.2.1
 ce:l! s.2.1=l! c.1.1
 fu:l! s.2.2.1=l! c.1.2.2.2.1
 th:l! s.2.2.2=l! c.2
 t:∀k:Nat,k<l! c.2->TF (geti zP c.2 (k:Int)) (geti fy s.2.2.2 (k:Int))
def FQ (L:Y ET) (k:Int) (y:Int):Prop:=1<=y/\Pb L k y
structure SV (n:Nat) (L:List ET) (s:ST):Prop where
 sb:SB n s.1
 ln:l! L=n
 t:∀k:Nat,k<l! s.2.2.2->TH (FQ L k) n (geti fy s.2.2.2 (k:Int))
def SV.ti {s:ST} (h:SV i k s) {L:Int} (h0:0<=L) (h1:L<(l! s.2.2.2:Int)):TH (FQ k L) i (geti fy s.2.2.2 L):=by
 have:=h.t L.toNat (by omega)
 grind
structure TG (c:CT) (L:List ET) (sy:SY) (k:Int) (t:TT):Prop where
 ev:t.2.2.2=(l! (fl L k):Int)
 wi:(geti iC sy.2.2.2 k).1=3\/(geti iC sy.2.2.2 k).1=4->(geti sF (geti zP c.2 k).2 t.1).1=21
 nw:l! (fl L k)=0->(geti iC sy.2.2.2 k).1=0\/(geti iC sy.2.2.2 k).1=1
structure SIv (c:CT) (L:List ET) (s:ST):Prop where
 ac:Acw c.1 L s.1 s.2.1 s.2.2.1
 t:∀k:Nat,k<l! s.2.2.2->(geti fy s.2.2.2 (k:Int)).2.1.length=0\/TG c L s.1 (k:Int) (geti fy s.2.2.2 (k:Int))
def ao7 (c:CT) (s:ST) (D:CB c):Ok (yI (c,s)) λb=>b=J->FSx c s:=by
 unfold yI bk bD dZ eh bS jY jK bX be c7 aI cQ;refine aV (λx=>x.2=(c,s)/\(x.1=af->VC c/\(∀d∈c.1.2.2.1,0<=d.2/\d.2<(l! c.1.2.1:Int))/\l! s.1.2.2.2=l! c.1.2.2.2.2.1/\l! s.2.1=l! c.1.1/\l! s.2.2.1=l! c.1.2.2.2.1/\l! s.2.2.2=l! c.2)) ?_ ?_
 .refine aw (X_ c D.th D.ins) λb A=>?_
  refine eu (λ_=>ak ⟨rfl,nofun⟩) λh=>?_
  have z:=A h;refine aw (UG c.1 s.1 (by have:=z.vl.d;omega)) λb2 L=>?_
  refine eu (λ_=>ak ⟨rfl,nofun⟩) λh2=>?_
  let⟨N,_,_,g4⟩:=L h2;refine cq (λ_=>ak ⟨rfl,nofun⟩) λk1=>?_
  refine cq (λ_=>ak ⟨rfl,nofun⟩) λk2=>ak ⟨rfl,λk3=>⟨z,N,g4,?_,?_,?_⟩⟩
  .grind
  .grind
  .simp at k3;omega
 rintro⟨b,x⟩ ⟨e,A⟩;subst e;refine aQ (λ_=>ak nofun) λh=>?_
 let⟨z,hcd,h3,hce,hfu,hth⟩:=A h;have hcl:=D.th;refine bV (l! c.2) (λi x=>x.1=(i:Int)/\x.2=(c,s)/\∀k:Nat,k<i->TF (geti zP c.2 (k:Int)) (geti fy s.2.2.2 (k:Int))) ?_ ?_ ⟨rfl,rfl,λk hk=>by omega⟩
 .rintro i ⟨a,x⟩ hi ⟨e1,e2,e3⟩;subst e1 e2;refine cW ?_;have hin:((i:Nat):Int)<(l! c.2:Int):=by omega
  refine bH (aU ?_);refine aV (λx=>x.2=(c,s)/\(x.1=af->TF (geti zP c.2 (i:Int)) (geti fy s.2.2.2 (i:Int)))) ?_ ?_
  .refine bP (λ_=>ak ⟨rfl,nofun⟩) λg0=>?_
   refine aR (by simp) hin (aU ?_);refine d_ (λ_=>ak ⟨rfl,nofun⟩) λN=>?_
   refine aR (by simp) hin (aU ?_);refine cq (λ_=>ak ⟨rfl,nofun⟩) λg2=>?_
   refine aR (by simp) hin (aU (ak ⟨rfl,λg3=>⟨g0,N,g2,?_⟩⟩));simp at g3;exact g3
  rintro⟨b,x⟩ ⟨e,A⟩;subst e;refine aQ (λ_=>ak nofun) λh=>ak ?_
  refine ⟨fV,rfl,λk hk=>?_⟩
  grind
 .rintro⟨a,x⟩ ⟨e1,e2,e3⟩;subst e1 e2;refine cP (ak λ_=>⟨z,hcd,h3,hce,hfu,hth,e3⟩)
def aqn {i:IT} (h:i.1=6\/i.1=7\/i.1=27\/i.1=10):i.2.1∈jB i:=by
 unfold jB;(repeat' split)<;>simp<;>omega
def aqm {i:IT} (h:i.1=8\/i.1=9\/i.1=26):i.2.2.1∈jB i:=by
 unfold jB;(repeat' split)<;>simp<;>omega
def awm {i:IT} (h:i.1=7\/i.1=9):i.2.2.2.1∈jB i:=by
 unfold jB;(repeat' split)<;>simp<;>omega
structure KD (op k:Int):Prop where
 ld:k=3->op=6\/op=7
 st:k=4->op=8\/op=9
 br:k=5->op=10
 se:k=22->op=26
 ge:k=23->op=27
 e1:k=2->op=28
 n1:¬k=1
 n17:¬k=17
 wt:k=16->op=21
 e2:¬k=0->op=28->k=2
 d7:¬k=0->op=7->k=3
 d8:¬k=0->op=8->k=4
 d9:¬k=0->op=9->k=4
 d10:¬k=0->op=10->k=5
 d26:¬k=0->op=26->k=22
def ann (op:Int):Ok (Db op) λk=>KD op k:=by
 refine aV (λx=>x.2=[3,3,4,4,5,6,7,8,9,10,11,12,13,14,15,16,18,19,20,21,22,23,2]/\(x.1=af->6<=op/\op<=28)) ?_ ?_
 .refine bP (λ_=>ak ⟨rfl,nofun⟩) λg=>ak ⟨rfl,λh=>?_⟩
  rw[ja]at h;exact⟨g,h⟩
 rintro⟨b,x⟩ ⟨e,z⟩;subst e;refine aQ (λ_=>ak (by constructor<;>first|decide|(intro h;first|(exact (h rfl).elim)|(cases h;done)))) λh=>?_
 let⟨h1,A⟩:=z h;dsimp only;rw[iI (n:=op-6) (by omega) (by omega)];refine aR (by omega) (by simp;omega) (aR (by omega) (by simp;omega) (aU (ak ?_)));have:op=6\/op=7\/op=8\/op=9\/op=10\/op=11\/op=12\/op=13\/op=14\/op=15\/op=16\/op=17\/op=18\/op=19\/op=20\/op=21\/op=22\/op=23\/op=24\/op=25\/op=26\/op=27\/op=28:=by omega
 rcases this with rfl|rfl|rfl|rfl|rfl|rfl|rfl|rfl|rfl|rfl|rfl|rfl|rfl|rfl|rfl|rfl|rfl|rfl|rfl|rfl|rfl|rfl|rfl;all_goals (constructor<;>decide)
def Yk (a n:Int):Ok (wh (a,n)) λr=>n=2->r=0\/r=1:=by
 refine bP (λ_=>ak λh=>(by simp)) λh=>?_
 refine BU (by omega) ?_;have A:=Int.lt_tmod_of_pos a (b:=n) (by omega);refine aV (λr=>n=2->r=0\/r=1) (bP (λg=>ak λz=>?_) λg=>ak λz=>?_) λ_ h=>ak h
 .dsimp only at g ⊢;rw[iI];omega
 .grind
def Vu (i:IT) (t:TT) (hr:∀j∈jB i,0<=j/\j<(l! t.2.1:Int)):Ok (xh (i,t)) λo=>(i.1=7->i.2.2.1=3->i.2.2.2.2.1=2->o=3\/o=4)/\(i.1=9->i.2.1=3->i.2.2.2.2.1=2->o=3\/o=4):=by
 have z:i.1=7\/i.1=9->0<=i.2.2.2.1/\i.2.2.2.1<(l! t.2.1:Int):=λh=>hr _ (by
  unfold jB;(repeat' split)<;>simp<;>omega)
 have tr:∀{o:Int},¬i.1=7->¬i.1=9->(i.1=7->i.2.2.1=3->i.2.2.2.2.1=2->o=3\/o=4)/\(i.1=9->i.2.1=3->i.2.2.2.2.1=2->o=3\/o=4):=λh1 h2=>⟨λh=>(h1 h).elim,λh=>(h2 h).elim⟩
 have wk:∀{b r n:Int},b=3->n=2->(n=2->r=0\/r=1)->bn .i64 (b+r)=3\/bn .i64 (b+r)=4:=λh1 h2 A=>by
  rw[iI];omega
 refine aV (λx=>x.2=(i,t)/\(x.1=J->i.1=6\/i.1=27)) (aK (λh=>ak ⟨rfl,λ_=>.inl h⟩) λ_=>ak ⟨rfl,λh=>.inr (bL h)⟩) ?_;rintro⟨b,x⟩ ⟨e,hb⟩;subst e;refine aQ (λh=>ak (tr (by grind) (by grind))) λ_=>?_
 refine aK (λh=>?_) λD=>?_
 .exact aR (z (.inl h)).1 (z (.inl h)).2 (aU (aw (Yk _ _) λy L=>ak ⟨λ_ A N=>wk A N L,λh9=>by dsimp only at h;omega⟩))
 refine aK (λh=>?_) λn9=>?_
 .exact aR (z (.inr h)).1 (z (.inr h)).2 (aU (aw (Yk _ _) λy L=>ak ⟨λh7=>(D h7).elim,λ_ A N=>wk A N L⟩))
 refine aV (λ_=>True) ?_ λx _=>aQ (λ_=>ak (tr D n9)) λ_=>ak (tr D n9)
 with_reducible repeat' first|apply OS.ok;constructor|refine IM.mk λ_=>?_
 all_goals trivial
def arc {w:WT} (A:w.1=C0) {n:Int} (h:AR w a n):a=3/\n=2:=by
 let⟨b0,b1,ix,sz,z⟩:=h;rw[A]at b1 ix sz z;have b1:a<5:=b1;rcases (by omega:a=0\/a=1\/a=2\/a=3\/a=4) with rfl|rfl|rfl|rfl|rfl
 .exact (sz rfl).elim
 .exact (sz rfl).elim
 .exact (sz rfl).elim
 .exact⟨rfl,z.symm⟩
 .exact bA ix (by decide)
def aqi {w:WT} (z:w.1=C0) (h:a=3\/a=4):¬(geti lF w.1 a).2.2.1=0:=by
 rw[z];rcases h with rfl|rfl<;>decide
structure PE (n:Nat) (c:CT) (s:ST) (t:Int) (e:ET):Prop where
 fs:FSx c s
 t0:0<=t
 t1:t<(l! c.2:Int)
 et:e.1=t
 d:l! e.2.2.2.2.2.1<=n
 f:l! e.2.2.2.2.2.2<=n
 a:e.2.1=3\/e.2.1=23\/e.2.1=5->0<=(geti sF (geti zP c.2 t).2 (geti fy s.2.2.2 t).1).2.1/\(geti sF (geti zP c.2 t).2 (geti fy s.2.2.2 t).1).2.1<((geti fy s.2.2.2 t).2.1.length:Int)
 b:e.2.1=4\/e.2.1=22->0<=(geti sF (geti zP c.2 t).2 (geti fy s.2.2.2 t).1).2.2.1/\(geti sF (geti zP c.2 t).2 (geti fy s.2.2.2 t).1).2.2.1<((geti fy s.2.2.2 t).2.1.length:Int)
structure PS (c:CT) (L:List ET) (s:ST) (t:Int) (e:ET):Prop where
 tg:TG c L s.1 t (geti fy s.2.2.2 t)
 s1:e.2.1=1\/e.2.1=2->e.2.2.2.2.1= -1
 s2:¬(e.2.1=1\/e.2.1=2)->0<=e.2.2.2.2.1/\e.2.2.2.2.1<l! c.1.2.2.2.2.2/\(geti pR c.1.2.2.2.2.2 e.2.2.2.2.1).1=t
 de:0<l! e.2.2.2.2.2.1->e.2.1=5\/(e.2.1=3\/e.2.1=4)/\¬(geti lF c.1.1 e.2.2.1).2.2.1=0
 fr:0<l! e.2.2.2.2.2.2->e.2.1=4\/e.2.1=22
 da:Lf e.2.2.2.2.2.1
 dq:∀y∈e.2.2.2.2.2.1,FQ L t y
 fa:Lf e.2.2.2.2.2.2
 fq:∀y∈e.2.2.2.2.2.2,FQ L t y
 wt:e.2.1=16->(geti sF (geti zP c.2 t).2 (geti fy s.2.2.2 t).1).1=21
def aan (n:Nat) (hn:n<=100000) (c:CT) (L:Y ET) (s:ST) (hc:CB c) (hs:SV n L s) (hI:SIv c L s) (t:Int):Ok (oN (c,s,t)) λy=>y.2=J->PE n c s t y.1/\PS c L s t y.1:=by
 unfold oN bk bD bQ db dZ eh bm bS bU bX be aI;refine aV (λx=>x.2.1=c/\x.2.2.1=s/\(x.1=af->FSx c s/\0<=t/\t<(l! c.2:Int))) ?_ ?_
 .refine aw (ao7 c s hc) λb hb=>?_
  refine eu (λ_=>ak ⟨rfl,rfl,nofun⟩) λh=>?_
  refine bP (λ_=>ak ⟨rfl,rfl,nofun⟩) λg0=>ak ⟨rfl,rfl,λg1=>?_⟩
  dsimp only at g0 g1;rw[m7]at g1;exact⟨hb h,g0,g1⟩
 rintro⟨b,D,s',z⟩ ⟨e1,e2,hb⟩;dsimp only at e1 e2 hb;subst e1 e2;refine aQ (λ_=>ak nofun) λh=>?_
 let⟨hf,t0,t1⟩:=hb h;have hk:((t.toNat:Nat):Int)=t:=by omega
 have htf:=hf.t t.toNat (by omega);rw[hk]at htf;have hvt:=hf.vc.t _ (bI (T:=zP) (xs:=D.2) (j:=t) t0 t1);have hth:=hs.ti t0 (by rw[hf.th];exact t1);have key:∀e:ET,e.1=t->l! e.2.2.2.2.2.1<=n->l! e.2.2.2.2.2.2<=n->(e.2.1=1\/e.2.1=17\/KD (geti sF (geti zP D.2 t).2 (geti fy s'.2.2.2 t).1).1 e.2.1)->PE n D s' t e:=by
  intro e h1 h2 h3 N;have hi:=hvt.i _ (bI (T:=sF) (xs:=(geti zP D.2 t).2) (j:=(geti fy s'.2.2.2 t).1) htf.p0 htf.p1);refine ⟨hf,t0,t1,h1,h2,h3,λh5=>?_,λh5=>?_⟩
  .rw[htf.r];rcases N with N|N|N
   .omega
   .omega
   .refine hi.r _ ?_;have a1:=N.ld;have a2:=N.ge;have a3:=N.br;revert a1 a2 a3 h5;generalize (geti sF (geti zP D.2 t).2 (geti fy s'.2.2.2 t).1)=i;intro h5 a1 a2 a3;exact aqn (by omega)
  .rw[htf.r];rcases N with N|N|N
   .omega
   .omega
   .refine hi.r _ ?_;have a1:=N.st;have a2:=N.se;revert a1 a2 h5;generalize (geti sF (geti zP D.2 t).2 (geti fy s'.2.2.2 t).1)=i;intro h5 a1 a2;exact aqm (by omega)
 have hir:=(hvt.i _ (bI (T:=sF) (xs:=(geti zP D.2 t).2) (j:=(geti fy s'.2.2.2 t).1) htf.p0 htf.p1)).r;rw[<- htf.r]at hir;have hrg:=hc.rg _ (bI (T:=zP) (xs:=D.2) (j:=t) t0 t1);have htg:TG D L s'.1 t (geti fy s'.2.2.2 t):=by
  have:=hI.t t.toNat (by rw[hf.th];omega);rw[hk]at this;refine this.resolve_left λh=>?_
  have:=htf.r;omega
 have hvj:=hf.vc.j t.toNat (by omega);rw[hk]at hvj;have hvj:=hvj _ (bI (T:=sF) (xs:=(geti zP D.2 t).2) (j:=(geti fy s'.2.2.2 t).1) htf.p0 htf.p1);have hC0:=hc.wx.c;refine aR t0 (by dsimp only;rw[hf.th];exact t1) (aU ?_);refine aR t0 t1 (aU ?_);refine aR htf.p0 htf.p1 (aU ?_);have t4:t<(l! s'.1.2.2.2:Int):=by rw[hf.e3,<-hf.vc.tl];exact t1
 have tz:(geti fy s'.2.2.2 t).2.2.1.length=(geti fy s'.2.2.2 t).2.1.length:=by have:=htf.r;have:=htf.t;omega
 refine aR t0 t4 (aU ?_);refine aK (λ_=>ak λ_=>⟨key _ rfl (mf _) (mf _) (.inl rfl),⟨htg,λ_=>rfl,λh=>(h (.inl rfl)).elim,nofun,nofun,trivial,λy hy=>(by cases hy),trivial,λy hy=>(by cases hy),nofun⟩⟩) λ_=>?_
 refine aK (λN=>aR t0 t4 (aU (ak λ_=>⟨key _ rfl (mf _) (mf _) (.inr (.inl rfl)),⟨htg,λh=>(by rcases h with h|h<;>cases h),λ_=>hvj.si (by rw[htg.wi (.inr N)];decide),nofun,nofun,trivial,λy hy=>(by cases hy),trivial,λy hy=>(by cases hy),nofun⟩⟩))) λ_=>?_
 refine aK (λ_=>?_) λ_=>ak nofun
 refine aw (ann _) λk A=>?_
 refine aw (Vu _ _ hir) λo ho=>?_
 refine aK (λ_=>ak nofun) λhk0=>?_
 have fin:∀e:ET,e.1=t->e.2.1=k->e.2.2.1=o->e.2.2.2.2.1=(geti sF (geti zP D.2 t).2 (geti fy s'.2.2.2 t).1).2.2.2.2.2->(0<l! e.2.2.2.2.2.1->(geti sF (geti zP D.2 t).2 (geti fy s'.2.2.2 t).1).1=10\/(geti sF (geti zP D.2 t).2 (geti fy s'.2.2.2 t).1).1=7\/(geti sF (geti zP D.2 t).2 (geti fy s'.2.2.2 t).1).1=9)->(0<l! e.2.2.2.2.2.2->(geti sF (geti zP D.2 t).2 (geti fy s'.2.2.2 t).1).1=8\/(geti sF (geti zP D.2 t).2 (geti fy s'.2.2.2 t).1).1=9\/(geti sF (geti zP D.2 t).2 (geti fy s'.2.2.2 t).1).1=26)->TL (FQ L t) n e.2.2.2.2.2.1->TL (FQ L t) n e.2.2.2.2.2.2->PE n D s' t e/\PS D L s' t e:=by
  intro e h1 h2 h3 N h5 h6 h7 h8;refine ⟨key e h1 h7.len h8.len (.inr (.inr (h2▸A))),htg,λh=>?_,λh=>?_,λh=>?_,λh=>?_,h7.a,h7.f,h8.a,h8.f,λh=>A.wt (h2▸h)⟩
  .rw[N];rw[h2]at h;exact hvj.se (A.e1 (h.resolve_left A.n1))
  .rw[N];rw[h2]at h;exact hvj.si λh9=>h (.inr (A.e2 hk0 h9))
  .rw[h2,h3];rcases h5 h with g|g|g
   .exact .inl (A.d10 hk0 g)
   .obtain⟨q1,q2⟩:=arc hC0 (hvj.a7 g);exact .inr ⟨.inl (A.d7 hk0 g),aqi hC0 (ho.1 g q1 q2)⟩
   .obtain⟨q1,q2⟩:=arc hC0 (hvj.a9 g);exact .inr ⟨.inr (A.d9 hk0 g),aqi hC0 (ho.2 g q1 q2)⟩
  .rw[h2];rcases h6 h with g|g|g
   .exact .inl (A.d8 hk0 g)
   .exact .inl (A.d9 hk0 g)
   .exact .inr (A.d26 hk0 g)
 clear key htg hvj ho hC0 hrg;revert fin htf hvt hth hir tz A;dsimp only;generalize (geti fy s'.2.2.2 t)=th;generalize (geti sF _ th.1)=i;intro htf hvt hth hir tz A fin;have hlen:∀{j:Int},0<=j->j<(l! th.2.2.1:Int)->TL (FQ L t) n (geti (.sl (.int .i64)) th.2.2.1 j):=λh0 h1=>hth.l _ (bI (T:=.sl (.int .i64)) (xs:=th.2.2.1) h0 h1)
 have hA:i.1=10->0<=i.2.1/\i.2.1<(l! th.2.2.1:Int):=λh=>by
  rw[tz];exact hir _ (aqn (.inr (.inr (.inr h))))
 have hB:i.1=8\/i.1=9\/i.1=26->0<=i.2.2.1/\i.2.2.1<(l! th.2.2.1:Int):=λh=>by
  rw[tz];exact hir _ (aqm (h))
 have hC:i.1=7\/i.1=9->0<=i.2.2.2.1/\i.2.2.2.1<(l! th.2.2.1:Int):=λh=>by
  rw[tz];exact hir _ (awm (h))
 refine aV (λx=>x.2.1=th/\x.2.2.1=i/\(x.2.2.2.1.1=t/\x.2.2.2.1.2.1=k/\x.2.2.2.1.2.2.1=o/\x.2.2.2.1.2.2.2.2=i.2.2.2.2.2)/\TL (FQ L t) n x.2.2.2.2/\(0<l! x.2.2.2.2->i.1=10\/i.1=7\/i.1=9)) ?_ ?_
 .refine aK (λh=>?_) λ_=>?_
  .obtain⟨a0,a1⟩:=hA h;refine aR a0 a1 (aU ?_);have:=hlen a0 a1;exact bG (dc this.len (by omega)) (by omega) (ak ⟨rfl,rfl,⟨rfl,rfl,rfl,rfl⟩,this,λ_=>.inl h⟩)
  refine aV (λx=>x.2.2.1=th/\x.2.2.2.1=i/\(x.2.2.2.2.1=t/\x.2.2.2.2.2.1=k/\x.2.2.2.2.2.2.1=o/\x.2.2.2.2.2.2.2.2=i.2.2.2.2.2)/\(x.1=J->i.1=7\/i.1=9)) ?_ ?_
  .refine aK (λh=>ak ⟨rfl,rfl,⟨rfl,rfl,rfl,rfl⟩,λ_=>.inl h⟩) λ_=>ak ⟨rfl,rfl,⟨rfl,rfl,rfl,rfl⟩,λh=>.inr (bL h)⟩
  rintro⟨b,z0,th',i',t',k',z1⟩ ⟨e1,e2,e3,hb9⟩;dsimp only at e1 e2 e3 hb9;subst e1 e2;refine aQ (λh=>?_) λ_=>ak ⟨rfl,rfl,e3,TL.nil n,nofun⟩
  let⟨a0,a1⟩:=hC (hb9 h);refine aR a0 a1 (aU ?_);have:=hlen a0 a1;exact bG (dc this.len (by omega)) (by omega) (ak ⟨rfl,rfl,e3,this,λ_=>.inr (hb9 h)⟩)
 rintro⟨z0,th',i',⟨t',k',z1⟩,ds⟩ ⟨e1,e2,e3,hd,hd2⟩;dsimp only at e1 e2 e3 hd hd2;subst e1 e2;refine aV (λx=>(x.2.1.1=t/\x.2.1.2.1=k/\x.2.1.2.2.1=o/\x.2.1.2.2.2.2=i'.2.2.2.2.2)/\x.2.2.1=ds/\TL (FQ L t) n x.2.2.2/\(0<l! x.2.2.2->i'.1=8\/i'.1=9\/i'.1=26)) ?_ ?_
 .refine aV (λx=>x.2=(z0,th',i',(t',k',z1),ds)/\(x.1=J->i'.1=8\/i'.1=9\/i'.1=26)) ?_ ?_
  .exact aK (λh=>ak ⟨rfl,λ_=>.inl h⟩) λ_=>aK (λh=>ak ⟨rfl,λ_=>.inr (.inl h)⟩) λ_=>ak ⟨rfl,λh=>.inr (.inr (bL h))⟩
  rintro⟨b,x⟩ ⟨e,hb9⟩;dsimp only at e hb9;subst e;refine aQ (λh=>?_) λ_=>ak ⟨e3,rfl,TL.nil n,nofun⟩
  let⟨a0,a1⟩:=hB (hb9 h);refine aR a0 a1 (aU ?_);have:=hlen a0 a1;exact bG (dc this.len (by omega)) (by omega) (ak ⟨e3,rfl,this,λ_=>hb9 h⟩)
 rintro⟨z2,⟨t2,k2,o2,z3,si⟩,d2,f2⟩ ⟨e1,e2,h1,h2⟩;dsimp only at e1 e2 h1 h2;subst e2;let⟨g1,g2,g3,g4⟩:=e1;exact ak λ_=>fin _ g1 g2 g3 g4 hd2 h2 hd h1
def asb {n:Nat} {k:Int} (h0:0<=k) (h1:k<n):(geti iC (thP n) k).1=0\/(geti iC (thP n) k).1=1:=by
 have hm:=bI (T:=iC) (xs:=thP n) h0 (by rw[Lp];exact h1);revert hm;generalize geti iC (thP n) k=z;intro hm;cases n with
 |zero=>cases hm
 |succ n=>
  rcases a_.1 hm with rfl|hm
  .exact .inr rfl
  .grind
def aak (c:CT) (hvt:kB c=Z J) (hv:VC c):Ok (v8 c) λs=>SV 0 [] s/\SIv c [] s:=by
 unfold v8 bk bD bQ cS db dZ eh iS bS ky bU bX be c7 aI cQ;refine aZ hvt (eu nofun λ_=>?_);let⟨vc,vl,vd,vf,_,vt,_⟩:=id hv.vl;have htl:=hv.tl;refine aZ (O0 c.1 hv.vl) ?_;refine bV (l! c.1.1) (λi x=>x.1=(i:Int)/\x.2.1=c/\x.2.2.2.1=Yp c.1/\x.2.2.2.2=(c.1.1.take i).map λc=>c.2.2.2.2) ?_ ?_ ⟨rfl,rfl,rfl,rfl⟩
 .rintro i ⟨a,c',z,y',l⟩ hi ⟨L,e2,D,A⟩;dsimp only at L e2 D A;subst L e2 D A;refine cW ?_;refine bH (aU (a! (ak ?_)));dsimp only;exact⟨fV,rfl,rfl,by rw[pH (T:=lF) hi,cr];rfl⟩
 rintro⟨a,c',z,y',l⟩ ⟨L,e2,D,A⟩;dsimp only at L e2 D A;subst L e2 D;rw[cY]at A;subst A;refine cP ?_;refine aw (P:=λs=>SV 0 [] s/\SIv c' [] s) ?_ λr hr=>ak hr
 refine bV (l! c'.1.2.2.2.1) (λi x=>x.1=(i:Int)/\x.2.1=c'/\x.2.2.2.1=Yp c'.1/\x.2.2.2.2.1=ce0 c'.1/\x.2.2.2.2.2=aG i 0) ?_ ?_ ⟨rfl,rfl,rfl,rfl,rfl⟩
 .rintro i ⟨a,c,z,y,l,f⟩ hi ⟨L,e2,D,A,N⟩;dsimp only at L e2 D A N;subst L e2 D N;refine cW ?_;refine a! (ak ?_);dsimp only;exact⟨fV,rfl,rfl,A,by rw[wL]⟩
 rintro⟨a,c,z,y,l,f⟩ ⟨L,e2,D,A,N⟩;dsimp only at L e2 D A N;subst L e2 D A N;refine cP ?_;refine aw (P:=λs=>SV 0 [] s/\SIv c [] s) ?_ λr hr=>ak hr
 refine bV (l! c.2) (λi x=>x.1=(i:Int)/\x.2.1=c/\x.2.2.2.1=Yp c.1/\x.2.2.2.2.1=ce0 c.1/\x.2.2.2.2.2.1=fu0 c.1/\l! x.2.2.2.2.2.2=i/\∀t∈x.2.2.2.2.2.2,(∀F,TH F 0 t)/\t.2.2.2=0) ?_ ?_ ⟨rfl,rfl,rfl,rfl,rfl,rfl,λt ht=>(by cases ht)⟩
 .rintro i ⟨a,c,z,y,l,f,th⟩ hi ⟨L,e2,D,A,e4b,N,e6⟩;dsimp only at L e2 D A e4b N e6;subst L e2 D;refine cW ?_;have hin:((i:Nat):Int)<(l! c.2:Int):=by omega
  have hvt:=hv.t _ (bI (T:=zP) (xs:=c.2) (j:=(i:Int)) (by omega) hin);have q0:=hvt.r0;have q1:=hvt.r1;refine aR (by simp) hin (aU ?_);refine cF (cF (dj q0 (dj (dg _) (bG (by grind) (by omega) ?_))));refine aR (by simp) hin (aU ?_);refine cF (cF (dj q0 (dj (dg _) (bG (by grind) (by omega) ?_))));refine a! (ak ?_);dsimp only;refine ⟨fV,rfl,rfl,A,e4b,by simp;omega,λt ht=>?_⟩;rcases bO.1 ht with h|h
  .exact e6 t h
  .rw[aC]at h;subst h;refine ⟨λF=>⟨?_,?_,λl hl=>?_,dg _,dg _⟩,rfl⟩
   .grind
   .grind
   .rw[List.eq_of_mem_replicate hl];exact TL.nil 0
 .rintro⟨a,c,z,y,l,f,th⟩ ⟨L,e2,D,A,e4b,N,e6⟩;dsimp only at L e2 D A e4b N e6;subst L e2 D A e4b;refine cP (ak ?_);have hm:∀k:Nat,k<l! th->_:=λk hk=>e6 _ (bI (T:=fy) (xs:=th) (j:=(k:Int)) (by omega) (by omega))
  refine ⟨⟨YI hv.vl,rfl,λk hk=>(hm k hk).1 _⟩,⟨.nil,λk hk=>.inr ?_⟩⟩;dsimp only at hk;have hst:=asb (n:=l! c.1.2.2.2.2.1) (k:=(k:Int)) (by omega) (by omega);exact⟨(hm k hk).2,λh=>(by rcases hst with q|q<;>rcases h with h|h<;>exact bA (q.symm.trans h) (by decide)),λ_=>hst⟩
def LY {x j:Int} (h0:0<=a) (h1:a<l! N) (z:0<=j):(geti iC (AX N a x) j).1=if j=a then x else (geti iC N j).1:=by
 unfold AX;rw[jH (T:=iC) _ _ _ _ h0 h1 z];split<;>rfl
def ar4 {x j:Int} (h0:0<=a) (h1:a<l! N) (z:0<=j):(geti iC (cdP N a x) j).1=(geti iC N j).1:=by
 unfold cdP;rw[jH (T:=iC) _ _ _ _ h0 h1 z];split
 next h=>rw[h]
 .rfl
def arb {j:Int} (h0:0<=a) (h1:a<l! N) (z:0<=j):(geti iC (atP N a b) j).1=(geti iC N j).1:=by
 unfold atP;rw[jH (T:=iC) _ _ _ _ h0 h1 z];split
 next h=>rw[h]
 .rfl
def aqt (A:0<=a):∀(l:η) (th:Y e!),(∀u:Int,u∈l->0<=u/\u<l! th)->(geti iC (FX th l) a).1=if a∈l then 4 else (geti iC th a).1
 |[],th,_=>by simp[FX]
 |x::r,th,h=>by
  have z:=h x (dk ..);have D:=aqt A r (AX th x 4) λu L=>by unfold AX;rw[bW];exact h u (cg _ L)
  have e:FX th (x::r)=FX (AX th x 4) r:=rfl;rw[e,D,LY z.1 z.2 A]
  grind
def XZ {w:WT} {s:SY} {k o u v:Int} {A:SY} (h:(A,v)=ph w s a k o u):ph w s a k o v=(A,v):=by
 by_cases D:k=18
 .subst D;rw[Fk]at h ⊢;by_cases z:l! (wl s.2.2.2 o (l! s.2.2.2))=0
  .grind
  .rw[ax z]at h ⊢;have hm:=LJ u z;generalize wl s.2.2.2 o (l! s.2.2.2)=l at h z hm ⊢;obtain⟨rfl,rfl⟩:=Prod.mk.inj h;have:Ew l (Ew l u)=Ew l u:=by
    rw[Ew,ax z,aE (EI.2 hm)]
   rw[this]
 .rw[ad8 _ _ _ _ _ _ u D,<-h]
def atn {w:WT} {s:SY} {k o:Int} (u:Int) (he:EN w s a k o) (hr:UK w s a k o) {j:Int} (h0:0<=j):(¬j=a->(geti iC (ph w s a k o u).1.2.2.2 j).1=(geti iC s.2.2.2 j).1\/((geti iC s.2.2.2 j).1=3/\(geti iC (ph w s a k o u).1.2.2.2 j).1=4)\/((geti iC s.2.2.2 j).1=0/\(geti iC (ph w s a k o u).1.2.2.2 j).1=1))/\(j=a->¬k=16->¬(geti iC (ph w s a k o u).1.2.2.2 j).1=3/\¬(geti iC (ph w s a k o u).1.2.2.2 j).1=4):=by
 have t0:=he.t0;have t1:a<l! s.2.2.2:=by have:=he.t1;have:=he.e3;omega
 have A:=hr.r;have hml:∀u:Int,u∈wl s.2.2.2 o (l! s.2.2.2)->0<=u/\u<l! s.2.2.2:=λu hu=>⟨(sQ.1 hu).1,(sQ.1 hu).2.1⟩
 have h3:∀u:Int,u∈wl s.2.2.2 o (l! s.2.2.2)->(geti iC s.2.2.2 u).1=3:=λu hu=>by
  have:=(sQ.1 hu).2.2;unfold Pr at this;rw[au]at this;exact bL this.1
 have same:¬k=1->¬k=17->∀th:Y e!,(geti iC th j).1=(geti iC s.2.2.2 j).1->(¬j=a->(geti iC th j).1=(geti iC s.2.2.2 j).1\/((geti iC s.2.2.2 j).1=3/\(geti iC th j).1=4)\/((geti iC s.2.2.2 j).1=0/\(geti iC th j).1=1))/\(j=a->¬k=16->¬(geti iC th j).1=3/\¬(geti iC th j).1=4):=λt b th h=>⟨λ_=>.inl h,λh2 _=>by rw[h,h2,A t b];decide⟩
 have st:∀x:Int,¬x=3\/k=16->¬x=4->∀th:Y e!,(geti iC th j).1=(if j=a then x else (geti iC s.2.2.2 j).1)->(¬j=a->(geti iC th j).1=(geti iC s.2.2.2 j).1\/((geti iC s.2.2.2 j).1=3/\(geti iC th j).1=4)\/((geti iC s.2.2.2 j).1=0/\(geti iC th j).1=1))/\(j=a->¬k=16->¬(geti iC th j).1=3/\¬(geti iC th j).1=4):=λx hx hx4 th h=>⟨λhn=>.inl (by rw[h,ax hn]),λh2 h16=>by rw[h,aE h2];exact⟨hx.resolve_right h16,hx4⟩⟩
 have L:∀x:Int,a<l! (AX s.2.2.2 a x):=λx=>by unfold AX;rw[bW];exact t1
 by_cases k1:k=1
 .subst k1;exact st 2 (.inl (by decide)) (by decide) _ (LY t0 t1 h0)
 by_cases k2:k=2
 .subst k2;exact st 5 (.inl (by decide)) (by decide) _ (LY t0 t1 h0)
 by_cases k16:k=16
 .subst k16;exact st 3 (.inr rfl) (by decide) _ ((ar4 t0 (L _) h0).trans (LY t0 t1 h0))
 by_cases k17:k=17
 .subst k17;exact st 2 (.inl (by decide)) (by decide) _ ((ar4 t0 (L _) h0).trans (LY t0 t1 h0))
 by_cases k14:k=14
 .subst k14;exact same k1 k17 _ (arb t0 t1 h0)
 by_cases k15:k=15
 .subst k15;exact same k1 k17 _ (arb t0 t1 h0)
 by_cases k18:k=18
 .subst k18;rw[Fk];by_cases hl:l! (wl s.2.2.2 o (l! s.2.2.2))=0
  .rw[aE hl];exact same k1 k17 _ rfl
  .rw[ax hl];have hc:=LJ u hl;have N:=hml _ hc;have z:=h3 _ hc;dsimp only;rw[LY N.1 N.2 h0];generalize Ew (wl s.2.2.2 o (l! s.2.2.2)) u=c at z;by_cases D:j=c
   .rw[aE D,D];exact⟨λ_=>.inr (.inl ⟨z,rfl⟩),λh _=>by rw[h,A k1 k17]at z;exact bA z (by decide)⟩
   .rw[ax D];exact⟨λ_=>.inl rfl,λh _=>by rw[h,A k1 k17];decide⟩
 by_cases k19:k=19
 .subst k19;show (_->(geti iC (FX _ _) j).1=_\/_/\(geti iC (FX _ _) j).1=_\/_/\(geti iC (FX _ _) j).1=_)/\(_->_->¬(geti iC (FX _ _) j).1=_/\¬(geti iC (FX _ _) j).1=_)
  rw[aqt h0 _ _ hml];by_cases D:j∈wl s.2.2.2 o (l! s.2.2.2)
  .rw[aE D];have z:=h3 _ D;exact⟨λ_=>.inr (.inl ⟨z,rfl⟩),λh _=>by rw[h,A k1 k17]at z;exact bA z (by decide)⟩
  .rw[ax D];exact⟨λ_=>.inl rfl,λh _=>by rw[h,A k1 k17];decide⟩
 by_cases k20:k=20
 .subst k20;let⟨o0,o1⟩:=he.nm.th (.inl rfl);let⟨hot,ho0⟩:=hr.sp rfl;have o1':o<l! s.2.2.2:=by rw[he.e3];exact o1
  show (_->(geti iC (AX _ _ _) j).1=_\/_/\(geti iC (AX _ _ _) j).1=_\/_/\(geti iC (AX _ _ _) j).1=_)/\(_->_->¬(geti iC (AX _ _ _) j).1=_/\¬(geti iC (AX _ _ _) j).1=_)
  rw[LY o0 o1' h0];by_cases D:j=o
  .rw[aE D,D];exact⟨λ_=>.inr (.inr ⟨ho0,rfl⟩),λh _=>(hot h).elim⟩
  .rw[ax D];exact⟨λ_=>.inl rfl,λh _=>by rw[h,A k1 k17];decide⟩
 refine same k1 k17 _ ?_;unfold ph;rw[ax k1,ax k2];repeat' split
 all_goals first|rfl|omega
def ao6 {e e':ET} (h1:e'.1=e.1) (z:e'.2.1=e.2.1) (t:Int):fl [e'] t=fl [e] t:=by
 by_cases h:e.1=t
 .rw[Ck h,Ck (h1.trans h)];unfold rdE;rw[z]
 .rw[yW h,yW (λg=>h (h1.symm.trans g))]
def aq9 {e e':ET} (h1:e'.1=e.1) (z:e'.2.1=e.2.1) {L:Int} (h:FQ (k++[e]) L a):FQ (k++[e']) L a:=by
 unfold FQ Pb at h ⊢;rw[wC,ao6 h1 z,<-wC];exact h
def Na (xs:Y T.den) (i k:Nat) (x:T.den) (hi:i<l! xs):geti _ (xs.set i x) (k:Int)=if k=i then x else geti _ xs (k:Int):=by
 refine (jH xs (i:Int) (k:Int) x (by omega) (by omega) (by omega)).trans ?_
 grind
abbrev D!:=ST×ET×Bool
def SQ (n:Nat) (c:CT) (L:Y ET) (y:D!):Prop:=y.2.2=J->SV (n+1) (L++[y.2.1]) y.1/\SIv c (L++[y.2.1]) y.1/\Ht c.1 y.2.1/\EvS y.2.1
def apm (hn:j+1<=100000) {c:CT} {s:ST} {o v0 si:Int} {fs:η} {sy:SY} (hs:SV j k s) (hI:SIv c k s) (hp:PE j c s (i:Int) ((i:Int),a,o,v0,si,z,fs)) (hm:PS c k s (i:Int) ((i:Int),a,o,v0,si,z,fs)) (he:EN c.1 s.1 (i:Int) a o) (hr:UK c.1 s.1 (i:Int) a o) (ha:AP j s.1 sy) (ds:Int) (ce fu:η) (N:TT) (hap:(ph c.1 s.1 (i:Int) a o ds).1=sy) (hva:VA c.1 s.1 s.2.1 s.2.2.1 (i:Int) a o ds) (hce:ce=ceP s.2.1 ((i:Int),a,o,ds,si,z,fs)) (hfu:fu=fuP s.2.2.1 ((i:Int),a,o,ds,si,z,fs)) (ht:TH (FQ (k++[((i:Int),a,o,v0,si,z,fs)]) (i:Int)) (j+1) N) (hg:l! N.2.1=0\/N.2.2.2=bn .i64 ((geti fy s.2.2.2 (i:Int)).2.2.2+1)/\(a=16->N.1=(geti fy s.2.2.2 (i:Int)).1)):SQ j c k ((sy,ce,fu,s.2.2.2.set i N),((i:Int),a,o,ds,si,z,fs),J):=by
 intro _;have q1:=hp.t1;have q2:=hp.fs.th;have hil:i<l! s.2.2.2:=by omega
 have hln:=hs.ln;refine ⟨⟨ha.toSB hs.sb hn,by simp[hln],λL D=>?_⟩,⟨?_,λL D=>?_⟩,⟨he.nm,he.t0,he.t1,he.cd⟩,⟨dc hp.d (by omega),dc hp.f (by omega)⟩⟩
 .dsimp only at D ⊢;rw[dD]at D;rw[Na (T:=fy) _ _ _ _ hil];split
  next h=>subst h;exact ht.mono (bJ _) λy A=>aq9 (e:=((L:Int),a,o,v0,si,z,fs)) (e':=((L:Int),a,o,ds,si,z,fs)) rfl rfl A
  .exact (hs.t L D).mono (by omega) λy A=>⟨A.1,A.2.app _⟩
 .rw[<- hap,hce,hfu];exact hI.ac.snoc (e:=((i:Int),a,o,ds,si,z,fs)) ⟨he,hr,hm.s1,hm.s2,hm.de,hm.fr,⟨hm.da,λx hx=>⟨(hm.dq x hx).1,(hm.dq x hx).2.lt⟩⟩,⟨hm.fa,λx hx=>⟨(hm.fq x hx).1,(hm.fq x hx).2.lt⟩⟩,λy A=>(hm.dq y A).2,λy A=>(hm.fq y A).2,hva⟩
 .dsimp only at D ⊢;rw[dD]at D;rw[Na (T:=fy) _ _ _ _ hil];let⟨Pj,st2⟩:=atn ds he hr (j:=(L:Int)) (by omega);rw[hap]at Pj st2;have hfl:=Wv k (i:Int);split
  .rename_i h;subst h;rcases hg with hg|⟨g1,g2⟩
   .exact .inl hg
   .refine .inr ⟨?_,λhw=>?_,λhz=>?_⟩
    .rw[g1,hm.tg.ev,wC,Ck rfl,fV];simp
    .have h16:a=16:=xN λh=>hw.elim (st2 rfl h).1 (st2 rfl h).2
     rw[g2 h16];exact hm.wt h16
    .rw[wC,Ck rfl]at hz;simp at hz
  .rename_i h;have hki:¬(L:Int)=(i:Int):=by omega
   have hfo:∀e:ET,e.1=(i:Int)->fl (k++[e]) (L:Int)=fl k (L:Int):=λe h=>by
    rw[wC,yW (by omega),mU]
   have Pj:=Pj hki;refine (hI.t L D).imp id λg=>⟨by rw[hfo _ rfl];exact g.ev,λhw=>g.wi (by
    rcases Pj with h1|⟨h1,_⟩|⟨_,h1⟩
    .rw[<- h1];exact hw
    .exact .inl h1
    .exact hw.elim (λh=>bA (h1.symm.trans h) (by decide)) λh=>bA (h1.symm.trans h) (by decide)),λhz=>?_⟩
   rw[hfo _ rfl]at hz;have g2:=g.nw hz
   grind
def YS {α:Type} (o:M α):aA o (λ_=>(U:M R))=U:=by cases o<;>rfl
def akk (b:Bool):chk b (λ_=>(U:M R))=U:=by cases b<;>rfl
def anm {α:Type} (x:α):lt x (λ_=>(U:M R))=U:=rfl
def OkN (o:M R) (Q:R->Prop):Prop:=o=U\/Ok o Q
def OkN.or {a b:M R} {Q:R->Prop} (A:OkN a Q) (z:OkN b Q):OkN (orE a b) Q:=by
 rcases A with rfl|⟨y,rfl,h⟩
 .exact z
 .exact .inr ⟨y,rfl,h⟩
def Ok.orL {a b:M R} {Q:R->Prop} (z:Ok a Q):Ok (orE a b) Q:=by
 obtain⟨y,rfl,h⟩:=z;exact⟨y,rfl,h⟩
def OkN.orR {a b:M R} {Q:R->Prop} (A:OkN a Q) (z:Ok b Q):Ok (orE a b) Q:=by
 rcases A with rfl|⟨y,rfl,h⟩
 .exact z
 .exact⟨y,rfl,h⟩
def LX (hn:i+1<=100000) {c:CT} {s:ST} {u:Int} (hc:CB c) (hs:SV i k s) (hI:SIv c k s) (G:M D!->Prop) (hG:∀y,SQ i c k y->G (Z y)) (L:ET×Bool->SY×q!->M D!)
 (hk:∀e v A,PE i c s a e->PS c k s a e->EN c.1 s.1 a e.2.1 e.2.2.1->UK c.1 s.1 a e.2.1 e.2.2.1->AP i s.1 A->(A,v)=ph c.1 s.1 a e.2.1 e.2.2.1 u->G (L (e,J) (A,v,J))):
 G (aA (oN (c,s,a)) λz=>aJ (!z.2) (Z ((([],0,[],[]),[],[],[]),(0,0,0,0,0,[],[]),af)) (aA (qD (c.1,s.1,a,z.1.2.1,z.1.2.2.1,u)) λD=>aJ (!D.2.2) (Z ((([],0,[],[]),[],[],[]),(0,0,0,0,0,[],[]),af)) (L z D))):=by
 have N:=hG ((([],0,[],[]),[],[],[]),(0,0,0,0,0,[],[]),af) nofun
 let⟨⟨e,b⟩,h1,h2⟩:=aan i (by omega) c k s hc hs hI a;rw[h1,obs];cases b with
 |false=>exact N
 |true=>
  let⟨hp,hm⟩:=h2 rfl;have hcd:l! c.1.2.2.1<=1000:=by have:=hp.fs.vc.vl.d;omega
  let⟨⟨A,v,b⟩,h3,h4,_,_⟩:=Yn c.1 s.1 hs.sb hcd a e.2.1 e.2.2.1 u;have e0:∀{R:Type} (t b:M R),aJ (!J) t b=b:=λ_ _=>rfl
  rw[e0,h3,obs];cases b with
  |false=>exact N
  |true=>grind
def kdx (k:Int):k=1\/k=16\/k=2\/k=3\/k=23\/k=4\/k=22\/k=5\/((k=1)=False/\(k=16)=False/\(k=2)=False/\(k=3)=False/\(k=23)=False/\(k=4)=False/\(k=22)=False/\(k=5)=False):=by grind
def KR (n:Nat) (c0:CT) (L:Y ET) (i:Nat) (u:Int) (l:Y TT) (z:R) (k:Int->(CT×SY×(ν)×Int×(υ)×ET×(ν)×(η)×(η)×R×(η)×Y η)->M D!):Prop:=
 ∀(F:Int->Prop) (p:Int) (sy:SY) (kd o v si:Int) (ds fs ce fu A:η) (T:Y η) (N:Int),
  (kd≠16->kd≠2->Ok (ou (geti zP c0.2 (i:Int),(p,A,T,bn .i64 (N+1)))) λy=>TH F (n+1) y.1/\(l! y.1.2.1=0\/y.1.2.2.2=bn .i64 (N+1)))->
  (kd=16\/kd=2->TH F (n+1) (p,A,T,bn .i64 (N+1)))->
  (∀D,TH F (n+1) D->(l! D.2.1=0\/D.2.2.2=bn .i64 (N+1)/\(kd=16->D.1=p))->SQ n c0 L ((sy,ce,fu,l.set i D),((i:Int),kd,o,v,si,ds,fs),J))->(i:Int)<(l! c0.2:Int)->
  ∀pc,Ok (k p (c0,sy,((i:Int),u),0,(0,0,0,0,0),((i:Int),kd,o,v,si,ds,fs),(pc,N),ce,fu,z,A,T)) (SQ n c0 L)
def Ez (N n:Nat) {cp:SY×(η)×(η)×Y TT->M (Int×(Y (Int×η))×(θ)×(Y (Int×Int×Bool))×(η)×(η)×R×(η)×Y η)} {pc ev:R->Int} {k:Int->(CT×SY×(ν)×Int×(υ)×ET×(ν)×(η)×(η)×R×(η)×Y η)->M D!} (hn:i+1<=100000) (c0:CT) (L:Y ET) (s:ST) (t u:Int) (hc:CB c0) (hs:SV i L s) (hI:SIv c0 L s)
 (h0:∀sy ce fu (l:Y TT),l! l<=4->l! l≠N->cp (sy,ce,fu,l)=U)
 (h1:∀sy ce fu (l:Y TT),SV i L (sy,ce,fu,l)->l! ce<=1000->l! fu<=1000->l! l=N->n<N/\∃y,cp (sy,ce,fu,l)=Z y/\y.2.2.2.2.1=ce/\y.2.2.2.2.2.1=fu/\y.2.2.2.2.2.2.2.1=(geti fy l (n:Int)).2.1/\y.2.2.2.2.2.2.2.2=(geti fy l (n:Int)).2.2.1/\pc y.2.2.2.2.2.2.1=(geti fy l (n:Int)).1/\ev y.2.2.2.2.2.2.1=(geti fy l (n:Int)).2.2.2/\KR i c0 L n u l y.2.2.2.2.2.2.1 k):
 OkN (SG (n:Int) cp pc ev k (c0,s,t,u)) (SQ i c0 L)/\(l! s.2.2.2=N->t=(n:Int)->Ok (SG (n:Int) cp pc ev k (c0,s,t,u)) (SQ i c0 L)):=by
 by_cases hz:l! s.2.2.2=N/\t=(n:Int)
 .obtain⟨hz1,rfl⟩:=hz;suffices h:Ok (SG (n:Int) cp pc ev k (c0,s,(n:Int),u)) (SQ i c0 L) from ⟨.inr h,λ_ _=>h⟩
  unfold SG ly me md bk bD bQ cS eV kZ mw nM Prod.w Prod.v Prod.z db dZ w9 Prod.B ck bm bX kq aI;refine LX hn hc hs hI (λo=>Ok o (SQ i c0 L)) (λy h=>ak h) _ λe v sy hp hm he hr ha hq=>?_
  let⟨sy0,ce,fu,l⟩:=s;let⟨e1,kd,o,e4,site,ds,fs⟩:=e;have het:=hp.et;dsimp only at hz1 he hr ha hq het;subst het;have vl:=hp.fs.vc.vl;have hce:=hp.fs.ce;have hfu:=hp.fs.fu;dsimp only at hce hfu;let⟨hiN,⟨q1,q2,q3,q4,ce',fu',z,R0,T0⟩,hcp,g1,g2,g3,g4,hpc,hve,hk⟩:=h1 sy0 ce fu l hs (by have:=vl.c;omega) (by have:=vl.f;omega) hz1;dsimp only at g1 g2 g3 g4 hpc hve hk;rw[g1,g2,g3,g4]at hcp;let⟨_,_,nmce,_,_,_,nmfu,_,_,_⟩:=id he.nm;have t1:(n:Int)<(l! c0.2:Int):=hp.t1;have htf:TF (geti zP c0.2 (n:Int)) (geti fy l (n:Int)):=hp.fs.t n (by omega);have hA:=hp.a;have hB:=hp.b;dsimp only at hA hB;have hvt:=hp.fs.vc.t _ (bI (T:=zP) (xs:=c0.2) (j:=(n:Int)) (by omega) t1);have hci:=hc.ins _ (bI (T:=zP) (xs:=c0.2) (j:=(n:Int)) (by omega) t1);have hth:TH (FQ L (n:Int)) i (geti fy l (n:Int)):=hs.t n (by dsimp only;omega);have done:=apm hn hs hI hp hm he hr ha;have htg:=hm.tg;have hrun:=hr.r;dsimp only at done htg;have hgv:kd=3\/kd=23->FQ (L++[((n:Int),kd,o,e4,site,ds,fs)]) (n:Int) (geti fy l (n:Int)).2.2.2:=λh3=>by
   have D:=hrun (by omega) (by omega);have hn0:¬l! (fl L (n:Int))=0:=λh=>(htg.nw h).elim (λg=>bA (D.symm.trans g) (by decide)) λg=>bA (D.symm.trans g) (by decide)
   refine ⟨by rw[htg.ev];omega,Pb.last (e:=((n:Int),kd,o,e4,site,ds,fs)) ?_ htg.ev⟩;unfold rdE;rcases h3 with h|h
   .rw[bc h];rfl
   .simp[h]
  have vaA:¬kd=3->¬kd=23->¬kd=5->VA c0.1 sy0 ce fu (n:Int) kd o v:=λa b c=>⟨λh=>(a h).elim,λh=>(b h).elim,λh=>(c h).elim,λ_ _ _ _ _=>by rw[XZ hq]⟩
  have apA:(ph c0.1 sy0 (n:Int) kd o v).1=sy:=by rw[XZ hq]
  have apB:¬kd=18->∀v',(ph c0.1 sy0 (n:Int) kd o v').1=sy:=λh v'=>by rw[ad8 _ _ _ _ _ _ u h,<-hq]
  have keep:∀x∈(geti fy l (n:Int)).2.2.1,TL (FQ (L++[((n:Int),kd,o,e4,site,ds,fs)]) (n:Int)) (i+1) x:=λx hx=>(hth.l x hx).mono (by omega) λy hy=>⟨hy.1,hy.2.app _⟩
  clear g3 g4 hm hI hrun htg;revert done hgv keep;generalize FQ (L++[((n:Int),kd,o,e4,site,ds,fs)]) (n:Int)=F;generalize geti fy l (n:Int)=th at hcp hpc hve htf hA hB hth ⊢;intro done hgv keep;refine aZ hcp ?_;dsimp only;rw[hpc,hve];refine qP (bc rfl) ?_;refine aR (by omega) t1 (aU (aR htf.p0 htf.p1 (aU ?_)));have htz:l! th.2.2.1=l! th.2.1:=by have:=htf.r;have:=htf.t;omega
  have fin:∀(p:Int) (A:η) (T:Y η),l! A=l! th.2.1->l! T=l! th.2.2.1->(∀x∈T,TL F (i+1) x)->Ok (ou (geti zP c0.2 (n:Int),(p,A,T,bn .i64 (th.2.2.2+1)))) λy=>TH F (i+1) y.1/\(l! y.1.2.1=0\/y.1.2.2.2=bn .i64 (th.2.2.2+1)):=λp A T h1 D h3=>by
   have a1:=hth.e0;have a2:=hth.e1;have a3:=hth.r;have a4:=hth.t;rw[iI (n:=th.2.2.2+1) (by omega) (by omega)];exact aga (i+1) hn _ hci hvt _ ⟨by dsimp only;omega,by dsimp only;omega,h3,by dsimp only;omega,by dsimp only;omega⟩
  have mark:kd=3\/kd=23->∀j:Int,∀x∈cC th.2.2.1 j [th.2.2.2],TL F (i+1) x:=λh3 j x hx=>by
   rcases Fw hx with h|h
   .exact keep x h
   .rw[h];exact⟨⟨λy hy=>(by cases hy),trivial⟩,λy hy=>by rw[aC]at hy;have:=hth.e0;have:=hth.e1;rw[hy];exact⟨by omega,by omega⟩,λy hy=>by rw[aC]at hy;rw[hy];exact hgv h3⟩
  have nopark:TH F (i+1) (th.1,th.2.1,th.2.2.1,bn .i64 (th.2.2.2+1)):=by
   have a1:=hth.e0;have a2:=hth.e1;rw[iI (n:=th.2.2.2+1) (by omega) (by omega)];exact⟨hth.r,hth.t,keep,by dsimp only;omega,by dsimp only;omega⟩
  clear hp hs hc h0 h1 hcp g1 g2 hr ha hq he;generalize (geti sF (geti zP c0.2 (n:Int)).2 th.1)=ins at hA hB ⊢;rcases kdx kd with rfl|rfl|rfl|rfl|rfl|rfl|rfl|rfl|⟨k1,k2,k3,k4,k5,k6,k7,k8⟩
  case inr.inr.inr.inr.inr.inr.inr.inr=>
   simp only[k1,k2,k3,k4,k5,k6,k7,k8,c8,ep,Rc];refine hk F _ _ _ _ _ _ _ _ _ _ _ _ _ (λ_ _=>fin _ _ _ rfl rfl keep) (λh=>by rw[k2,k3]at h;exact (h.elim id id).elim) (λt' h g=>?_) t1 _;exact done v ce fu t' apA (vaA (of_eq_false k4) (of_eq_false k5) (of_eq_false k8)) (ax (of_eq_false k6)).symm (ax (of_eq_false k7)).symm h (g.imp id λh=>⟨h.1,λD=>(of_eq_false k2 D).elim⟩)
  all_goals simp only[c8,ep,Rc]
  .refine hk F _ _ _ _ _ _ _ _ _ _ _ _ _ (λ_ _=>fin _ _ _ rfl rfl keep) (λh=>by omega) (λt' h g=>?_) t1 _;exact done v ce fu t' apA (vaA (by decide) (by decide) (by decide)) rfl rfl h (g.imp id λh=>⟨h.1,nofun⟩)
  .refine hk F _ _ _ _ _ _ _ _ _ _ _ _ _ (λh _=>(h rfl).elim) (λ_=>nopark) (λt' h g=>?_) t1 _;exact done v ce fu t' apA (vaA (by decide) (by decide) (by decide)) rfl rfl h g
  .refine hk F _ _ _ _ _ _ _ _ _ _ _ _ _ (λ_ h=>(h rfl).elim) (λ_=>nopark) (λt' h g=>?_) t1 _;exact done v ce fu t' apA (vaA (by decide) (by decide) (by decide)) rfl rfl h (g.imp id λh=>⟨h.1,nofun⟩)
  .obtain⟨o0,o1⟩:=nmce (.inl rfl);rw[<- hce]at o1;let⟨a0,a1⟩:=hA (.inl rfl);have a2:ins.2.1<(l! th.2.2.1:Int):=by rw[htz];exact a1
   refine gQ (aR o0 o1 (aR o0 o1 (ak ?_)));simp only[c8,ep,Rc];refine gQ (aR a0 a1 (aR a0 a1 (aR a0 a2 (aR a0 a2 (ak ?_)))));refine hk F _ _ _ _ _ _ _ _ _ _ _ _ _ (λ_ _=>fin _ _ _ (bW ..) (bW ..) (mark (.inl rfl) _)) (λh=>by omega) (λt' h g=>?_) t1 _;exact done _ ce fu t' (apB (by decide) _) ⟨λ_=>rfl,nofun,nofun,λh=>(h rfl).elim⟩ rfl rfl h (g.imp id λh=>⟨h.1,nofun⟩)
  .obtain⟨o0,o1⟩:=nmfu (.inr rfl);rw[<- hfu]at o1;let⟨a0,a1⟩:=hA (.inr (.inl rfl));have a2:ins.2.1<(l! th.2.2.1:Int):=by rw[htz];exact a1
   refine gQ (aR o0 o1 (aR o0 o1 (ak ?_)));simp only[c8,ep,Rc];refine gQ (aR a0 a1 (aR a0 a1 (aR a0 a2 (aR a0 a2 (ak ?_)))));refine hk F _ _ _ _ _ _ _ _ _ _ _ _ _ (λ_ _=>fin _ _ _ (bW ..) (bW ..) (mark (.inr rfl) _)) (λh=>by omega) (λt' h g=>?_) t1 _;exact done _ ce fu t' (apB (by decide) _) ⟨nofun,λ_=>rfl,nofun,λ_ h=>(h rfl).elim⟩ rfl rfl h (g.imp id λh=>⟨h.1,nofun⟩)
  .obtain⟨o0,o1⟩:=nmce (.inr rfl);rw[<- hce]at o1;let⟨a0,a1⟩:=hB (.inl rfl);refine gQ (aR a0 a1 (aR a0 a1 (aR o0 o1 (aR o0 o1 (ak ?_)))));simp only[c8,ep,Rc];refine hk F _ _ _ _ _ _ _ _ _ _ _ _ _ (λ_ _=>fin _ _ _ rfl rfl keep) (λh=>by omega) (λt' h g=>?_) t1 _;exact done _ _ fu t' (apB (by decide) _) ⟨nofun,nofun,nofun,λ_ _ _ h=>(h rfl).elim⟩ rfl rfl h (g.imp id λh=>⟨h.1,nofun⟩)
  .obtain⟨o0,o1⟩:=nmfu (.inl rfl);rw[<- hfu]at o1;let⟨a0,a1⟩:=hB (.inr rfl);refine gQ (aR a0 a1 (aR a0 a1 (aR o0 o1 (aR o0 o1 (ak ?_)))));simp only[c8,ep,Rc];refine hk F _ _ _ _ _ _ _ _ _ _ _ _ _ (λ_ _=>fin _ _ _ rfl rfl keep) (λh=>by omega) (λt' h g=>?_) t1 _;exact done _ ce _ t' (apB (by decide) _) ⟨nofun,nofun,nofun,λ_ _ _ _ h=>(h rfl).elim⟩ rfl rfl h (g.imp id λh=>⟨h.1,nofun⟩)
  .obtain⟨a0,a1⟩:=hA (.inr (.inr rfl));refine gQ (aR a0 a1 (aR a0 a1 (aK (λ_=>ak ?_) λ_=>ak ?_)));all_goals
    simp only[c8,ep,Rc];refine hk F _ _ _ _ _ _ _ _ _ _ _ _ _ (λ_ _=>fin _ _ _ rfl rfl keep) (λh=>by omega) (λt' h g=>?_) t1 _;exact done _ ce fu t' (apB (by decide) _) ⟨nofun,nofun,λ_=>(by decide),λ_ _ h=>(h rfl).elim⟩ rfl rfl h (g.imp id λh=>⟨h.1,nofun⟩)
 .refine ⟨?_,λh1 D=>(hz ⟨h1,D⟩).elim⟩;unfold SG ly me md bk bD bQ cS eV kZ mw nM Prod.w Prod.v Prod.z db dZ w9 Prod.B ck bm bX kq aI;refine LX hn hc hs hI (λo=>OkN o (SQ i c0 L)) (λy h=>.inr (ak h)) _ λe v sy hp _ _ _ _ _=>.inl ?_
  let⟨sy0,ce,fu,l⟩:=s;have vl:=hp.fs.vc.vl;by_cases hl:l! l=N
  .have ht:¬t=(n:Int):=λh=>hz ⟨hl,h⟩
   dsimp only;cases cp (sy0,ce,fu,l) with
   |none=>rfl
   |some y=>rw[obs,dm ht];rfl
  .show aA (cp (sy0,ce,fu,l)) _=U;rw[h0 sy0 ce fu l (by have h1:l! l=l! c0.2:=hp.fs.th;have:=hp.fs.vc.tl;have:=vl.t;omega) hl];rfl
def azn {W V:Type} {c0:CT} {l:Y TT} {z:R} {t1:R->η->Y η->W} {t2:W->V} {t3:V->TT->Y TT} (h3:∀A T D,t3 (t2 (t1 z A T)) D=l.set i D):KR j c0 k i a l z (KG (i:Int) t1 t2 t3):=by
 intro F p sy kd o v si ds fs ce fu A T ev fin park done ht pc;unfold KG ly bk bD bQ cS eV kZ mw nM Prod.w Prod.v Li bm jK bX aI cQ;have done:∀D,TH F (j+1) D->(l! D.2.1=0\/D.2.2.2=bn .i64 (ev+1)/\(kd=16->D.1=p))->SQ j c0 k ((sy,ce,fu,t3 (t2 (t1 z A T)) D),((i:Int),kd,o,v,si,ds,fs),J):=λD h g=>by grind
 by_cases h1:kd=16
 .subst h1;exact gQ (gQ (jO rfl (ak (jO rfl (ak (qP (bc rfl) (ak (done _ (park (.inl rfl)) (.inr ⟨rfl,λ_=>rfl⟩)))))))))
 by_cases N:kd=2
 .subst N;exact gQ (gQ (qP rfl (ak (jO rfl (ak (qP (bc rfl) (ak (done _ (park (.inr rfl)) (.inr ⟨rfl,nofun⟩)))))))))
 rw[dm h1,dm N];exact gQ (gQ (qP rfl (ak (qP rfl (aR (ey i) ht (aU (aw (fin h1 N) λy hy=>ak (qP (bc rfl) (ak (done _ hy.1 (hy.2.imp id λh=>⟨h,λN=>(h1 N).elim⟩)))))))))))
def SOx (n:Nat) (z:CT) (L:Y ET) (s:ST) (t u:Int) (N i:Nat) (f:CT×ST×i?->M D!):Prop:=OkN (f (z,s,t,u)) (SQ n z L)/\(l! s.2.2.2=N->t=(i:Int)->Ok (f (z,s,t,u)) (SQ n z L))
def ale (D:i+1<=100000) (z:CT) (L:Y ET) (s:ST) (t u:Int) (N:CB z) (A:SV i L s) (hI:SIv z L s):SOx i z L s t u 4 0 qV/\SOx i z L s t u 4 1 qU/\SOx i z L s t u 4 2 oq/\SOx i z L s t u 4 3 mo/\SOx i z L s t u 3 0 lm/\SOx i z L s t u 3 1 kf/\SOx i z L s t u 3 2 iY/\SOx i z L s t u 2 0 iw/\SOx i z L s t u 2 1 gR/\SOx i z L s t u 1 0 gU:=by
 refine ⟨Ez 4 0 (cp:=ug) D z L s t u N A hI ?_ ?_,Ez 4 1 (cp:=uf) D z L s t u N A hI ?_ ?_,Ez 4 2 (cp:=ue) D z L s t u N A hI ?_ ?_,Ez 4 3 (cp:=ud) D z L s t u N A hI ?_ ?_,Ez 3 0 (cp:=uj) D z L s t u N A hI ?_ ?_,Ez 3 1 (cp:=ui) D z L s t u N A hI ?_ ?_,Ez 3 2 (cp:=uh) D z L s t u N A hI ?_ ?_,Ez 2 0 (cp:=ul) D z L s t u N A hI ?_ ?_,Ez 2 1 (cp:=uk) D z L s t u N A hI ?_ ?_,Ez 1 0 (cp:=um) D z L s t u N A hI ?_ ?_⟩;all_goals
  intro sy ce fu l;first|unfold ug bk db bS bU bX be|unfold uf bk db bS bU bX be|unfold ue bk db bS bU bX be|unfold ud bk db bS bU bX be|unfold uj bk db bS bU bX be|unfold ui bk db bS bU bX be|unfold uh bk db bS bU bX be|unfold ul bk db bS bU bX be|unfold uk bk db bS bU bX be|unfold um bk db bS bU bX be
  rcases l with _|⟨a,_|⟨b,_|⟨c,_|⟨d,_|⟨e,l⟩⟩⟩⟩⟩;all_goals first
  |intro h h0
   first|(simp at h0;done)|(exfalso;simp only[jX]at h;omega)|simp[gE,YS,akk,anm,bcT,bcF]
   done
  |intro h hce hfu hl
   first|(simp at hl;done)|(exfalso;simp only[jX]at hl;omega)|skip
   have hE:=h.sb.n1;refine ⟨by decide,aZ (adq sy h.sb) (a! (a! (qP rfl (bl rfl (aU (aZ (zS a i hE (h.t 0 (by simp))) ?_))))))⟩;try refine qP rfl (bl rfl (aU (aZ (zS b i hE (h.t 1 (by simp))) ?_)))
   try refine qP rfl (bl rfl (aU (aZ (zS c i hE (h.t 2 (by simp))) ?_)))
   try refine qP rfl (bl rfl (aU (aZ (zS d i hE (h.t 3 (by simp))) ?_)))
   exact jO rfl (ak ⟨rfl,rfl,rfl,rfl,rfl,rfl,azn λR T t'=>rfl⟩)
def ag8 {n:Nat} (hn:n+1<=100000) (c:CT) (L:Y ET) (s:ST) (t u:Int) (hc:CB c) (hs:SV n L s) (hI:SIv c L s):Ok (Dc (c,s,t,u)) (SQ n c L):=by
 unfold Dc;let⟨N,D,A,z,a30,a31,a32,a20,a21,a10⟩:=ale hn c L s t u hc hs hI;by_cases hz:l! s.2.2.2<=4/\0<=t/\t<(l! s.2.2.2:Int)
 .obtain⟨h1,h2,h3⟩:=hz;have:(l! s.2.2.2=4/\t=0)\/(l! s.2.2.2=4/\t=1)\/(l! s.2.2.2=4/\t=2)\/(l! s.2.2.2=4/\t=3)\/(l! s.2.2.2=3/\t=0)\/(l! s.2.2.2=3/\t=1)\/(l! s.2.2.2=3/\t=2)\/(l! s.2.2.2=2/\t=0)\/(l! s.2.2.2=2/\t=1)\/(l! s.2.2.2=1/\t=0):=by omega
  rcases this with h|h|h|h|h|h|h|h|h|h;all_goals first|exact (N.2 h.1 h.2).orL|refine N.1.orR ?_
  all_goals first|exact (D.2 h.1 h.2).orL|refine D.1.orR ?_
  all_goals first|exact (A.2 h.1 h.2).orL|refine A.1.orR ?_
  all_goals first|exact (z.2 h.1 h.2).orL|refine z.1.orR ?_
  all_goals first|exact (a30.2 h.1 h.2).orL|refine a30.1.orR ?_
  all_goals first|exact (a31.2 h.1 h.2).orL|refine a31.1.orR ?_
  all_goals first|exact (a32.2 h.1 h.2).orL|refine a32.1.orR ?_
  all_goals first|exact (a20.2 h.1 h.2).orL|refine a20.1.orR ?_
  all_goals first|exact (a21.2 h.1 h.2).orL|refine a21.1.orR ?_
  exact a10.2 h.1 h.2
 .refine Ok.orL ?_;unfold qV bk bD dZ;refine LX hn hc hs hI (λo=>Ok o (SQ n c L)) (λy h=>ak h) _ λe v sy hp _ _ _ _ _=>(hz ?_).elim
  have h1:l! s.2.2.2=l! c.2:=hp.fs.th;have h2:l! c.2=l! c.1.2.2.2.2.1:=hp.fs.vc.tl;have h3:l! c.1.2.2.2.2.1<=4:=hp.fs.vc.vl.t;have h4:0<=t:=hp.t0;have h5:t<(l! c.2:Int):=hp.t1;exact⟨by omega,h4,by omega⟩
def ao5 (c:CT) (s:ST) (l:Y ν) (hc:CB c) (hs:SV 0 [] s) (hI:SIv c [] s) (hl:l.length<=9223372036854775806):Ok (yH (c,s,l)) λy=>y.1.length<=400/\(∀e∈y.1,Ht c.1 e/\EvS e)/\∃N ce fu,Acw c.1 y.1 N ce fu:=by
 unfold yH bk bD dZ bS bU bX be c7 aI cQ;refine pX (λx=>((l.length:Int)-x.1).toNat) (λx=>0<=x.1/\x.2.2.1=c/\SV x.2.1.length x.2.1 x.2.2.2.1/\SIv c x.2.1 x.2.2.2.1/\x.2.1.length<=400/\∀e∈x.2.1,Ht c.1 e/\EvS e) ?_ ⟨dg _,rfl,hs,hI,by simp,λe he=>(by cases he)⟩;rintro⟨(i:Int),es,A,s',z⟩ ⟨i0,e1,e2,eI,L,D⟩;subst e1;refine aV (λx=>x.2=(es,A,s',z)/\(x.1=J->i<(l.length:Int)/\es.length<400)) ?_ ?_
 .refine bP (λg=>ak ⟨rfl,λh=>⟨g,?_⟩⟩) λ_=>ak ⟨rfl,nofun⟩
  rw[rZ]at h
  grind
 rintro⟨b,x⟩ ⟨f1,f2⟩;subst f1;refine aQ (λh=>?_) λ_=>ak ⟨L,D,_,_,_,eI.ac⟩
 let⟨g1,g2⟩:=f2 h;refine aV (λx=>x.2.1=A/\SV x.1.length x.1 x.2.2.1/\SIv A x.1 x.2.2.1/\x.1.length<=400/\∀e∈x.1,Ht A.1 e/\EvS e) ?_ ?_
 .refine aR i0 g1 (aU ?_);refine aw (ag8 (n:=es.length) (by omega) A es s' _ _ hc e2 eI) λy hy=>?_
  refine aQ (λh=>?_) λ_=>ak ⟨rfl,e2,eI,L,D⟩
  let⟨h1,hJ,h2,h3⟩:=hy h;refine bG (by grind) (by omega) (ak ⟨rfl,?_,hJ,by simp;omega,λe he=>?_⟩)
  .grind
  .grind
 rintro⟨es',c2,s2,z2⟩ ⟨k1,k2,kI,k3,k4⟩;refine ak ?_;rw[iI (n:=i+1) (by omega) (by omega)]
 grind
def CB.vc {c:CT} (z:CB c):VC c:=by
 let⟨b,h1,A⟩:=X_ c z.th z.ins;rw[z.ok]at h1;cases h1;exact A rfl
def aua (c:CT) (l:Y ν) (z:CB c) (N:l! l<=9223372036854775806):Ok (F0 (c,l)) λy=>TR y.1:=by
 refine aZ z.ok (eu nofun λ_=>?_);have D:=z.vc;refine aw (aak c z.ok D) λs L=>?_
 refine aw (ao5 c s l z L.1 L.2 N) λy A=>ak ?_
 exact⟨D.vl.wb,D.vl,λe he=>(A.2.1 e he).1,by have:=A.1;dsimp only;omega,λe he=>(A.2.1 e he).2,z.wx,A.2.2⟩
def aat (l:η) (A:l! l<=1000000):Ok (tL l) λy=>l! y=l! l:=by
 refine bV (l! l) (λi x=>x.1=(i:Int)/\l! x.2=i) ?_ ?_ ⟨rfl,rfl⟩
 .rintro i ⟨a,b⟩ hi ⟨z,e2⟩;subst z;refine cW ?_;refine bH (aU (bH (aU (bG (by grind) (by omega) (ak ?_)))));exact⟨fV,by simp;omega⟩
 .rintro⟨a,b⟩ ⟨z,e2⟩;exact cP (ak e2)
def gd (e:Xp):eL (Xp.op e,Xp.n e,Xp.name e,Xp.l e)=e:=by cases e;rfl
def BQ (s:Sx):oV (Sx.op s,Sx.line s,Sx.name s,Sx.arg s,Sx.index s,Sx.expr s,Sx.body s,Sx.els s)=s:=by cases s;rfl
abbrev NV:Y ζ:=[[97],[98],[120],[121],[118]]
def GE:Nat->Xp->Prop
 |0,_=>False
 |d+1,e=>(e.op=3->e.name=[113])/\(e.op≠1->e.op≠2->1<=l! e.l)/\l! e.l<=2/\(∀x∈e.l,GE d x)/\(e.op=2->e.name∈NV)/\(e.op≠1->e.op≠2->e.op≠3->2<=l! e.l/\6<=e.op/\e.op<=18)
def GE.mono:∀{d:Nat} {e:Xp},GE d e->GE (d+1) e
 |0,_,h=>h.elim
 |_+1,_,h=>⟨h.1,h.2.1,h.2.2.1,λx z=>(h.2.2.2.1 x z).mono,h.2.2.2.2⟩
def GE.le {e:Xp} (h:GE i e) (A:i<=j):GE j e:=by
 induction A with
 |refl=>exact h
 |step _ z=>exact z.mono
def S5 (n:Int):s_ n=Z (.mk 1 n [] []):=rfl
def Ly (s:ζ):qJ s=Z (.mk 2 0 s []):=rfl
def IV (o:Int) (a b:Xp):oU (o,a,b)=Z (.mk o 0 [] [a,b]):=by
 cases a;cases b;rfl
def vN (s:ζ) (e:Xp):j8 (s,e)=Z (.mk 1 0 s [] [] e [] []):=by
 cases e;rfl
abbrev MK:Type:=Y!
abbrev Uz:Type:=n?
abbrev HD:Type:=Bool×Y ζ
def GE.num (n:Int) (d:Nat):GE (d+1) (.mk 1 n [] []):=⟨nofun,λh=>(h rfl).elim,by simp[Xp.l],λx z=>(by cases z),nofun,λh=>(h rfl).elim⟩
def GE.nm {s:ζ} (A:s∈NV) (d:Nat):GE (d+1) (.mk 2 0 s []):=⟨nofun,λ_ h=>(h rfl).elim,by simp[Xp.l],λx z=>(by cases z),λ_=>A,λ_ h=>(h rfl).elim⟩
def GE.bin {o b:Xp} (A:6<=a/\a<=18) (L:GE i o) (D:GE i b):GE (i+1) (.mk a 0 [] [o,b]):=
 ⟨λh=>(by have h:a=3:=h;omega),λ_ _=>by simp[Xp.l],by simp[Xp.l],λx z=>by
   simp[Xp.l,a_,cD,fG]at z;rcases z with rfl|rfl
   .exact L
   .exact D,λh=>(by have h:a=2:=h;omega),λ_ _ _=>⟨by simp[Xp.l],A⟩⟩
def GE.ix {a:Xp} (A:GE i a):GE (i+1) (.mk 3 0 [113] [a]):=
 ⟨λ_=>rfl,λ_ _=>by simp[Xp.l],by simp[Xp.l],λx z=>by
   simp[Xp.l,a_,cD,fG]at z;rw[z];exact A,nofun,λ_ _ h=>(h rfl).elim⟩
def Gw:∀(n d:Nat),d<n->d<=10->∀(m:MK) (t:Uz) (h:HD),TP t->Ok (l8 n ((d:Int),m,t,h)) λy=>GE (d+1) y.1/\y.2.1=m/\wX t y.2.2.1/\y.2.2.2=h
 |0,d,hd,_,_,_,_,_=>by omega
 |n+1,d,hd,h10,m,t,h,ht=>by
  refine aw (gG 10 t ht) λy A=>?_
  let⟨k,t1⟩:=y;let⟨L,k0,k1,_⟩:=A;refine aV (λx=>x.2=(m,t1,h,(0,0,[]),[[97],[98],[120],[121],[118],[120],[121]])/\(x.1=af->2<=k/\(d=0->k<7))) ?_ ?_
  .refine bP (λ_=>ak ⟨rfl,nofun⟩) λg=>aK (λg2=>ak ⟨rfl,λg3=>⟨g,λ_=>?_⟩⟩) λg2=>ak ⟨rfl,λ_=>⟨g,λh=>(g2 (by omega)).elim⟩⟩
   rw[m7]at g3;exact g3
  rintro⟨b,x⟩ ⟨e,hb⟩;dsimp only at e hb;subst e;refine aQ (λ_=>?_) λg=>?_
  .refine aw (gG 4 t1 L.p) λy A=>?_
   refine aZ (S5 _) (ak ?_);exact⟨GE.num _ _,rfl,L.trans A.1,rfl⟩
  let⟨q0,q1⟩:=hb g;refine bP (λg=>?_) λg=>?_
  .refine aw (gG _ t1 L.p) λy A=>?_
   let⟨u1,N,D,_⟩:=A;have D:=D (show (1:Int)<=7 by decide);refine aR N D (aR N D (aU ?_));refine aZ (Ly _) (ak ?_);have hnv:∀z∈([[97],[98],[120],[121],[118],[120],[121]]:Y ζ),z∈NV:=by decide
   exact⟨GE.nm (hnv _ (bI (T:=.str) N D)) _,rfl,L.trans u1,rfl⟩
  dsimp only at g;have hd0:d≠0:=λh=>by omega
  obtain⟨d,rfl⟩:∃k,d=k+1:=⟨d-1,by omega⟩
  refine aK (λg=>?_) λg=>?_
  .refine aw (Gw n 0 (by omega) (by omega) m t1 h L.p) λy A=>?_
   let⟨e,m',t',h'⟩:=y;let⟨v1,v2,v3,v4⟩:=A;subst v2 v4;refine bl (by simp) (ak ?_);dsimp only;rw[gd];exact⟨(GE.ix (v1.le (by omega):GE (d+1) e)),rfl,L.trans v3,rfl⟩
  .refine aw (gG _ t1 L.p) λy A=>?_
   let⟨k2,t2⟩:=y;let⟨u1,N,D,_⟩:=A;have D:=D (by decide);refine aR N D (aR N D (aU ?_));have ho:(6:Int)<=geti aP [6,7,8,11,13,17] k2/\geti aP [6,7,8,11,13,17] k2<=(18:Int):=by
    have h1:=bI (T:=aP) (xs:=([6,7,8,11,13,17]:η)) N D
    grind
   have ew:bn .i64 (((d+1:Nat):Int)-1)=(d:Int):=by rw[iI];omega
   dsimp only;rw[ew];refine aw (Gw n d (by omega) (by omega) m t2 h u1.p) λy A=>?_
   let⟨e,m',t',h'⟩:=y;let⟨v1,v2,v3,v4⟩:=A;subst v2 v4;refine bl (by simp) ?_;refine aw (Gw n d (by omega) (by omega) m' t' h' v3.p) λy A=>?_
   let⟨e2,m2,t2',h2⟩:=y;let⟨w1,w2,w3,w4⟩:=A;subst w2 w4;refine bl (by simp) ?_;refine aZ (IV _ _ _) (ak ?_);dsimp only;rw[gd];exact⟨GE.bin ho v1 w1,rfl,L.trans (u1.trans (v3.trans w3)),rfl⟩
def aiz (d:Nat) (hd:d<=10) (m:MK) (t:Uz) (h:HD) (ht:TP t):Ok (fF ((d:Int),m,t,h)) λy=>GE (d+1) y.1/\y.2.1=m/\wX t y.2.2.1/\y.2.2.2=h:=Gw fuel d (by rw[kN];omega) hd m t h ht
section
def NE (op:Int):Prop:=op=1\/op=2\/op=3\/op=14
def ZE (e:Xp):Prop:=GE 4 e\/e= .mk 0 0 [] []
structure NO (nT:Nat) (s:Sx):Prop where
 o0:1<=s.op
 o1:s.op<=15
 vr:s.op=1->s.index=[]->s.name∈NV
 lk:s.op=4->s.name=[109]\/s.name=[110]
 rw:s.op=5\/s.op=6->s.name=[114]
 cn:s.op=9\/s.op=10\/s.op=11->s.name=[99]
 sp:s.op=12\/s.op=13->s.name∈zM.take nT
 se:s.op=14->s.name=[102]
 ge:s.op=15->s.name=[97]/\s.arg=[102]
 el:¬s.op=2->s.els=[]
 bo:s.op=1\/9<=s.op->s.body=[]
variable {nT:Nat}
def GS (nT:Nat):Nat->Sx->Prop
 |0,_=>False
 |d+1,s=>(s.index≠[]->s.name=[113])/\l! s.index<=1/\(∀e∈s.index,GE 4 e)/\(NE s.op->GE 4 s.expr)/\ZE s.expr/\l! s.body<=8/\l! s.els<=8/\(∀x∈s.body,GS nT d x)/\(∀x∈s.els,GS nT d x)/\NO nT s
def GS.mono:∀{d:Nat} {s:Sx},GS nT d s->GS nT (d+1) s
 |0,_,h=>h.elim
 |_+1,_,⟨a,b,c,e,f,g,i,j,k,l⟩=>⟨a,b,c,e,f,g,i,λx z=>(j x z).mono,λx z=>(k x z).mono,l⟩
def GS.le {s:Sx} (h:GS nT i s) (A:i<=j):GS nT j s:=by
 induction A with
 |refl=>exact h
 |step _ z=>exact z.mono
def NO.asg {s a:ζ} {e:Xp} {i:Y Xp} (z:i=[]->s∈NV):NO nT (.mk 1 0 s a i e [] []):=by
 constructor<;>simp[Sx.op,Sx.name,Sx.index,Sx.els,Sx.body];exact λh=>by simpa using z h
def GS.asg {s:ζ} (A:s∈NV) {e:Xp} (h:GE 4 e):GS nT (i+1) (.mk 1 0 s [] [] e [] []):=
 ⟨λh=>(h rfl).elim,by simp[Sx.index],λe he=>(by cases he),λ_=>h,.inl h,by simp[Sx.body],by simp[Sx.els],λx z=>(by cases z),λx z=>(by cases z),NO.asg λ_=>A⟩
def GS.aix {d e:Xp} (hi:GE 4 d) (h:GE 4 e):GS nT (i+1) (.mk 1 0 [113] [] [d] e [] []):=
 ⟨λ_=>rfl,by simp[Sx.index],λe he=>(by simp[Sx.index,aC]at he;rw[he];exact hi),λ_=>h,.inl h,by simp[Sx.body],by simp[Sx.els],λx z=>(by cases z),λx z=>(by cases z),NO.asg nofun⟩
def GS.we {op:Int} {s a:ζ} {e:Xp} {b l:Y Sx} (h:GE 4 e) (D:l! b<=8) (A:l! l<=8) (N:∀x∈b,GS nT i x) (L:∀x∈l,GS nT i x) (z:NO nT (.mk op 0 s a [] e b l)):GS nT (i+1) (.mk op 0 s a [] e b l):=
 ⟨λh=>(h rfl).elim,by simp[Sx.index],λe he=>(by cases he),λ_=>h,.inl h,D,A,N,L,z⟩
def GS.wo {op:Int} {s z:ζ} {b:Y Sx} (ho:4<=op/\op≠14) (L:l! b<=8) (N:∀x∈b,GS nT i x) (D:NO nT (.mk op a s z [] (.mk 0 0 [] []) b [])):GS nT (i+1) (.mk op a s z [] (.mk 0 0 [] []) b []):=
 ⟨λh=>(h rfl).elim,by simp[Sx.index],λe he=>(by cases he),λh=>(by have h:op=1\/op=2\/op=3\/op=14:=h;omega),.inr rfl,L,by simp[Sx.els],N,λx A=>(by cases A),D⟩
def QS (nT:Nat) (d:Nat) (n:Int) (t:Uz) (h:HD) (y:MK×Uz×HD×Y Sx):Prop:=(l! y.2.2.2:Int)<=max 0 n/\(∀s∈y.2.2.2,GS nT (d+1) s)/\wX t y.2.1/\y.2.2.1.2=h.2
abbrev E?:=MK×Uz×HD
def QT (nT:Nat) (d:Nat) (t:Uz) (h:HD) (y:Sx×E?):Prop:=GS nT (d+1) y.1/\wX t y.2.2.1/\y.2.2.2.2=h.2
def QB (nT:Nat) (d:Nat) (t:Uz) (h:HD) (y:Y Sx×E?):Prop:=l! y.1<=2/\(∀s∈y.1,GS nT (d+1) s)/\wX t y.2.2.1/\y.2.2.2.2=h.2
abbrev RS:Type:=(ν×E?)->M (MK×Uz×HD×Y Sx)
abbrev RT:Type:=(Int×E?)->M (Sx×E?)
abbrev RBk:Type:=((ζ×Int)×E?)->M (Y Sx×E?)
def SpS (nT:Nat) (z:RS) (d:Nat):Prop:=∀(n:Int) (m:MK) (t:Uz) (h:HD),n<=3->TP t->l! h.2+d<=100->Ok (z (((d:Int),n),m,t,h)) (QS nT d n t h)
def SpT (nT:Nat) (z:RT) (d:Nat):Prop:=∀(m:MK) (t:Uz) (h:HD),TP t->l! h.2+d<=100->Ok (z ((d:Int),m,t,h)) (QT nT d t h)
def SpB (nT:Nat) (z:RBk) (d:Nat):Prop:=∀(s:ζ) (m:MK) (t:Uz) (h:HD),TP t->l! h.2+1+d<=100->Ok (z ((s,(d:Int)),m,t,h)) (QB nT d t h)
def af2 (rs:RS) (L:RT) (rb:RBk) (d:Nat) (ht:SpT nT L d):SpS nT (nU rs L rb) d:=by
 intro n m t h hn hp hh;unfold nU bk bD bQ db dZ eh bm bS bU c7 aI cQ eO;refine pX (λx=>(n-x.1).toNat) (λx=>0<=x.1/\(x.1<=n\/x.1=0)/\wX t x.2.2.1/\(l! x.2.2.2.1:Int)<=x.1/\(∀s∈x.2.2.2.1,GS nT (d+1) s)/\x.2.2.2.2.2=h.2) ?_ ⟨dg _,.inr rfl,wX.refl hp,by simp,λs hs=>(by cases hs),rfl⟩;rintro⟨(i:Int),m',D,l,h'⟩ ⟨i0,i1,z,e2,N,A⟩;dsimp only at i0 i1 z e2 N A;refine aV (λx=>x.2=(m',D,l,h')/\(x.1=J->i<n)) ?_ ?_
 .refine bP (λg=>aK (λ_=>ak ⟨rfl,λ_=>g⟩) λ_=>ak ⟨rfl,λ_=>g⟩) λ_=>ak ⟨rfl,nofun⟩
 rintro⟨b,x⟩ ⟨f1,f2⟩;subst f1;refine aQ (λhb=>?_) λ_=>ak ⟨by dsimp only;omega,N,z,A⟩
 have g:=f2 hb;refine aw (ht m' D h' z.p (by grind)) λy hy=>?_
 let⟨s,m2,t2,h2⟩:=y;let⟨k1,k2,k3⟩:=hy;refine bl (by simp) (bG (by grind) (by omega) (ak ?_));rw[gd,BQ,iI (n:=i+1) (by omega) (by omega)];refine ⟨⟨by omega,by omega,z.trans k2,by simp;omega,λx hx=>?_,k3.trans A⟩,by omega⟩
 grind
def af5 (D:RS) (N:RT) (rb:RBk) (d:Nat) (hs:SpS nT D d):SpB nT (nV D N rb) d:=by
 intro s m t h hp hh;unfold nV bk bD db dZ bU be;refine bG (by grind) (by omega) ?_;refine aw (gG 2 t hp) λy z=>?_
 let⟨k,L⟩:=y;let⟨A,u2,u3,_⟩:=z;have ew:bn .i64 (1+k)=1+k:=iI;rw[ew];refine aw (hs (1+k) m L (h.1,h.2++[s]) (by omega) A.p (by grind)) λy z=>?_
 let⟨m2,t2,h2,l⟩:=y;let⟨k1,k2,k3,k4⟩:=z;dsimp only at k1 k2 k3 k4;refine bl (by simp) ?_;rw[k4];have el:bn .i64 ((aS (l! (h.2++[s])))-1)=(l! h.2:Int):=by
  rw[bC,cH,iI (by simp) (by grind)];simp<;>omega
 refine cF (a? (C' (by grind) (ak ?_)));refine ⟨by dsimp only;omega,k2,A.trans k3,?_⟩;simp_all
def Gj (s:ζ) (m:MK) (t:Uz) (h:HD) (hh:l! h.2<=100):Ok (fk (s,m,t,h)) λy=>y.2=(m,t,h):=by
 unfold fk dZ;exact aw (Bt h.2 s (by omega)) λy _=>ak rfl
def ajv (rs:RS) (rt:RT) (rb:RBk) (d:Nat) (hd:d<=5) (h0:1<=d->SpS nT rs 0) (hS:1<=d->SpS nT rs (d-1)) (hB:1<=d->SpB nT rb (d-1)):SpT nT (oY rs rt rb) d:=by
 intro m t h hp hh;unfold oY bk bD bQ db dZ eh bm bS bU kq aI eO;refine aw (gG 18 t hp) λy D=>?_
 let⟨k,N⟩:=y;let⟨L,k0,k1,_⟩:=D;have k1:=k1 (by decide);dsimp only at L k0 k1;have hE:∀(j:Nat) (m':MK) (t':Uz) (h':HD),j<=1->TP t'->Ok (fF ((j:Int),m',t',h')) λy=>GE 4 y.1/\y.2.1=m'/\wX t' y.2.2.1/\y.2.2.2=h':=λj m' t' h' hj ht'=>(aiz j (by omega) m' t' h' ht').mono λy D=>⟨D.1.le (by omega),D.2⟩
 have ed:bn .i64 ((d:Int)-1)=(d:Int)-1:=iI;have ed1:1<=d->(d:Int)-1=((d-1:Nat):Int):=λ_=>by omega
 refine aV (λx=>x.2=((m.1,bn .i64 (m.2.1-1),m.2.2),N,(0,0,[],[],0,0,[]),h)/\(x.1=J->1<=d)) ?_ ?_
 .refine bP (λg=>aU (bP (λ_=>ak ⟨rfl,λ_=>?_⟩) λ_=>ak ⟨rfl,nofun⟩)) λ_=>ak ⟨rfl,nofun⟩
  dsimp only at g;omega
 generalize ((m.1,bn .i64 (m.2.1-1),m.2.2):MK)=m0;rintro⟨nest,x⟩ ⟨e,hn⟩;dsimp only at e hn;subst e;refine bP (λ_=>?_) λg4=>?_
 .refine aR k0 (by dsimp only[aj];omega) (aR k0 (by dsimp only[aj];omega) (aU ?_));refine aw (hE 1 m0 N h (by omega) L.p) λy D=>?_
  let⟨e,m2,t2,h2⟩:=y;let⟨v1,v2,v3,v4⟩:=D;dsimp only at v1 v2 v3 v4;subst v2 v4;refine bl (by simp) (aZ (vN _ _) (ak ?_));dsimp only;rw[gd,BQ];have hnv:∀z∈([[120],[121],[120],[118]]:Y ζ),z∈NV:=by decide
  exact⟨GS.asg (hnv _ (bI (T:=.str) k0 (by dsimp only[aj];omega))) v1,L.trans v3,rfl⟩
 dsimp only at g4;refine aK (λ_=>?_) λg5=>?_
 .refine aw (gG 2 N L.p) λy D=>?_
  let⟨u1,u2,u3,_⟩:=D;have u3:=u3 (by decide);refine aR u2 u3 (aR u2 u3 (aU ?_));refine aw (hE 1 m0 y.2 h (by omega) u1.p) λz hz=>?_
  let⟨e,m2,t2,h2⟩:=z;let⟨v1,v2,v3,v4⟩:=hz;dsimp only at v1 v2 v3 v4;subst v2 v4;refine bl (by simp) (aZ (vN _ _) (ak ?_));dsimp only;rw[gd,BQ];have hnv:∀z∈([[97],[98]]:Y ζ),z∈NV:=by decide
  exact⟨GS.asg (hnv _ (bI (T:=.str) u2 u3)) v1,L.trans (u1.trans v3),rfl⟩
 dsimp only at g5;refine aK (λ_=>?_) λg6=>?_
 .refine aw (hE 0 m0 N h (by omega) L.p) λz hz=>?_
  let⟨e,m2,t2,h2⟩:=z;let⟨v1,v2,v3,v4⟩:=hz;dsimp only at v1 v2 v3 v4;subst v2 v4;refine bl (by simp) ?_;refine aw (hE 1 m2 t2 h2 (by omega) v3.p) λz hz=>?_
  let⟨e',m3,t3,h3⟩:=z;let⟨w1,w2,w3,w4⟩:=hz;dsimp only at w1 w2 w3 w4;subst w2 w4;refine bl (by simp) (ak ?_);dsimp only;rw[gd,gd];exact⟨GS.aix v1 w1,L.trans (v3.trans w3),rfl⟩
 dsimp only at g6;have hz:∀(c:Prop),c->c:=λ_ h=>h
 have dd:1<=d->d-1+1=d:=λ_=>by omega
 have w8:8<=k->bn .i64 (k-8)=k-8:=λ_=>iI
 refine aV (λx=>x.2=(m0,N,(0,0,[],[],0,0,[]),h)/\(x.1=J->1<=d)) ?_ ?_
 .refine aK (λ_=>ak ⟨rfl,λg=>?_⟩) λ_=>ak ⟨rfl,nofun⟩
  dsimp only at g;rw[rZ]at g;omega
 rintro⟨b,x⟩ ⟨e,hb⟩;dsimp only at e hb;subst e;refine aQ (λA=>?_) λ_=>?_
 .have d1:=hb A;refine aw (hE 1 m0 N h (by omega) L.p) λz hz=>?_
  let⟨e,m2,t2,h2⟩:=z;let⟨v1,v2,v3,v4⟩:=hz;dsimp only at v1 v2 v3 v4;subst v2 v4;refine bl (by simp) ?_;dsimp only;rw[ed,ed1 d1];refine aw (hS d1 1 m2 t2 h2 (by omega) v3.p (by omega)) λz hz=>?_
  let⟨m3,t3,h3,l⟩:=z;let⟨w1,w2,w3,w4⟩:=hz;dsimp only at w1 w2 w3 w4;rw[dd d1]at w2;refine bl (by simp) ?_;refine aV (λx=>x.2.2.2.1=(2,0,[],[],e.op,e.n,e.name,e.l)/\wX N x.2.1/\x.2.2.2.2.1.2=h2.2/\x.2.2.2.2.2.1=l/\l! x.2.2.2.2.2.2<=8/\∀s∈x.2.2.2.2.2.2,GS nT d s) ?_ ?_
  .refine aw (gG 2 t3 w3.p) λy D=>?_
   refine aK (λ_=>?_) λ_=>ak ⟨rfl,v3.trans (w3.trans D.1),w4,rfl,by simp,λs hs=>(by cases hs)⟩
   dsimp only;refine aw (hS d1 1 m3 y.2 h3 (by omega) D.1.p (by rw[w4];omega)) λz hz=>?_
   let⟨m4,t4,h4,l2⟩:=z;let⟨x1,x2,x3,x4⟩:=hz;dsimp only at x1 x2 x3 x4;rw[dd d1]at x2;exact bl (by simp) (ak ⟨rfl,v3.trans (w3.trans (D.1.trans x3)),x4.trans w4,rfl,by dsimp only;omega,x2⟩)
  rintro⟨m5,t5,z5,e5,h5,l5,l6⟩ ⟨x1,x2,x3,x4,x5,x6⟩;dsimp only at x1 x2 x3 x4 x5 x6;subst x1 x4;refine ak ?_;dsimp only;rw[gd];exact⟨GS.we v1 (by first|omega|(dsimp only;omega)) x5 w2 x6 (by constructor<;>simp[Sx.op,Sx.name,Sx.index,Sx.arg,Sx.els,Sx.body]),L.trans x2,x3⟩
 refine aV (λx=>x.2=(m0,N,(0,0,[],[],0,0,[]),h)/\(x.1=J->1<=d)) ?_ ?_
 .refine aK (λ_=>ak ⟨rfl,λg=>?_⟩) λ_=>ak ⟨rfl,nofun⟩
  dsimp only at g;rw[rZ]at g;omega
 rintro⟨b,x⟩ ⟨e,hb⟩;dsimp only at e hb;subst e;refine aQ (λA=>?_) λ_=>?_
 .have d1:=hb A;refine aZ (Ly _) (aZ (S5 _) (aZ (IV _ _ _) ?_));dsimp only;rw[ed,ed1 d1];refine aw (hS d1 1 _ N h (by omega) L.p (by omega)) λz hz=>?_
  let⟨m3,t3,h3,l⟩:=z;let⟨w1,w2,w3,w4⟩:=hz;dsimp only at w1 w2 w3 w4;rw[dd d1]at w2;refine bl (by simp) ?_;refine aZ (Ly _) (aZ (S5 _) (aZ (IV _ _ _) (aZ (vN _ _) ?_)));refine a! (ak ?_);dsimp only;rw[gd,gd,BQ];refine ⟨GS.we (GE.bin (by omega) (GE.nm (by decide) 2) (GE.num _ 2)) (by simp;omega) (by simp) (λx hx=>?_) (λx hx=>(by cases hx)) (by constructor<;>simp[Sx.op,Sx.name,Sx.index,Sx.arg,Sx.els,Sx.body]),L.trans w3,w4⟩;rcases bO.1 hx with hx|hx
  .exact w2 x hx
  .rw[aC]at hx;subst hx;rw[<- dd d1];exact GS.asg (by decide) (GE.bin (by omega) (GE.nm (by decide) 2) (GE.num _ 2))
 refine aV (λx=>x.2=(m0,N,(0,0,[],[],0,0,[]),h)/\(x.1=J->nest=J/\(k=8\/k=9))) ?_ ?_
 .refine aK (λg=>aQ (λgn=>?_) λ_=>ak ⟨rfl,nofun⟩) λ_=>aK (λg=>aQ (λgn=>?_) λ_=>ak ⟨rfl,nofun⟩) λ_=>ak ⟨rfl,nofun⟩
  all_goals
   dsimp only at g ⊢;rw[w8 (by omega)];refine aR (by omega) (by simp;omega) (aR (by omega) (by simp;omega) (aU ?_));refine aw (Gj _ m0 N h (by omega)) λy D=>?_
   let⟨yb,y2⟩:=y;dsimp only at D;subst D;exact bl (by simp) (ak ⟨rfl,λ_=>⟨gn,by omega⟩⟩)
 rintro⟨b,x⟩ ⟨e,hb⟩;dsimp only at e hb;subst e;refine aQ (λA=>?_) λ_=>?_
 .obtain⟨q1,q2⟩:=hb A;have d1:=hn q1;have hnm:geti (.str) [[109],[110]] (k-8)=[109]\/geti (.str) [[109],[110]] (k-8)=[110]:=by rcases q2 with rfl|rfl<;>simp[geti]
  dsimp only;rw[w8 (by omega),ed,ed1 d1];refine aR (by omega) (by simp;omega) (aR (by omega) (by simp;omega) (aU ?_));refine aw (hB d1 _ m0 N h L.p (by omega)) λz hz=>?_
  let⟨l,m3,t3,h3⟩:=z;let⟨w1,w2,w3,w4⟩:=hz;dsimp only at w1 w2 w3 w4;rw[dd d1]at w2;exact bl (by simp) (ak ⟨GS.wo (by omega) (by first|omega|(dsimp only;omega)) w2 (by constructor<;>simp[Sx.op,Sx.name,Sx.index,Sx.arg,Sx.els,Sx.body];exact hnm),L.trans w3,w4⟩)
 refine aV (λx=>x.2=(m0,N,(0,0,[],[],0,0,[]),h)/\(x.1=J->nest=J/\(k=10\/k=11))) ?_ ?_
 .refine aK (λg=>aQ (λgn=>?_) λ_=>ak ⟨rfl,nofun⟩) λ_=>aK (λg=>aQ (λgn=>?_) λ_=>ak ⟨rfl,nofun⟩) λ_=>ak ⟨rfl,nofun⟩
  all_goals
   dsimp only at g ⊢;refine aw (Gj _ m0 N h (by omega)) λy D=>?_
   let⟨yb,y2⟩:=y;dsimp only at D;subst D;exact bl (by simp) (ak ⟨rfl,λ_=>⟨gn,by omega⟩⟩)
 rintro⟨b,x⟩ ⟨e,hb⟩;dsimp only at e hb;subst e;refine aQ (λA=>?_) λ_=>?_
 .obtain⟨q1,q2⟩:=hb A;have d1:=hn q1;dsimp only;rw[ed,ed1 d1,iI (n:=k-10) (by omega) (by omega),iI (n:=k-10+5) (by omega) (by omega)];refine aw (hB d1 _ m0 N h L.p (by omega)) λz hz=>?_
  let⟨l,m3,t3,h3⟩:=z;let⟨w1,w2,w3,w4⟩:=hz;dsimp only at w1 w2 w3 w4;rw[dd d1]at w2;exact bl (by simp) (ak ⟨GS.wo (by omega) (by first|omega|(dsimp only;omega)) w2 (by constructor<;>simp[Sx.op,Sx.name,Sx.index,Sx.arg,Sx.els,Sx.body]<;>omega),L.trans w3,w4⟩)
 refine aV (λx=>x.2=(m0,N,(0,0,[],[],0,0,[]),h)/\(x.1=J->nest=J)) ?_ ?_
 .exact aK (λ_=>ak ⟨rfl,λg=>g⟩) λ_=>ak ⟨rfl,nofun⟩
 rintro⟨b,x⟩ ⟨e,hb⟩;dsimp only at e hb;subst e;refine aQ (λA=>?_) λ_=>?_
 .have d1:=hn (hb A);refine aw (gG 2 N L.p) λy D=>?_
  let⟨u1,u2,u3,_⟩:=D;have u3:=u3 (by decide);dsimp only;rw[iI (n:=1+y.1) (by omega) (by omega)];refine aw (h0 d1 (1+y.1) _ y.2 h (by omega) u1.p (by omega)) λz hz=>?_
  let⟨m3,t3,h3,l⟩:=z;let⟨w1,w2,w3,w4⟩:=hz;dsimp only at w1 w2 w3 w4;exact bl (by simp) (ak ⟨GS.wo (by omega) (by first|omega|(dsimp only;omega)) (λx hx=>(w2 x hx).le (by omega)) (by constructor<;>simp[Sx.op,Sx.name,Sx.index,Sx.arg,Sx.els,Sx.body]),L.trans (u1.trans w3),w4⟩)
 refine aV (λx=>x.2=(m0,N,(0,0,[],[],0,0,[]),h)/\(x.1=J->nest=J)) ?_ ?_
 .exact aK (λ_=>aQ (λgn=>ak ⟨rfl,λ_=>gn⟩) λ_=>ak ⟨rfl,nofun⟩) λ_=>ak ⟨rfl,nofun⟩
 rintro⟨b,x⟩ ⟨e,hb⟩;dsimp only at e hb;subst e;refine aQ (λA=>?_) λ_=>?_
 .have d1:=hn (hb A);dsimp only;rw[ed,ed1 d1];refine aw (hS d1 2 _ N h (by omega) L.p (by omega)) λz hz=>?_
  let⟨m3,t3,h3,l⟩:=z;let⟨w1,w2,w3,w4⟩:=hz;dsimp only at w1 w2 w3 w4;rw[dd d1]at w2;exact bl (by simp) (ak ⟨GS.wo (by omega) (by first|omega|(dsimp only;omega)) w2 (by constructor<;>simp[Sx.op,Sx.name,Sx.index,Sx.arg,Sx.els,Sx.body]),L.trans w3,w4⟩)
 refine aV (λx=>x.2=(m0,N,(0,0,[],[],0,0,[]),h)/\(x.1=J->nest=J)) ?_ ?_
 .refine aK (λ_=>aQ (λgn=>aQ (λ_=>?_) λ_=>ak ⟨rfl,nofun⟩) λ_=>ak ⟨rfl,nofun⟩) λ_=>ak ⟨rfl,nofun⟩
  refine aw (Gj _ m0 N h (by omega)) λy D=>?_
  let⟨yb,y2⟩:=y;dsimp only at D;subst D;exact bl (by simp) (ak ⟨rfl,λ_=>gn⟩)
 rintro⟨b,x⟩ ⟨e,hb⟩;dsimp only at e hb;subst e;refine aQ (λA=>?_) λ_=>?_
 .have d1:=hn (hb A);refine aZ (Ly _) (aZ (vN _ _) (ak ?_));dsimp only;rw[gd,BQ];refine ⟨GS.wo (by omega) (by simp) (λx hx=>?_) (by constructor<;>simp[Sx.op,Sx.name,Sx.index,Sx.arg,Sx.els,Sx.body]),L,rfl⟩;simp only[a_,cD,fG]at hx;rw[<- dd d1];rcases hx with rfl|rfl
  .exact GS.wo (by omega) (by simp) (λx hx=>(by cases hx)) (by constructor<;>simp[Sx.op,Sx.name,Sx.index,Sx.arg,Sx.els,Sx.body])
  .exact GS.asg (by decide) (GE.nm (by decide) 3)
 refine aV (λx=>x.2=(m0,N,(0,0,[],[],0,0,[]),h)/\(x.1=J->nest=J)) ?_ ?_
 .refine aK (λ_=>aQ (λgn=>?_) λ_=>ak ⟨rfl,nofun⟩) λ_=>ak ⟨rfl,nofun⟩
  refine aw (Gj _ m0 N h (by omega)) λy D=>?_
  let⟨yb,y2⟩:=y;dsimp only at D;subst D;exact bl (by simp) (ak ⟨rfl,λ_=>gn⟩)
 rintro⟨b,x⟩ ⟨e,hb⟩;dsimp only at e hb;subst e;refine aQ (λA=>?_) λ_=>?_
 .have d1:=hn (hb A);refine aw (gG 2 N L.p) λy D=>ak ?_
  let⟨u1,u2,u3,_⟩:=D;have u3:=u3 (by decide);dsimp only;rw[iI (n:=10+y.1) (by omega) (by omega)];refine ⟨GS.wo (by omega) (by simp) (λx hx=>?_) (by constructor<;>simp[Sx.op,Sx.name,Sx.index,Sx.arg,Sx.els,Sx.body]),L.trans u1,rfl⟩;simp only[a_,cD,fG]at hx;rw[hx,<-dd d1];exact GS.wo (by omega) (by simp) (λx hx=>(by cases hx)) (by constructor<;>simp[Sx.op,Sx.name,Sx.index,Sx.arg,Sx.els,Sx.body]<;>omega)
 refine aV (λx=>x.2=(m0,N,(0,0,[],[],0,0,[]),h)) ?_ ?_
 .exact aK (λ_=>aQ (λ_=>aQ (λ_=>ak rfl) λ_=>ak rfl) λ_=>ak rfl) λ_=>ak rfl
 rintro⟨b,x⟩ e;dsimp only at e;subst e;refine aQ (λA=>?_) λ_=>?_
 .refine aw (hE 1 _ N h (by omega) L.p) λz hz=>?_
  let⟨e,m2,t2,h2⟩:=z;let⟨v1,v2,v3,v4⟩:=hz;dsimp only at v1 v2 v3 v4;subst v2 v4;refine bl (by simp) (ak ?_);dsimp only;rw[gd];exact⟨GS.we v1 (by simp) (by simp) (λx hx=>(by cases hx)) (λx hx=>(by cases hx)) (by constructor<;>simp[Sx.op,Sx.name,Sx.index,Sx.arg,Sx.els,Sx.body]),L.trans v3,rfl⟩
 refine aV (λx=>x.2.1=m0/\wX N x.2.2.1/\x.2.2.2.2=h) ?_ ?_
 .refine aK (λ_=>aQ (λ_=>?_) λ_=>ak ⟨rfl,wX.refl L.p,rfl⟩) λ_=>ak ⟨rfl,wX.refl L.p,rfl⟩
  exact aw (gG 2 N L.p) λy D=>ak ⟨rfl,D.1,rfl⟩
 rintro⟨b,m9,t9,z9,h9⟩ ⟨e1,e2,e3⟩;dsimp only at e1 e2 e3;subst e1 e3;refine aQ (λA=>?_) λ_=>?_
 .exact ak ⟨GS.wo (by omega) (by simp) (λx hx=>(by cases hx)) (by constructor<;>simp[Sx.op,Sx.name,Sx.index,Sx.arg,Sx.els,Sx.body]),L.trans e2,rfl⟩
 refine aw (hE 1 _ t9 h9 (by omega) e2.p) λz hz=>?_
 let⟨e,m2,t2,h2⟩:=z;let⟨v1,v2,v3,v4⟩:=hz;dsimp only at v1 v2 v3 v4;subst v2 v4;refine bl (by simp) (aZ (vN _ _) (ak ?_));dsimp only;rw[gd,BQ];exact⟨GS.asg (by decide) v1,L.trans (e2.trans v3),rfl⟩
def RD:∀(n:Nat),(∀d:Nat,d<=5->3*d+1<=n->SpT nT (fe n) d)/\(∀d:Nat,d<=5->3*d+2<=n->SpS nT (dU n) d)/\(∀d:Nat,d<=5->3*d+3<=n->SpB nT (eK n) d)
 |0=>⟨λd _ h=>by omega,λd _ h=>by omega,λd _ h=>by omega⟩
 |n+1=>by
  let⟨D,z,L⟩:=RD n;refine ⟨λd h1 A=>?_,λd h1 A=>?_,λd h1 A=>?_⟩
  .exact ajv (dU n) (fe n) (eK n) d h1 (λh=>z 0 (by omega) (by omega)) (λh=>z (d-1) (by omega) (by omega)) (λh=>L (d-1) (by omega) (by omega))
  .exact af2 (dU n) (fe n) (eK n) d (D d h1 (by omega))
  .exact af5 (dU n) (fe n) (eK n) d (z d h1 (by omega))
def aed (d:Nat) (hd:d<=5):SpS nT rW d:=(RD fuel).2.1 d hd (by rw[kN];omega)
end
end
end Go.Proofs.YtcmnmakaoonfgaaGreatDoor.AI
