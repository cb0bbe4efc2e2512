/-
  Texts of the proof, part 4 of 6: what is used to prove the statement. No condition.
-/
import Derived.Test.YtcmnmakaoonfgaaGreatDoorWeakRacesQ2
import Derived.KernelRfl
namespace Go.Proofs.YtcmnmakaoonfgaaGreatDoor.AI
open Go.RowKit
set_option maxRecDepth 100000
set_option maxHeartbeats 4000000
set_option linter.unusedVariables false
set_option linter.unusedSimpArgs false
set_option linter.defProp false
open _root_.Bool renaming true→J,false→af,not_false→Pq
open _root_.Int renaming ofNat_eq_natCast→ay,toNat→aN,ofNat→aS,toNat_natCast→be,reduceEq→c7,reduceNeg→eC,le_trans→C6
open _root_.List renaming length→l!,length→aj,replicate→aG,length_singleton→cH,take→dE,range→dG,map→gE,cons_append→gJ,length_cons→jX,set→oI,length_nil→pK,append→sS,nodup_cons→uF,getElem?_concat_length→vo,replicate_succ→yi,foldl_cons→zX,drop_eq_getElem_cons→Q4
open _root_.Nat renaming beq→aB,add_zero→dI,blt→eJ
open _root_.Option renaming some→Z,none→U
open _root_.Prod renaming a→bk,b→bB,c→bP,e→cP,d→c_,f→dQ,h→ef,g→eU,k→iF,j→kJ,l→kK,i→lD,n→lE,m→lP,o→mw,ext→sG,p→xa,q→CZ,s→Lj
open _root_.Sum renaming inr→bZ,inl→li
noncomputable section
def rdE (e:ET):Bool:=decide (e.2.1=3)||decide (e.2.1=23)
def fl (l:Y ET) (t:Int):θ:=(l.filter λe=>decide (e.1=t)).map rdE
def Pm (l:Y ET) (t y:Int):Prop:=0<=y/\(fl l t).getD y.toNat af=J
def wD (l m:Y ET) (t:Int):fl (l++m) t=fl l t++fl m t:=by unfold fl;rw[List.filter_append,cr]
variable {a:Int}
def Ch {e:ET} (h:e.1=a):fl [e] a=[rdE e]:=by unfold fl;simp[h]
def yV {e:ET} (h:¬e.1=a):fl [e] a=[]:=by unfold fl;simp[h]
variable {k:Y ET}
def Pm.app {y:Int} (h:Pm k a y) (m:Y ET):Pm (k++m) a y:=by
 let⟨h0,h1⟩:=h;refine ⟨h0,?_⟩;rw[wD]
 grind
def Pm.lt {y:Int} (h:Pm k a y):y<l! (fl k a):=by
 let⟨h0,h1⟩:=h;rcases cJ y.toNat (l! (fl k a)) with g|g
 .omega
 .rw[aE,dL g]at h1;cases h1
def Pm.last {e:ET} (h:rdE e=J) (z:a=l! (fl k e.1)):Pm (k++[e]) e.1 a:=by
 subst z;refine ⟨by omega,?_⟩;rw[wD,Ch rfl,aE,cm (by simp),h];simp
def WA (l:Y ET) (t:Int):l! (fl l t)<=l! l:=by unfold fl;rw[cq];exact EH ..
structure SCx (w:WT) (l:List ET) (sy:SY) (ce fu:η) (e:ET):Prop where
 en:EN w sy e.1 e.2.1 e.2.2.1
 rd:UQ w sy e.1 e.2.1 e.2.2.1
 s1:e.2.1=1\/e.2.1=2->e.2.2.2.2.1= -1
 s2:¬(e.2.1=1\/e.2.1=2)->0<=e.2.2.2.2.1/\e.2.2.2.2.1<l! w.2.2.2.2.2/\(geti pW w.2.2.2.2.2 e.2.2.2.2.1).1=e.1
 de:0<l! e.2.2.2.2.2.1->e.2.1=5\/(e.2.1=3\/e.2.1=4)/\¬(geti lL w.1 e.2.2.1).2.2.1=0
 fr:0<l! e.2.2.2.2.2.2->e.2.1=4\/e.2.1=22
 nd:AN (l! (fl l e.1)) e.2.2.2.2.2.1
 nf:AN (l! (fl l e.1)) e.2.2.2.2.2.2
 rd1:∀y∈e.2.2.2.2.2.1,Pm l e.1 y
 rd2:∀y∈e.2.2.2.2.2.2,Pm l e.1 y
 va:VA w sy ce fu e.1 e.2.1 e.2.2.1 e.2.2.2.1
def thP:Nat->Y e!
 |0=>[]
 |n+1=>(1,0,af)::aG n (0,0,af)
def Yw (w:WT):SY:=(aG (l! w.2.1) (-1,[]),-1,aG (l! w.2.2.2.1) af,thP (l! w.2.2.2.2.1))
def ce0 (w:WT):η:=w.1.map λc=>c.2.2.2.2
def fu0 (w:WT):η:=aG (l! w.2.2.2.1) 0
inductive Acw (w:WT):List ET->SY->η->η->Prop
 |nil:Acw w [] (Yw w) (ce0 w) (fu0 w)
 |snoc {l:List ET} {sy:SY} {ce fu:η} {e:ET} (h:Acw w l sy ce fu) (hs:SCx w l sy ce fu e):Acw w (l++[e]) (po w sy e.1 e.2.1 e.2.2.1 e.2.2.2.1).1 (ceP ce e) (fuP fu e)
def ahf (i:Nat):thP (i+2)=thP (i+1)++[(0,0,af)]:=by
 show (1,0,af)::aG (i+1) (0,0,af)=(1,0,af)::aG i (0,0,af)++[(0,0,af)]
 rw[wM,gJ]
def Lq:∀n,l! (thP n)=n
 |0=>rfl
 |n+1=>by simp[thP]
def O8 (w:WT) (h:VL w):s7 w=Z (Yw w):=by
 let⟨w1,A,w3,L,N,w6⟩:=w;let⟨h1,h2,h3,h4,_,h5,h6⟩:=h;dsimp only at*
 refine cI ?_;unfold s7 bk bB bP cP dQ ef iF bm bV bT bc c8 aI cS;refine bR (l! A) (λi x=>x.1=(i:Int)/\x.2.1=(w1,A,w3,L,N,w6)/\x.2.2.2=(-1,aG i (-1,[]))) ?_ ?_ ⟨rfl,rfl,rfl⟩
 .rintro i ⟨a,b,c,d,e⟩ hi ⟨D,e2,z⟩;obtain⟨rfl,rfl⟩:=z;subst D e2;with_reducible repeat' first|apply OS.ok;constructor|refine IM.mk λ_=>?_
  all_goals try simp[ay,tY] at*
  all_goals first|omega|(simp;omega)|skip
  exact⟨fL,by rw[wM]⟩
 rintro⟨a,b,c,d,e⟩ ⟨D,e2,z⟩;obtain⟨rfl,rfl⟩:=z;subst e2;refine bQ (λg4=>(by grind)) λ_=>?_
 refine aw (P:=λs=>s=Yw (w1,A,w3,L,N,w6)) ?_ λy hy=>ak hy
 refine bR (l! L) (λi x=>x.1=(i:Int)/\x.2.1=(w1,A,w3,L,N,w6)/\x.2.2.2=(-1,aG (l! A) (-1,[]),aG i af)) ?_ ?_ ⟨rfl,rfl,rfl⟩
 .rintro i ⟨a,b,c,d,e',f⟩ hi ⟨D,e2,z⟩;obtain⟨rfl,rfl,rfl⟩:=z;subst D e2;with_reducible repeat' first|apply OS.ok;constructor|refine IM.mk λ_=>?_
  all_goals try simp[ay,tY] at*
  all_goals first|omega|(simp;omega)|skip
  exact⟨fL,by rw[wM]⟩
 rintro⟨a,b,c,d,e',f⟩ ⟨D,e2,z⟩;obtain⟨rfl,rfl,rfl⟩:=z;subst e2;refine bQ (λg4=>(by grind)) λ_=>?_
 refine aw (P:=λs=>s=Yw (w1,A,w3,L,N,w6)) ?_ λy hy=>ak hy
 refine bR (l! N) (λi x=>x.1=(i:Int)/\x.2.1=(w1,A,w3,L,N,w6)/\x.2.2.2=(-1,aG (l! A) (-1,[]),aG (l! L) af,thP i)) ?_ ?_ ⟨rfl,rfl,rfl⟩
 .rintro i ⟨a,b,c,d,e'',f',g⟩ hi ⟨D,e2,z⟩;obtain⟨rfl,rfl,rfl,rfl⟩:=z;subst D e2;have hl:=Lq i;refine bQ (λ_=>?_) λg4=>(by grind)
  refine gQ (aK (λh0=>ak ?_) λh0=>ak ?_)
  .have h0:((i:Nat):Int)=0:=h0;have h0:i=0:=by omega
   subst h0;exact bG (by grind) (by omega) (ak ⟨rfl,rfl,rfl⟩)
  .have h0:¬((i:Nat):Int)=0:=h0;obtain⟨j,rfl⟩:∃j,i=j+1:=⟨i-1,by omega⟩
   refine bG (by grind) (by omega) (ak ⟨fL,rfl,?_⟩);rw[ahf]
 rintro⟨a,b,c,d,e'',f',g⟩ ⟨D,e2,z⟩;obtain⟨rfl,rfl,rfl,rfl⟩:=z;refine bQ (λg4=>(by grind)) λ_=>ak rfl
def YQ {w:WT} (h:VL w):SB 0 (Yw w):=by
 let⟨h1,h2,N,L,_,D,A⟩:=h;refine ⟨by omega,by simp[Yw];omega,λl z=>?_,by simp[Yw];omega,by simp[Yw,Lq];omega⟩;rw[List.eq_of_mem_replicate z];simp
def O7 (w:WT) (h:VL w):ou w=Z (Yw w,ce0 w,fu0 w,aG (l! w.2.2.2.2.1) 0):=by
 have hs:=O8 w h;let⟨z,w2,w3,D,A,N⟩:=w;let⟨h1,h2,h3,h4,_,h5,h6⟩:=h;refine cI ?_;unfold ou bk bB bP c_ ef bV bT bW bc c8 aI cS;refine aX hs ?_;with_reducible repeat' first|apply OS.ok;constructor|refine IM.mk λ_=>?_
 all_goals try simp[ay,tY] at*
 all_goals first|omega|skip
 refine bR (l! z) (λi x=>x.1=(i:Int)/\x.2.1=(z,w2,w3,D,A,N)/\x.2.2.2=(Yw (z,w2,w3,D,A,N),(z.take i).map (λc=>c.2.2.2.2),aG (l! D) 0,aG (l! A) 0)) ?_ ?_ ⟨rfl,rfl,rfl⟩
 .rintro i ⟨a,b,c,d,e,f,g⟩ hi ⟨e1,e2,L⟩;obtain⟨rfl,rfl,rfl,rfl⟩:=L;subst e1 e2;with_reducible repeat' first|apply OS.ok;constructor|refine IM.mk λ_=>?_
  all_goals try simp only[ay,tY] at*
  all_goals first|omega|(simp;omega)|skip
  exact⟨fL,by rw[pL (T:=lL) hi,cr];rfl⟩
 rintro⟨a,b,c,d,e,f,g⟩ ⟨e1,e2,L⟩;obtain⟨rfl,rfl,rfl,rfl⟩:=L;refine bQ (λg4=>(by grind)) λ_=>ak ?_
 rw[cY];rfl
def aan (w:WT) (h:VL w):Ok (ou w) λs=>NB 0 s/\l! s.2.1=l! w.1/\l! s.2.2.1=l! w.2.2.2.1/\l! s.2.2.2=l! w.2.2.2.2.1:=
 awn (O7 w h) ⟨⟨YQ h,by have:=h.c;simp[ce0];omega,by have:=h.f;simp[fu0];omega,by have:=h.t;simp;omega⟩,by simp[ce0],by simp[fu0],by simp⟩
def Vm (l:Y ET) (i t:Int) (z:η) (hl:l! l<=1000000000) (hi:0<=i/\i<=l! l) (N:l! z<=1000000000):Ok (sZ (l,i,t,z)) λb=>b=J->∀y∈z,Pm (l.take i.toNat) t y:=by
 unfold sZ bk c_ bm bV jY bW bc c8 aI cS;refine bR (l! z) (λk x=>x=(k:Int)/\∀j:Nat,j<k->Pm (l.take i.toNat) t (geti aP z (j:Int))) ?_ ?_ ⟨rfl,λj hj=>(by omega)⟩
 .rintro k x hk ⟨rfl,hx⟩;refine bQ (λg4=>?_) λg4=>(by grind)
  refine qi (λx=>(i-x.2.2).toNat) (λx=>0<=x.2.2/\x.2.2<=i/\x.1=(l! (fl (l.take x.2.2.toNat) t):Int)/\(x.2.1=J->Pm (l.take x.2.2.toNat) t (geti aP z (k:Int)))) ?_ ⟨by simp,hi.1,by simp[fl],nofun⟩;rintro⟨a,b,(c:Int)⟩ ⟨L,c1,ha,D⟩;dsimp only at L c1 ha D;subst ha;obtain⟨c,rfl⟩:∃n:Nat,c=(n:Int):=⟨c.toNat,by omega⟩
  rw[be]at D;dsimp only;rw[be];have hfl:=WA (l.take c) t;have htl:=yl c l;refine bQ (λg5=>?_) λg5=>?_
  .have g5:(c:Int)<i:=g5;have htk:l.take (c+1)=l.take c++[geti fV l (c:Int)]:=pL (T:=fV) (by omega);refine aV (λy=>y.1=(l! (fl (l.take (c+1)) t):Int)/\(y.2=J->Pm (l.take (c+1)) t (geti aP z (k:Int)))) ?_ ?_
   .rw[htk,wD];refine aR L (by omega) (aT ?_);refine cj (λhne=>ak ⟨by rw[yV hne];simp,λh=>(D h).app _⟩) λhe=>?_
    have he:(geti fV l (c:Int)).1=t:=he;refine aV (λy=>y=J->Pm (l.take c++[geti fV l (c:Int)]) t (geti aP z (k:Int))) ?_ λy hy=>ak ⟨?_,hy⟩
    .refine aQ (λh=>ak λ_=>(D h).app _) λ_=>?_
     refine bF (aT ?_);refine aK (λN=>?_) λ_=>ak nofun
     have A:rdE (geti fV l (c:Int))=J->Pm (l.take c++[geti fV l (c:Int)]) t (geti aP z (k:Int)):=λh=>by
      rw[<- he]at N ⊢;exact Pm.last h N.symm
     refine aR L (by omega) (aT ?_);refine aK (λh=>ak λ_=>A (by unfold rdE;rw[a8 h];rfl)) λ_=>?_
     exact aR L (by first|omega|(dsimp only;omega)) (aT (ak λh=>A (by unfold rdE;rw[h];simp)))
    .dsimp only;rw[Ch he,fL];simp
   .rintro⟨p,q⟩ ⟨hp,A⟩;refine ak ?_;dsimp only at hp A ⊢;rw[fL,be]
    grind
  .refine aw (P:=λr=>match r with|.inl y=>y=((k+1:Nat):Int)/\∀j:Nat,j<k+1->Pm (l.take i.toNat) t (geti aP z (j:Int))|.inr r=>r=J->∀y∈z,Pm (l.take i.toNat) t y) ?_ λr hr=>ak ?_
   .refine dK (λ_=>ak nofun) λh=>ak ⟨fL,λj hj=>?_⟩
    grind
   .grind
 .rintro x ⟨rfl,hx⟩;refine bQ (λg4=>(by grind)) λ_=>ak λ_=>iT (T:=aP) hx
def CN (l:Y ET) (c:η):Prop:=∀t:Int,0<=t->t<l! c->geti aP c t=(l! (fl l t):Int)
variable {T:Ty}
def jK (xs:Y T.den) (j k:Int) (x:T.den) (D:0<=j) (z:j<l! xs) (A:0<=k):geti _ (cC xs j x) k=if k=j then x else geti _ xs k:=by
 unfold geti cC
 grind
variable {z:η}
def CN.next (h:CN k z) (e:ET) (h0:0<=e.1) (h1:e.1<l! z) (N:l! k<1000000):CN (k++[e]) (cC z e.1 (bn .i64 (geti aP z e.1+1))):=λt D A=>by
 rw[bX]at A;have:=WA k e.1;rw[jK (T:=aP) _ _ _ _ h0 h1 D,wD];split
 next c=>subst c;rw[Ch rfl,h _ h0 h1,fL];simp
 next c=>rw[yV λL=>c L.symm,h _ D A];simp
def CN.bd (h:CN k z) (t:Int):(geti aP z t:Int)<=l! k:=by
 have key:∀c:Int,geti aP z t=c->c<=l! k:=by
  intro c e;rcases cJ t.toNat (l! z) with g|g
  .have h1:=h (t.toNat:Int) (by omega) (by omega);have D:=WA k ((t.toNat:Nat):Int);have A:geti aP z t=geti aP z ((t.toNat:Nat):Int):=by unfold geti;rw[be]
   grind
  .have:c=0:=by
    rw[<- e];unfold geti;rw[aE,dL g];rfl
   omega
 exact key _ rfl
structure Fp (w:WT) (e:ET):Prop where
 nm:NM w e.2.1 e.2.2.1
 t0:0<=e.1
 t1:e.1<l! w.2.2.2.2.1
 cd:∀c∈w.2.2.1,0<=c.2/\c.2<l! w.2.1
def am2 (w:WT) (l:Y ET):Ok (v8 (w,l)) λy=>y.2=0->(VL w/\SV0 w)/\(∀e∈l,Fp w e)/\∃sy ce fu,Acw w l sy ce fu:=by
 unfold v8 cP c_ iF bV bW bc c8 aI cS;refine bQ (λ_=>ak nofun) λhl=>?_
 dsimp only[ay]at hl;refine aw (Ey w) λb hb=>?_
 refine dK (λ_=>ak nofun) λh=>?_
 let⟨L,hsv⟩:=hb h;refine aX (O7 w L) ?_;have hs:NB 0 (Yw w,ce0 w,fu0 w,aG (l! w.2.2.2.2.1) 0):=⟨YQ L,by have:=L.c;simp[ce0];omega,by have:=L.f;simp[fu0];omega,by have:=L.t;simp;omega⟩
 have hw:l! w.2.2.1<=1000:=by have:=L.d;omega
 refine bR (l! l) (λi x=>x.1=(i:Int)/\x.2.1=(w,l)/\NB i x.2.2/\(∀k:Nat,k<i->Fp w (geti fV l (k:Int)))/\Acw w (l.take i) x.2.2.1 x.2.2.2.1 x.2.2.2.2.1/\CN (l.take i) x.2.2.2.2.2/\l! x.2.2.2.2.2=l! w.2.2.2.2.1) ?_ ?_ ⟨rfl,rfl,hs,λk hk=>(by omega),.nil,λt t0 t1=>?_,by simp⟩
 .rintro i ⟨a,b,s⟩ hi ⟨e1,e2,e3,e4,e5,e6,e7⟩;dsimp only at e1 e2 e3 e4 e5 e6 e7;subst e1 e2;refine bQ (λN=>?_) λN=>(by grind)
  refine bF (aT ?_);have hmem:=bK (T:=fV) (xs:=l) (j:=(i:Int)) (by omega) (by omega);have hbd:=e6.bd (geti fV l (i:Int)).1;have htl:=yl i l;have hbd:(geti aP s.2.2.2 (geti fV l (i:Int)).1:Int)<=1000000:=by grind
  refine aw (IZ w s e3 hw _ (.inr (C6 hbd (by decide))) (.inr (C6 hbd (by decide)))) λy hy=>?_
  have d1:y.2=J->(geti fV l (i:Int)).2.2.2.2.2.1.length<=1000000000:=λh=>by
   have h3:((geti fV l (i:Int)).2.2.2.2.2.1.length:Int)<=max (0:Int) (geti aP s.2.2.2 (geti fV l (i:Int)).1):=(hy.1 h).2.2.1.nd.len
   grind
  have d2:y.2=J->(geti fV l (i:Int)).2.2.2.2.2.2.length<=1000000000:=λh=>by
   have h3:((geti fV l (i:Int)).2.2.2.2.2.2.length:Int)<=max (0:Int) (geti aP s.2.2.2 (geti fV l (i:Int)).1):=(hy.1 h).2.2.1.nf.len
   grind
  refine aV (λx=>x.2.1=(w,l)/\x.2.2.2=y.1/\(x.1=af->y.2=J/\(∀z∈(geti fV l (i:Int)).2.2.2.2.2.1,Pm (l.take i) (geti fV l (i:Int)).1 z)/\∀z∈(geti fV l (i:Int)).2.2.2.2.2.2,Pm (l.take i) (geti fV l (i:Int)).1 z)) ?_ ?_
  .refine dK (λ_=>ak ⟨rfl,rfl,nofun⟩) λh=>?_
   refine aw (Vm l _ _ _ (by omega) ⟨by dsimp only;omega,by dsimp only;omega⟩ (d1 h)) λb1 hr1=>?_
   refine dK (λ_=>ak ⟨rfl,rfl,nofun⟩) λhb1=>?_
   refine aw (Vm l _ _ _ (by omega) ⟨by dsimp only;omega,by dsimp only;omega⟩ (d2 h)) λb2 hr2=>ak ⟨rfl,rfl,λhb2=>⟨h,hr1 hb1,hr2 (by simpa using hb2)⟩⟩
  .rintro⟨c,p,q,r⟩ ⟨f1,f2,f3⟩;dsimp only at f1 f2 f3;subst f1 f2;refine aQ (λ_=>ak nofun) λh=>?_
   let⟨f4,r1,r2⟩:=f3 h;let⟨A,g2,D,N⟩:=hy.1 f4;refine ak ?_;dsimp only;have htk:l.take (i+1)=l.take i++[geti fV l (i:Int)]:=pL (T:=fV) hi;have hc:=e6 _ A.t0 (by rw[e7];exact A.t1);have hnx:=e_ Prod.fst N;have hac:=e5.snoc (e:=geti fV l (i:Int)) ⟨A,D.rd,D.s1,D.s2,D.de,D.fr,by rw[<- hc];exact D.nd,by rw[<- hc];exact D.nf,r1,r2,D.va⟩;refine ⟨fL,rfl,g2.NB e3 (by omega),λk hk=>?_,by rw[htk,N];exact hac,by rw[htk,N];exact e6.next _ A.t0 (by rw[e7];exact A.t1) (by omega),by rw[N];unfold nxP;rw[bX];exact e7⟩;rcases cJ k i with h1|h1
   .exact e4 k h1
   .rw[show k=i by omega];exact⟨A.nm,A.t0,A.t1,A.cd⟩
 .rintro⟨a,b,s⟩ ⟨e1,e2,e3,e4,e5,_⟩;dsimp only at e1 e2 e3 e4 e5;subst e1 e2;rw[cY]at e5;refine bQ (λN=>(by grind)) λ_=>ak λ_=>⟨⟨L,hsv⟩,iT (T:=fV) e4,_,_,_,e5⟩
 .rw[dy]at t1;obtain⟨t,rfl⟩:∃n:Nat,t=(n:Int):=⟨t.toNat,by omega⟩
  rw[vC,aE,fW];split<;>simp[fl]
abbrev Kd0:Ty:=(.st (.pr .bool .bool))
abbrev Yd0:=(Int×E?)
abbrev Yd1:=(ν×b!)
abbrev Yd2:=(Int×h?)
def o9 (x:n?):M (Int):=
 (jn (bV x.2 0 (aI J) (aI (dz (bc x.1) x.2))) λz=>(aJ z (Z 0) (kO x.2 x.1 (Z (geti aP x.1 x.2)))))
def xA (it:Fl) (x:J!):M η:=
 (bT (dz 0 (m7 (bc x.1) (bc x.2))&&dz (m7 (bc x.1) (bc x.2)) (m7 (bc x.1) (bc x.2))&&bh (aN (m7 (bc x.1) (bc x.2))) 8) (it j! _ (λz=>(bV z.1 (aS (aj (aG (aN (m7 (bc x.1) (bc x.2))) (0:Int)))) (aA (o9 (x.1,z.1)) λD=>(aA (o9 (x.2,z.1)) λA=>(ck (dN z.1 (aj z.2)) (c8 ((cS z.1),(cC z.2 z.1 (m7 D A))))))) (aI z.2))) (0,(aG (aN (m7 (bc x.1) (bc x.2))) (0:Int)))))
def BW (x:J!):M η:=xA @iter x
def lC (x:J!):M η:=xA @iK x
def Tg (x:η):M η:=
 (aJ (aB (aj x) 0) (IR (Z ([]:η)) (bT (bh (aj ([]:η)+aj x) 8) (Z (([]:η)++x)))) (bT (bh (aj ([]:η)+aj x) 8) (Z (([]:η)++x))))
def Y4 (x:η):M η:=chk (bh (aj x) 8) λ_=>Z x
def MA (x:η):M η:=
 (aJ (aB (aj x) 0) (IR (Z ([]:η)) (bT (bh (aj ([]:η)+aj x) 8) (Z (([]:η)++x)))) (bT (bh (aj ([]:η)+aj x) 8) (Z (([]:η)++x))))
def vx (x:η):M η:=chk (bh (aj x) 8) λ_=>Z x
def rf (x:n?):M η:=
 (jn (jZ 0 x.2 (aI (gF x.2 4)) (aI af)) λD=>(jn (aJ D (aI (m7 (bc x.1) (cS x.2))) (aI (bc x.1))) λz=>(bT (dz 0 z&&dz z z&&bh (aN z) 8) (jn (jn (aJ D (ck (dN x.2 (aj (Yy (aG (aN z) (0:Int)) x.1))) (aI ((gF (geti aP (Yy (aG (aN z) (0:Int)) x.1) x.2) 9223372036854775807),(Yy (aG (aN z) (0:Int)) x.1)))) (aI (af,(Yy (aG (aN z) (0:Int)) x.1)))) λA=>(aJ A.1 (ck (dN x.2 (aj A.2)) (ck (dN x.2 (aj A.2)) (aI (cC A.2 x.2 (bn .i64 ((geti aP A.2 x.2)+1)))))) (aI A.2))) λL=>(Z L)))))
def qH (x:eu×Int):M (Int):=
 (jn (bV x.2 0 (aI (J,x.1.1,x.1.2.1,x.1.a,x.1.b,x.1.c,x.1.h)) (aI ((dz (bc x.1.a) x.2),x.1.1,x.1.2.1,x.1.a,x.1.b,x.1.c,x.1.h))) λz=>(aJ z.1 (Z (-1)) (kO x.2 z.b (Z ((geti itK z.b x.2).2)))))
abbrev À:=eu×b!
def pR (x:À):M q!:=
 (jn (bm x.a 6 (aI ((decide ((x.a:Int)=6)),(x.1.1,x.1.2.1,x.1.a,x.1.b,x.1.c,x.1.h),x.2.1,x.a,x.b,x.c,x.e,x.g,x.p)) (aI ((decide ((x.a:Int)=10)),(x.1.1,x.1.2.1,x.1.a,x.1.b,x.1.c,x.1.h),x.2.1,x.a,x.b,x.c,x.e,x.g,x.p))) λz=>(aJ z.1 (Z (z.c,af)) (bm x.a 8 (Z (z.c,J)) (bm x.a 17 (aA (qH ((z.2.1.1,z.2.1.2.1,z.2.1.a,z.2.1.b,z.2.1.c,z.2.1.h),z.c)) λA=>(Z (A,af))) (Z ((-1),af))))))
def pQ (x:À):M q!:=
 (jn (bm x.a 7 (aI ((decide ((x.a:Int)=7)),(x.1.1,x.1.2.1,x.1.a,x.1.b,x.1.c,x.1.h),x.2.1,x.a,x.b,x.c,x.e,x.g,x.p)) (aI ((decide ((x.a:Int)=11)),(x.1.1,x.1.2.1,x.1.a,x.1.b,x.1.c,x.1.h),x.2.1,x.a,x.b,x.c,x.e,x.g,x.p))) λz=>(aJ z.1 (Z (z.c,af)) (bm x.a 9 (Z (z.c,J)) (bm x.a 16 (aA (qH ((z.2.1.1,z.2.1.2.1,z.2.1.a,z.2.1.b,z.2.1.c,z.2.1.h),z.c)) λA=>(Z (A,af))) (Z ((-1),af))))))
def tB (it:Fl) (x:ζ):M (Bool):=
 (lt (geti ((.st (.pr .str (.pr .str (.pr .str (.pr .str (.pr .str (.pr .str (.pr .str (.pr .str (.pr .str (.pr .str (.pr .str (.pr .str (.pr .str (.pr .str (.pr .str (.pr .str (.pr .str (.pr .str (.pr .str (.pr .str (.pr .str .str))))))))))))))))))))))) ([kwV]) 0) λz=>(it (Int) _ (λA=>(bV A 22 (bT (dz 0 A&&gF A 22) (lt (geti (.str) [z.1,z.2.1,z.a,z.b,z.c,z.e,z.g,z.j,z.m,z.o,z.l,z.n,z.i,z.q,z.t,z.u,z.C,z.D,z.H,z.I,z.K,z.L] A) λD=>(aJ (decide ((x:ζ)=D)) (aI J) (c8 (cS A))))) (aI af))) 0))
def sW (x:ζ):M (Bool):=tB @iter x
def lY (x:ζ):M (Bool):=tB @iK x
def xY (it:Fl) (x:ζ):M (Bool):=
 (jn (bV (bc x) 1 (aI J) (bV 12 (bc x) (aI J) (aA (lY x) λL=>(aI L)))) λx1=>(aJ x1 (Z af) (it (Y (kw×Unit)) _ (λz=>(aJ (eJ (MP z) (aj (Pt z))) (jn (α:=Y (kw×Unit)) (jn (α:=Bool×Y (kw×Unit)) (jZ 97 (rnP (Pt z) (MP z)) (jZ (rnP (Pt z) (MP z)) 122 (aI (J,[(((Pt z),(aS ((MP z)+wdP (Pt z) (MP z)))),())])) (jZ 65 (rnP (Pt z) (MP z)) (aI ((dz (rnP (Pt z) (MP z)) 90),[(((Pt z),(aS ((MP z)+wdP (Pt z) (MP z)))),())])) (aI (af,[(((Pt z),(aS ((MP z)+wdP (Pt z) (MP z)))),())])))) (jZ 65 (rnP (Pt z) (MP z)) (aI ((dz (rnP (Pt z) (MP z)) 90),[(((Pt z),(aS ((MP z)+wdP (Pt z) (MP z)))),())])) (aI (af,[(((Pt z),(aS ((MP z)+wdP (Pt z) (MP z)))),())])))) λA=>(aJ A.1 (aI A.2) (jn (bV 0 (aS (MP z)) (bm (rnP (Pt z) (MP z)) 95 (aI (J,A.2)) (jZ 48 (rnP (Pt z) (MP z)) (aI ((dz (rnP (Pt z) (MP z)) 57),A.2)) (aI (af,A.2)))) (aI (af,A.2))) λD=>(aJ D.1 (aI D.2) (c8 (bZ af)))))) λN=>(c8 N)) (aI J))) ([((x,0),())]))))
def xS (x:ζ):M (Bool):=xY @iter x
def pN (x:ζ):M (Bool):=xY @iK x
def Ay (it:Fl) (x:n?):M (Int):=
 (it (Int) _ (λz=>(bV z (bc x.1) (bW aP x.1 z λA=>(bm x.2 A (aI z) (c8 (cS z)))) (aI (-1)))) 0)
def E0 (x:n?):M (Int):=Ay @iter x
def tw (x:n?):M (Int):=Ay @iK x
def lI (x:n?):M (Bool):=
 (aA (tw x) λz=>(Z (dz 0 z)))
def kl (x:η×i?):M (Bool):=
 (aA (o9 (x.1,x.2.2)) λz=>(Z (dz x.2.1 z)))
def uO (x:ν):M (Bool):=
 (jn (jZ 0 x.1 (aI (gF x.1 x.2)) (aI af)) λz=>(Z z))
def uP (x:eu×q!):M (Bool):=
 (jn (aA (uO (x.2.1,(bc x.1.2.1))) λA=>(aJ A (bW tF x.1.2.1 x.2.1 λz=>(aI ((z.2==x.2.2) !=af))) (aI af))) λD=>(Z D))
def pE (it:Fl) (x:Y Ya):M (dB×Bool):=
 (it (Int×Y ζ) _ (λD=>(bV D.1 (bc x) (jn (α:=Int×Y ζ) (bW lL x D.1 λz=>(bT (bh (aj D.2+aj ([z.1])) 16) (bm z.a 0 (jY z.2.1 0 (c8 (bZ (([]:Y ζ),af))) (aI ((cS D.1),(D.2++([z.1]))))) (jn (α:=Bool×P?) (bV z.a 1 (aI (J,(D.2++([z.1])),z)) (bV 4 z.a (aI (J,(D.2++([z.1])),z)) (aJ z.b (aI (J,(D.2++([z.1])),z)) (aI ((gF (bn .i64 ((bc x)-D.1)) z.a),(D.2++([z.1])),z))))) λN=>(aJ N.1 (c8 (bZ (([]:Y ζ),af))) (it (Int×P?) _ (λA=>(bV A.1 N.c (bW lL x (bn .i64 (D.1+A.1)) λL=>(aJ (LL (.pr .str (.pr aP (.pr aP (.pr .bool (.pr aP .un))))) (L.1,L.2.1,L.a,L.b,L.f,()) (A.a,A.1,A.c,A.e,A.k,()) !=J) (aI (li (bZ (([]:Y ζ),af)))) (c8 ((cS A.1),A.2.1,A.a,A.1,A.f)))) (aI (bZ ((bn .i64 (D.1+A.c)),A.2.1))))) (0,N.2))))))) λx2=>(c8 x2)) (aI (D.2,J)))) (0,([]:Y ζ)))
def pA (x:Y Ya):M (dB×Bool):=pE @iter x
def ij (x:Y Ya):M (dB×Bool):=pE @iK x
def pD (it:Fl) (x:eu×Y ζ):M (Bool):=
 (bT (bh (aj (x.2:Y ζ)) 16) (it B? _ (λA=>(bV A.1 (bc x.1.2.1) (bW tF x.1.2.1 A.1 λz2=>(bT (bh (aj A.2.2+aj ([z2.1])) 16) (c8 ((cS A.1),A.2.1,(A.2.2++([z2.1])))))) (aA (it B? _ (λz=>(bV z.1 (bc A.2.1.a) (bW itK A.2.1.a z.1 λz4=>(bT (bh (aj z.2.2+aj ([z4.1])) 16) (c8 ((cS z.1),z.2.1,(z.2.2++([z4.1])))))) (aA (bT (bh (aj z.2.2+aj z.2.1.b) 16) (bT (bh (aj (z.2.2++z.2.1.b)+aj z.2.1.c) 16) (it (Int×nM×Y ζ) _ (λD=>(bV D.1 (aS (aj ((z.2.2++z.2.1.b)++z.2.1.c))) (kf (.str) D.2.2 D.1 λL=>(jn (aA (pN L) λy8=>(aJ (!y8) (aI (J,D.2)) (aI ((xn (K:=.str) (V:=.bool) L D.2.1 af),D.2)))) λN=>(aJ N.1 (aI af) (c8 ((cS D.1),(uN (K:=.str) (V:=.bool) L J N.2.1),N.2.2))))) (aI J))) (0,([]:Y I!),((z.2.2++z.2.1.b)++z.2.1.c))))) λr=>Z (bZ r)))) (0,A.2)) λr=>Z (bZ r)))) (0,x)))
def py (x:eu×Y ζ):M (Bool):=pD @iter x
def ep (x:eu×Y ζ):M (Bool):=pD @iK x
def lS (it:Fl) (x:c!):M (Bool):=
 (it (π×c!) _ (λz=>(bV z.1.2.2 (bc x.h) (bW pW x.h z.1.2.2 λL=>(jn (bV L.1 z.1.1 (aI (J,z.2,L)) (aI ((dz (bc z.e) L.1),z.2,L))) λD=>(aJ D.1 (aI af) (jn (α:=(ν)×eu×Int×i?) (bV z.1.1 D.a (aI ((D.a,0),D.2)) (aI ((z.1.1,z.1.2.1),D.2))) λA=>(jY A.b A.1.2 (aI af) (c8 ((A.1.1,(cS A.1.2),(cS z.1.2.2)),A.2.1))))))) (aI J))) ((0,0,0),x))
def px (x:c!):M (Bool):=lS @iter x
def gq (x:c!):M (Bool):=lS @iK x
def pF (it:Fl) (x:c!):M (Bool):=
 (jn (bV 12 (bc x.1) (aI (J,x)) (bV 4 (bc x.2.1) (aI (J,x)) (bV 2 (bc x.a) (aI (J,x)) (bV 2 (bc x.b) (aI (J,x)) (aI ((gF 60 (bc x.h)),x)))))) λD=>(aJ D.1 (Z af) (jn (bV (bc D.e) 1 (aI (J,D.2)) (aI ((gF 4 (bc D.e)),D.2))) λA=>(aJ A.1 (Z af) (aA (ij A.2.1) λN=>(jn (aJ (!N.2) (aI (J,A.2)) (aA (ep (A.2,N.1)) λy5=>(aI ((!y5),A.2)))) λL=>(aJ L.1 (Z af) (it G! _ (λz=>(bV z.1 (bc L.b) (bW itK L.b z.1 λz7=>(aA (uP (z.2,z7.2,af)) λy8=>(aJ (!y8) (aI af) (c8 ((cS z.1),z.2))))) (aA (aA (gq z.2) λy9=>(Z y9)) λr=>Z (bZ r)))) (0,L.2)))))))))
def pB (x:c!):M (Bool):=pF @iter x
def ik (x:c!):M (Bool):=pF @iK x
def xZ (it:Fl) (x:c!):M rz:=
 (bT (dz 0 (bc x.2.1)&&dz (bc x.2.1) (bc x.2.1)&&bh (aN (bc x.2.1)) 32) (bT (dz 0 (bc x.b)&&dz (bc x.b) (bc x.b)&&bh (aN (bc x.b)) 1) (bT (dz 0 (bc x.c)&&dz (bc x.c) (bc x.c)&&bh (aN (bc x.c)) 24) (it Z? _ (λz=>(bV z.1 (aS (aj (aG (aN (bc x.2.1)) ((0,[]):j!)))) (ck (dN z.1 (aj z.b)) (c8 ((cS z.1),z.2.1,z.a,(cC z.b z.1 ((-1),(geti em z.b z.1).2)),z.f))) (aA (jn (α:=r?) (bV 0 (bc z.h) (ck (dN 0 (aj z.h)) (aI (z.2.1,z.a,z.b,z.c,(cC z.h 0 (1,(geti iD z.h 0).2))))) (aI z.2)) λA=>(Z (A.a,A.2.1,A.d))) λr=>Z (bZ r)))) (0,0,(-1),(aG (aN (bc x.2.1)) ((0,[]):j!)),(aG (aN (bc x.b)) (af:Bool)),(aG (aN (bc x.c)) ((0,(0,af)):e!)))))))
def xU (x:c!):M rz:=xZ @iter x
def pT (x:c!):M rz:=xZ @iK x
def sg (it:Fl) (x:c!):M kc:=
 (aA (pT x) λD=>(bT (dz 0 0&&dz 0 (bc x.1)&&bh (aN (bc x.1)) 8) (bT (dz 0 (bc x.b)&&dz (bc x.b) (bc x.b)&&bh (aN (bc x.b)) 8) (bT (dz 0 (bc x.c)&&dz (bc x.c) (bc x.c)&&bh (aN (bc x.c)) 8) (it (Int×Int×U?) _ (λz=>(bV z.1 (bc x.1) (bW lL x.1 z.1 λA=>(bT (bh (aj z.b+aj ([A.f])) 8) (c8 ((cS z.1),z.2.1,z.a,(z.b++([A.f])),z.f)))) (aI z.2.2))) (0,0,D,(aG (aN 0) (0:Int)),(aG (aN (bc x.b)) (0:Int)),(aG (aN (bc x.c)) (0:Int))))))))
def rK (x:c!):M kc:=sg @iter x
def fm (x:c!):M kc:=sg @iK x
def fD (x:ν):M (Bool):=
 (jn (jZ 0 x.1 (aI (gF x.1 x.2)) (aI af)) λz=>(Z z))
def m6 (x:eu×i?):M (Bool):=
 (jn (bm x.2.1 1 (aI ((decide ((x.2.1:Int)=1)),x.1)) (bm x.2.1 2 (aI ((decide ((x.2.1:Int)=2)),x.1)) (bm x.2.1 5 (aI ((decide ((x.2.1:Int)=5)),x.1)) (bm x.2.1 12 (aI ((decide ((x.2.1:Int)=12)),x.1)) (bm x.2.1 13 (aI ((decide ((x.2.1:Int)=13)),x.1)) (bm x.2.1 14 (aI ((decide ((x.2.1:Int)=14)),x.1)) (aI ((decide ((x.2.1:Int)=15)),x.1)))))))) λx1=>(aJ x1.1 (Z (decide ((x.2.2:Int)=(-1)))) (jn (bm x.2.1 3 (aI ((decide ((x.2.1:Int)=3)),x1.2)) (aI ((decide ((x.2.1:Int)=4)),x1.2))) λx2=>(aJ x2.1 (aA (fD (x.2.2,(bc x2.2.1))) λy3=>(Z y3)) (jn (bm x.2.1 6 (aI ((decide ((x.2.1:Int)=6)),x2.2)) (aI ((decide ((x.2.1:Int)=7)),x2.2))) λL=>(aJ L.1 (jn (aA (fD (x.2.2,(bc L.a))) λy6=>(aJ y6 (bW tF L.a x.2.2 λz7=>(aI (!z7.2))) (aI af))) λx5=>(Z x5)) (jn (bm x.2.1 8 (aI ((decide ((x.2.1:Int)=8)),L.2)) (bm x.2.1 9 (aI ((decide ((x.2.1:Int)=9)),L.2)) (bm x.2.1 10 (aI ((decide ((x.2.1:Int)=10)),L.2)) (aI ((decide ((x.2.1:Int)=11)),L.2))))) λD=>(aJ D.1 (jn (aA (fD (x.2.2,(bc D.a))) λy10=>(aJ y10 (bW tF D.a x.2.2 λz11=>(aI z11.2)) (aI af))) λx9=>(Z x9)) (jn (bm x.2.1 16 (aI ((decide ((x.2.1:Int)=16)),D.2)) (bm x.2.1 17 (aI ((decide ((x.2.1:Int)=17)),D.2)) (bm x.2.1 18 (aI ((decide ((x.2.1:Int)=18)),D.2)) (aI ((decide ((x.2.1:Int)=19)),D.2))))) λA=>(aJ A.1 (aA (fD (x.2.2,(bc A.b))) λy13=>(Z y13)) (jn (bm x.2.1 20 (aI ((decide ((x.2.1:Int)=20)),A.2)) (aI ((decide ((x.2.1:Int)=21)),A.2))) λz=>(aJ z.1 (aA (fD (x.2.2,(bc z.e))) λy15=>(Z y15)) (jn (bm x.2.1 22 (aI ((decide ((x.2.1:Int)=22)),z.2)) (aI ((decide ((x.2.1:Int)=23)),z.2))) λN=>(aJ N.1 (aA (fD (x.2.2,(bc N.c))) λy17=>(Z y17)) (Z af)))))))))))))))
def vB (it:Fl) (x:eu×w!):M (Bool):=
 (jn (jY (bc x.2.1) (bc x.1.2.1) (aI (J,x.1)) (jY (bc x.b) (bc x.1.b) (aI (J,x.1)) (aI ((!decide (((bc x.f):Int)=(bc x.1.c))),x.1)))) λA=>(aJ A.1 (Z af) (it G! _ (λz=>(bV z.1 (bc A.b) (bW itK A.b z.1 λD=>(aA (fD (D.2,(bc z.a))) λL=>(aJ (!L) (aI af) (c8 ((cS z.1),z.2))))) (aI J))) (0,A.2))))
def Aj (x:eu×w!):M (Bool):=vB @iter x
def lB (x:eu×w!):M (Bool):=vB @iK x
def pS (x:T!):M (Bool):=
 (bm x.b 6 (bW em x.2.1.1 x.f λz1=>(Z (decide ((z1.1:Int)=(-1))))) (bm x.b 10 (jn (α:=Bool) (bW em x.2.1.1 x.f λz3=>(bm z3.1 (-1) (bW em x.2.1.1 x.f λz4=>(aI (decide (((bc z4.2):Int)=0)))) (aI af))) λx2=>(Z x2)) (bm x.b 8 (jn (α:=Bool) (bW em x.2.1.1 x.f λz6=>(bm z6.1 (-1) (bW em x.2.1.1 x.f λz7=>(aA (lI (z7.2,x.a)) λy8=>(aI (!y8)))) (aI af))) λx5=>(Z x5)) (jn (bm x.b 7 (aI ((decide ((x.b:Int)=7)),x.1,x.2.1)) (aI ((decide ((x.b:Int)=11)),x.1,x.2.1))) λA=>(aJ A.1 (bW em A.a x.f λz10=>(Z (decide ((z10.1:Int)=x.a)))) (bm x.b 9 (bW em A.a x.f λz11=>(aA (lI (z11.2,x.a)) λy12=>(Z y12))) (bm x.b 12 (Z (decide ((A.b:Int)=(-1)))) (bm x.b 13 (Z (decide ((A.b:Int)=x.a))) (bm x.b 14 (bW iD A.h x.a λz13=>(Z (!z13.2.2))) (bm x.b 15 (bW iD A.h x.a λz14=>(Z z14.2.2)) (jn (bm x.b 16 (aI ((decide ((x.b:Int)=16)),A.2)) (bm x.b 18 (aI ((decide ((x.b:Int)=18)),A.2)) (aI ((decide ((x.b:Int)=19)),A.2)))) λz=>(aJ z.1 (bW itK z.2.1.a x.f λz16=>(bW em z.a z16.2 λz17=>(Z (decide ((z17.1:Int)=x.a))))) (bm x.b 20 (jn (jY x.f x.a (bW iD z.h x.f λz19=>(aI (decide ((z19.1:Int)=0)))) (aI af)) λx18=>(Z x18)) (bm x.b 21 (jn (jY x.f x.a (bW iD z.h x.f λN=>(aI (decide ((N.1:Int)=5)))) (aI af)) λx20=>(Z x20)) (bm x.b 22 (bW (.bool) z.c x.f λL=>(Z (!L))) (bm x.b 23 (bW (.bool) z.c x.f λD=>(Z D)) (Z J)))))))))))))))))
def k_ (x:T!):M (Bool):=
 (jn (aA (lB (x.1,x.2.1)) λy2=>(aJ (!y2) (aI (J,x.1,x.2.1)) (aA (fD (x.a,(bc x.1.c))) λy3=>(aJ (!y3) (aI (J,x.1,x.2.1)) (aA (m6 (x.1,x.d)) λy4=>(aI ((!y4),x.1,x.2.1))))))) λz=>(aJ z.1 (Z af) (bW iD z.h x.a λA=>(bm x.b 1 (Z (decide ((A.1:Int)=1))) (bm x.b 17 (jn (α:=Bool) (bm A.1 4 (bm A.2.1 x.f (bW itK z.2.1.a x.f λN=>(bW em z.a N.2 λL=>(aI (decide ((L.1:Int)=(-1)))))) (aI af)) (aI af)) λx6=>(Z x6)) (jn (bm A.1 2 (aA (pS (z.2.1,z.2.2,x.2.2)) λD=>(aI D)) (aI af)) λx9=>(Z x9)))))))
def lU (x:eu×U?):M (Bool):=
 (jn (aA (lB (x.1,x.2.1)) λz=>(aJ z (bm (bc x.a) (bc x.1.1) (bm (bc x.b) (bc x.1.b) (aI (decide (((bc x.f):Int)=(bc x.1.c)))) (aI af)) (aI af)) (aI af))) λA=>(Z A))
def mE (x:À):M (Bool):=
 (jn (bm x.a 1 (aI (J,x)) (aI ((decide ((x.a:Int)=2)),x))) λz=>(aJ z.1 (Z (decide ((z.g:Int)=(-1)))) (jn (jZ 0 z.g (bV z.g (bc z.2.1.h) (bW pW z.2.1.h z.g λA=>(aI (decide ((A.1:Int)=z.a)))) (aI af)) (aI af)) λD=>(Z D))))
def mK (it:Fl) (x:eu×O?):M (Bool):=
 (jn (bm x.b 3 (bW lL x.1.1 x.c λz2=>(aI ((!decide ((z2.2.2.1:Int)=0)),x.2))) (bm x.b 4 (bW lL x.1.1 x.c λz3=>(aI ((!decide ((z3.2.2.1:Int)=0)),x.2))) (aI (af,x.2)))) λz=>(jn (bm z.b 5 (bm z.b 4 (aI (z.2.1,z.2.2,J,J)) (aI (z.2.1,z.2.2,J,(decide ((z.b:Int)=22))))) (bm z.b 4 (aI (z.2.1,z.2.2,z.1,J)) (aI (z.2.1,z.2.2,z.1,(decide ((z.b:Int)=22)))))) λx4=>(it (Int×kc×gA×N?) _ (λA=>(bV A.1 2 (bT (dz 0 A.1&&gF A.1 2) (lt (geti ((.sl aP)) [x4.2.1.e,x4.2.1.k] A.1) λz6=>(jn (α:=Bool×kc×gA×N?) (bV 0 (bc z6) (bT (dz 0 A.1&&gF A.1 2) (bT (dN A.1 2) (lt (geti (.bool) [A.b,A.f] A.1) λz8=>(aI ((!z8),A.2))))) (aI (af,A.2))) λx7=>(aJ x7.1 (aI af) (it (ν×kc×gA×N?) _ (λD=>(bV D.1.2 (bc z6) (bW aP z6 D.1.2 λL=>(jn (jZ L D.1.1 (aI (J,D.2)) (bW aP D.2.1.d D.a.1 λz12=>(aI ((dz z12 L),D.2)))) λN=>(aJ N.1 (aI (bZ af)) (c8 ((L,(cS D.1.2)),N.2))))) (aI (li ((cS A.1),D.2))))) ((0,0),x7.2)))))) (aI J))) (0,x4))))
def mC (x:eu×O?):M (Bool):=mK @iter x
def gd (x:eu×O?):M (Bool):=mK @iK x
def mJ (it:Fl) (x:O?):M (Bool):=
 (bm x.a 3 (bW aP x.1.2.1 x.b λz1=>(Z (decide ((x.c:Int)=z1)))) (bm x.a 23 (bW aP x.1.a x.b λz2=>(Z (decide ((x.c:Int)=z2)))) (bm x.a 5 (jn (bm x.c 0 (aI J) (aI (decide ((x.c:Int)=1)))) λx3=>(Z x3)) (jn (bm x.a 4 (aI ((decide ((x.a:Int)=4)),x)) (aI ((decide ((x.a:Int)=22)),x))) λD=>(aJ D.1 (Z J) (bm x.a 18 (it ((Int×Bool×Int)×b!) _ (λA=>(bV A.1.2.2 (bc D.2.1.1.d) (jn (bW iD D.2.1.1.d A.1.2.2 λz7=>(jn (bm z7.1 3 (aI ((decide ((z7.2.1:Int)=A.b)),A.2)) (aI (af,A.2))) λx8=>(aJ x8.1 (aJ A.1.2.1 (aI (((cS A.1.1),J),x8.2)) (aI (((cS A.1.1),(decide ((x8.c:Int)=A.1.2.2))),x8.2))) (aI ((A.1.1,A.1.2.1),x8.2))))) λx6=>(c8 ((x6.1.1,x6.1.2,(cS A.1.2.2)),x6.2))) (aA (jn (α:=Bool) (aJ A.1.2.1 (aI J) (bm A.1.1 0 (aI (decide ((A.c:Int)=(-1)))) (aI af))) λx9=>(Z x9)) λr=>Z (bZ r)))) ((0,af,0),D.2.2)) (bm x.a 19 (it Yd1 _ (λz=>(bV z.1.2 (bc D.2.1.1.d) (jn (bW iD D.2.1.1.d z.1.2 λN=>(jn (bm N.1 3 (aI ((decide ((N.2.1:Int)=z.b)),z.2)) (aI (af,z.2))) λL=>(aJ L.1 (aI ((cS z.1.1),L.2)) (aI (z.1.1,L.2))))) λx11=>(c8 ((x11.1,(cS z.1.2)),x11.2))) (aI (decide ((z.c:Int)=z.1.1))))) ((0,0),D.2.2)) (Z (decide ((D.e:Int)=0))))))))))
def qE (x:O?):M (Bool):=mJ @iter x
def gK (x:O?):M (Bool):=mJ @iK x
def nE (x:eH×Int):M (Bool):=
 (jn (bm x.1.1 3 (aI (decide ((x.1.2.1:Int)=x.2))) (aI af)) λz=>(Z z))
def MC (x:θ):M θ:=
 (aJ (aB (aj x) 0) (IR (Z ([]:θ)) (bT (bh (aj ([]:θ)+aj x) 1) (Z (([]:θ)++x)))) (bT (bh (aj ([]:θ)+aj x) 1) (Z (([]:θ)++x))))
def Tf (x:θ):M θ:=chk (bh (aj x) 1) λ_=>Z x
def H6 (x:θ):M θ:=
 (aJ (aB (aj x) 0) (IR (Z ([]:θ)) (bT (bh (aj ([]:θ)+aj x) 1) (Z (([]:θ)++x)))) (bT (bh (aj ([]:θ)+aj x) 1) (Z (([]:θ)++x))))
def MB (x:θ):M θ:=chk (bh (aj x) 1) λ_=>Z x
def Mz (x:Y eH):M (Y eH):=
 (aJ (aB (aj x) 0) (IR (Z ([]:Y eH)) (bT (bh (aj ([]:Y eH)+aj x) 24) (Z (([]:Y eH)++x)))) (bT (bh (aj ([]:Y eH)+aj x) 24) (Z (([]:Y eH)++x))))
def Te (x:Y eH):M (Y eH):=chk (bh (aj x) 24) λ_=>Z x
def H4 (x:Y eH):M (Y eH):=
 (aJ (aB (aj x) 0) (IR (Z ([]:Y eH)) (bT (bh (aj ([]:Y eH)+aj x) 24) (Z (([]:Y eH)++x)))) (bT (bh (aj ([]:Y eH)+aj x) 24) (Z (([]:Y eH)++x))))
def My (x:Y eH):M (Y eH):=chk (bh (aj x) 24) λ_=>Z x
def H5 (x:η):M η:=
 (aJ (aB (aj x) 0) (IR (Z ([]:η)) (bT (bh (aj ([]:η)+aj x) 8) (Z (([]:η)++x)))) (bT (bh (aj ([]:η)+aj x) 8) (Z (([]:η)++x))))
def BX (x:η):M η:=chk (bh (aj x) 8) λ_=>Z x
def tP (it:Fl) (x:w!):M Yd0:=
 (bT (dz 0 (bc x.1)&&dz (bc x.1) (bc x.1)&&bh (aN (bc x.1)) 32) (it (Int×rz×S!) _ (λz=>(bV z.1 (bc x.1) (bW em x.1 z.1 λA=>(aA (Y4 A.2) λN=>(ck (dN z.1 (aj z.d)) (c8 ((cS z.1),z.2.1,z.a,(cC z.d z.1 (A.1,N))))))) (aA (aA (MB z.2.1.a) λL=>(aA (My z.2.1.d) λD=>(Z (z.2.1.2.1,z.d,L,D)))) λr=>Z (bZ r)))) (0,x,0,(aG (aN (bc x.1)) ((0,[]):j!)))))
def xT (x:w!):M Yd0:=tP @iter x
def lH (x:w!):M Yd0:=tP @iK x
abbrev K?:=jV×(θ)×(Y eH)×Int
def sr (it:Fl) (x:π×E?):M Yd0:=
 (it (ν×K?) _ (λz=>(bV z.1.2 (bc x.d) (jn (kf iD z.b z.1.2 λL=>(jn (aA (nE (L,x.1.2.1)) λN=>(aJ N (bV z.1.1 0 (aI (J,z.2)) (aI ((decide ((z.1.2:Int)=x.1.2.2)),z.2))) (aI (af,z.2)))) λA=>(aJ A.1 (aI (z.1.2,A.2)) (aI (z.1.1,A.2))))) λD=>(c8 ((D.1,(cS z.1.2)),D.2))) (aA (jn (α:=E?) (jZ 0 z.1.1 (ck (dN z.1.1 (aj z.b)) (aI (z.2.1,z.a,(cC z.b z.1.1 (4,(geti iD z.b z.1.1).2))))) (aI (z.2.1,z.a,z.b))) λx6=>(Z (z.1.1,x6))) λr=>Z (bZ r)))) (((-1),0),x.2.1,x.a,x.d,x.1.1))
def vZ (x:π×E?):M Yd0:=sr @iter x
def kD (x:π×E?):M Yd0:=sr @iK x
def nU (it:Fl) (x:ν×E?):M Yd0:=
 (it (ν×K?) _ (λz=>(bV z.1.2 (bc x.d) (jn (α:=Int×K?) (kf iD z.b z.1.2 λD=>(aA (nE (D,x.1.2)) λL=>(aJ L (ck (dN z.1.2 (aj z.b)) (aI ((cS z.1.1),z.2.1,z.a,(cC z.b z.1.2 (4,(geti iD z.b z.1.2).2)),z.f))) (aI (z.1.1,z.2))))) λA=>(c8 ((A.1,(cS z.1.2)),A.2))) (aI (z.1.1,z.2.1,z.a,z.b)))) ((0,0),x.2.1,x.a,x.d,x.1.1))
def rN (x:ν×E?):M Yd0:=nU @iter x
def h_ (x:ν×E?):M Yd0:=nU @iK x
def r8 (x:Int):M (Bool):=
 (Z (!decide ((x:Int)=x)))
def xW (x:ν):M (Bool):=
 (jn (aA (r8 x.1) λA=>(aJ A (aA (r8 x.2) λz=>(aJ (!z) (aI J) (aI (gF x.1 x.2)))) (aI (gF x.1 x.2)))) λD=>(Z D))
def tf (x:Int):M (Int):=
 (jZ 4294967296 x U (jZ 65536 x U (jZ 256 x U (kO (bn .u8 x) ([0,1,2,2,3,3,3,3,4,4,4,4,4,4,4,4,5,5,5,5,5,5,5,5,5,5,5,5,5,5,5,5,6,6,6,6,6,6,6,6,6,6,6,6,6,6,6,6,6,6,6,6,6,6,6,6,6,6,6,6,6,6,6,6,7,7,7,7,7,7,7,7,7,7,7,7,7,7,7,7,7,7,7,7,7,7,7,7,7,7,7,7,7,7,7,7,7,7,7,7,7,7,7,7,7,7,7,7,7,7,7,7,7,7,7,7,7,7,7,7,7,7,7,7,7,7,7,7,8,8,8,8,8,8,8,8,8,8,8,8,8,8,8,8,8,8,8,8,8,8,8,8,8,8,8,8,8,8,8,8,8,8,8,8,8,8,8,8,8,8,8,8,8,8,8,8,8,8,8,8,8,8,8,8,8,8,8,8,8,8,8,8,8,8,8,8,8,8,8,8,8,8,8,8,8,8,8,8,8,8,8,8,8,8,8,8,8,8,8,8,8,8,8,8,8,8,8,8,8,8,8,8,8,8,8,8,8,8,8,8,8,8,8,8,8,8,8,8,8,8,8,8,8,8,8,8]) (Z (bn .i64 (0+(bn .i64 (amo ([0,1,2,2,3,3,3,3,4,4,4,4,4,4,4,4,5,5,5,5,5,5,5,5,5,5,5,5,5,5,5,5,6,6,6,6,6,6,6,6,6,6,6,6,6,6,6,6,6,6,6,6,6,6,6,6,6,6,6,6,6,6,6,6,7,7,7,7,7,7,7,7,7,7,7,7,7,7,7,7,7,7,7,7,7,7,7,7,7,7,7,7,7,7,7,7,7,7,7,7,7,7,7,7,7,7,7,7,7,7,7,7,7,7,7,7,7,7,7,7,7,7,7,7,7,7,7,7,8,8,8,8,8,8,8,8,8,8,8,8,8,8,8,8,8,8,8,8,8,8,8,8,8,8,8,8,8,8,8,8,8,8,8,8,8,8,8,8,8,8,8,8,8,8,8,8,8,8,8,8,8,8,8,8,8,8,8,8,8,8,8,8,8,8,8,8,8,8,8,8,8,8,8,8,8,8,8,8,8,8,8,8,8,8,8,8,8,8,8,8,8,8,8,8,8,8,8,8,8,8,8,8,8,8,8,8,8,8,8,8,8,8,8,8,8,8,8,8,8,8,8,8,8,8,8,8]) (bn .u8 x))))))))))
def wn (x:Int):M (Int):=
 (aA (tf x) λz=>(Z z))
def kZ (it:Fl) (x:ν×η):M η:=
 (it j! _ (λD=>(bV D.1 x.1.2 (it j! _ (λz=>(jn (bV x.1.1 z.1 (kf aP z.2 z.1 λz4=>(kf aP z.2 (bn .i64 (z.1-1)) λz5=>(aA (xW (z4,z5)) λy6=>(aI (y6,z.2))))) (aI (af,z.2))) λA=>(aJ A.1 (kf aP A.2 (bn .i64 (z.1-1)) λL=>(kf aP A.2 z.1 λN=>(ck (dN z.1 (aj A.2)) (ck (dN (bn .i64 (z.1-1)) (aj (cC A.2 z.1 L))) (c8 ((bn .i64 (z.1-1)),(cC (cC A.2 z.1 L) (bn .i64 (z.1-1)) N))))))) (aI (li ((cS D.1),A.2)))))) D) (aI D.2))) ((cS x.1.1),x.2))
def kY (x:ν×η):M η:=kZ @iter x
def gk (x:ν×η):M η:=kZ @iK x
def pC (it:Fl) (x:π×η):M η:=
 (it ((Int×Int×Int×Bool×Bool)×η) _ (λz=>(jZ (bn .i64 (z.1.2.1-z.1.1)) 12 (aA (gk ((z.1.1,z.1.2.1),z.2)) λA=>(bT (aB (aj z.2) (aj A)&&J) (aI A))) (bm z.1.a 0 U (aJ (!z.1.b) U U)))) ((x.1.1,x.1.2.1,x.1.2.2,J,J),x.2))
def pu (x:π×η):M η:=pC @iter x
def jU (x:π×η):M η:=pC @iK x
def yM (x:η):M η:=
 (aA (wn (bn .u64 (bc x))) λA=>(aA (jU ((0,(bc x),A),x)) λz=>(bT (aB (aj x) (aj z)&&J) (Z z))))
def Az (it:Fl) (x:η):M η:=
 (bV (bc x) 2 (Z x) (it j! _ (λz=>(bV z.1 (bc z.2) (kf aP z.2 z.1 λD=>(kf aP z.2 (bn .i64 (z.1-1)) λA=>(bm D A (bT (dz 0 z.1&&gF z.1 (aj z.2)) U) (c8 ((cS z.1),z.2))))) (aI z.2))) (1,x)))
def Ak (x:η):M η:=Az @iter x
def mH (x:η):M η:=Az @iK x
def qo (x:ν):M (Bool×Int):=
 (Z ((decide ((x.1:Int)=x.2)),x.2))
def wC (it:Fl) (x:n?):M M!:=
 (it M! _ (λz=>(bV z.1 (bc x.1) (kf aP z.2.1 z.1 λD=>(aA (qo (D,z.2.2)) λA=>(aJ A.1 (aI (z.1,z.2.1,A.2)) (c8 ((cS z.1),z.2.1,A.2))))) (aI ((-1),z.2)))) (0,x))
def v7 (x:n?):M M!:=wC @iter x
def oA (x:n?):M M!:=wC @iK x
def uU (it:Fl) (x:n?):M j!:=
 (aA (oA x) λA=>(bT (aB (aj x.1) (aj A.2.1)&&J) (bm A.1 (-1) U (it (ν×u!) _ (λz=>(bV z.1.2 (bc z.2.1) (jn (kf aP z.2.1 z.1.2 λL=>(aA (qo (L,z.2.2)) λD=>(aJ (!D.1) (ck (dN z.1.1 (aj z.2.1)) (aI ((cS z.1.1),(cC z.2.1 z.1.1 L),D.2))) (aI (z.1.1,z.2.1,D.2))))) λN=>(c8 ((N.1,(cS z.1.2)),N.2))) (aA (ck (dz 0 z.1.1&&gF z.1.1 (aj z.2.1)) (bT (dz 0 z.1.1&&gF z.1.1 (aj (dE (aN z.1.1) z.2.1++aG (aj z.2.1-aN z.1.1) (0:Int)))) (Z (z.2.2,(dE (aN z.1.1) (dE (aN z.1.1) z.2.1++aG (aj z.2.1-aN z.1.1) (0:Int))))))) λr=>Z (bZ r)))) ((A.1,(cS A.1)),A.2)))))
def uM (x:n?):M j!:=uU @iter x
def jP (x:n?):M j!:=uU @iK x
def ia (x:V?):M (rz×q!):=
 (aA (k_ (x.1,x.2.1,x.a,x.b,x.c)) λy1=>(aJ (!y1) (Z ((([]:Y j!),0,([]:θ),([]:Y eH)),0,af)) (aA (lH x.2.1) λA=>(jn (α:=Z?) (bm x.b 1 (ck (dN x.a (aj A.d)) (aI (0,A.1,0,A.2.1,A.a,(cC A.d x.a (2,(geti iD A.d x.a).2))))) (bm x.b 2 (ck (dN x.a (aj A.d)) (aI (0,A.1,0,A.2.1,A.a,(cC A.d x.a (5,(geti iD A.d x.a).2))))) (jn (α:=Bool×eu×Z?) (bm x.b 6 (aI ((decide ((x.b:Int)=6)),x.1,A.1,x.a,0,A.2)) (aI ((decide ((x.b:Int)=10)),x.1,A.1,x.a,0,A.2))) λN=>(aJ N.1 (ck (dN x.c (aj N.e)) (aI (0,N.a,N.c,(cC N.e x.c (N.b,(geti em N.e x.c).2)),N.k))) (jn (bm x.b 7 (aI ((decide ((x.b:Int)=7)),N.2)) (aI ((decide ((x.b:Int)=11)),N.2))) λz=>(aJ z.1 (ck (dN x.c (aj z.e)) (aI (0,z.a,z.c,(cC z.e x.c ((-1),(geti em z.e x.c).2)),z.k))) (bm x.b 8 (kf em z.e x.c λz6=>U) (bm x.b 9 (kf em z.e x.c λz7=>U) (bm x.b 12 (aI (0,z.d)) (bm x.b 13 (aI (0,(-1),z.f)) (bm x.b 14 (ck (dN z.b (aj z.p)) (aI (0,z.a,z.c,z.e,z.g,(cC z.p z.b ((geti iD z.p z.b).1,((geti iD z.p z.b).2).1,J))))) (bm x.b 15 (ck (dN z.b (aj z.p)) (aI (0,z.a,z.c,z.e,z.g,(cC z.p z.b ((geti iD z.p z.b).1,((geti iD z.p z.b).2).1,af))))) (bm x.b 16 (bW itK z.2.1.a x.c λz8=>(ck (dN z8.2 (aj z.e)) (ck (dN z.b (aj z.p)) (ck (dN z.b (aj (cC z.p z.b (3,(geti iD z.p z.b).2)))) (aI (0,z.a,z.c,(cC z.e z8.2 ((-1),(geti em z.e z8.2).2)),z.g,(cC (cC z.p z.b (3,(geti iD z.p z.b).2)) z.b ((geti iD (cC z.p z.b (3,(geti iD z.p z.b).2)) z.b).1,x.c,((geti iD (cC z.p z.b (3,(geti iD z.p z.b).2)) z.b).2).2)))))))) (bm x.b 17 (bW itK z.2.1.a x.c λz9=>(ck (dN z9.2 (aj z.e)) (ck (dN z.b (aj z.p)) (ck (dN z.b (aj (cC z.p z.b (2,(geti iD z.p z.b).2)))) (aI (0,z.a,z.c,(cC z.e z9.2 (z.b,(geti em z.e z9.2).2)),z.g,(cC (cC z.p z.b (2,(geti iD z.p z.b).2)) z.b ((geti iD (cC z.p z.b (2,(geti iD z.p z.b).2)) z.b).1,0,((geti iD (cC z.p z.b (2,(geti iD z.p z.b).2)) z.b).2).2)))))))) (bm x.b 18 (aA (kD ((z.a,x.f),z.h)) λL=>(bT (aB (aj z.p) (aj L.d)&&(aB (aj z.g) (aj L.a)&&(aB (aj z.e) (aj L.2.1)&&J))) (aI (L.1,z.a,z.c,L.2)))) (bm x.b 19 (aA (h_ ((z.a,x.c),z.h)) λD=>(bT (aB (aj z.p) (aj D.d)&&(aB (aj z.g) (aj D.a)&&(aB (aj z.e) (aj D.2.1)&&J))) (aI (D.1,z.a,z.c,D.2)))) (bm x.b 20 (ck (dN x.c (aj z.p)) (aI (0,z.a,z.c,z.e,z.g,(cC z.p x.c (1,(geti iD z.p x.c).2))))) (bm x.b 22 (ck (dN x.c (aj z.g)) (aI (0,z.a,z.c,z.e,(cC z.g x.c J),z.p))) (aI (0,z.a,z.f)))))))))))))))))))) λx3=>(Z ((x3.b,x3.2.1,x3.f),x3.1,J))))))
def rZ (x:w!):M (Yd2×(π)×f?):=
 (bT (dz 0 (bc x.1)&&dz (bc x.1) (bc x.1)&&bh (aN (bc x.1)) 32&&decide (((bc x.1):Int)=3)) (jn (α:=rz×Int×(π)×f?) (bV 0 (bc x.1) (bW em x.1 0 λz=>(aA (vx z.2) λL=>(bV 1 (bc x.1) (bW em x.1 1 λD=>(aA (vx D.2) λy5=>(bV 2 (bc x.1) (bW em x.1 2 λz6=>(aA (vx z6.2) λy7=>(bV 3 (bc x.1) (bW em x.1 3 λz8=>(aA (vx z8.2) λy9=>U)) (aI (x,0,(z.1,D.1,z6.1),L,y5,y7))))) (aI (x,0,(z.1,D.1,0),L,y5,([]:η)))))) (aI (x,0,(z.1,0,0),L,([]:η),([]:η)))))) (aI (x,0,(0,0,0),([]:η),([]:η),([]:η)))) λA=>(aA (Tf A.1.a) λy10=>(aA (Te A.1.d) λN=>(Z ((A.1.2.1,y10,N),A.2.2))))))
def l8 (x:V?):M (rz×q!):=
 (aA (k_ (x.1,x.2.1,x.a,x.b,x.c)) λy1=>(aJ (!y1) (Z ((([]:Y j!),0,([]:θ),([]:Y eH)),0,af)) (aA (rZ x.2.1) λD=>(jn (α:=Int×Yd2×Int×((Int×η)×(Int×η)×Int)×Bool×η) (bm x.b 1 (kO x.a D.1.2.2 U) (bm x.b 2 (kO x.a D.1.2.2 U) (jn (α:=Bool×eu×Yd2×Int×Int×(π)×f?) (bm x.b 6 (aI ((decide ((x.b:Int)=6)),x.1,D.1,x.a,0,D.2)) (aI ((decide ((x.b:Int)=10)),x.1,D.1,x.a,0,D.2))) λA=>(aJ A.1 U (jn (bm x.b 7 (aI ((decide ((x.b:Int)=7)),A.2.1,A.a,A.b,A.c,(A.e.1,A.g,A.e.2.1,A.j,A.e.2.2),A.s)) (aI ((decide ((x.b:Int)=11)),A.2.1,A.a,A.b,A.c,(A.e.1,A.g,A.e.2.1,A.j,A.e.2.2),A.s))) λz=>(aJ z.1 U (bm x.b 8 (bm x.c 0 U (bm x.c 1 U (bm x.c 2 (bT (bh (aj z.k+aj ([z.b])) 8) (aA (yM (z.k++([z.b]))) λN=>(bT (aB (aj (z.k++([z.b]))) (aj N)&&J) (aA (mH N) λy7=>(bT (aB (aj N) (aj y7)&&J) (aI (0,z.a,z.c,((z.e.1,z.e.2.1),(z.e.a,z.e.b),z.e.f),J,y7))))))) U))) (bm x.b 9 (bm x.c 0 U (bm x.c 1 U (bm x.c 2 (aA (jP (z.k,z.b)) λy8=>(bT (aB (aj z.k) (aj z.k)&&J) (aI (0,z.a,z.c,((z.e.1,z.e.2.1),(z.e.a,z.e.b),z.e.f),af,y8.2)))) U))) (bm x.b 12 (aI (0,(z.b,z.a.2),z.c,((z.e.1,z.e.2.1),(z.e.a,z.e.b),z.e.f),J,z.k)) (bm x.b 13 (aI (0,((-1),z.a.2),z.c,((z.e.1,z.e.2.1),(z.e.a,z.e.b),z.e.f),J,z.k)) (bm x.b 14 (kO z.b z.a.2.2 U) (bm x.b 15 (kO z.b z.a.2.2 U) (bm x.b 16 U (bm x.b 17 U (bm x.b 18 U (bm x.b 19 U (bm x.b 20 (kO x.c z.a.2.2 U) (bm x.b 22 (kO x.c z.a.2.1 U) (aI (0,z.a,z.c,((z.e.1,z.e.2.1),(z.e.a,z.e.b),z.e.f),J,z.k)))))))))))))))))))) λL=>(Z (([L.b.1,L.b.2.1,(L.b.2.2,L.h)],L.2.1),L.1,J))))))
def tK (x:V?):M (rz×q!):=orE (ia x) (l8 x)
def lV (x:eu×O?):M (kc×Bool):=
 (jn (α:=Bool×J?) (aA (lU (x.1,x.2.1)) λy2=>(aJ (!y2) (aI (J,x.1,x.2.1,x.2.2,0)) (bV x.a 0 (aI (J,x.1,x.2.1,x.2.2,0)) (jZ (bc x.1.c) x.a (aI (J,x.1,x.2.1,x.2.2,0)) (bV x.b 1 (aI (J,x.1,x.2.1,x.2.2,0)) (aI ((gF 23 x.b),x.1,x.2.1,x.2.2,0))))))) λD=>(aJ D.1 (Z (((([]:Y j!),0,([]:θ),([]:Y eH)),([]:η),([]:η),([]:η)),af)) (jn (aA (k_ (D.2.1,D.a.1,D.b.1,D.b.2.1,D.b.a)) λy4=>(aJ (!y4) (aI (J,D.2)) (aA (mE (D.2.1,D.b)) λy5=>(aJ (!y5) (aI (J,D.2)) (aA (gd (D.2.1,D.a,D.b)) λy6=>(aJ (!y6) (aI (J,D.2)) (aA (gK (D.a,D.b)) λy7=>(aI ((!y7),D.2))))))))) λx3=>(aJ x3.1 (Z (((([]:Y j!),0,([]:θ),([]:Y eH)),([]:η),([]:η),([]:η)),af)) (jn (α:=Int×J?) (bm x3.b.2.1 18 (aI (x3.b.b,x3.2)) (aI ((-1),x3.2))) λz=>(aA (tK (z.2.1,z.a.1,z.b.1,z.b.2.1,z.b.a,z.1)) λy9=>(aJ (!y9.2.2) (Z (((([]:Y j!),0,([]:θ),([]:Y eH)),([]:η),([]:η),([]:η)),af)) (aA (BX z.a.2.1) λN=>(aA (BX z.a.a) λL=>(aA (vx z.a.d) λy12=>(jn (bm z.b.2.1 4 (ck (dN z.b.a (aj N)) (aI (z.b,z.f,y9.1,(cC N z.b.a z.b.b),L,y12))) (bm z.b.2.1 22 (ck (dN z.b.a (aj L)) (aI (z.b,z.f,y9.1,N,(cC L z.b.a z.b.b),y12))) (aI (z.b,z.f,y9.1,N,L,y12)))) λA=>(kf aP A.h A.1.1 λz14=>(ck (dN A.1.1 (aj A.h)) (Z ((A.a,A.b,A.c,(cC A.h A.1.1 (cS z14))),J)))))))))))))))
def kQ (it:Fl) (x:Yd1×Y θ):M (Bool×Y θ):=
 (it ((ν×Int)×Y θ) _ (λA=>(bV A.1.2 2 (bT (dz 0 A.1.2&&gF A.1.2 2) (lt (geti ((.sl aP)) [x.1.g,x.1.p] A.1.2) λN=>(it ((ν×Int)×Y θ) _ (λz=>(bV z.1.2 (bc N) (bW aP N z.1.2 λL=>(jn (bV L 0 (aI (((z.1.1.1,aS (aN z.1.1.2)),J),z.2)) (jZ (aS (aN z.1.1.2)) L (aI (((z.1.1.1,aS (aN z.1.1.2)),J),z.2)) (bT (dN L (aN z.1.1.2)) (kO z.1.1.1 z.2 (bW (.bool) (kX (T:=.bool) z.2 z.1.1.1) L λz6=>(aI (((z.1.1.1,aS (aN z.1.1.2)),(!z6)),z.2))))))) λD=>(aJ D.1.2 (aI (bZ (af,D.2))) (c8 (((D.1.1.1,aS (aN D.1.1.2)),(cS z.1.2)),D.2))))) (aI (li (((z.1.1.1,aS (aN z.1.1.2)),(cS A.1.2)),z.2))))) (((A.1.1.1,aS (aN A.1.1.2)),0),A.2)))) (aI (J,A.2)))) (((x.1.1.1,aS (aN x.1.1.2)),0),x.2))
def nK (x:Yd1×Y θ):M (Bool×Y θ):=kQ @iter x
def eY (x:Yd1×Y θ):M (Bool×Y θ):=kQ @iK x
abbrev u?:=(η)×Y θ
def nQ (it:Fl) (x:x?):M ν:=
 (bV 400 (bc x.2) (Z (0,2)) (aA (ik x.1) λy1=>(aJ (!y1) (Z (0,1)) (aA (fm x.1) λy2=>(bT (dz 0 (bc x.1.c)&&dz (bc x.1.c) (bc x.1.c)&&bh (aN (bc x.1.c)) 24) (it (Int×(eu×Y gA)×kc×u?) _ (λA=>(bV A.1 (bc x.2) (bW fV x.2 A.1 λD=>(aA (lV (A.2.1.1,A.a,D)) λN=>(jn (aJ (!N.2) (aI (J,A.2.1,A.a,A.b,D,N.1,A.f)) (ck (dN D.1 (aj A.b)) (aA (eY (((D.1,aS (aN (m_ A.b D.1))),D),A.f)) λy7=>(aI ((!y7.1),A.2.1,A.a,A.b,D,N.1,y7.2))))) λz=>(aJ z.1 (aI (A.1,12)) (jn (α:=(eu×Y gA)×kc×(η)×kc×Y θ) (ck (dN z.c.1 (aj z.b)) (bm z.c.2.1 3 (kO z.c.1 z.k (bT (aB (aN (m_ z.b z.c.1)) (aj (kX (T:=.bool) z.k z.c.1))&&bh ((aN (m_ z.b z.c.1))+aj ([J]:θ)) 1) (ck (dN z.c.1 (aj z.b)) (aI (z.2.1,z.a,(oI z.b (aN z.c.1) (aS (aj ((kX (T:=.bool) z.k z.c.1)++([J]))))),z.e,(mB (T:=.bool) (mB (T:=.bool) z.k z.c.1 []) z.c.1 ((kX (T:=.bool) z.k z.c.1)++([J])))))))) (kO z.c.1 z.k (bT (aB (aN (m_ z.b z.c.1)) (aj (kX (T:=.bool) z.k z.c.1))&&bh ((aN (m_ z.b z.c.1))+aj ([(decide ((z.c.2.1:Int)=23))]:θ)) 1) (ck (dN z.c.1 (aj z.b)) (aI (z.2.1,z.a,(oI z.b (aN z.c.1) (aS (aj ((kX (T:=.bool) z.k z.c.1)++([(decide ((z.c.2.1:Int)=23))]))))),z.e,(mB (T:=.bool) (mB (T:=.bool) z.k z.c.1 []) z.c.1 ((kX (T:=.bool) z.k z.c.1)++([(decide ((z.c.2.1:Int)=23))])))))))))) λL=>(c8 ((cS A.1),L.1,L.b,L.a,L.f))))))) (aI (0,0)))) (0,x,y2,(aG (aN (bc x.1.c)) (0:Int)),(aG (aN (bc x.1.c)) ([]:θ)))))))))
def rL (x:x?):M ν:=nQ @iter x
def hZ (x:x?):M ν:=nQ @iK x
def Sp (a b:Int):fD (a,b)=Z (decide (0<=a/\a<b)):=by
 refine cI ?_;unfold fD jZ aI;with_reducible repeat' first|apply OS.ok;constructor|refine IM.mk λ_=>?_
 .by_cases h:a<b<;>simp[*,gF]
 .simp;omega
def Yt (l:η) (t:Int) (L:l! l<=1000):lI (l,t)=Z (l.contains t):=by
 refine cI ?_;unfold lI tw Ay bm bV bW bc c8 aI cS;refine aw (P:=λy:Int=>0<=y↔t∈l) ?_ λy z=>ak ?_
 .refine hY (l! l) (by omega) (λi x=>x=(i:Int)/\∀j,j<i->¬l.getD j 0=t) ?_ ?_ ⟨rfl,λj A=>by omega⟩
  .rintro i x hi ⟨rfl,D⟩;refine cU ?_;refine bF (aT (aK (λh=>ak ?_) λh=>ak ?_))
   .refine ⟨λ_=>?_,λ_=>by omega⟩;have h:t=geti aP l (i:Int):=h;rw[h];exact bK (T:=aP) (xs:=l) (by omega) (by omega)
   .refine ⟨fL,λj A=>?_⟩;have h:¬t=l.getD i 0:=h
    grind
  .rintro x ⟨rfl,D⟩;refine cO (ak ?_);refine ⟨λg=>(by omega),λg=>?_⟩;let⟨j,A,e⟩:=List.getElem_of_mem g
   grind
 .by_cases h:t∈l
  .have:=z.2 h;simp[dz,h,this]
  .have:¬0<=y:=λg=>h (z.1 g)
   simp[dz,h,this]
def as0 (w:WT) (s:SY) (A:l! w.2.2.1<=1000) (z:∀c∈w.2.2.1,0<=c.2/\c.2<l! w.2.1) (L:l! s.1=l! w.2.1) (e2:l! s.2.2.1=l! w.2.2.2.1) (D:l! s.2.2.2=l! w.2.2.2.2.1):lB (w,s)=Z J:=by
 refine cI ?_;unfold lB vB bk bB bP dQ bV jY bW bc c8 aI cS;refine aV (λx=>x=(af,w)) ?_ ?_
 .refine cj (λh=>(h (by grind)).elim) λ_=>cj (λh=>(h (by grind)).elim) λ_=>ak ?_
  grind
 rintro x rfl;refine kg (hY (l! w.2.2.1) (by omega) (λi x=>x=((i:Int),w)) ?_ ?_ rfl)
 .rintro i x hi rfl;refine cU ?_;refine bF (aT (aX (Sp _ _) (cj (λh=>(h ?_).elim) λ_=>ak ?_)))
  .exact z _ (bK (T:=itK) (xs:=w.2.2.1) (j:=(i:Int)) (by omega) (by omega))
  .rw[fL]
 .rintro x rfl;exact cO (ak rfl)
def akw (w:WT) (k o:Int) (h:NM w k o):m6 (w,k,o)=Z J:=by
 refine cI ?_;let⟨k1,k2,L,lk,cn,th,D,no,z,rw_⟩:=h;unfold m6 bk bB bP cP bm bW bc aI;cases kdI k
 case no A _=>omega
 all_goals simp only[c7,eC,Rg,Sp]
 all_goals with_reducible repeat' first|apply OS.ok;constructor|refine IM.mk λ_=>?_
 all_goals try simp[ay,tY] at*
 all_goals first|omega|exact rw_ ⟨by decide,by decide⟩|(simp [*,Pq,decide_true];done)
variable {i:Nat}
def asn (w:WT) (s:SY) (hs:SB i s) (hn:i<=1000) (t k o:Int) (he:EN w s t k o) (hr:UQ w s t k o):pS (w,s,t,k,o)=Z J:=by
 refine cI ?_;let⟨nm,L,t1,cd,e1,e2,e3⟩:=id he;let⟨_,_,ce,lk,cn,th,fu,no,mu,rw_⟩:=nm;let⟨_,_,_,A,wr,ra,rl,rr,xb,xe,ab,ae,nt,sp,N,se,ge⟩:=hr;have hm:16<=k/\k<=19->0<=(geti itK w.2.2.1 o).2/\(geti itK w.2.2.1 o).2<l! w.2.1:=λh=>cd _ (bK (cn h).1 (cn h).2)
 have hH:6<=k/\k<=11->lI ((geti em s.1 o).2,t)=Z ((geti em s.1 o).2.contains t):=λh=>Yt _ _ (by
  have:=hs.rd _ (bK (T:=em) (lk h).1 (by grind));omega)
 have lk1:6<=k/\k<=11->0<=o/\o<(l! s.1:Int):=λh=>by grind
 have D:t<(l! s.2.2.2:Int):=by omega
 have fu1:k=22\/k=23->0<=o/\o<(l! s.2.2.1:Int):=λh=>by have:=fu h;omega
 have th1:k=20\/k=21->0<=o/\o<(l! s.2.2.2:Int):=λh=>by have:=th h;omega
 have tr:∀{p:Prop} [Decidable p],p->decide p=J:=λh=>a8 h
 unfold pS bk bB bP dQ ef bm jY bW bc aI;refine aK (λh=>?_) λn6=>?_
 .have h:k=6:=h;exact aR (lk1 (by omega)).1 (lk1 (by omega)).2 (aT (ak (tr (A (.inl h)))))
 refine aK (λh=>?_) λn10=>?_
 .have h:k=10:=h;refine gQ (aR (lk1 (by omega)).1 (lk1 (by omega)).2 (aT (aK (λ_=>?_) λg=>(g (A (.inr (.inr h)))).elim)));refine aR (lk1 (by omega)).1 (lk1 (by omega)).2 (aT (ak (ak (tr ?_))))
  grind
 refine aK (λh=>?_) λn8=>?_
 .have h:k=8:=h;refine gQ (aR (lk1 (by omega)).1 (lk1 (by omega)).2 (aT (aK (λ_=>?_) λg=>(g (A (.inr (.inl h)))).elim)));refine aR (lk1 (by omega)).1 (lk1 (by omega)).2 (aT (aX (hH (by omega)) (ak (ak ?_))));rw[ra h];rfl
 refine aV (λx=>x.2=(w,s)/\(x.1=J↔k=7\/k=11)) (aK (λh=>ak ⟨rfl,λ_=>.inl h,λ_=>tr h⟩) λh=>ak ⟨rfl,λz=>.inr (bJ z),λz=>tr (z.resolve_left h)⟩) ?_;rintro⟨b,x⟩ ⟨e,hb⟩;dsimp only at e hb;subst e;refine aQ (λh=>?_) λ_=>?_
 .have h:=hb.1 h;exact aR (lk1 (by omega)).1 (lk1 (by omega)).2 (aT (ak (tr (rl h))))
 refine aK (λh=>?_) λn9=>?_
 .have h:k=9:=h;refine aR (lk1 (by omega)).1 (lk1 (by omega)).2 (aT (aX (hH (by omega)) (ak (rr h))))
 refine aK (λh=>ak (tr (xb h))) λ_=>aK (λh=>ak (tr (xe h))) λ_=>?_
 refine aK (λh=>aR L D (aT (ak (by grind)))) λ_=>aK (λh=>aR L D (aT (ak (ae h)))) λ_=>?_
 refine aV (λx=>x.2=(w,s)/\(x.1=J->k=16\/k=18\/k=19)) (aK (λh=>ak ⟨rfl,λ_=>.inl h⟩) λ_=>aK (λh=>ak ⟨rfl,λ_=>.inr (.inl h)⟩) λ_=>ak ⟨rfl,λh=>.inr (.inr (bJ h))⟩) ?_;rintro⟨c,x⟩ ⟨e,hc⟩;dsimp only at e hc;subst e;refine aQ (λh=>?_) λ_=>?_
 .have h:=hc h;have hq:=hm (by omega);exact aR (cn (by omega)).1 (cn (by omega)).2 (aT (aR hq.1 (by grind) (aT (ak (tr (nt h))))))
 refine aK (λh=>?_) λ_=>?_
 .have h:k=20:=h;exact gQ (cj (λ_=>aR (th1 (.inl h)).1 (th1 (.inl h)).2 (aT (ak (ak (tr (sp h).2))))) λg=>((sp h).1 g).elim)
 refine aK (λh=>?_) λ_=>?_
 .have h:k=21:=h;exact gQ (cj (λ_=>aR (th1 (.inr h)).1 (th1 (.inr h)).2 (aT (ak (ak (tr (N h).2))))) λg=>((N h).1 g).elim)
 refine aK (λh=>aR (fu1 (.inl h)).1 (fu1 (.inl h)).2 (aT (ak (by grind)))) λ_=>aK (λh=>aR (fu1 (.inr h)).1 (fu1 (.inr h)).2 (aT (ak (ge h)))) λ_=>ak rfl
def Hu (w:WT) (s:SY) (hs:SB i s) (hn:i<=1000) (hw:l! w.2.2.1<=1000) (t k o:Int) (he:EN w s t k o) (z:UQ w s t k o):k_ (w,s,t,k,o)=Z J:=by
 refine cI ?_;let⟨nm,D,t1,cd,e1,e2,e3⟩:=id he;have hrd:=asn w s hs hn t k o he z;have t2:t<(l! s.2.2.2:Int):=by omega
 refine aV (λx=>x=(af,w,s)) ?_ ?_
 .refine aX (as0 w s hw cd e1 e2 e3) (jI rfl (aX (Sp _ _) ?_));refine cj (λh=>(h ⟨D,t1⟩).elim) λ_=>aX (akw w k o nm) (ak rfl)
 rintro x rfl;refine kg (aR D t2 (aT ?_));refine aK (λh=>ak (a8 (z.b h))) λn1=>?_
 refine aK (λh=>?_) λA=>?_
 .have h:k=17:=h;let⟨a1,a2,a3⟩:=z.wk h;let⟨N,L⟩:=nm.cd (by omega);have hq:=cd _ (bK (T:=itK) (xs:=w.2.2.1) (j:=o) N L);refine gQ (aK (λ_=>aK (λ_=>?_) λg=>(g a2).elim) λg=>(g a1).elim);exact aR N L (aT (aR hq.1 (by grind) (aT (ak (ak (a8 a3))))))
 refine gQ (aK (λ_=>aX hrd (ak (ak rfl))) λg=>(g (z.r n1 A)).elim)
def an0 (w:WT) (e:ET) (h1:e.2.1=1\/e.2.1=2->e.2.2.2.2.1= -1) (z:¬(e.2.1=1\/e.2.1=2)->0<=e.2.2.2.2.1/\e.2.2.2.2.1<l! w.2.2.2.2.2/\(geti pW w.2.2.2.2.2 e.2.2.2.2.1).1=e.1):mE (w,e)=Z J:=by
 refine cI ?_;refine aV (λx=>x.2=(w,e)/\(x.1=J↔e.2.1=1\/e.2.1=2)) (aK (λh=>ak ⟨rfl,λ_=>.inl h,λ_=>rfl⟩) λh=>ak ⟨rfl,λz=>.inr (bJ z),λz=>a8 (z.resolve_left h)⟩) ?_;rintro⟨b,x⟩ ⟨D,A⟩;subst D;refine aQ (λh=>ak (a8 (h1 (A.1 h)))) λh=>?_
 let⟨a1,N,L⟩:=z λg=>by grind
 exact gQ (eh (λ_=>cU (aR a1 N (aT (ak (ak (a8 L)))))) λg=>(by grind))
def akt (h:Lg z) (i:Nat) (hi:i<l! z):∀l∈z.drop (i+1),z.getD i 0<l:=by
 induction z generalizing i with
 |nil=>cases hi
 |cons a z A=>
  cases i with
  |zero=>exact λl D=>h.1 l (by grind)
  |succ i=>exact A h.2 i (by grind)
def Xb (w:WT) (s:SN) (e:ET) (ce:e.2.1=3\/e.2.1=4->0<=e.2.2.1/\e.2.2.1<l! w.1) (de:0<l! e.2.2.2.2.2.1->e.2.1=5\/(e.2.1=3\/e.2.1=4)/\¬(geti lL w.1 e.2.2.1).2.2.1=0) (fr:0<l! e.2.2.2.2.2.2->e.2.1=4\/e.2.1=22) (t0:0<=e.1) (t1:e.1<l! s.2.2.2) (nd:AN (geti aP s.2.2.2 e.1) e.2.2.2.2.2.1) (nf:AN (geti aP s.2.2.2 e.1) e.2.2.2.2.2.2) (ld:l! e.2.2.2.2.2.1<=1000000) (lf:l! e.2.2.2.2.2.2<=1000000):gd (w,s,e)=Z J:=by
 refine cI ?_;refine aV (λx=>x.2=(s,e)/\((e.2.1=3\/e.2.1=4)/\¬(geti lL w.1 e.2.2.1).2.2.1=0->x.1=J)) ?_ ?_
 .refine aK (λh=>?_) λn3=>aK (λh=>?_) λn4=>?_
  .exact aR (ce (.inl h)).1 (ce (.inl h)).2 (aT (ak ⟨rfl,λg=>by simpa using g.2⟩))
  .exact aR (ce (.inr h)).1 (ce (.inr h)).2 (aT (ak ⟨rfl,λg=>by simpa using g.2⟩))
  .exact ak ⟨rfl,λg=>(g.1.elim n3 n4).elim⟩
 rintro⟨b,x⟩ ⟨L,hb⟩;dsimp only at L hb;subst L;refine aV (λx=>x.1=s/\x.2.1=e/\(0<l! e.2.2.2.2.2.1->x.2.2.1=J)/\(0<l! e.2.2.2.2.2.2->x.2.2.2=J)) ?_ ?_
 .refine aK (λh5=>aK (λh4=>ak ⟨rfl,rfl,λ_=>rfl,λ_=>rfl⟩) λh4=>ak ⟨rfl,rfl,λ_=>rfl,λg=>?_⟩) λh5=>aK (λh4=>ak ⟨rfl,rfl,λg=>?_,λ_=>rfl⟩) λh4=>ak ⟨rfl,rfl,λg=>?_,λg=>?_⟩
  .grind
  .grind
  .grind
  .grind
 rintro⟨s',e',a,b'⟩ ⟨L,e2,h1,h2⟩;dsimp only at L e2 h1 h2;subst L e2;have key:∀(r:η),l! r<=1000000->AN (geti aP s'.2.2.2 e'.1) r->∀j:Nat,j<l! r->∀z∈r.drop (j+1),geti aP r (j:Int)<z:=λr _ h j N z hz=>akt h.a j N z hz
 refine hY 2 (by omega) (λi x=>x=((i:Int),s',e',a,b')) ?_ ?_ rfl
 .rintro i x hi rfl;refine cU ?_;refine cE (dh (by simp) (Db (by omega) (aT ?_)));have hr:∃r:η,geti (.sl (.int .i64)) [e'.2.2.2.2.2.1,e'.2.2.2.2.2.2] (i:Int)=r/\AN (geti aP s'.2.2.2 e'.1) r/\l! r<=1000000/\(0<l! r->geti (.bool) [a,b'] (i:Int)=J):=by
   match i,hi with
   |0,_=>exact⟨_,rfl,nd,ld,h1⟩
   |1,_=>exact⟨_,rfl,nf,lf,h2⟩
  let⟨r,er,hA,hl,hb'⟩:=hr;have er':geti (.sl aP) [e'.2.2.2.2.2.1,e'.2.2.2.2.2.2] (i:Int)=r:=er;dsimp only at er' ⊢;rw[er'];refine aV (λx=>x=(af,s',e',a,b')) ?_ ?_
  .refine bQ (λg=>?_) λ_=>ak rfl
   have g':0<l! r:=by grind
   refine cE (a? (Db (by omega) (bF (aT (ak ?_)))));rw[hb' g'];rfl
  rintro x rfl;refine kg ?_;refine hY (l! r) (by omega) (λj x=>x.1.2=(j:Int)/\x.2=(s',e',a,b')/\∀z∈r.drop j,x.1.1<z) ?_ ?_ ⟨rfl,rfl,λz hz=>?_⟩
  .rintro j ⟨⟨la,ix⟩,x⟩ N ⟨D,A,g3⟩;dsimp only at D A g3;subst D A;have m:geti aP r (j:Int)∈r:=bK (T:=aP) (xs:=r) (by omega) (by omega);have m2:geti aP r (j:Int)∈r.drop j:=by
    have:geti aP r (j:Int)=r[j]:=by
     show r.getD j 0=_
     grind
    rw[this,Q4 N];exact dk
   refine cU ?_;refine bF (aT (aV (λx=>x=(af,s',e',a,b')) ?_ ?_))
   .refine eh (λg=>?_) λ_=>aR t0 t1 (aT (ak ?_))
    .grind
    .have:=(hA.m _ m).2;rw[m8.2 (show geti aP r (j:Int)<geti aP s'.2.2.2 e'.1 from this)]
   rintro x rfl;exact kg (ak ⟨fL,rfl,key r hl hA j N⟩)
  .rintro⟨⟨la,ix⟩,x⟩ ⟨D,A,_⟩;dsimp only at D A;subst D A;exact cO (ak (e_ (·,s',e',a,b') fL))
  .have:=(hA.m z (by grind)).1;dsimp only;omega
 .rintro x rfl;exact cO (ak rfl)
def ax7 (w:WT) (s:SN) (z:l! w.2.2.1<=1000) (t k o:Int) (he:EN w s.1 t k o) (hf:F16 w s):lU (w,s)=Z J:=by
 let⟨_,_,_,L,D,e2,A⟩:=he;let⟨f1,N,f3⟩:=hf;refine cI ?_;unfold lU bk bB bP dQ bm bc aI;refine gQ (aX (as0 w s.1 z L D e2 A) (FU (aK (λ_=>aK (λ_=>ak (ak (a8 ?_))) λg=>(g ?_).elim) λg=>(g ?_).elim)));all_goals dsimp [ay];omega
def Lo (th:Y e!) (c:Int) (i:Nat):wl th c (i+1)=if Py c (geti iD th (i:Int)) then wl th c i++[(i:Int)] else wl th c i:=rfl
def amg (w:WT) (s:SN) (hs:SB i s.1) (e:ET) (hf:F16 w s) (he:EN w s.1 e.1 e.2.1 e.2.2.1) (va:VA w s.1 s.2.1 s.2.2.1 e.1 e.2.1 e.2.2.1 e.2.2.2.1):gK (s,e)=Z J:=by
 refine cI ?_;let⟨t,k,o,v,si,de,fr⟩:=e;let⟨z,s2,s3,s4⟩:=s;let⟨nm,t0,t1,cd,e1,e2,e3⟩:=he;let⟨_,_,ce,lk,cn,th,fu,_,_,_⟩:=nm;let⟨f1,f2,f3⟩:=hf;have hth:=hs.th;let⟨v3,v23,v5,vel⟩:=va;dsimp only at*
 unfold gK mJ bk bB bP cP c_ bm bV bW bc c8 aI cS;refine aK (λh=>?_) λn3=>?_
 .have h:k=3:=h;let⟨c0,c1⟩:=ce (.inl h);exact aR c0 (by rw[f1];exact c1) (aT (ak (a8 (v3 h))))
 refine aK (λh=>?_) λn23=>?_
 .have h:k=23:=h;let⟨c0,c1⟩:=fu (.inr h);exact aR c0 (by rw[f2];exact c1) (aT (ak (a8 (v23 h))))
 refine aK (λh=>?_) λn5=>?_
 .have h:k=5:=h;exact gQ (aK (λ_=>ak (ak rfl)) λg=>ak (ak (a8 ((v5 h).resolve_left g))))
 refine aV (λx=>x.2=((z,s2,s3,s4),t,k,o,v,si,de,fr)/\(x.1=af->¬k=4/\¬k=22)) (aK (λh=>ak ⟨rfl,λh2=>(by rw[a8 h]at h2;cases h2)⟩) λh=>ak ⟨rfl,λh2=>⟨h,YA h2⟩⟩) ?_;rintro⟨b,x⟩ ⟨e,hb⟩;dsimp only at e hb;subst e;refine aQ (λh=>ak rfl) λh=>?_
 let⟨n4,n22⟩:=hb h;have vel:=vel n3 n23 n5 n4 n22;have hWl:=xP z.2.2.2 o (l! z.2.2.2);refine aK (λh=>?_) λn18=>?_
 .have h:k=18:=h;subst h;rw[Fk]at vel;refine hY (l! z.2.2.2) (by omega) (λn x=>x.1.2.2=(n:Int)/\x.2=(t,18,o,v,si,de,fr)/\x.1.1=(l! (wl z.2.2.2 o n):Int)/\(x.1.2.1=J↔v∈wl z.2.2.2 o n)) ?_ ?_ ⟨rfl,rfl,rfl,by simp[wl]⟩
  .rintro n ⟨⟨c,hit,ix⟩,x⟩ hi ⟨D,A,L,N⟩;dsimp only at D A L N;subst D A L;have hl:=xP z.2.2.2 o n;refine cU ?_;refine aV (λx=>x.2=(t,18,o,v,si,de,fr)/\x.1.1=(l! (wl z.2.2.2 o (n+1)):Int)/\(x.1.2=J↔v∈wl z.2.2.2 o (n+1))) ?_ ?_
   .refine bF (aT (aV (λx=>x=(Py o (geti iD z.2.2.2 (n:Int)),t,18,o,v,si,de,fr)) ?_ ?_))
    .unfold Py;refine aK (λh=>ak ?_) λh=>ak ?_
     .dsimp only at h ⊢;rw[h];rfl
     .dsimp only at h ⊢;rw[dm h];rfl
    rintro x rfl;rw[Lo];dsimp only;cases hw:Py o (geti iD z.2.2.2 (n:Int)) with
    |true=>
     refine FU (aQ (λh=>ak ⟨rfl,?_,?_⟩) λh=>ak ⟨rfl,?_,?_⟩)
     .dsimp only;rw[fL];simp
     .simp[N.1 h]
     .dsimp only;rw[fL];simp
     .have:¬v∈wl z.2.2.2 o n:=λg=>by rw[N.2 g]at h;cases h
      simp[this]
    |false=>exact kg (ak ⟨rfl,rfl,N⟩)
   rintro⟨⟨c,hit'⟩,x⟩ ⟨D,A,L⟩;dsimp only at D A L;subst D A;exact ak ⟨fL,rfl,rfl,L⟩
  .rintro⟨⟨c,hit,ix⟩,x⟩ ⟨D,A,L,N⟩;dsimp only at D A L N;subst D A L;refine cO (aw (P:=λy=>y=J) (gQ (aQ (λ_=>ak (ak rfl)) λh=>?_)) λy hy=>ak hy);have hn:¬v∈wl z.2.2.2 o (l! z.2.2.2):=λg=>by rw[N.2 g]at h;cases h
   by_cases h0:l! (wl z.2.2.2 o (l! z.2.2.2))=0
   .rw[aF h0]at vel;refine aK (λ_=>ak (ak (a8 vel))) λg=>(g (by dsimp only;omega)).elim
   .rw[ax h0]at vel;have vel:v=Ew (wl z.2.2.2 o (l! z.2.2.2)) v:=vel;exact (hn (vel▸LN v h0)).elim
 refine aK (λh=>?_) λn19=>?_
 .have h:k=19:=h;subst h;rw[atl]at vel;refine hY (l! z.2.2.2) (by omega) (λn x=>x.1.2=(n:Int)/\x.2=(t,19,o,v,si,de,fr)/\x.1.1=(l! (wl z.2.2.2 o n):Int)) ?_ ?_ ⟨rfl,rfl,rfl⟩
  .rintro n ⟨⟨c,ix⟩,x⟩ hi ⟨D,A,L⟩;dsimp only at D A L;subst D A L;have hl:=xP z.2.2.2 o n;refine cU ?_;refine aV (λx=>x.2=(t,19,o,v,si,de,fr)/\x.1=(l! (wl z.2.2.2 o (n+1)):Int)) ?_ ?_
   .refine bF (aT (aV (λx=>x=(Py o (geti iD z.2.2.2 (n:Int)),t,19,o,v,si,de,fr)) ?_ ?_))
    .unfold Py;refine aK (λh=>ak ?_) λh=>ak ?_
     .dsimp only at h ⊢;rw[h];rfl
     .dsimp only at h ⊢;rw[dm h];rfl
    rintro x rfl;rw[Lo];dsimp only;cases hw:Py o (geti iD z.2.2.2 (n:Int)) with
    |true=>
     refine FU (ak ⟨rfl,?_⟩);dsimp only;rw[fL];simp
    |false=>exact kg (ak ⟨rfl,rfl⟩)
   rintro⟨c,x⟩ ⟨D,A⟩;dsimp only at D A;subst D A;exact ak ⟨fL,rfl,rfl⟩
  .rintro⟨⟨c,ix⟩,x⟩ ⟨D,A,L⟩;dsimp only at D A L;subst D A L;exact cO (ak (a8 vel))
 exact ak (a8 (by rw[arb _ _ _ _ _ _ n18 n19]at vel;exact vel))
def ah7 (x:e!) (c:Int):nE (x,c)=Z (Py c x):=by
 refine cI ?_;unfold nE Py bm aI;refine gQ (aK (λh=>ak (ak ?_)) λh=>ak (ak ?_))
 .grind
 .grind
def aki (s:SY) (A:SB i s):lH s=Z (s.2.1,s.1,s.2.2.1,s.2.2.2):=by
 refine cI ?_;let⟨z,N,L,D⟩:=s;have hn:=A.n1;have hlk:=A.lk;have hdn:=A.dn;have hth:=A.th;have hrd:=A.rd;dsimp only at hlk hdn hth hrd;unfold lH tP bk c_ ck bV bT bW bc c8 cS;dsimp [ay];refine cE (cE (a? (a? (a! ?_))));refine hY (l! z) (by omega) (λn x=>∃c d,x=((n:Int),(z,N,L,D),c,d)/\l! d=l! z/\∀j,j<n->d.getD j (0,[])=z.getD j (0,[])) ?_ ?_ ⟨_,_,rfl,by simp,λj hj=>by omega⟩
 .rintro n x hi ⟨c,d,rfl,hd,he⟩;have hr:=hrd _ (bK (T:=em) (xs:=z) (j:=(n:Int)) (by omega) (by omega));refine cU ?_;refine bF (aT (aX (x:=(geti em z (n:Int)).2) (cI ?_) ?_))
  .exact bG (by grind) (by omega) (ak rfl)
  refine bF (bF (ak ⟨c,d.set n (geti em z (n:Int)),?_,by simp[hd],λj hj=>?_⟩))
  .rw[fL];rfl
  .by_cases e:n=j
   .subst e;rw[aE,List.getElem?_set_self (by omega)];rfl
   .grind
 .rintro x ⟨c,d,rfl,hd,he⟩;have:d=z:=by
   refine sI hd λj g1 g2=>?_
   grind
  subst this;refine cO (aw (P:=λy=>y=(N,d,L,D)) ?_ λy hy=>ak hy);refine aX (x:=L) (cI (bG (by grind) (by omega) (ak rfl))) (aX (x:=D) (cI (bG (by grind) (by omega) (ak rfl))) (ak rfl))
def ad2 (l:η) (i u:Int):Ew (l++[i]) u=if (l! l)=0 then i else if i=u then i else Ew l u:=by
 unfold Ew;cases l with
 |nil=>
  by_cases h:u=i
  .subst h;simp
  .simp[h];rfl
 |cons a r=>
  have z:¬l! (a::r++[i])=0:=by simp
  have e2:¬l! (a::r)=0:=by simp
  by_cases h:i=u
  .subst h;simp
  .have h':¬u=i:=λg=>h g.symm
   rw[ax h];have:(a::r++[i]).contains u=(a::r).contains u:=by simp[h']
   rw[this];rfl
variable {N:Y (Int×Int×Bool)}
def LM {u:Int} (h:¬l! (wl N a i)=0):0<=Ew (wl N a i) u/\Ew (wl N a i) u<i:=by
 have:=sU.1 (LN u h);exact⟨this.1,this.2.1⟩
def OP {u:Int} (h:l! z=0):Ew z u= -1:=by unfold Ew;rw[aF h]
def an8 (s:SY) (o u:Int) (hs:l! s.2.2.2<=1000):kD ((s.2.1,o,u),s.1,s.2.2.1,s.2.2.2)=Z (Ew (wl s.2.2.2 o (l! s.2.2.2)) u,s.1,s.2.2.1,if (l! (wl s.2.2.2 o (l! s.2.2.2)))=0 then s.2.2.2 else AX s.2.2.2 (Ew (wl s.2.2.2 o (l! s.2.2.2)) u) 4):=by
 refine cI ?_;let⟨D,L,A,z⟩:=s;dsimp only at hs ⊢;unfold kD sr bk bB c_ ck bV jZ kf bc c8 aI cS;refine hY (l! z) (by omega) (λi x=>x=((Ew (wl z o i) u,(i:Int)),D,A,z,L)) ?_ ?_ rfl
 .rintro i x hi rfl;refine cU ?_;refine aV (λx=>x=(Ew (wl z o (i+1)) u,D,A,z,L)) ?_ ?_
  .refine bF (bF (aT ?_));refine aV (λx=>x=(decide (Py o (geti iD z (i:Int))=J/\(l! (wl z o i)=0\/(i:Int)=u)),D,A,z,L)) ?_ ?_
   .refine aX (ah7 _ _) (aQ (λh=>?_) λh=>ak ?_)
    .have h:Py o (geti iD z (i:Int))=J:=h;refine bQ (λg=>ak ?_) λg=>ak ?_
     .have:l! (wl z o i)=0:=xO λq=>by have:=(LM (u:=u) q).1;dsimp only at g;omega
      simp[h,this]
     .have:¬l! (wl z o i)=0:=λq=>by have:=OP (u:=u) q;dsimp only at g;omega
      simp[h,this]
    .grind
   rintro x rfl;rw[Lo];refine aK (λh=>ak ?_) λh=>ak ?_
   .rw[aF h.1,ad2]
    grind
   .by_cases g:Py o (geti iD z (i:Int))=J
    .rw[aF g,ad2,ax λq=>h ⟨g,.inl q⟩,ax λq=>h ⟨g,.inr q⟩]
    .rw[ax g]
  rintro x rfl;exact ak (by dsimp only;rw[fL])
 .rintro x rfl;refine cO (aw (P:=λy=>y=(Ew (wl z o (l! z)) u,D,A,if (l! (wl z o (l! z)))=0 then z else AX z (Ew (wl z o (l! z)) u) 4)) ?_ λy N=>ak N);refine aV (λx=>x=(D,A,if (l! (wl z o (l! z)))=0 then z else AX z (Ew (wl z o (l! z)) u) 4)) ?_ ?_
  .refine eh (λg=>?_) λg=>ak ?_
   .have h0:¬l! (wl z o (l! z))=0:=λq=>by have:=OP (u:=u) q;dsimp only at g;omega
    have hp:=LM (u:=u) h0;refine aR hp.1 hp.2 (aR hp.1 hp.2 (ak ?_));rw[ax h0];rfl
   .have:l! (wl z o (l! z))=0:=xO λq=>by have:=(LM (u:=u) q).1;dsimp only at g;omega
    rw[aF this]
  rintro x rfl;exact ak rfl
def ane (th:Y e!) (l:η) (i:Int):FZ th (l++[i])=AX (FZ th l) i 4:=by unfold FZ;rw[eZ];rfl
def and (l:η):∀(th:Y e!) (j:Int),0<=j->(∀z∈l,0<=z/\z<l! th/\¬z=j)->geti iD (FZ th l) j=geti iD th j:=by
 induction l with
 |nil=>intro th j _ _;rfl
 |cons x r L=>
  intro th j D h;have A:=h x (by simp);refine (L (AX th x 4) j D λz N=>?_).trans ?_
  .have:=h z (by grind);unfold AX;rw[bX];exact this
  .unfold AX;rw[jK (T:=iD) th x j _ A.1 A.2.1 D,ax λq=>A.2.2 q.symm]
def Y2 (s:SY) (o:Int) (hs:l! s.2.2.2<=1000):h_ ((s.2.1,o),s.1,s.2.2.1,s.2.2.2)=Z ((l! (wl s.2.2.2 o (l! s.2.2.2)):Int),s.1,s.2.2.1,FZ s.2.2.2 (wl s.2.2.2 o (l! s.2.2.2))):=by
 refine cI ?_;let⟨N,L,D,A⟩:=s;dsimp only at hs ⊢;unfold h_ nU bk bB c_ dQ ck bV kf bc c8 aI cS;refine hY (l! A) (by omega) (λi x=>x=(((l! (wl A o i):Int),(i:Int)),N,D,FZ A (wl A o i),L)) ?_ ?_ rfl
 .rintro i x hi rfl;have hl:=xP A o i;have hg:geti iD (FZ A (wl A o i)) (i:Int)=geti iD A (i:Int):=and _ _ _ (by omega) λz hz=>by have:=sU.1 hz;exact⟨this.1,by omega,by omega⟩
  have hq:=LC (wl A o i) A;refine cU ?_;refine aV (λx=>x=((l! (wl A o (i+1)):Int),N,D,FZ A (wl A o (i+1)),L)) ?_ ?_
  .refine bF (bF (aT (aX (ah7 _ _) ?_)));rw[Lo];refine aQ (λh=>?_) λh=>ak ?_
   .have h:Py o (geti iD A (i:Int))=J:=hg▸h;refine bF (bF (ak ?_));rw[aF h,ane];rw[fL];simp[bz,jX,pK];rfl
   .grind
  rintro x rfl;exact ak (by dsimp only;rw[fL])
 .rintro x rfl;exact cO (ak rfl)
def aqa (w:WT) (s:SY) (z:SB i s) (hn:i<=1000) (N:l! w.2.2.1<=1000) (t k o u:Int) (he:EN w s t k o) (hr:UQ w s t k o) (D:¬k=8) (A:¬k=9):ia (w,s,t,k,o,u)=Z ((po w s t k o u).1,(po w s t k o u).2,J):=by
 refine cI ?_;unfold ia bk bB bP cP eU c_ dQ ef iF xa ck bm bT bW kf aI;refine aX (Hu w s z hn N t k o he hr) (jI rfl (aX (aki s z) ?_));suffices hmain:Ok _ _ from aV (λx=>((x.2.2.2.1,x.2.1,x.2.2.2.2),x.1)=po w s t k o u) hmain λx L=>ak (by rw[<- L])
 obtain⟨nm,t0,t1,cd,e1,e2,e3⟩:=id he;obtain⟨_,_,ce,lk,cn,th,fu⟩:=nm;have hm:16<=k/\k<=19->0<=(geti itK w.2.2.1 o).2/\(geti itK w.2.2.1 o).2<l! w.2.1:=λh=>cd _ (bK (cn h).1 (cn h).2)
 cases kdI k
 case no hk _=>omega
 all_goals first|exact (D rfl).elim|exact (A rfl).elim|skip
 all_goals simp only[c7,eC,Rg]
 all_goals with_reducible repeat' first|apply OS.ok;constructor|refine IM.mk λ_=>?_
 all_goals try simp only[ay,tY] at*
 all_goals try rw[bX]
 all_goals first|omega|exact (hm ⟨by decide,by decide⟩).1|exact e1▸(hm ⟨by decide,by decide⟩).2|exact rfl|skip
 .refine aX (an8 s o u z.th) (bl ?_ (ak ?_))
  .have:aj (if (l! (wl s.2.2.2 o (l! s.2.2.2)))=0 then s.2.2.2 else AX s.2.2.2 (Ew (wl s.2.2.2 o (l! s.2.2.2)) u) 4)=l! s.2.2.2:=by
    split
    .rfl
    .exact bX ..
   dsimp only;rw[this];simp
  .rw[Fk];by_cases h:l! (wl s.2.2.2 o (l! s.2.2.2))=0
   .rw[aF h,aF h,OP h]
   .rw[ax h,ax h]
 .refine aX (Y2 s o z.th) (bl ?_ (ak rfl));dsimp only;rw[LC];simp
def DV:Nat->Y η
 |0=>[[]]
 |m+1=>DV m++(DV m).map ((3-(m:Int))::·)
def Rb:∀m,[]∈DV m
 |0=>by simp[DV]
 |m+1=>by simp[DV,Rb m]
def HI:∀(m:Nat) (l:η),Lg l->(∀z∈l,4-(m:Int)<=z/\z<4)->l∈DV m
 |m,[],_,_=>Rb m
 |0,a::r,_,h=>by have:=h a (by simp);omega
 |m+1,a::r,hA,h=>by
  have D:=h a (by simp);rw[DV,bO];by_cases e:a=3-(m:Int)
  .refine .inr (cu.2 ⟨r,HI m r hA.2 λz A=>?_,by rw[e]⟩);have:=h z (by grind);have:=hA.1 z A;omega
  .refine .inl (HI m (a::r) hA λz A=>?_);have:=h z A;rcases a_.1 A with rfl|A
   .omega
   .have:=hA.1 z A;omega
def aqi (h:Lg z) (D:∀l∈z,0<=l/\l<4):z∈DV 4:=HI 4 z h λl A=>by have:=D l A;omega
def in4:η:=[0,1,2,3]
def acb (h0:0<=a) (h1:a<4):a∈in4:=by
 have:a=0\/a=1\/a=2\/a=3:=by omega
 rcases this with rfl|rfl|rfl|rfl<;>simp[in4]
def awg (l:η) (t:Int):Bool:=l.contains t||((yM (l++[t])==Z (yn l [t]))&&(mH (yn l [t])==Z (yn l [t]))&&aB (l! (yn l [t])) (l! (l++[t])))
def axa (l:η) (t:Int):Bool:= !l.contains t||(jP (l,t)==Z (t,wo l t))
def amk:((DV 4).all λl=>in4.all λt=>awg l t)=J:=by kernel_rfl
def aof:((DV 4).all λl=>in4.all λt=>axa l t)=J:=by kernel_rfl
def srt8 (h:Lg z) (A:∀l∈z,0<=l/\l<4) (h0:0<=a) (h1:a<4) (D:¬a∈z):yM (z++[a])=Z (yn z [a])/\mH (yn z [a])=Z (yn z [a])/\l! (yn z [a])=l! (z++[a]):=by
 have:=iH.1 (iH.1 amk z (aqi h A)) a (acb h0 h1);unfold awg at this;simp_all
def del8 (h:Lg z) (A:∀l∈z,0<=l/\l<4) (h0:0<=a) (h1:a<4) (D:z.contains a=J):jP (z,a)=Z (a,wo z a):=by
 have:=iH.1 (iH.1 aof z (aqi h A)) a (acb h0 h1);unfold axa at this
 grind
def aoo (N L D:Int) (r0 A z:η) (h:Int) (d:θ) (th:Y e!) (h0:l! r0<=1000) (h1:l! A<=1000) (h2:l! z<=1000) (hd:l! d<=1000) (ht:l! th<=1000):rZ ([(N,r0),(L,A),(D,z)],h,d,th)=Z ((h,d,th),(N,L,D),r0,A,z):=by
 refine cI ?_;have cl:∀l:η,l! l<=1000->vx l=Z l:=λl hl=>cI (a! (ak rfl))
 refine bl rfl (aV (λx=>x=(([(N,r0),(L,A),(D,z)],h,d,th),0,(N,L,D),r0,A,z)) ?_ ?_)
 .exact qU rfl (bl rfl (aT (aX (cl _ h0) (qU rfl (bl rfl (aT (aX (cl _ h1) (qU rfl (bl rfl (aT (aX (cl _ h2) (jI rfl (ak rfl)))))))))))))
 rintro x rfl;refine aX (x:=d) (cI (bG (by grind) (by omega) (ak rfl))) (aX (x:=th) (cI (bG (by grind) (by omega) (ak rfl))) (ak rfl))
def aqb (w:WT) (s:SY) (z:SB i s) (N:i<=1000) (D:l! w.2.2.1<=1000) (t k o u:Int) (he:EN w s t k o) (L:UQ w s t k o) (hk:k=8\/k=9):ia (w,s,t,k,o,u)=U:=by
 have h1:=Hu w s z N D t k o he L;have A:=aki s z;rcases hk with rfl|rfl
 .unfold ia bk bB bP cP eU c_ dQ ef iF xa ck bm bT bW kf aI;simp[h1,A,c7,eC,Rg];cases dN o (aj s.1)<;>rfl
 .unfold ia bk bB bP cP eU c_ dQ ef iF xa ck bm bT bW kf aI;simp[h1,A,c7,eC,Rg];cases dN o (aj s.1)<;>rfl
def aq9 (w:WT) (s:SY) (L:SB i s) (hn:i<=900) (hw:l! w.2.2.1<=1000) (t k u:Int) (he:EN w s t k 2) (hr:UQ w s t k 2) (hk:k=8\/k=9) (h3:l! s.1=3) (hA:Lg (geti em s.1 2).2) (h4:∀z∈(geti em s.1 2).2,0<=z/\z<4) (t4:t<4):l8 (w,s,t,k,2,u)=Z ((po w s t k 2 u).1,(po w s t k 2 u).2,J):=by
 have h1:=Hu w s L (by omega) hw t k 2 he hr;have t0:=he.t0;have ra:=hr.ra;have rr:=hr.rr;have hrd:=L.rd;have hdn:=L.dn;have hth:=L.th;let⟨s1,h,d,th⟩:=s
 match s1,h3 with
 |[(a0,r0),(a1,D),(N,A)],_=>
  have g0:l! r0<=i:=hrd (a0,r0) (by simp);have g1:l! D<=i:=hrd (a1,D) (by simp);have g2:l! A<=i:=hrd (N,A) (by simp);have hA:Lg A:=hA;have hc:=aoo a0 a1 N r0 D A h d th (by omega) (by omega) (by omega) hdn hth;refine cI ?_;unfold l8 bk bB bP cP eU kJ dQ ef iF Lj bm kO bT aI;rcases hk with rfl|rfl
  .have ra:A.contains t=af:=ra rfl;let⟨q1,q2,q3⟩:=srt8 hA h4 t0 t4 (by grind);simp[h1,hc,c7,eC,Rg];refine aV (λx=>x=(0,(h,d,th),0,(((a0,r0),(a1,D),N)),J,yn A [t])) ?_ ?_
   .refine bG (by grind) (by omega) (aX q1 (bl ?_ (aX q2 (bl ?_ (ak ?_)))))
    .rw[q3];simp
    .simp
    .rfl
   rintro x rfl;exact ak rfl
  .have rr:A.contains t=J:=rr rfl;have q1:=del8 hA h4 t0 t4 rr;simp[h1,hc,c7,eC,Rg];refine aV (λx=>x=(0,(h,d,th),0,(((a0,r0),(a1,D),N)),af,wo A t)) ?_ ?_
   .exact aX q1 (bl (by simp) (ak rfl))
   rintro x rfl;exact ak rfl
def avt (w:WT) (s:SY) (L:SB i s) (hn:i<=900) (D:l! w.2.2.1<=1000) (t k o u:Int) (he:EN w s t k o) (N:UQ w s t k o) (h2:k=8\/k=9->o=2) (h3:l! s.1=3) (hA:∀l∈s.1,Lg l.2/\∀z∈l.2,0<=z/\z<4) (t4:t<4):tK (w,s,t,k,o,u)=Z ((po w s t k o u).1,(po w s t k o u).2,J):=by
 unfold tK;by_cases A:k=8\/k=9
 .have:=h2 A;subst this;have hg:=hA _ (bK (T:=em) (xs:=s.1) (j:=2) (by omega) (by omega));rw[aqb w s L (by omega) D t k 2 u he N A,aq9 w s L hn D t k u he N A h3 hg.1 hg.2 t4];rfl
 .rw[aqa w s L (by omega) D t k o u he N (λh=>A (.inl h)) λh=>A (.inr h)];rfl
def ad0 (l:η) (h:l! l<=100000):BX l=Z l:=cI (a! (ak rfl))
def aoq (l:η) (h:l! l<=100000):vx l=Z l:=cI (a! (ak rfl))
def ay3 {n:Nat} (w:WT) (s:SN) (e:ET) (D:NB n s) (hn:n<=900) (hw:l! w.2.2.1<=1000) (hF:F16 w s) (N:EN w s.1 e.1 e.2.1 e.2.2.1) (hS:S16 w s e) (ld:l! e.2.2.2.2.2.1<=1000000) (lf:l! e.2.2.2.2.2.2<=1000000) (h2:e.2.1=8\/e.2.1=9->e.2.2.1=2) (h3:l! s.1.1=3) (hA:∀l∈s.1.1,Lg l.2/\∀z∈l.2,0<=z/\z<4) (t4:e.1<4):lV (w,s,e)=Z (nxP w s e,J):=by
 refine cI ?_;let⟨rd,q1,q2,de,fr,nd,nf,va⟩:=id hS;let⟨nm,L,t1,cd,e1,e2,e3⟩:=id N;let⟨k1,k2,ce,lk,cn,th,fu,_,_,_⟩:=nm;let⟨f1,f2,f3⟩:=id hF;have hsc:=D.c;have hsf:=D.f;have hsk:=D.k;refine aV (λx=>x=(af,w,s,e,0)) ?_ ?_
 .refine aX (ax7 w s hw _ _ _ N hF) (jI rfl (cO (eh (λg=>(by grind)) λ_=>cO (ak ?_))));rw[ji.2 (show e.2.1<=23 by omega)]
 rintro x rfl;refine kg (aV (λx=>x=(af,w,s,e,0)) ?_ ?_)
 .exact aX (Hu w s.1 D.sb (by omega) hw _ _ _ N rd) (jI rfl (aX (an0 w e q1 q2) (jI rfl (aX (Xb w s e (λh=>ce h) de fr L (by omega) nd nf ld lf) (jI rfl (aX (amg w s D.sb e hF N va) (ak rfl)))))))
 rintro x rfl;refine kg (aV (λx=>x.2=(w,s,e,0)/\po w s.1 e.1 e.2.1 e.2.2.1 x.1=po w s.1 e.1 e.2.1 e.2.2.1 e.2.2.2.1) ?_ ?_)
 .exact aK (λ_=>ak ⟨rfl,rfl⟩) λh=>ak ⟨rfl,adc _ _ _ _ _ _ _ h⟩
 rintro⟨u,x⟩ ⟨hx,hu⟩;dsimp only at hx hu;subst hx;refine aX (avt w s.1 D.sb hn hw _ _ _ u N rd h2 h3 hA t4) (jI rfl (aX (ad0 _ (by grind)) (aX (ad0 _ (by grind)) (aX (aoq _ (by grind)) ?_))));rw[hu];refine aV (λx=>x.1=e/\x.2.2.1=(po w s.1 e.1 e.2.1 e.2.2.1 e.2.2.2.1).1/\x.2.2.2.1=ceP s.2.1 e/\x.2.2.2.2.1=fuP s.2.2.1 e/\x.2.2.2.2.2=s.2.2.2) ?_ ?_
 .unfold ceP fuP;refine aK (λh=>?_) λh=>aK (λh'=>?_) λh'=>ak ⟨rfl,rfl,(ax h).symm,(ax h').symm,rfl⟩
  .have h:e.2.1=4:=h;have A:=ce (.inr h);exact aR A.1 (by grind) (aR A.1 (by grind) (ak ⟨rfl,rfl,(aF h).symm,(ax (by omega)).symm,rfl⟩))
  .have h:e.2.1=22:=h';have A:=fu (.inl h);exact aR A.1 (by grind) (aR A.1 (by grind) (ak ⟨rfl,rfl,(ax (by omega)).symm,(aF h).symm,rfl⟩))
 rintro⟨x1,x2,x3,x4,x5,x6⟩ ⟨h1,h2,h4,h5,h6⟩;simp only at h1 h2 h4 h5 h6;subst h1 h2 h4 h5 h6;have t2:x1.1<(l! s.2.2.2:Int):=by omega
 exact aR L t2 (aR L t2 (aT (aR L t2 (aR L t2 (ak rfl)))))
structure TP (t:η×Int):Prop where
 l0:l! t.1<=9223372036854775807
 by_:∀x∈t.1,0<=x/\x<=255
 a0:0<=t.2
 a1:t.2<=l! t.1
structure wZ (t t':η×Int):Prop where
 e:t'.1=t.1
 m:t.2<=t'.2
 p:TP t'
def wZ.refl {t:n?} (h:TP t):wZ t t:=⟨rfl,dg _,h⟩
def wZ.trans {a b c:n?} (h:wZ a b) (g:wZ b c):wZ a c:=⟨g.e.trans h.e,C6 h.m g.m,g.p⟩
def gH (n:Int) (t:n?) (h:TP t):Ok (bH (n,t)) λy=>wZ t y.2/\0<=y.1/\(1<=n->y.1<n)/\(t.2<l! t.1->1<=n->t.2<y.2.2):=by
 let⟨L,a⟩:=t;have hT:=h;let⟨l0,D,N,a1⟩:=h;dsimp only at l0 D N a1;unfold bH jZ bT bW bc aI cS;refine aV (λx=>x.2=(L,a)/\(x.1=J->a=l! L\/n<1)/\(x.1=af->a<l! L/\1<=n)) ?_ ?_
 .refine eh (λh=>ak ⟨rfl,λ_=>?_,nofun⟩) λh=>ak ⟨rfl,λA=>?_,λA=>?_⟩
  .grind
  .rw[r_]at A;exact .inr A
  .rw[ji]at A;dsimp [ay]at h A;omega
 rintro⟨b,x⟩ ⟨e,h1,A⟩;subst e;refine aQ (λh=>ak ⟨wZ.refl hT,dg _,λh3=>(by omega),λh3 h4=>?_⟩) λh=>?_
 .grind
 let⟨q1,q2⟩:=A h;refine aT ?_;have e1:bn .i64 (a+1)=a+1:=iI;rw[e1,iI (n:=a+1-1) (by omega) (by omega),show a+1-1=a by omega];have hz:=D _ (bK (T:=.int .u8) (xs:=L) (j:=a) N q1);refine aR N q1 (aT ?_);generalize (geti _ _ a)=z at hz;rw[iI (n:=z) (by omega) (by omega)];refine BT (by omega) (ak ?_);dsimp only;refine ⟨⟨rfl,by dsimp only;omega,⟨l0,D,by dsimp only;omega,by dsimp only;omega⟩⟩,Int.tmod_nonneg _ hz.1,λ_=>?_,λ_ _=>by omega⟩;exact Int.tmod_lt_of_pos _ (by omega)
def YF (s:SY) (A:l! s.2.2.2<=1000) (y:η×J!):Ok (oh (s,y)) λl=>l! l<=l! s.2.2.2:=by
 refine bR (l! s.2.2.2) (λi x=>x.1=(i:Int)/\l! x.2<=i) ?_ ?_ ⟨rfl,by simp⟩
 .rintro i ⟨a,b⟩ hi ⟨z,e2⟩;subst z;with_reducible repeat' first|apply OS.ok;constructor|refine IM.mk λ_=>?_
  all_goals try simp only[ay,tY] at*
  all_goals first|omega|(simp;omega)|skip
  .exact⟨fL,by simp;omega⟩
  .exact⟨fL,by omega⟩
 .rintro⟨a,b⟩ ⟨z,e2⟩;refine bQ (λD=>(by grind)) λ_=>ak e2
def aef (k u:Int) (t:n?) (h:TP t):Ok (pO ((k,u),t)) λy=>wZ t y.2/\(k=3\/k=4->0<=y.1/\y.1<5):=by
 unfold pO bm kf aI cS;cases kdI k
 case no D _=>
  simp only[D,c7,eC,Rg];exact ak ⟨wZ.refl h,λh=>(by grind)⟩
 all_goals first
  |exact ak ⟨wZ.refl h,λh=>(by grind)⟩
  |exact aw (gH 2 t h) λy A=>ak ⟨A.1,λh=>(by omega)⟩
  |exact aw (gH 3 t h) λy A=>ak ⟨A.1,λh=>(by grind)⟩
  |skip
 all_goals
  refine aw (gH 8 t h) λy A=>?_
  have h1:=A.2.1;have L:=A.2.2.1 (by omega);refine aR h1 (by omega) (aR h1 (by omega) (aT (ak ⟨A.1,λ_=>?_⟩)));have:∀z:Int,z∈([0,0,0,1,1,2,3,4]:η)->0<=z/\z<5:=by decide
  exact this _ (bK (T:=aP) h1 (by omega))
structure SZ (n:Nat) (s:SN):Prop where
 nb:NB n s
 c:l! s.2.1=5
 f:l! s.2.2.1=1
 k:l! s.2.2.2=4
def SZ.step {s y:SN} (h:SZ i s) (hp:SP i s y) (z:i+1<=100000):SZ (i+1) y:=
 ⟨hp.NB h.nb z,by rw[hp.c];exact h.c,by rw[hp.f];exact h.f,by rw[hp.k];exact h.k⟩
def ae4 (s:SN) (A:SZ i s) (k o:Int) (ho:k=3->0<=o/\o<5) (t:n?) (h:TP t):Ok (rO ((s,k,o),t)) λy=>wZ t y.2:=by
 let⟨s1,s2,N,L⟩:=s;have hc:=A.c;have hf:=A.f;have hth:=A.nb.sb.th;dsimp only at hc hf hth;have D:=YF s1 hth (s2,N,L);unfold rO bk bm bV bW bc aI;cases kdI k
 case no hk _=>
  simp[hk,c7,eC,Rg];exact ak (wZ.refl h)
 all_goals simp[c7,eC,Rg]
 all_goals first
  |exact ak (wZ.refl h)
  |exact aw (gH 2 t h) λy z=>ak z.1
  |exact aw (gH 3 t h) λy z=>ak z.1
  |exact aw D λy z=>ak (wZ.refl h)
  |exact aR (by decide) (by omega) (aT (ak (wZ.refl h)))
  |exact aR (ho rfl).1 (by omega) (aT (ak (wZ.refl h)))
  |skip
 refine aw D λl hl=>?_
 refine bQ (λh1=>?_) λ_=>ak (wZ.refl h)
 refine aw (gH _ t h) λy z=>?_
 have h2:=z.2.2.1 (by grind);exact aR z.2.1 h2 (aT (ak z.1))
def amm (t:n?) (h:TP t) (r:η) (hr:l! r<=1000000):Ok (iv (t,r)) λy=>l! y.1<=l! r/\wZ t y.2.1/\y.2.2=r:=by
 refine bR (l! r) (λi x=>x.1=(i:Int)/\wZ t x.2.1/\x.2.2.1=r/\l! x.2.2.2<=i) ?_ ?_ ⟨rfl,wZ.refl h,rfl,by simp⟩
 .rintro i ⟨a,b,c,d⟩ hi ⟨L,e2,z,D⟩;dsimp only at L e2 z D;subst L z;refine bQ (λg4=>?_) λg4=>(by grind)
  refine aV (λx=>wZ t x.1/\x.2.1=c/\l! x.2.2<=i+1) ?_ ?_
  .refine bF (bF (aT ?_));refine aV (λx=>wZ t x.2.1/\x.2.2=(c,d)) ?_ ?_
   .refine aQ (λ_=>?_) λ_=>ak ⟨e2,rfl⟩
    exact aw (gH 2 b e2.p) λy hy=>ak ⟨e2.trans hy.1,rfl⟩
   .rintro⟨p,q,u⟩ ⟨A,N⟩;subst N;refine aQ (λ_=>?_) λ_=>ak ⟨A,rfl,by dsimp only;omega⟩
    exact bG (by grind) (by omega) (ak ⟨A,rfl,by simp;omega⟩)
  .rintro⟨p,q,u⟩ ⟨A,N,f3⟩;subst N;refine ak ?_;exact⟨fL,A,rfl,f3⟩
 .rintro⟨a,b,c,d⟩ ⟨L,e2,z,D⟩;dsimp only at L e2 z D;subst z;refine bQ (λg4=>(by grind)) λ_=>ak ⟨D,e2,rfl⟩
def aj7:vq ()=Z [3,3,3,3,3,4,4,4,4,4,5,5,5,6,6,6,7,7,7,8,9,10,11,12,13,14,14,15,16,16,17,17,18,18,19,20,1,1,2,21,22,23,23]:=rfl
abbrev RR:Type:=η×η×J!
structure RB4 (m:Nat) (r:RR):Prop where
 r0:l! r.1<=m
 r1:l! r.2.1<=m
 r2:l! r.2.2.1<=m
 r3:l! r.2.2.2<=m
def ak5 (s:SN) (hs:SZ i s) (w:WT) (hw:l! w.1=5) (t:n?) (h:TP t) (r:RR) (hr:RB4 1000000 r):Ok (rP ((s,w),t,r)) λy=>wZ t y.2.1/\y.2.2=r/\(t.2<l! t.1->t.2<y.2.1.2)/\l! y.1.2.2.2.2.2.1<=1000000/\l! y.1.2.2.2.2.2.2<=1000000:=by
 let⟨r0,r1,r2,r3⟩:=r;let⟨h0,h1,h2,h3⟩:=hr;dsimp only at h0 h1 h2 h3;unfold rP kK lE lD bk bB bP cP eU kJ lP mw Prod.v Prod.z ef iF bm bT bW bc aI;refine aw (gH 4 t h) λy hy=>?_
 refine aX aj7 ?_;refine aw (gH _ y.2 hy.1.p) λz hz=>?_
 let⟨y1,yt⟩:=y;let⟨z1,zt⟩:=z;let⟨ty,yy0,yy1,yy2⟩:=hy;let⟨tz,zz0,zz1,_⟩:=hz;dsimp only at ty yy0 yy1 yy2 tz zz0 zz1;have yy1:=yy1 (by decide);have hzl:=zz1 (by decide);refine aR zz0 hzl (aT ?_);generalize (geti _ _ z1)=k;refine aw (gH 6 zt tz.p) λv D=>?_
 let⟨v1,vt⟩:=v;have tv:=D.1;dsimp only at tv;have tt:=(ty.trans tz).trans tv;have hadv:t.2<l! t.1->t.2<vt.2:=λh=>by
  have:=yy2 h (by decide);have:=tz.m;have:=tv.m;omega
 refine aV (λx=>x.1=vt/\x.2.1=r0/\x.2.2.1=r1/\x.2.2.2.1=r2/\x.2.2.2.2.1=r3/\x.2.2.2.2.2.1=s/\x.2.2.2.2.2.2.1=w) ?_ ?_
 .refine aV (λx=>x.2.1=vt/\x.2.2.1=r0/\x.2.2.2.1=r1/\x.2.2.2.2.1=r2/\x.2.2.2.2.2.1=r3/\x.2.2.2.2.2.2.1=s/\x.2.2.2.2.2.2.2.1=w) ?_ ?_
  .with_reducible repeat' first|apply OS.ok;constructor|refine IM.mk λ_=>?_
   all_goals exact⟨rfl,rfl,rfl,rfl,rfl,rfl,rfl⟩
  .rintro⟨p,q⟩ hq;dsimp only at hq;with_reducible repeat' first|apply OS.ok;constructor|refine IM.mk λ_=>?_
   all_goals exact hq
 rintro⟨x1,x2,x3,x4,x5,x6,x7,x8,x9,x10⟩ ⟨L,f2,f3,f4,f5,f6,f7⟩;dsimp only at L f2 f3 f4 f5 f6 f7;subst L f2 f3 f4 f5 f6 f7;refine aw (aef _ _ _ tv.p) λo ho=>?_
 let⟨o1,ot⟩:=o;let⟨to,ho⟩:=ho;dsimp only at to ho;refine aw (ae4 _ hs _ _ (λhk=>ho (.inl hk)) _ to.p) λq hq=>?_
 let⟨q1,qt⟩:=q;dsimp only at hq;have N:=(tt.trans to).trans hq;have hadv2:t.2<l! t.1->t.2<qt.2:=λh=>by have:=hadv h;have:=to.m;have:=hq.m;omega
 have row:∀(T:n?) (c:η) {R:Type} (k:η×((η×Int)×η)->M R) (Q:R->Prop),wZ t T->l! c<=1000000->(∀v T',wZ T T'->l! v<=1000000->Ok (k (v,T',c)) Q)->Ok (aA (iv (T,c)) k) Q:=λT c R k Q A hc hk=>by
  refine aw (amm T A.p c hc) λy hy=>?_
  grind
 refine aV (λx=>wZ t x.1/\(t.2<l! t.1->t.2<x.1.2)/\x.2.1=x2/\x.2.2.1=x3/\x.2.2.2.1=x4/\x.2.2.2.2.1=x5/\l! x.2.2.2.2.2.2.2.2.2.2.2<=1000000) ?_ ?_
 .refine aV (λx=>x.2.1=qt/\x.2.2.1=x2/\x.2.2.2.1=x3/\x.2.2.2.2.1=x4/\x.2.2.2.2.2.1=x5) ?_ ?_
  .refine aK (λ_=>ak ⟨rfl,rfl,rfl,rfl,rfl⟩) λ_=>?_
   refine aK (λhk=>?_) λ_=>aK (λhk=>?_) λ_=>ak ⟨rfl,rfl,rfl,rfl,rfl⟩
   .exact aR (ho (.inl hk)).1 (by dsimp only;rw[hw];exact (ho (.inl hk)).2) (aT (ak ⟨rfl,rfl,rfl,rfl,rfl⟩))
   .exact aR (ho (.inr hk)).1 (by dsimp only;rw[hw];exact (ho (.inr hk)).2) (aT (ak ⟨rfl,rfl,rfl,rfl,rfl⟩))
  .rintro⟨b,p1,p2,p3,p4,p5,p6⟩ ⟨L,f2,f3,f4,f5⟩;dsimp only at L f2 f3 f4 f5;subst L f2 f3 f4 f5;refine aQ (λ_=>?_) λ_=>ak ⟨N,hadv2,rfl,rfl,rfl,rfl,by simp⟩
   have adv3:∀T',wZ p1 T'->t.2<l! t.1->t.2<T'.2:=λT' A h=>by have:=hadv2 h;have:=A.m;omega
   refine aK (λ_=>?_) λ_=>aK (λ_=>?_) λ_=>aK (λ_=>?_) λ_=>aK (λ_=>?_) λ_=>?_
   .refine row p1 p2 _ _ N h0 λv T' A D=>?_
    refine cE (jH rfl (vV ?_));exact ak ⟨N.trans A,adv3 T' A,rfl,rfl,rfl,rfl,D⟩
   .refine row p1 p3 _ _ N h1 λv T' A D=>?_
    refine cE (jH rfl (vV ?_));exact ak ⟨N.trans A,adv3 T' A,rfl,rfl,rfl,rfl,D⟩
   .refine row p1 p4 _ _ N h2 λv T' A D=>?_
    refine cE (jH rfl (vV ?_));exact ak ⟨N.trans A,adv3 T' A,rfl,rfl,rfl,rfl,D⟩
   .refine row p1 p5 _ _ N h3 λv T' A D=>?_
    refine cE (jH rfl (vV ?_));exact ak ⟨N.trans A,adv3 T' A,rfl,rfl,rfl,rfl,D⟩
   .omega
 rintro⟨u1,u2,u3,u4,u5,u6,u7,u8,u9,u10,u11,u12⟩ ⟨L,f2,f3,f4,f5,f6,f7⟩;dsimp only at L f2 f3 f4 f5 f6 f7;subst f3 f4 f5 f6;refine aV (λx=>wZ t x.1/\(t.2<l! t.1->t.2<x.1.2)/\x.2.1=u2/\x.2.2.1=u3/\x.2.2.2.1=u4/\x.2.2.2.2.1=u5/\l! x.2.2.2.2.2.2.2.2.2.2.2.1<=1000000/\l! x.2.2.2.2.2.2.2.2.2.2.2.2<=1000000) ?_ ?_
 .refine aV (λx=>x.2=(u1,u2,u3,u4,u5,u6,u7,u8,u9,u10,u11,u12)) ?_ ?_
  .with_reducible repeat' first|apply OS.ok;constructor|refine IM.mk λ_=>?_
   all_goals rfl
  .rintro⟨b,x⟩ e;dsimp only at e;subst e;refine aQ (λ_=>?_) λ_=>ak ⟨L,f2,rfl,rfl,rfl,rfl,f7,by simp⟩
   have adv3:∀T',wZ u1 T'->t.2<l! t.1->t.2<T'.2:=λT' A h=>by have:=f2 h;have:=A.m;omega
   refine aK (λ_=>?_) λ_=>aK (λ_=>?_) λ_=>aK (λ_=>?_) λ_=>aK (λ_=>?_) λ_=>?_
   .refine row u1 u2 _ _ L h0 λv T' A D=>?_
    refine cE (jH rfl (vV ?_));exact ak ⟨L.trans A,adv3 T' A,rfl,rfl,rfl,rfl,f7,D⟩
   .refine row u1 u3 _ _ L h1 λv T' A D=>?_
    refine cE (jH rfl (vV ?_));exact ak ⟨L.trans A,adv3 T' A,rfl,rfl,rfl,rfl,f7,D⟩
   .refine row u1 u4 _ _ L h2 λv T' A D=>?_
    refine cE (jH rfl (vV ?_));exact ak ⟨L.trans A,adv3 T' A,rfl,rfl,rfl,rfl,f7,D⟩
   .refine row u1 u5 _ _ L h3 λv T' A D=>?_
    refine cE (jH rfl (vV ?_));exact ak ⟨L.trans A,adv3 T' A,rfl,rfl,rfl,rfl,f7,D⟩
   .omega
 rintro⟨a1,a2,a3,a4,a5,a6,a7⟩ ⟨g1,g2,g3,g4,g5,g6,g7,g8⟩;dsimp only at g1 g2 g3 g4 g5 g6 g7 g8;subst g3 g4 g5 g6;exact ak ⟨g1,rfl,g2,g7,g8⟩
def EvS (e:ET):Prop:=l! e.2.2.2.2.2.1<=1000000/\l! e.2.2.2.2.2.2<=1000000
def amz (hm:i<=1000) (s:SN) (hs:SZ i s) (w:WT) (hw:l! w.1=5) (hwt:l! w.2.2.2.2.1=4) (hwc:l! w.2.2.1<=1000) (n:Int) (hn:n<=60) (t:n?) (h:TP t):Ok (t_ ((s,w,n,af),t)) λy=>(∀e∈y.1,EvS e)/\l! y.1<=60:=by
 unfold t_ bk bB bP cP eU kJ lP mw Prod.w c_ ef iF xa Lj Prod.B bm bV bT bW bc c8 aI;refine cE (cE (cE (dh (by simp) (dh (dg _) (bG (by grind) (by omega) (abs (by grind) ?_))))));refine aV (λx=>x=(t,s,w,[],[],[],[])) ⟨_,rfl,rfl⟩ ?_;rintro x rfl;refine qi (λx=>((l! t.1:Int)-x.1.2).toNat) (λx=>wZ t x.1/\x.2.2.1=w/\SZ (i+l! x.2.2.2.1) x.2.1/\l! x.2.2.2.1<=60/\(∀e∈x.2.2.2.1,EvS e)/\RB4 (l! x.2.2.2.1) x.2.2.2.2) ?_ ⟨wZ.refl h,rfl,(by simpa using hs),by simp,λe he=>(by cases he),⟨by simp,by simp,by simp,by simp⟩⟩;rintro⟨A,s,w',out,r⟩ ⟨i1,i2,N,i4,i5,i6⟩;dsimp only at i1 i2 N i4 i5 i6;subst i2;refine aV (λx=>x.2=(A,s,w',out,r)/\(x.1=J->l! out<60/\A.2<l! A.1)) ?_ ?_
 .refine bQ (λh1=>ak ⟨rfl,λh2=>?_⟩) λ_=>ak ⟨rfl,nofun⟩
  rw[r_]at h2
  grind
 rintro⟨b,x⟩ ⟨e,hb⟩;dsimp only at e hb;subst e;refine aQ (λh1=>?_) λ_=>ak ⟨i5,i4⟩
 let⟨ho,ht⟩:=hb h1;let⟨q0,q1,q2,q3⟩:=id i6;refine aV (λx=>wZ A x.1/\A.2<x.1.2/\x.2.2.1=w'/\SZ (i+l! x.2.2.2.1) x.2.1/\l! x.2.2.2.1<=60/\(∀e∈x.2.2.2.1,EvS e)/\RB4 (l! x.2.2.2.1) x.2.2.2.2) ?_ ?_
 .refine aw (ak5 s N w' hw A i1.p r ⟨by omega,by omega,by omega,by omega⟩) λy hy=>?_
  let⟨ev,tp',r'⟩:=y;let⟨j1,j2,j3,L,D⟩:=hy;dsimp only at j1 j2 j3 L D;subst j2;have j3:=j3 ht;refine cE (jH rfl (cE (jH rfl (cE (jH rfl (cE (jH rfl (vV ?_))))))));refine aw (IZ w' s N.nb hwc ev (.inl (by omega)) (.inl (by omega))) λz hz=>?_
  refine dK (λ_=>ak ⟨j1,j3,rfl,N,i4,i5,i6⟩) λh2=>?_
  let⟨z1,z2⟩:=z;let⟨hE,hS,_⟩:=hz.1 h2;have hS2:=N.step hS (by omega);refine aV (λx=>x.1=tp'/\x.2.2.1=w'/\x.2.2.2.1=out/\EvS x.2.2.2.2.1/\x.2.2.2.2.2.1=z1/\RB4 (l! out+1) x.2.2.2.2.2.2) ?_ ?_
  .refine aV (λx=>x.2=(tp',s,w',out,ev,z1,r')) ?_ ?_
   .refine aK (λ_=>ak rfl) λ_=>ak rfl
   .rintro⟨b,x⟩ e;dsimp only at e;subst e;have hk:=N.k;let⟨ev1,ev2⟩:=ev;have t0:=hE.t0;have t1:=hE.t1;rw[hwt]at t1;dsimp only at t0 t1;refine aQ (λ_=>?_) λ_=>ak ⟨rfl,rfl,rfl,⟨L,D⟩,rfl,⟨by dsimp only;omega,by dsimp only;omega,by dsimp only;omega,by dsimp only;omega⟩⟩
    refine aK (λ_=>?_) λ_=>aK (λ_=>?_) λ_=>aK (λ_=>?_) λ_=>aK (λ_=>?_) λ_=>?_
    .exact aR (by decide) (by dsimp only;omega) (aT (a! (ak ⟨rfl,rfl,rfl,⟨L,D⟩,rfl,⟨by simp;omega,by dsimp only;omega,by dsimp only;omega,by dsimp only;omega⟩⟩)))
    .exact aR (by decide) (by dsimp only;omega) (aT (a! (ak ⟨rfl,rfl,rfl,⟨L,D⟩,rfl,⟨by dsimp only;omega,by simp;omega,by dsimp only;omega,by dsimp only;omega⟩⟩)))
    .exact aR (by decide) (by dsimp only;omega) (aT (a! (ak ⟨rfl,rfl,rfl,⟨L,D⟩,rfl,⟨by dsimp only;omega,by dsimp only;omega,by simp;omega,by dsimp only;omega⟩⟩)))
    .exact aR (by decide) (by dsimp only;omega) (aT (a! (ak ⟨rfl,rfl,rfl,⟨L,D⟩,rfl,⟨by dsimp only;omega,by dsimp only;omega,by dsimp only;omega,by simp;omega⟩⟩)))
    .dsimp only at *;omega
  .rintro⟨x1,x2,x3,x4,x5,x6,x7⟩ ⟨k1,k2,k3,k4,k5,k6⟩;dsimp only at k1 k2 k3 k4 k5 k6;subst k1 k2 k3 k5;refine a! (ak ⟨j1,j3,rfl,?_,by simp;omega,λe he=>?_,?_⟩)
   .grind
   .grind
   .grind
 rintro⟨tp',s',w'',out',r'⟩ ⟨k1,k2,k3,k4,k5,k6,k7⟩;dsimp only at k1 k2 k3 k4 k5 k6 k7;have e1:=i1.e;have a1:=k1.p.a1;have e2:=k1.e;refine ak ⟨⟨i1.trans k1,k3,k4,k5,k6,k7⟩,?_⟩;dsimp only;rw[e2,e1]at a1;omega
def C0:Y (ζ×s?):=[([120],0,0,af,0),([121],0,0,af,1),([118],0,0,J,0),([113],0,2,af,0),([113],1,2,af,0)]
def Km:Y I!:=[([109],af),([110],af),([114],J)]
def Px:Y (ζ×Int):=[([99],0)]
def Ys:Y ζ:=[[102]]
def zM:Y ζ:=[[109,97,105,110],[116,49],[116,50],[116,51]]
structure WX (w:WT):Prop where
 c:w.1=C0
 l:w.2.1=Km
 d:w.2.2.1=Px
 f:w.2.2.2.1=Ys
 t:∃n,1<=n/\n<=4/\w.2.2.2.2.1=zM.take n
 s:l! w.2.2.2.2.2<=60
 v:SV0 w
structure W0 (w:WT):Prop where
 c:l! w.1=5
 l:l! w.2.1=3
 d:l! w.2.2.1=1
 f:l! w.2.2.2.1=1
 t:l! w.2.2.2.2.1=4
 s:l! w.2.2.2.2.2<=24
 x:WX w
def W0.vl {w:WT} (h:W0 w):VL w:=⟨by rw[h.c];decide,by rw[h.l];decide,by rw[h.d];decide,by rw[h.f];decide,by rw[h.t];decide,by rw[h.t];decide,by have:=h.s;omega⟩
def nxS (i j:Nat):ν:=if j=0 then (if i=0 then (0,0) else ((i:Int)-1,6)) else (i,j)
def ab9 {l:Y π} {s:π}:Ps a (l++[s])=Yv a (Ps a l) s:=by unfold Ps;rw[eZ];rfl
def Yc:Ok (oM ()) W0:=by
 unfold oM bk bB bP cP iF bV bT c8 aI cS;refine bR 4 (λi x=>x.1=(i:Int)/\x.2.1=C0/\x.2.2.1=Km/\x.2.2.2.1=Px/\x.2.2.2.2.1=Ys/\x.2.2.2.2.2.1=zM/\l! x.2.2.2.2.2.2<=6*i/\Ps 4 x.2.2.2.2.2.2=Z (nxS i 0)) ?_ ?_ ⟨rfl,rfl,rfl,rfl,rfl,rfl,by simp,rfl⟩
 .rintro i ⟨a,w1,w2,w3,w4,w5,w6⟩ hi ⟨e1,e2,e3,e4,N,L,e7,D⟩;subst e1;refine bQ (λ_=>?_) λg=>(by grind)
  refine bR 6 (λj x=>x.1=(j:Int)/\x.2.1=w1/\x.2.2.1=w2/\x.2.2.2.1=w3/\x.2.2.2.2.1=w4/\x.2.2.2.2.2.1=w5/\l! x.2.2.2.2.2.2<=6*i+j/\Ps 4 x.2.2.2.2.2.2=Z (nxS i j)) ?_ ?_ ⟨rfl,rfl,rfl,rfl,rfl,rfl,by dsimp only;omega,D⟩
  .rintro j ⟨b,v1,v2,v3,v4,v5,v6⟩ hj ⟨d1,d2,d3,d4,d5,d6,d7,d8⟩;dsimp only at d1 d2 d3 d4 d5 d6 d7 d8;subst d1;refine cU ?_;refine bG (by grind) (by omega) (ak ?_);refine ⟨fL,d2,d3,d4,d5,d6,by simp;omega,?_⟩;rw[ab9,d8];by_cases z:j=0
   .subst z;by_cases A:i=0
    .subst A;rfl
    .rw[show nxS i 0=((i:Int)-1,6) by unfold nxS;simp[A],show nxS i (0+1)=((i:Int),1) by unfold nxS;simp];unfold Yv
     grind
   .rw[show nxS i j=((i:Int),(j:Int)) by unfold nxS;simp[z],show nxS i (j+1)=((i:Int),(j:Int)+1) by unfold nxS;simp];unfold Yv
    grind
  .rintro⟨b,v1,v2,v3,v4,v5,v6⟩ ⟨d1,d2,d3,d4,d5,d6,d7,d8⟩;subst d1 d2 d3 d4 d5 d6;refine cO (ak ?_);refine ⟨fL,e2,e3,e4,N,L,by omega,?_⟩;rw[d8];unfold nxS;simp
 .rintro⟨a,w1,w2,w3,w4,w5,w6⟩ ⟨e1,e2,e3,e4,N,L,e7,D⟩;dsimp only at e1 e2 e3 e4 N L e7 D;subst e2 e3 e4 N L;refine bQ (λg=>(by grind)) λ_=>ak ?_
  refine ⟨rfl,rfl,rfl,rfl,rfl,by dsimp only;omega,rfl,rfl,rfl,rfl,⟨4,by decide,by decide,rfl⟩,by dsimp only;omega,?_⟩;show Ps 4 w6≠U;rw[D];simp
variable {j:Nat}
def SZ.mono {s:SN} (h:SZ i s) (hnm:i<=j) (hm:j<=100000):SZ j s:=
 ⟨⟨⟨hm,h.nb.sb.lk,λl z=>dc (h.nb.sb.rd l z) hnm,h.nb.sb.dn,h.nb.sb.th⟩,h.nb.c,h.nb.f,h.nb.k⟩,h.c,h.f,h.k⟩
def aam (w:WT) (z:W0 w):Ok (ou w) λs=>SZ 0 s:=by
 refine (aan w z.vl).mono λs A=>⟨A.1,?_,?_,?_⟩
 .rw[A.2.1,z.c]
 .rw[A.2.2.1,z.f]
 .rw[A.2.2.2,z.t]
structure WB (w:WT):Prop where
 c:l! w.1<=12
 l:l! w.2.1<=4
 d:l! w.2.2.1<=2
 f:l! w.2.2.2.1<=2
 t:l! w.2.2.2.2.1<=4
 s:l! w.2.2.2.2.2<=60
def VL.wb {w:WT} (h:VL w):WB w:=⟨h.c,h.l,h.d,h.f,h.t,h.s⟩
structure TR (y:WT×List ET):Prop where
 wb:WB y.1
 vl:VL y.1
 ev:∀e∈y.2,Fp y.1 e
 len:l! y.2<=400
 ls:∀e∈y.2,EvS e
 wx:WX y.1
 ac:∃sy ce fu,Acw y.1 y.2 sy ce fu
def L8 (L:η) (n:Int) (hl:l! L<=9223372036854775807) (hb:∀x∈L,0<=x/\x<=255):Ok (rQ (L,n)) TR:=by
 unfold rQ bk bB bP dQ ef bV jZ jY bT kf bc c8 aI cS;refine aV (λx=>l! x<=600/\∀z∈x,0<=z/\z<=255) ?_ ?_
 .refine bQ (λg=>?_) λg=>?_
  .dsimp only[ay]at g;refine cE (a? (a? (ak ⟨by dsimp only;rw[cL];simp;omega,λz N=>hb z (pY N)⟩)))
  .dsimp only[ay]at g;exact ak ⟨by dsimp only;omega,hb⟩
 rintro L' ⟨hL,hB⟩;refine aw Yc λw A=>?_
 have hvl:=A.vl;refine aw (aam w A) λs hs=>?_
 refine aw (gH 3 (L',0) ⟨by dsimp only;omega,hB,by dsimp only;omega,by dsimp only;omega⟩) λy hy=>?_
 let⟨y1,yt⟩:=y;let⟨ty,yy0,yy1,_⟩:=hy;have yy1:=yy1 (by decide);dsimp only at ty yy0 yy1;have ew:bn .i64 (1+y1)=1+y1:=iI;refine qi (λx=>(1+y1+1-x.1).toNat) (λx=>1<=x.1/\x.1<=2+y1/\x.2.1=yt/\x.2.2.1=w/\x.2.2.2.1=s/\((l! x.2.2.2.2:Nat):Int)<=2*x.1/\∀e∈x.2.2.2.2,EvS e) ?_ ⟨by dsimp only;omega,by dsimp only;omega,rfl,rfl,rfl,by simp,λe he=>?_⟩
 .rintro⟨a,t,w',s',es⟩ ⟨e1,e2,e3,e4,e5,e6,e7⟩;dsimp only at e1 e2 e3 e4 e5 e6 e7;subst e3 e4 e5;refine eh (λg=>?_) λg=>?_
  .dsimp only at g;rw[ew]at g;refine a! (ak ?_);dsimp only;rw[iI (n:=a+1) (by omega) (by omega)];refine ⟨⟨by omega,by omega,rfl,rfl,rfl,by simp;omega,λe he=>?_⟩,by omega⟩;rcases bO.1 he with he|he
   .exact e7 e he
   .simp only[a_,cD,fH]at he;rcases he with he|he<;>subst he<;>exact⟨by simp,by simp⟩
  .refine aw (P:=TR) ?_ λr hr=>ak hr
   refine bR (l! es) (λi x=>x.1=(i:Int)/\TP x.2.1/\x.2.2.1=w'/\SZ i x.2.2.2.1/\x.2.2.2.2.1=es/\l! x.2.2.2.2.2<=i/\∀e∈x.2.2.2.2.2,EvS e) ?_ ?_ ⟨rfl,ty.p,rfl,hs,rfl,by simp,λe he=>(by cases he)⟩
   .rintro i ⟨b,t,w',s',es',out⟩ hi ⟨d1,d2,d3,D,d5,d6,d7⟩;dsimp only at d1 d2 d3 D d5 d6 d7;subst d1 d3 d5;refine cU ?_;refine aV (λx=>TP x.1/\x.2.1=w'/\SZ (i+1) x.2.2.1/\x.2.2.2.1=es'/\l! x.2.2.2.2<=i+1/\∀e∈x.2.2.2.2,EvS e) ?_ ?_
    .refine bF (bF (aT ?_));have N:=e7 _ (bK (T:=.st (.pr (.int .i64) (.pr (.int .i64) (.pr (.int .i64) (.pr (.int .i64) (.pr (.int .i64) (.pr (.sl (.int .i64)) (.sl (.int .i64))))))))) (xs:=es') (j:=(i:Int)) (by omega) (by omega));revert N;generalize (geti _ _ _)=z;intro N;refine aw (IZ w' s' D.nb (by rw[A.d];decide) z (.inl (by have:=N.1;omega)) (.inl (by have:=N.2;omega))) λv hv=>?_
     refine aQ (λh=>?_) λh=>ak ⟨d2,rfl,D.mono (by omega) (by omega),rfl,by dsimp only;omega,d7⟩
     refine a! (ak ⟨d2,rfl,D.step (hv.1 h).2.1 (by omega),rfl,by simp;omega,λe he=>?_⟩)
     grind
    .rintro⟨t,w'',s'',es'',out'⟩ ⟨f1,f2,f3,f4,f5,f6⟩;dsimp only at f1 f2 f3 f4 f5 f6;refine ak ?_;dsimp only;exact⟨fL,f1,f2,f3,f4,f5,f6⟩
   .rintro⟨b,t,w',s',es',out⟩ ⟨d1,d2,d3,D,d5,d6,d7⟩;dsimp only at d1 d2 d3 D d5 d6 d7;subst d1 d3 d5;refine cO ?_;refine aw (P:=TR) ?_ λr hr=>ak hr
    have hmin:Kz (m7 n 0) 60<=60:=by
     unfold Kz;split
     .omega
     next h=>simp[gF]at h;exact h
    refine aw (amz (by omega) s' D w' A.c A.t (by rw[A.d];decide) _ hmin t d2) λv hv=>?_
    refine bG (by have:=hv.2;dsimp only;omega) (by omega) ?_;have hall:∀e∈out++v.1,EvS e:=λe he=>by grind
    refine aw (am2 w' (out++v.1)) λc hc=>?_
    refine cj (λ_=>?_) λh=>?_
    .exact aw Yc λu hu=>ak ⟨hu.vl.wb,hu.vl,λe he=>(by cases he),by simp,λe he=>(by cases he),hu.x,_,_,_,.nil⟩
    .exact ak ⟨(hc h).1.1.wb,(hc h).1.1,(hc h).2.1,by have:=hv.2;simp;omega,hall,A.x,(hc h).2.2⟩
 .rw[aC]at he;subst he;exact⟨by simp,by simp⟩
variable {m:Y θ}
def amv {e:ET} (L:0<=a) (D:a<l! m) (h1:∀y∈e.2.2.2.2.2.1,0<=y/\(kX (T:=.bool) m a).getD y.toNat af=J) (h2:∀y∈e.2.2.2.2.2.2,0<=y/\(kX (T:=.bool) m a).getD y.toNat af=J) (ld:l! e.2.2.2.2.2.1<=1000000) (N:l! e.2.2.2.2.2.2<=1000000):eY (((a,aS (l! (kX (T:=.bool) m a))),e),m)=Z (J,m):=by
 refine cI ?_;unfold eY kQ eU xa bV jZ kO bT bW bc c8 aI cS;refine hY 2 (by omega) (λi x=>x=(((a,aS (l! (kX (T:=.bool) m a))),(i:Int)),m)) ?_ ?_ rfl
 .rintro i x hi rfl;refine bQ (λ_=>?_) λg=>(by dsimp only at g;omega)
  refine cE (a? (Db (by dsimp only;omega) (aT ?_)));have hr:∃l:η,geti (.sl aP) [e.2.2.2.2.2.1,e.2.2.2.2.2.2] (i:Int)=l/\(∀y∈l,0<=y/\(kX (T:=.bool) m a).getD y.toNat af=J)/\l! l<=1000000:=by
   match i,hi with
   |0,_=>exact⟨_,rfl,h1,ld⟩
   |1,_=>exact⟨_,rfl,h2,N⟩
  let⟨l,er,hA,hl⟩:=hr;dsimp only;rw[er];generalize hR:kX (T:=.bool) m a=r at*
  refine hY (l! l) (by omega) (λj x=>x=(((a,aS (l! r)),(j:Int)),m)) ?_ ?_ rfl
  .rintro j x hj rfl;refine cU ?_;have rows:=hA _ (bK (T:=aP) (xs:=l) (j:=(j:Int)) (by omega) (by omega));refine bF (aT (aV (λx=>x=(((a,aS (l! r)),af),m)) ?_ ?_))
   .obtain⟨z,hze⟩:∃z:Int,geti aP l (j:Int)=z:=⟨_,rfl⟩
    have rows:0<=z/\r.getD z.toNat af=J:=by rw[<- hze];exact rows
    dsimp only;rw[hze];have hz:z.toNat<l! r:=by
     rcases cJ z.toNat (l! r) with g|g
     .exact g
     .have:=rows.2;rw[aE,dL g]at this;cases this
    have A:(0:Int)<=z:=rows.1;have hzi:(z:Int)<(l! r:Int):=by omega
    refine bQ (λg=>bC A (Int.not_le.2 g)) λ_=>eh (λg=>bC hzi (AU.2 g)) λ_=>aR A hzi (aR L D ?_)
    rw[hR];refine aR A hzi (aT (ak ?_));have:geti (.bool) r z=J:=rows.2;dsimp only;rw[this];rfl
   rintro x rfl;refine kg (ak ?_);dsimp only;rw[fL];rfl
  .rintro x rfl;refine cO (ak ?_);dsimp only;rw[fL];rfl
 .rintro x rfl;exact bQ (λg=>(by dsimp only at g;omega)) λ_=>ak rfl
abbrev W8 (n:Nat) (s:Y π):WT:=(C0,Km,Px,Ys,zM.take n,s)
def WX.w8 {w:WT} (z:WX w):∃n,(n=1\/n=2\/n=3\/n=4)/\w=W8 n w.2.2.2.2.2:=by
 let⟨h1,h2,h3,N,⟨n,D,A,L⟩,_,_⟩:=z
 grind
abbrev sn8 (w:WT):SN:=(Yw w,ce0 w,fu0 w,aG (l! w.2.2.2.2.1) 0)
def Pr (s:Y π):fm (W8 1 s)=Z (sn8 (W8 1 s)):=by kernel_rfl
def st2 (s:Y π):fm (W8 2 s)=Z (sn8 (W8 2 s)):=by kernel_rfl
def st3 (s:Y π):fm (W8 3 s)=Z (sn8 (W8 3 s)):=by kernel_rfl
def st4 (s:Y π):fm (W8 4 s)=Z (sn8 (W8 4 s)):=by kernel_rfl
def au4 {w:WT} (z:WX w):fm w=Z (sn8 w):=by
 let⟨n,A,e⟩:=z.w8;rw[e];rcases A with rfl|rfl|rfl|rfl
 .exact Pr _
 .exact st2 _
 .exact st3 _
 .exact st4 _
abbrev VN4:Y ζ:=[[120],[121],[118],[113]]
def vc8:ij C0=Z (VN4,J):=by kernel_rfl
def vn1 (s:Y π):ep (W8 1 s,VN4)=Z J:=by kernel_rfl
def vn2 (s:Y π):ep (W8 2 s,VN4)=Z J:=by kernel_rfl
def vn3 (s:Y π):ep (W8 3 s,VN4)=Z J:=by kernel_rfl
def vn4 (s:Y π):ep (W8 4 s,VN4)=Z J:=by kernel_rfl
def vs8 {w:WT} (L:WX w) (hb:VL w):gq w=Z J:=by
 have hv:=L.v;have hs:=L.s;have ht:=hb.t0;refine cI ?_;unfold gq lS bk bB cP ef bV jY bW bc c8 aI cS;refine hY (l! w.2.2.2.2.2) (by omega) (λi x=>∃t n:Int,x=((t,n,(i:Int)),w)/\Ps (l! w.2.2.2.2.1) (w.2.2.2.2.2.take i)=Z (t,n)/\0<=t/\t<l! w.2.2.2.2.1/\0<=n/\n<=i) ?_ ?_ ⟨0,0,rfl,rfl,by omega,by omega,by omega,by omega⟩
 .rintro i x hi ⟨t,n,rfl,h1,t0,N,n0,n1⟩;refine cU ?_;refine bF (aT ?_);have D:=ab8 hv (i+1);have A:Ps (l! w.2.2.2.2.1) (w.2.2.2.2.2.take (i+1))=Yv (l! w.2.2.2.2.1) (Z (t,n)) (geti pW w.2.2.2.2.2 (i:Int)):=by rw[L5 hi,h1]
  rw[A]at D;revert D A;generalize geti pW w.2.2.2.2.2 (i:Int)=z;intro D A;obtain⟨(a:Int),(b:Int),(c:Int)⟩:=z;have h5:(a=t/\b=n)\/(t<a/\a<l! w.2.2.2.2.1/\b=0):=by
   simp[Yv]at D
   grind
  refine aV (λx=>x=(af,w,a,b,c)) ?_ ?_
  .refine cO (ak ?_);rw[m8.2 (by grind)]
  rintro x rfl;rcases h5 with ⟨rfl,rfl⟩|⟨q1,q2,rfl⟩
  .refine aV (λx=>x=((a,b),w,a,b,c)) (cO (ak rfl)) ?_;rintro x rfl;refine cj (λg=>(g rfl).elim) λ_=>ak ⟨a,b+1,?_,?_,t0,N,by omega,by omega⟩
   .rw[iI (n:=b+1) (by omega) (by omega),fL]
   .rw[A];simp[Yv]
  .refine aV (λx=>x=((a,0),w,a,0,c)) (cU (ak rfl)) ?_;rintro x rfl;refine cj (λg=>(g rfl).elim) λ_=>ak ⟨a,1,?_,?_,by omega,q2,by omega,by omega⟩
   .rw[iI (n:=0+1) (by omega) (by omega),fL];rfl
   .rw[A];show (if a=t/\(0:Int)=n then Z (t,n+1) else if t<a/\a<_/\(0:Int)=0 then Z (a,1) else U)=Z (a,1)
    grind
 .rintro x ⟨t,n,rfl,_⟩;exact cO (ak rfl)
def VW8 {w:WT} (z:WX w) (N:VL w):ik w=Z J:=by
 have hs:=vs8 z N;have hvn:ep (w,VN4)=Z J:=by
  let⟨n,hn,e⟩:=z.w8;rw[e];rcases hn with rfl|rfl|rfl|rfl
  .exact vn1 _
  .exact vn2 _
  .exact vn3 _
  .exact vn4 _
 have hc:=z.c;have hd:=z.d;have hl:=z.l;let⟨w1,w2,w3,L,D,A⟩:=w;let⟨b1,b2,b3,b4,b0,b5,b6⟩:=N;subst hc hd hl;refine cI ?_;have f:∀n m:Nat,n<=m->gF (m:Int) (aS n)=af:=λn m h=>ji.2 (by grind)
 refine aV (λx=>x=(af,C0,Km,Px,L,D,A)) ?_ ?_
 .refine jI rfl (jI rfl (jI rfl (jI (f _ 2 b4) (ak ?_))))
  grind
 rintro x rfl;refine kg (aV (λx=>x=(af,C0,Km,Px,L,D,A)) ?_ ?_)
 .refine jI (ji.2 (by grind)) (ak ?_)
  grind
 rintro x rfl;refine kg (aX vc8 (aV (λx=>x=(af,C0,Km,Px,L,D,A)) ?_ ?_))
 .exact kg (aX hvn (ak rfl))
 rintro x rfl;refine kg (hY 1 (by omega) (λi x=>x=((i:Int),C0,Km,Px,L,D,A)) ?_ ?_ rfl)
 .rintro i x hi rfl;have:i=0:=by omega
  subst this;refine qU rfl (bl rfl (aT (aX (x:=J) ?_ (kg (ak rfl)))));rfl
 .rintro x rfl;exact jI rfl (aX (x:=J) (by rw[hs];rfl) (ak rfl))
abbrev eN (l:Y ET) (i:Nat):ET:=geti fV l (i:Int)
def nL (h:i<l! k):eN k i∈k:=bK (T:=fV) (by omega) (by omega)
def ata {e:ET} (h:i<l! k):eN (k++[e]) i=eN k i:=by
 unfold eN;rw[uT,uT,aE,aE,bU h]
def aoe (l:Y ET) (e:ET):eN (l++[e]) (l! l)=e:=by
 unfold eN;rw[uT,aE,cm (bI _),xc];rfl
def Kk (w:WT) (l:Y ET):SY×J!:=l.foldl (λs e=>((po w s.1 e.1 e.2.1 e.2.2.1 e.2.2.2.1).1,ceP s.2.1 e,fuP s.2.2 e)) (Yw w,ce0 w,fu0 w)
def O3 (w:WT) (h:i<l! k):Kk w (k.take (i+1))=((po w (Kk w (k.take i)).1 (eN k i).1 (eN k i).2.1 (eN k i).2.2.1 (eN k i).2.2.2.1).1,ceP (Kk w (k.take i)).2.1 (eN k i),fuP (Kk w (k.take i)).2.2 (eN k i)):=by
 rw[pL (T:=fV) h];unfold Kk;rw[eZ];rfl
def Acw.all {w:WT} {D:SY} {A:η} (h:Acw w k D z A):Kk w k=(D,z,A)/\∀i,i<l! k->SCx w (k.take i) (Kk w (k.take i)).1 (Kk w (k.take i)).2.1 (Kk w (k.take i)).2.2 (eN k i):=by
 induction h with
 |nil=>exact⟨rfl,λi hi=>bC hi (bN _)⟩
 |snoc h N L=>
  rename_i k D z A e;let⟨h1,h2⟩:=L;refine ⟨by unfold Kk at h1 ⊢;rw[eZ,h1];rfl,λi hi=>?_⟩;rw[bz,cH]at hi;rcases cJ i (l! k) with g|g
  .rw[sR (by omega),ata g];exact h2 i g
  .have:i=l! k:=by omega
   subst this;rw[sR (bI _),cY,aoe,h1];exact N
def TR.sc {w:WT} (tr:TR (w,k)) (h:i<l! k):SCx w (k.take i) (Kk w (k.take i)).1 (Kk w (k.take i)).2.1 (Kk w (k.take i)).2.2 (eN k i):=by
 let⟨z,D,A,ac⟩:=tr.ac;exact ac.all.2 i h
def Q8 (r:η):Prop:=Lg r/\∀z∈r,0<=z/\z<4
def P8 (s:Y j!):Prop:=∀x∈s,Q8 x.2
def P8.get {s:Y j!} (h:P8 s) (o:Int):Q8 (geti em s o).2:=by
 unfold geti;rw[aE];cases e:s[o.toNat]? with
 |none=>exact⟨trivial,λz A=>by cases A⟩
 |some x=>exact h x (ba e)
def P8.set {s:Y j!} (h:P8 s) (o a:Int) (A:Q8 z):P8 (cC s o (a,z)):=λx r=>by
 rcases Fy r with r|rfl
 .exact h x r
 .exact A
def Fj (p:Int->Bool):∀{l:η},Lg l->Lg (l.filter p)
 |[],_=>trivial
 |x::r,h=>by
  rw[List.filter_cons];split
  .exact⟨λy z=>h.1 y ((List.mem_filter.1 z).1),Fj p h.2⟩
  .exact Fj p h.2
def P8.ite {c:Prop} [Decidable c] {a b:SY×Int} (A:P8 a.1.1) (z:P8 b.1.1):P8 (if c then a else b).1.1:=by by_cases h:c<;>simp[h,A,z]
def P8.ap {w:WT} {s:SY} (h:P8 s.1) (k o v:Int) (L:0<=a) (D:a<4):P8 (po w s a k o v).1.1:=by
 have ow:∀t b,P8 (YW s.1 t b):=λt b=>h.set t b (h.get t)
 have un:P8 (rdP s.1 o (yn (geti em s.1 o).2 [a])):=h.set _ _ ⟨UU _ _,λz A=>by
  rcases BL.1 A with A|A
  .exact (h.get o).2 z A
  .rw[aC]at A;subst A;exact⟨L,D⟩⟩
 have wt:P8 (rdP s.1 o (wo (geti em s.1 o).2 a)):=h.set _ _ ⟨Fj _ (h.get o).1,λz A=>(h.get o).2 z (List.mem_filter.1 A).1⟩;exact P8.ite h (P8.ite h (P8.ite (ow _ _) (P8.ite (ow _ _) (P8.ite un (P8.ite wt (P8.ite h (P8.ite h (P8.ite h (P8.ite h (P8.ite (ow _ _) (P8.ite (ow _ _) (P8.ite (P8.ite h h) (P8.ite h (P8.ite h (P8.ite h h)))))))))))))))
def EP (w:WT) (l:Y ET):SN:=l.foldl (nxP w) (sn8 w)
def Re (w:WT) (h:i<l! k):EP w (k.take (i+1))=nxP w (EP w (k.take i)) (eN k i):=by
 rw[pL (T:=fV) h];unfold EP;rw[eZ];rfl
structure K8 (w:WT) (l:List ET) (i:Nat) (s:SN):Prop where
 a:(s.1,s.2.1,s.2.2.1)=Kk w (l.take i)
 r:P8 s.1.1
 c:l! s.2.1=l! w.1
 f:l! s.2.2.1=l! w.2.2.2.1
 k:l! s.2.2.2=l! w.2.2.2.2.1
 n:CN (l.take i) s.2.2.2
def ab5 {w:WT} (tr:TR (w,k)):∀i:Nat,i<=l! k->K8 w k i (EP w (k.take i))
 |0,_=>⟨rfl,λx D=>by rw[List.eq_of_mem_replicate D];exact⟨trivial,λz A=>by cases A⟩,by simp[EP,ce0],by simp[EP,fu0],by simp[EP],λt t0 t1=>by
   have:(aG (l! w.2.2.2.2.1) (0:Int)).getD t.toNat 0=0:=by grind
   exact this⟩
 |i+1,h=>by
  let⟨a,r,c,f,l,n⟩:=ab5 tr i (by omega);have sc:=tr.sc (i:=i) (by omega);have L:=tr.len;have ht:=tr.wb.t;dsimp only at L ht;have en:=sc.en;have N:=en.t1;have htk:=yl i k;rw[Re w (by omega)];refine ⟨?_,r.ap _ _ _ en.t0 (by omega),?_,?_,?_,?_⟩
  .rw[O3 w (by omega),<-a];rfl
  .unfold nxP ceP;split
   .rw[bX];exact c
   .exact c
  .unfold nxP fuP;split
   .rw[bX];exact f
   .exact f
  .unfold nxP;rw[bX];exact l
  .have:=n.next (eN k i) en.t0 (by omega) (by omega);rw[pL (T:=fV) (show i<l! k by omega)];exact this
def asj {w:WT} (tr:TR (w,k)) (hi:i<l! k):lV (w,EP w (k.take i),eN k i)=Z (EP w (k.take (i+1)),J):=by
 let⟨a,r,c,f,l,n⟩:=ab5 tr i (by omega);have sc:=tr.sc hi;have A:=tr.wx;have ht:=tr.wb.t;have hls:=tr.ls _ (nL hi);dsimp only at A ht hls;rw[Re w hi];rw[<- a]at sc;generalize EP w (k.take i)=s at*
 generalize eN k i=e at*
 have en:=sc.en;have e1:=en.t1;have l3:l! w.2.1=3:=by rw[A.l];rfl
 have L:=n e.1 en.t0 (by omega);have b1:=tr.wb.c;have b4:=tr.wb.f;have b3:=tr.wb.d;dsimp only at b1 b4 b3;have q1:=en.e1;have q2:=en.e2;have q3:=en.e3;dsimp only at q1 q2 q3;refine ay3 (n:=4) w s e ⟨⟨by omega,by omega,λx N=>?_,by omega,by omega⟩,by omega,by omega,by omega⟩ (by omega) (by omega) ⟨c,f,l⟩ en ⟨sc.rd,sc.s1,sc.s2,sc.de,sc.fr,by rw[L];exact sc.nd,by rw[L];exact sc.nf,sc.va⟩ hls.1 hls.2 (λh=>?_) (by omega) r (by omega)
 .have:=LQ x.2 0 4 (r x N).1 (r x N).2;omega
 .have D:=en.nm.lk (by omega);have z:=en.nm.rw (by omega);generalize e.2.2.1=o at D z;rw[A.l]at D z;have:o=0\/o=1\/o=2:=by have:Km.length=3:=rfl;omega
  rcases this with rfl|rfl|rfl
  .cases z
  .cases z
  .rfl
abbrev fN (l:Y ET) (i:Nat) (t:Int):θ:=fl (l.take i) t
def at6 (h:i<l! k) (e:(eN k i).1=a):fN k (i+1) a=fN k i a++[rdE (eN k i)]:=by
 unfold fN;rw[pL (T:=fV) h,wD,Ch e]
def ak4 (h:i<l! k) (e:¬(eN k i).1=a):fN k (i+1) a=fN k i a:=by
 unfold fN;rw[pL (T:=fV) h,wD,yV e,io]
def at7 (l:Y ET) (i:Nat) (t:Int):l! (fN l i t)<=l! l:=dc (WA _ _) (List.length_take_le' ..)
structure RwB (w:WT) (l:List ET) (i:Nat) (lens:η) (rows:List θ):Prop where
 ll:l! lens=l! w.2.2.2.2.1
 lr:l! rows=l! w.2.2.2.2.1
 r:∀u:Nat,u<l! w.2.2.2.2.1->rows.getD u []=fN l i (u:Int)
 n:∀u:Nat,u<l! w.2.2.2.2.1->lens.getD u 0=aS (l! (fN l i (u:Int)))
def RwB.zero (w:WT) (l:Y ET):RwB w l 0 (aG (l! w.2.2.2.2.1) 0) (aG (l! w.2.2.2.2.1) []):=by
 refine ⟨dy ..,dy ..,λu z=>?_,λu z=>?_⟩
 .rw[aE,fW,aF z];rfl
 .rw[aE,fW,aF z];rfl
variable {b:Bool}
def RwB.next {w:WT} (hi:i<l! k) (h:RwB w k i z m) (D:0<=a) (t1:a<l! w.2.2.2.2.1) (et:(eN k i).1=a) (L:rdE (eN k i)=b):RwB w k (i+1) (oI z (aN a) (aS (aj (kX (T:=.bool) m a++[b])))) (mB (T:=.bool) (mB (T:=.bool) m a []) a (kX (T:=.bool) m a++[b])):=by
 let⟨h1,h2,A,N⟩:=h;have er:kX (T:=.bool) m a=fN k i a:=by
  have:=A a.toNat (by omega);rw[Kq D]at this;exact this
 have own:=at6 hi et;rw[L,<-er]at own;refine ⟨by rw[dF,h1],by unfold mB;rw[dF,dF,h2],λu lens=>?_,λu lens=>?_⟩
 .unfold mB;rw[aE,ey];by_cases e:a.toNat=u
  .rw[aF e,dF,aF (by omega)];have e':(u:Int)=a:=by omega
   rw[e',own];rfl
  .rw[ax e,ey,ax e,<-aE,A u lens,ak4 hi (by omega)]
 .rw[aE,ey];by_cases e:a.toNat=u
  .rw[aF e,aF (by omega)];have e':(u:Int)=a:=by omega
   rw[e',own];rfl
  .rw[ax e,<-aE,N u lens,ak4 hi (by omega)]
def avs {w:WT} (tr:TR (w,k)):hZ (w,k)=Z (0,0):=by
 have hl:l! k<=400:=tr.len;have hT:l! w.2.2.2.2.1<=4:=tr.wb.t;refine cI ?_;unfold hZ nQ bk bB bP cP dQ iF ck bm bV kO bT bW bc c8 aI cS;refine jI (ji.2 (by dsimp only[ay];omega)) (aX (VW8 tr.wx tr.vl) (kg (aX (au4 tr.wx) ?_)));refine cE (cE (dh (by dsimp only[ay];omega) (a? (bG (by simp only[ay,be];omega) (by omega) ?_))));refine hY (l! k) (by omega) (λi x=>∃lens rows,x=((i:Int),(w,k),EP w (k.take i),lens,rows)/\RwB w k i lens rows) ?_ ?_ ⟨_,_,by simp only[ay,be];rfl,RwB.zero w k⟩
 .rintro i x hi ⟨lens,rows,rfl,z⟩;have sc:=tr.sc hi;have N:=sc.en.t1;have e0:=sc.en.t0;have st:=asj tr hi;have hls:=tr.ls _ (nL hi);have fa:=at7 k i (eN k i).1;have L:(eN k i).1=(((eN k i).1.toNat:Nat):Int):=by omega
  have A:kX (T:=.bool) rows (eN k i).1=fN k i (eN k i).1:=by
   have:=z.r (eN k i).1.toNat (by omega);rw[<- L]at this;exact this
  have en:aN (m_ lens (eN k i).1)=l! (kX (T:=.bool) rows (eN k i).1):=by
   have:=z.n (eN k i).1.toNat (by omega);rw[<- L,<-A]at this;unfold m_;rw[this];rfl
  have rd:eY (((((eN k i).1,aS (l! (kX (T:=.bool) rows (eN k i).1))),eN k i),rows))=Z (J,rows):=by
   refine amv e0 (by rw[z.lr];exact N) ?_ ?_ hls.1 hls.2
   .rw[A];exact sc.rd1
   .rw[A];exact sc.rd2
  have nx:=λb=>z.next hi e0 N rfl (b:=b)
  have l1:=z.ll;have l2:=z.lr;refine cU (bF (aT ?_));have hg:geti fV k (i:Int)=eN k i:=rfl;dsimp only;rw[hg];rw[<- A]at fa;clear sc hls A L;generalize eN k i=e at*
  refine aX st ?_;refine aV (λx=>x=(af,(w,k),EP w (k.take i),lens,e,EP w (k.take (i+1)),rows)) ?_ ?_
  .refine kg (bF (bF ?_));dsimp only;rw[en];exact aX rd (ak rfl)
  rintro x rfl;refine kg (aV (λx=>∃lens' rows',x=((w,k),EP w (k.take i),lens',EP w (k.take (i+1)),rows')/\RwB w k (i+1) lens' rows') ?_ ?_)
  .refine bF (bF ?_);dsimp only;rw[en];refine aK (λh=>bF (cE (bl (gw _) (bG (by rw[cH];omega) (by omega) (bF (bF (ak ⟨_,_,rfl,nx _ ?_⟩))))))) λh=>bF (cE (bl (gw _) (bG (by rw[cH];omega) (by omega) (bF (bF (ak ⟨_,_,rfl,nx _ ?_⟩))))))
   .unfold rdE;rw[a8 h];rfl
   .unfold rdE;rw[dm h];rfl
  rintro x ⟨lens',rows',rfl,D⟩;refine ak ⟨lens',rows',?_,D⟩;dsimp only;rw[fL]
 .rintro x ⟨lens,rows,rfl,_⟩;exact cO (ak rfl)
abbrev lO:Ty:=(.pr aP (.pr aP alx))
abbrev uC:Ty:=(.st (.pr aP alx))
abbrev Ke2:Ty:=(.st (.pr Ht (.pr Ht Ht)))
abbrev AL:=((Int×Int×Int×Int×Bool)×(Y (Int×Bool))×Y (Int×Bool))
abbrev BJ:=(Y d?)
abbrev Q?:=Int×e!
abbrev BG:=Q?
abbrev wY:=(Y ν)
abbrev b?:=(eu×Y gA)×(Y η)×wY×(η)×(η)×(η)×(η)×(η)×(η)×BJ×(η)×(Y AL)×(Y η)×Y η
abbrev Ye4:=b?
abbrev d!:=(eu×Y gA)×(Y η)×wY×(η)×(η)×(η)×(η)×(η)×(η)×BJ×(η)×(Y AL)×(Y η)×(Y η)×(η)×Bool
abbrev Ye5:=d!
abbrev c?:=(eu×Y gA)×(Y η)×wY×(η)×(η)×(η)×(η)×(η)×(η)×BJ×(η)×(Y AL)×(Y η)×(Y η)×gA×η
abbrev Ye6:=c?
abbrev Ye7:=(Int×b!)
abbrev Ye8:=((eu×Y gA)×(η)×(η)×(η)×(η)×(η)×(η)×BJ×(Y η)×wY×(η)×(Y AL)×(Y η)×Y η)
abbrev Á:=Int×c?
abbrev Ye9:=Á
abbrev Ye10:=(Bool×Y η)
abbrev al5:=(Y θ)
def At (it:Fl) (x:Int):M η:=
 (bT (dz 0 x&&dz x x&&bh (aN x) 8) (it j! _ (λz=>(bV z.1 (aS (aj (aG (aN x) (0:Int)))) (ck (dN z.1 (aj z.2)) (c8 ((cS z.1),(cC z.2 z.1 (-1))))) (aI z.2))) (0,(aG (aN x) (0:Int)))))
def EY (x:Int):M η:=At @iter x
def lF (x:Int):M η:=At @iK x
def oL (x:b!):M (Bool):=
 (jn (bm x.2.1 3 (aI J) (aI (decide ((x.2.1:Int)=4)))) λz=>(Z z))
def lX (x:À):M (Int):=
 (jn (bm x.a 6 (aI ((decide ((x.a:Int)=6)),x)) (bm x.a 8 (aI ((decide ((x.a:Int)=8)),x)) (aI ((decide ((x.a:Int)=10)),x)))) λz=>(aJ z.1 (Z z.c) (bm x.a 17 (bW itK z.2.1.a z.c λA=>(Z A.2)) (bm x.a 12 (Z (bc z.2.1.2.1)) (Z (-1))))))
def lW (x:À):M (Int):=
 (jn (bm x.a 7 (aI ((decide ((x.a:Int)=7)),x)) (bm x.a 9 (aI ((decide ((x.a:Int)=9)),x)) (aI ((decide ((x.a:Int)=11)),x)))) λz=>(aJ z.1 (Z z.c) (bm x.a 16 (bW itK z.2.1.a z.c λA=>(Z A.2)) (bm x.a 13 (Z (bc z.2.1.2.1)) (Z (-1))))))
def iZ (x:gA×b?):M (η×b?):=
 (kf aP x.c x.1.1 λA=>(jn (α:=(eu×Y gA)×(Y η)×wY×(η)×(η)×(η)×(η)×(η)×(η)×BJ×(η)×(Y AL)×(Y η)×(Y η)×η) (bm x.1.2.1 1 (kf aP x.e x.1.1 λN=>(bT (bh (aj ([A])+aj ([N])) 8) (aI (x.2.1,x.a,x.b,x.c,x.e,x.g,x.j,x.m,x.o,x.l,x.n,x.i,x.q,x.r,(([A])++([N])))))) (bm x.1.2.1 21 (kf aP x.c x.1.a λL=>(bT (bh (aj ([A])+aj ([L])) 8) (aI (x.2.1,x.a,x.b,x.c,x.e,x.g,x.j,x.m,x.o,x.l,x.n,x.i,x.q,x.r,(([A])++([L])))))) (bm x.1.2.1 23 (ck (dN x.1.a (aj x.o)) (kO x.1.a x.r (bT (aB (aN (m_ x.o x.1.a)) (aj (kX (T:=aP) x.r x.1.a))) (bT (bh (aj ([A])+aj (kX (T:=aP) x.r x.1.a)) 8) (aI (x.2.1,x.a,x.b,x.c,x.e,x.g,x.j,x.m,x.o,x.l,x.n,x.i,x.q,x.r,(([A])++(kX (T:=aP) x.r x.1.a)))))))) (bm x.1.2.1 3 (bW lL x.2.1.1.1 x.1.a λz5=>(aJ z5.2.2.2.1 (ck (dN x.1.a (aj x.m)) (kO x.1.a x.q (bT (aB (aN (m_ x.m x.1.a)) (aj (kX (T:=aP) x.q x.1.a))) (bT (bh (aj ([A])+aj (kX (T:=aP) x.q x.1.a)) 8) (aI (x.2.1,x.a,x.b,x.c,x.e,x.g,x.j,x.m,x.o,x.l,x.n,x.i,x.q,x.r,(([A])++(kX (T:=aP) x.q x.1.a)))))))) (aI (x.2.1,x.a,x.b,x.c,x.e,x.g,x.j,x.m,x.o,x.l,x.n,x.i,x.q,x.r,[A])))) (bm x.1.2.1 17 (kf aP x.g x.1.1 λD=>(bT (bh (aj ([A])+aj ([D])) 8) (aI (x.2.1,x.a,x.b,x.c,x.e,x.g,x.j,x.m,x.o,x.l,x.n,x.i,x.q,x.r,(([A])++([D])))))) (aI (x.2.1,x.a,x.b,x.c,x.e,x.g,x.j,x.m,x.o,x.l,x.n,x.i,x.q,x.r,[A]))))))) λz=>(Z (z.r,z.1,z.2.1,z.a,z.b,z.c,z.e,z.g,z.j,z.m,z.o,z.l,z.n,z.i,z.q))))
def jR (x:Ye7×Y AL):M (Y AL):=
 (bm x.1.a 4 (ck (dN x.1.1 (aj x.2)) (Z (qW (S:=lO) x.2 x.1.1 (vW (S:=lO) 1 (dT lO x.2 x.1.1) (uN (K:=aP) (V:=.bool) x.1.b J (sN (S:=lO) 1 (dT lO x.2 x.1.1))))))) (ck (dN x.1.1 (aj x.2)) (Z (qW (S:=lO) x.2 x.1.1 (vW (S:=lO) 0 (dT lO x.2 x.1.1) (uN (K:=aP) (V:=.bool) x.1.b J (sN (S:=lO) 0 (dT lO x.2 x.1.1))))))))
abbrev v!:=(eu×Y gA)×(Y η)×wY×(η)×(η)×(η)×(η)×(η)×(η)×BJ×(η)×(Y AL)×(Y η)×(Y η)×b!
abbrev R!:=Ye7×b?
def mL (it:Fl) (x:R!):M Ye4:=
 (ck (dN x.1.2.1 (aj x.c)) (jn (α:=b?) (bm x.1.a 20 (ck (dN x.1.b (aj x.e)) (aI (x.2.1,x.a,x.b,(cC x.c x.1.2.1 x.1.1),(cC x.e x.1.b x.1.1),x.k))) (bm x.1.a 22 (ck (dN x.1.b (aj x.o)) (kO x.1.b x.r (bT (aB (aN (m_ x.o x.1.b)) (aj (kX (T:=aP) x.r x.1.b))&&bh ((aN (m_ x.o x.1.b))+aj ([x.1.1]:η)) 8) (ck (dN x.1.b (aj x.o)) (aI (x.2.1,x.a,x.b,(cC x.c x.1.2.1 x.1.1),x.e,x.g,x.j,x.m,(oI x.o (aN x.1.b) (aS (aj ((kX (T:=aP) x.r x.1.b)++([x.1.1]))))),x.l,x.n,x.i,x.q,(mB (T:=aP) (mB (T:=aP) x.r x.1.b []) x.1.b ((kX (T:=aP) x.r x.1.b)++([x.1.1]))))))))) (bm x.1.a 4 (ck (dN x.1.b (aj x.m)) (kO x.1.b x.q (bT (aB (aN (m_ x.m x.1.b)) (aj (kX (T:=aP) x.q x.1.b))&&bh ((aN (m_ x.m x.1.b))+aj ([x.1.1]:η)) 8) (ck (dN x.1.b (aj x.m)) (aI (x.2.1,x.a,x.b,(cC x.c x.1.2.1 x.1.1),x.e,x.g,x.j,(oI x.m (aN x.1.b) (aS (aj ((kX (T:=aP) x.q x.1.b)++([x.1.1]))))),x.o,x.l,x.n,x.i,(mB (T:=aP) (mB (T:=aP) x.q x.1.b []) x.1.b ((kX (T:=aP) x.q x.1.b)++([x.1.1]))),x.r)))))) (bm x.1.a 16 (ck (dN x.1.2.1 (aj x.j)) (aI (x.2.1,x.a,x.b,(cC x.c x.1.2.1 x.1.1),x.e,x.g,(cC x.j x.1.2.1 x.1.b),x.s))) (bm x.1.a 18 (jZ 0 x.1.c (ck (dN x.1.c (aj x.g)) (ck (dN x.1.c (aj x.j)) (aI (x.2.1,x.a,x.b,(cC x.c x.1.2.1 x.1.1),x.e,(cC x.g x.1.c x.1.1),(cC x.j x.1.c (-1)),x.s)))) (aI (x.2.1,x.a,x.b,(cC x.c x.1.2.1 x.1.1),x.h))) (bm x.1.a 19 (it (Int×v!) _ (λz=>(bV z.1 (bc x.j) (jn (α:=v!) (kf aP z.j z.1 λA=>(bm A z.D (ck (dN z.1 (aj z.g)) (ck (dN z.1 (aj z.j)) (aI (z.2.1,z.a,z.b,z.c,z.e,(cC z.g z.1 x.1.1),(cC z.j z.1 (-1)),z.s)))) (aI z.2))) λD=>(c8 ((cS z.1),D))) (aI (bZ (z.2.1,z.a,z.b,z.c,z.e,z.g,z.j,z.m,z.o,z.l,z.n,z.i,z.q,z.t))))) (0,x.2.1,x.a,x.b,(cC x.c x.1.2.1 x.1.1),x.e,x.g,x.j,x.m,x.o,x.l,x.n,x.i,x.q,x.r,x.1.2)) (aI (x.2.1,x.a,x.b,(cC x.c x.1.2.1 x.1.1),x.h)))))))) λL=>(Z L)))
def qF (x:R!):M Ye4:=mL @iter x
def gL (x:R!):M Ye4:=mL @iK x
def iJ (x:R!):M ((eu×Y gA)×(Y η)×wY×(η)×(η)×(η)×(η)×(η)×(η)×BJ×(Y η)×(Y η)×(η)×Y AL):=
 (aA (lW (x.2.1.1,x.1.2)) λz=>(aJ (jN (x.1.2.1,z) x.l) (kO (db (x.1.2.1,z) x.l) x.i (bT (bh (aj x.n+1) 8) (aA (lX (x.2.1.1,x.1.2)) λD=>(jZ 0 D (Z (x.2.1,x.a,x.b,x.c,x.e,x.g,x.j,x.m,x.o,(sK (x.1.2.1,D) (aS (aj (qW (S:=lO) x.i (db (x.1.2.1,z) x.l) ((((dT lO x.i (db (x.1.2.1,z) x.l)).1).1,(((dT lO x.i (db (x.1.2.1,z) x.l)).1).2).1,((((dT lO x.i (db (x.1.2.1,z) x.l)).1).2).2).1,x.1.1,(((((dT lO x.i (db (x.1.2.1,z) x.l)).1).2).2).2).2),(dT lO x.i (db (x.1.2.1,z) x.l)).2)))) (L6 (aj (qW (S:=lO) x.i (db (x.1.2.1,z) x.l) ((((dT lO x.i (db (x.1.2.1,z) x.l)).1).1,(((dT lO x.i (db (x.1.2.1,z) x.l)).1).2).1,((((dT lO x.i (db (x.1.2.1,z) x.l)).1).2).2).1,x.1.1,(((((dT lO x.i (db (x.1.2.1,z) x.l)).1).2).2).2).2),(dT lO x.i (db (x.1.2.1,z) x.l)).2))) (Ah (x.1.2.1,z) x.l))),x.q,x.r,(gE (shf (aj (qW (S:=lO) x.i (db (x.1.2.1,z) x.l) ((((dT lO x.i (db (x.1.2.1,z) x.l)).1).1,(((dT lO x.i (db (x.1.2.1,z) x.l)).1).2).1,((((dT lO x.i (db (x.1.2.1,z) x.l)).1).2).2).1,x.1.1,(((((dT lO x.i (db (x.1.2.1,z) x.l)).1).2).2).2).2),(dT lO x.i (db (x.1.2.1,z) x.l)).2)))) (sS x.n [(db (x.1.2.1,z) x.l)])),(sS (qW (S:=lO) x.i (db (x.1.2.1,z) x.l) ((((dT lO x.i (db (x.1.2.1,z) x.l)).1).1,(((dT lO x.i (db (x.1.2.1,z) x.l)).1).2).1,((((dT lO x.i (db (x.1.2.1,z) x.l)).1).2).2).1,x.1.1,(((((dT lO x.i (db (x.1.2.1,z) x.l)).1).2).2).2).2),(dT lO x.i (db (x.1.2.1,z) x.l)).2)) [((x.1.2.1,D,x.1.1,(-1),(decide ((x.1.a:Int)=8))),[],[])]))) (Z (x.2.1,x.a,x.b,x.c,x.e,x.g,x.j,x.m,x.o,(Ah (x.1.2.1,z) x.l),x.q,x.r,(sS x.n [(db (x.1.2.1,z) x.l)]),(qW (S:=lO) x.i (db (x.1.2.1,z) x.l) ((((dT lO x.i (db (x.1.2.1,z) x.l)).1).1,(((dT lO x.i (db (x.1.2.1,z) x.l)).1).2).1,((((dT lO x.i (db (x.1.2.1,z) x.l)).1).2).2).1,x.1.1,(((((dT lO x.i (db (x.1.2.1,z) x.l)).1).2).2).2).2),(dT lO x.i (db (x.1.2.1,z) x.l)).2)))))))) (aA (lX (x.2.1.1,x.1.2)) λA=>(jZ 0 A (Z (x.2.1,x.a,x.b,x.c,x.e,x.g,x.j,x.m,x.o,(sK (x.1.2.1,A) (bc x.i) (L6 (aj x.i) x.l)),x.q,x.r,(gE (shf (aj x.i)) x.n),(sS x.i [((x.1.2.1,A,x.1.1,(-1),(decide ((x.1.a:Int)=8))),[],[])]))) (Z (x.2.1,x.a,x.b,x.c,x.e,x.g,x.j,x.m,x.o,x.l,x.q,x.r,x.n,x.i))))))
def jT (x:Á):M Ye6:=
 (jn (ck (dN x.1 (aj x.i)) (aJ (xn (K:=aP) (V:=.bool) x.u.a (sN (S:=lO) 1 (dT lO x.i x.1)) af) (aI ((x.1,J),x.2)) (bm x.u.2.1 4 (ck (dN x.1 (aj x.i)) (aI ((x.1,(xn (K:=aP) (V:=.bool) x.u.a (sN (S:=lO) 0 (dT lO x.i x.1)) af)),x.2))) (aI ((x.1,af),x.2))))) λz=>(aJ z.1.2 (kO z.1.1 z.i (lt ((((((dT lO z.i z.1.1).1).2).2).2).1) λD=>(kf (.sl aP) z.a D λA=>(aA (lC (z.E,A)) λL=>(Z (z.2.1,z.a,z.b,z.c,z.e,z.g,z.j,z.m,z.o,z.l,z.n,z.i,z.q,z.t,z.u,L)))))) (Z z.2)))
def jS (x:Int×d!):M Ye5:=
 (jn (kO x.1 x.i (lt (((((dT lO x.i x.1).1).2).2).1) λz2=>(kf fd x.b z2 λz3=>(aA (kl (x.u,z3)) λy4=>(aJ y4 (kO x.1 x.i (lt ((((((dT lO x.i x.1).1).2).2).2).1) λz5=>(kf fd x.b z5 λN=>(aA (kl (x.u,N)) λy7=>(aI ((x.1,(!y7)),x.2)))))) (aI ((x.1,af),x.2))))))) λz=>(aJ z.1.2 (kO z.1.1 z.i (lt ((((((dT lO z.i z.1.1).1).2).2).2).1) λL=>(kf (.sl aP) z.a L λD=>(aA (lC (z.u,D)) λA=>(Z (z.2.1,z.a,z.b,z.c,z.e,z.g,z.j,z.m,z.o,z.l,z.n,z.i,z.q,z.t,A,J)))))) (Z z.2)))
def sj (it:Fl) (x:Á):M Ye6:=
 (it (ν×c?) _ (λz=>(bV z.1.2 (bc x.n) (jn (ck (dN z.1.2 (aj z.n)) (jn (kO (m_ z.n z.1.2) z.i (lt ((((dT lO z.i (m_ z.n z.1.2)).1).2).1) λz4=>(kO z.1.1 z.i (lt ((((dT lO z.i z.1.1).1).2).1) λz5=>(bm z4 z5 (kO (m_ z.n z.1.2) z.i (lt (((dT lO z.i (m_ z.n z.1.2)).1).1) λz6=>(kO z.1.1 z.i (lt (((dT lO z.i z.1.1).1).1) λz7=>(jY z6 z7 (kO (m_ z.n z.1.2) z.i (lt ((((((dT lO z.i (m_ z.n z.1.2)).1).2).2).2).2) λz8=>(aJ z8 (kO z.1.1 z.i (lt ((((((dT lO z.i z.1.1).1).2).2).2).2) λz9=>(aJ (!z9) (kO (m_ z.n z.1.2) z.i (lt ((((((dT lO z.i (m_ z.n z.1.2)).1).2).2).2).1) λz10=>(kO z.1.1 z.i (lt (((((dT lO z.i z.1.1).1).2).2).1) λz11=>(aI ((z.1.1,(m_ z.n z.1.2),(gF z10 z11)),z.2)))))) (aI ((z.1.1,(m_ z.n z.1.2),af),z.2))))) (kO (m_ z.n z.1.2) z.i (lt ((((((dT lO z.i (m_ z.n z.1.2)).1).2).2).2).1) λN=>(kO z.1.1 z.i (lt (((((dT lO z.i z.1.1).1).2).2).1) λL=>(aI ((z.1.1,(m_ z.n z.1.2),(gF N L)),z.2))))))))) (aI ((z.1.1,(m_ z.n z.1.2),af),z.2))))))) (aI ((z.1.1,(m_ z.n z.1.2),af),z.2))))))) λD=>(aJ D.1.2.2 (aA (jT (D.1.2.1,D.2)) λA=>(bT (aB (aj D.n) (aj A.l)&&(aB (aj D.o) (aj A.m)&&(aB (aj D.m) (aj A.j)&&(aB (aj D.j) (aj A.g)&&(aB (aj D.g) (aj A.e)&&(aB (aj D.e) (aj A.c)&&(aB (aj D.c) (aj A.b)&&(aB (aj D.b) (aj A.a)&&(aB (aj D.a) (aj A.2.1)&&J))))))))) (aI (D.1.1,A)))) (aI (D.1.1,D.2))))) λx2=>(c8 ((x2.1,(cS z.1.2)),x2.2))) (aI z.2))) ((x.1,0),x.2))
def vY (x:Á):M Ye6:=sj @iter x
def kA (x:Á):M Ye6:=sj @iK x
def sh (it:Fl) (x:Int×d!):M Ye5:=
 (it (ν×d!) _ (λz=>(bV z.1.2 (bc x.n) (jn (ck (dN z.1.2 (aj z.n)) (jn (kO (m_ z.n z.1.2) z.i (lt ((((dT lO z.i (m_ z.n z.1.2)).1).2).1) λz4=>(kO z.1.1 z.i (lt ((((dT lO z.i z.1.1).1).2).1) λz5=>(bm z4 z5 (kO (m_ z.n z.1.2) z.i (lt (((dT lO z.i (m_ z.n z.1.2)).1).1) λz6=>(kO z.1.1 z.i (lt (((dT lO z.i z.1.1).1).1) λz7=>(jY z6 z7 (kO (m_ z.n z.1.2) z.i (lt ((((((dT lO z.i (m_ z.n z.1.2)).1).2).2).2).2) λz8=>(aJ z8 (kO z.1.1 z.i (lt ((((((dT lO z.i z.1.1).1).2).2).2).2) λz9=>(aJ (!z9) (kO (m_ z.n z.1.2) z.i (lt ((((((dT lO z.i (m_ z.n z.1.2)).1).2).2).2).1) λz10=>(kO z.1.1 z.i (lt (((((dT lO z.i z.1.1).1).2).2).1) λz11=>(aI ((z.1.1,(m_ z.n z.1.2),(gF z10 z11)),z.2)))))) (aI ((z.1.1,(m_ z.n z.1.2),af),z.2))))) (kO (m_ z.n z.1.2) z.i (lt ((((((dT lO z.i (m_ z.n z.1.2)).1).2).2).2).1) λN=>(kO z.1.1 z.i (lt (((((dT lO z.i z.1.1).1).2).2).1) λL=>(aI ((z.1.1,(m_ z.n z.1.2),(gF N L)),z.2))))))))) (aI ((z.1.1,(m_ z.n z.1.2),af),z.2))))))) (aI ((z.1.1,(m_ z.n z.1.2),af),z.2))))))) λD=>(aJ D.1.2.2 (aA (jS (D.1.2.1,D.2)) λA=>(bT (aB (aj D.n) (aj A.l)&&(aB (aj D.o) (aj A.m)&&(aB (aj D.m) (aj A.j)&&(aB (aj D.j) (aj A.g)&&(aB (aj D.g) (aj A.e)&&(aB (aj D.e) (aj A.c)&&(aB (aj D.c) (aj A.b)&&(aB (aj D.b) (aj A.a)&&(aB (aj D.a) (aj A.2.1)&&J))))))))) (aI (D.1.1,A)))) (aI (D.1.1,D.2))))) λx2=>(c8 ((x2.1,(cS z.1.2)),x2.2))) (aI z.2))) ((x.1,0),x.2))
def vX (x:Int×d!):M Ye5:=sh @iter x
def kz (x:Int×d!):M Ye5:=sh @iK x
def nR (it:Fl) (x:R!):M Ye8:=
 (bT (dz 0 (bc x.2.1.1.c)&&dz (bc x.2.1.1.c) (bc x.2.1.1.c)&&bh (aN (bc x.2.1.1.c)) 8) (aA (iZ (x.1.2,x.2)) λy1=>(bT (aB (aj x.n) (aj y1.n)&&(aB (aj x.o) (aj y1.o)&&(aB (aj x.m) (aj y1.m)&&(aB (aj x.j) (aj y1.j)&&(aB (aj x.g) (aj y1.g)&&(aB (aj x.e) (aj y1.e)&&(aB (aj x.c) (aj y1.c)&&(aB (aj x.b) (aj y1.b)&&(aB (aj x.a) (aj y1.a)&&J))))))))) (it Ye9 _ (λx2=>(bV x2.1 (bc y1.1) (jn (bW aP y1.1 x2.1 λz4=>(jZ 0 z4 (kf (.sl aP) x2.a z4 λz5=>(aA (lC (x2.E,z5)) λy6=>(aI (x2.2.1,x2.a,x2.b,x2.c,x2.e,x2.g,x2.j,x2.m,x2.o,x2.l,x2.n,x2.i,x2.q,x2.t,x2.u,y6)))) (aI x2.2))) λx3=>(c8 ((cS x2.1),x3))) (aA (jn (α:=c?) (aA (oL x2.u) λy8=>(aJ y8 (it Ye9 _ (λx9=>(bV x9.1 (bn .i64 ((bc x2.2.1.1.2.1)+1)) (jn (aJ (jN (x9.u.1,x9.1) x9.l) (aA (kA ((db (x9.u.1,x9.1) x9.l),x9.2)) λN=>(bT (aB (aj x9.n) (aj N.l)&&(aB (aj x9.o) (aj N.m)&&(aB (aj x9.m) (aj N.j)&&(aB (aj x9.j) (aj N.g)&&(aB (aj x9.g) (aj N.e)&&(aB (aj x9.e) (aj N.c)&&(aB (aj x9.c) (aj N.b)&&(aB (aj x9.b) (aj N.a)&&(aB (aj x9.a) (aj N.2.1)&&J))))))))) (aA (jR (((db (x9.u.1,x9.1) x9.l),N.t),N.n)) λy12=>(aI (N.1,N.2.1,N.a,N.b,N.c,N.e,N.g,N.j,N.m,N.o,N.l,y12,N.z))))) (aI x9.2)) λx10=>(c8 ((cS x9.1),x10))) (aI (bZ x9.2)))) (0,x2.2)) (aI x2.2))) λx7=>(jn (aA (lW (x7.1.1,x7.t)) λy14=>(aJ (jN (x7.t.1,y14) x7.o) (it (Int×(eu×Y gA)×(Y η)×wY×(η)×(η)×(η)×(η)×(η)×(η)×BJ×(η)×(Y AL)×(Y η)×(Y η)×gA×(η)×Bool) _ (λz=>(aJ z.G (aA (kz (z.1,z.2.1,z.a,z.b,z.c,z.e,z.g,z.j,z.m,z.o,z.l,z.n,z.i,z.q,z.t,z.C,af)) λL=>(bT (aB (aj z.n) (aj L.l)&&(aB (aj z.o) (aj L.m)&&(aB (aj z.m) (aj L.j)&&(aB (aj z.j) (aj L.g)&&(aB (aj z.g) (aj L.e)&&(aB (aj z.e) (aj L.c)&&(aB (aj z.c) (aj L.b)&&(aB (aj z.b) (aj L.a)&&(aB (aj z.a) (aj L.2.1)&&J))))))))) (c8 (z.1,L.1,L.2.1,L.a,L.b,L.c,L.e,L.g,L.j,L.m,L.o,L.l,L.n,L.i,L.q,z.u,L.r)))) (aI (bZ (z.2.1,z.a,z.b,z.c,z.e,z.g,z.j,z.m,z.o,z.l,z.n,z.i,z.q,z.t,z.u,z.C))))) ((db (x7.t.1,y14) x7.o),x7.1,x7.2.1,x7.a,x7.b,x7.c,x7.e,x7.g,x7.j,x7.m,x7.o,x7.l,x7.n,x7.i,x7.q,x7.t,x7.F,J)) (aI x7))) λA=>(aA (rf (A.F,A.t.1)) λy17=>(bT (bh (aj A.2.1+aj ([y17])) 24) (bW aP y17 A.t.1 λz18=>(bT (bh (aj A.a+aj ([(z18,A.t.1)])) 16) (aA (iJ ((x.1.1,A.t),A.1,(A.2.1++([y17])),(A.a++([(z18,A.t.1)])),A.b,A.c,A.e,A.g,A.j,A.m,A.o,A.l,A.n,A.i,A.q)) λD=>(bT (aB (aj A.l) (aj A.l)&&(aB (aj A.m) (aj D.m)&&(aB (aj A.j) (aj D.j)&&(aB (aj A.g) (aj D.g)&&(aB (aj A.e) (aj D.e)&&(aB (aj A.c) (aj D.c)&&(aB (aj A.b) (aj D.b)&&(aB (aj (A.a++([(z18,A.t.1)]))) (aj D.a)&&(aB (aj (A.2.1++([y17]))) (aj D.2.1)&&J))))))))) (aA (gL ((x.1.1,A.t),D.1,D.2.1,D.a,D.b,D.c,D.e,D.g,D.j,D.m,D.o,D.i,D.y,D.l,D.n)) λy20=>(bT (aB (aj D.i) (aj y20.l)&&(aB (aj D.m) (aj y20.m)&&(aB (aj D.j) (aj y20.j)&&(aB (aj D.g) (aj y20.g)&&(aB (aj D.e) (aj y20.e)&&(aB (aj D.c) (aj y20.c)&&(aB (aj D.b) (aj y20.b)&&(aB (aj D.a) (aj y20.a)&&(aB (aj D.2.1) (aj y20.2.1)&&J))))))))) (Z (y20.1,y20.b,y20.c,y20.e,y20.g,y20.j,y20.m,y20.o,y20.2.1,y20.a,y20.w)))))))))))) λr=>Z (bZ r)))) (0,y1.2.1,y1.a,y1.b,y1.c,y1.e,y1.g,y1.j,y1.m,y1.o,y1.l,y1.n,y1.i,y1.q,y1.r,x.1.2,(aG (aN (bc x.2.1.1.c)) (0:Int)))))))
def rM (x:R!):M Ye8:=nR @iter x
def gy (x:R!):M Ye8:=nR @iK x
abbrev g?:=(Y η)×wY×(η)×(η)×(η)×(η)×(η)×(η)×BJ×(η)×(Y η)×(Y η)×Y AL
def vA (it:Fl) (x:x?):M Ye4:=
 (aA (lF (bc x.1.c)) λy1=>(aA (lF (bc x.1.c)) λy2=>(aA (lF (bc x.1.c)) λN=>(aA (lF (bc x.1.c)) λL=>(bT (dz 0 (bc x.1.1)&&dz (bc x.1.1) (bc x.1.1)&&bh (aN (bc x.1.1)) 24) (bT (dz 0 (bc x.1.b)&&dz (bc x.1.b) (bc x.1.b)&&bh (aN (bc x.1.b)) 24) (it (Int×(eu×Y gA)×g?) _ (λz=>(bV z.1 (bc x.2) (bW fV x.2 z.1 λD=>(aA (gy ((z.1,D),z.2.1,z.a,z.b,z.c,z.e,z.g,z.j,z.m,z.o,z.l,z.n,z.r,z.i,z.q)) λA=>(bT (aB (aj z.n) (aj z.n)&&(aB (aj z.o) (aj A.g)&&(aB (aj z.m) (aj A.e)&&(aB (aj z.j) (aj A.c)&&(aB (aj z.g) (aj A.b)&&(aB (aj z.e) (aj A.a)&&(aB (aj z.c) (aj A.2.1)&&(aB (aj z.b) (aj z.b)&&(aB (aj z.a) (aj z.a)&&J))))))))) (c8 ((cS z.1),A.1,A.m,A.o,A.2.1,A.a,A.b,A.c,A.e,A.g,A.j,A.l,A.i,A.y,A.n))))) (aI (z.2.1,z.a,z.b,z.c,z.e,z.g,z.j,z.m,z.o,z.l,z.n,z.r,z.i,z.q)))) (0,x,([]:Y η),([]:Y ν),y1,y2,N,L,(aG (aN (bc x.1.1)) (0:Int)),(aG (aN (bc x.1.b)) (0:Int)),([]:Y d?),([]:η),(aG (aN (bc x.1.1)) ([]:η)),(aG (aN (bc x.1.b)) ([]:η)),([]:Y AL)))))))))
def Ai (x:x?):M Ye4:=vA @iter x
def mF (x:x?):M Ye4:=vA @iK x
abbrev P!:=(eu×Y gA)×(eu×Y gA)×wY×gA×g?
abbrev S?:=(eu×Y gA)×(eu×Y gA)×wY×g?
def xy (it:Fl) (x:x?):M (wY×Int):=
 (aA (hZ x) λy1=>(jY y1.2 0 (Z (([]:Y ν),12)) (aA (mF x) λN=>(it (Int×S?) _ (λD=>(bV D.1 (bc x.2) (jn (α:=S?) (bW fV x.2 D.1 λz5=>(jn (aA (oL z5) λy7=>(aJ (!y7) (aI (J,D.2.1,D.a,D.b,z5,D.f)) (bW lL D.2.1.1.1 z5.a λz8=>(aI (z8.2.2.2.1,D.2.1,D.a,D.b,z5,D.f))))) λx6=>(aJ x6.1 (aI (x6.2.1,x6.a,x6.b,x6.h)) (bT (dz 0 D.1&&dz D.1 (aj x6.2.1.2)) (it (Int×P!) _ (λA=>(bV A.1 (aS (aj (dE (aN D.1) x6.2.1.2))) (jn (α:=P!) (bW fV (dE (aN D.1) x6.2.1.2) A.1 λz11=>(jn (aA (oL z11) λy13=>(aJ (!y13) (aI (J,A.2.1,A.a,A.b,A.c,z11,A.h)) (jY z11.a A.c.a (aI (J,A.2.1,A.a,A.b,A.c,z11,A.h)) (aI ((decide ((z11.1:Int)=A.c.1)),A.2.1,A.a,A.b,A.c,z11,A.h))))) λz=>(aJ z.1 (aI (z.2.1,z.a,z.b,z.c,z.k)) (jn (bm z.e.2.1 4 (aI (J,z.2.1,z.a,z.b,z.c,z.k)) (aI ((decide ((z.c.2.1:Int)=4)),z.2.1,z.a,z.b,z.c,z.k))) λx14=>(jn (aJ x14.1 (kf (.sl aP) x14.e D.1 λz16=>(kf fd x14.g A.1 λz17=>(aA (kl (z16,z17)) λy18=>(aI ((!y18),x14.2))))) (aI (af,x14.2))) λL=>(aJ L.1 (bT (bh (aj L.b+aj ([(A.1,D.1)])) 16) (aI (L.2.1,L.a,(L.b++([(A.1,D.1)])),L.f))) (aI L.2))))))) λx10=>(c8 ((cS A.1),x10))) (aI (bZ (A.2.1,A.a,A.b,A.h))))) (0,x6.2)))))) λx4=>(c8 ((cS D.1),x4))) (aI (D.b,0)))) (0,x,N.1,([]:Y ν),N.2.1,N.a,N.b,N.c,N.e,N.g,N.j,N.m,N.o,N.l,N.i,N.y,N.n)))))
def BV (x:x?):M (wY×Int):=xy @iter x
def ly (x:x?):M (wY×Int):=xy @iK x
def TW (it:Fl) (x:Unit):M eu:=
 (it G! _ (λA=>(bV A.1 (aS (aj ([[109,97,105,110],[116,49],[116,50],[116,51]]))) (it G! _ (λz=>(bV z.1 6 (bT (bh (aj z.k+aj ([(A.1,z.1,(bn .i64 ((bn .i64 ((bn .i64 (10*A.1))+z.1))+1)))])) 24) (c8 ((cS z.1),z.2.1,z.a,z.b,z.c,z.e,(z.k++([(A.1,z.1,(bn .i64 ((bn .i64 ((bn .i64 (10*A.1))+z.1))+1)))]))))) (aI (li ((cS A.1),z.2))))) (0,A.2)) (aI A.2))) (0,[([120],0,0,af,0),([121],0,0,af,1),([118],0,0,J,0),([113],0,2,af,0),([113],1,2,af,0)],[([109],af),([110],af),([114],J)],[([99],0)],[[102]],[[109,97,105,110],[116,49],[116,50],[116,51]],([]:Y π)))
def S_ (x:Unit):M eu:=TW @iter x
def F5 (x:Unit):M eu:=TW @iK x
def qu (x:Bool):M x?:=
 (jn (aJ x (aI 1) (aI 3)) λA=>(aA (F5 ()) λz=>(Z (z,[(0,1,(-1),0,(-1),([]:η),([]:η)),(0,20,1,0,0,([]:η),([]:η)),(1,1,(-1),0,(-1),([]:η),([]:η)),(0,4,0,5,0,([]:η),([]:η)),(0,6,0,0,0,([]:η),([]:η)),(0,4,1,6,0,([]:η),([]:η)),(0,7,0,0,0,([]:η),([]:η)),(1,6,0,0,6,([]:η),([]:η)),(1,4,A,7,6,([]:η),([]:η)),(1,7,0,0,6,([]:η),([]:η)),(1,4,0,8,6,([]:η),([]:η))]))))
def vw (x:Unit):M (Bool):=
 (aA (qu af) λN=>(aA (ly N) λz=>(aA (qu J) λL=>(aA (ly L) λD=>(jn (α:=Bool) (bm z.2 0 (bm D.2 0 (bm (bc z.1) 1 (bW fd z.1 0 λA=>(aJ (LL (.pr aP (.pr aP .un)) (A.1,A.2,()) (3,10,()) !=af) (aI (decide (((bc D.1):Int)=0))) (aI af))) (aI af)) (aI af)) (aI af)) λx5=>(Z x5))))))
def qX (x:b!):M (Bool):=
 (jn (bm x.2.1 3 (aI J) (aI (decide ((x.2.1:Int)=4)))) λz=>(Z z))
def nz (x:gA×b!):M (Bool):=
 (jn (aA (qX x.1) λA=>(aJ A (aA (qX x.2) λz=>(aJ z (jY x.1.1 x.2.1 (bm x.1.a x.b (bm x.1.2.1 4 (aI J) (aI (decide ((x.a:Int)=4)))) (aI af)) (aI af)) (aI af))) (aI af))) λD=>(Z D))
abbrev C!:=(Y gA)×Int
def ny (x:C!):M (Int):=
 (iter (σ:=Int) (λz=>(jZ 0 z (bW fV x.1 z λD=>(bW fV x.1 x.2 λA=>(bm D.1 A.1 (aI z) (c8 (bn .i64 (z-1)))))) (aI (-1)))) (bn .i64 (x.2-1)))
def ub (x:C!):M (Int):=
 (iter (σ:=ν) (λz=>(bV z.2 x.2 (jn (bW fV x.1 z.2 λD=>(bW fV x.1 x.2 λA=>(bm D.1 A.1 (aI (cS z.1)) (aI z.1)))) λL=>(c8 (L,(cS z.2)))) (aI z.1))) (0,0))
def rU (x:C!):M ν:=
 (aA (ub x) λA=>(bW fV x.1 x.2 λz=>(Z ((bn .i64 (1+A)),z.1))))
abbrev D!:=eu×rz×Y BG
abbrev L?:=eu×(Y BG)×b!
def nv (x:eu×rz×C!):M (Y BG):=
 (iter (σ:=Int×D!) (λD=>(bV D.1 (bc x.2.1.d) (jn (α:=D!) (bm x.d (bc D.2.1.2.1) (jn (α:=D!) (bm D.a.2.1 D.1 (bT (bh (aj D.d+aj ([(D.1,(-1),(-1),af)])) 32) (aI (D.2.1,D.a,(D.d++([(D.1,(-1),(-1),af)]))))) (aI D.2)) λx3=>(aI x3)) (jn (α:=D!) (bW em D.a.1 x.d λz5=>(bm z5.1 D.1 (bT (bh (aj D.d+aj ([(D.1,(-1),(-1),af)])) 32) (aI (D.2.1,D.a,(D.d++([(D.1,(-1),(-1),af)]))))) (aI D.2))) λx4=>(bW em x4.2.1.1 x.d λz6=>(iter (σ:=Int×D!) (λx7=>(bV x7.1 (bc z6.2) (jn (α:=D!) (bW aP z6.2 x7.1 λz9=>(bm z9 D.1 (bT (bh (aj x7.d+aj ([(D.1,(-1),(-1),J)])) 32) (aI (x7.2.1,x7.a,(x7.d++([(D.1,(-1),(-1),J)]))))) (aI x7.2))) λx8=>(c8 ((cS x7.1),x8))) (aI (bZ x7.2)))) (0,x4))))) λx2=>(c8 ((cS D.1),x2))) (aA (iter (σ:=Int×eu×Y BG) (λz=>(bV z.1 (bc x.a) (jn (α:=eu×Y BG) (bW fV x.a z.1 λz12=>(aA (pR (z.2.1,z12)) λy13=>(aA (pQ (z.2.1,z12)) λy14=>(jn (α:=(ν)×L?) (bm x.d (bc z.2.1.2.1) (jn (α:=Int×L?) (bm z12.2.1 12 (aI (x.d,z.2.1,z.2.2,z12)) (aI ((-1),z.2.1,z.2.2,z12))) λx16=>(bm x16.c 13 (aI ((x16.1,x.d),x16.2)) (aI ((x16.1,(-1)),x16.2)))) (aI ((y13.1,y14.1),z.2.1,z.2.2,z12))) λx15=>(jn (α:=L?) (bm x15.1.2 x.d (iter (σ:=Int×L?) (λA=>(bV A.1 (bc x15.a) (jn (jn (kf uC A.a A.1 λz21=>(bm z21.1 A.b (kf uC A.a A.1 λz22=>(aI ((gF z22.2.2.1 0),A.2))) (aI (af,A.2)))) λL=>(aJ L.1 (ck (dN A.1 (aj L.a)) (aI (L.2.1,(cC L.a A.1 ((geti uC L.a A.1).1,((geti uC L.a A.1).2).1,z.1,(((geti uC L.a A.1).2).2).2)),L.d))) (aI L.2))) λx19=>(c8 ((cS A.1),x19))) (aI (bZ A.2)))) (0,x15.2)) (aI x15.2)) λN=>(bm x15.1.1 x.d (bT (bh (aj N.2.1+aj ([(N.a,z.1,(-1),y13.2)])) 32) (aI (N.1,(N.2.1++([(N.a,z.1,(-1),y13.2)]))))) (aI (N.1,N.2.1)))))))) λx11=>(c8 ((cS z.1),x11))) (aI z.2.2))) (0,D.2.1,D.d)) λr=>Z (bZ r)))) (0,x.1,x.2.1,([]:Y BG)))
def pP (x:À):M (Bool):=
 (jn (aA (qX x.2) λA=>(aJ A (jZ 0 x.b (bV x.b (bc x.1.1) (bW lL x.1.1 x.b λz=>(aI z.2.2.2.1)) (aI af)) (aI af)) (aI af))) λD=>(Z D))
def sY (x:C!):M (Int):=
 (aA (ny x) λA=>(jn (bV A 0 (aI J) (bW fV x.1 A λz3=>(aI (!decide ((z3.2.1:Int)=16))))) λx2=>(aJ x2 (Z (-1)) (iter (σ:=Int) (λz=>(bV z x.2 (jn (bW fV x.1 z λz6=>(bm z6.2.1 18 (bW fV x.1 z λz7=>(bW fV x.1 x.2 λz8=>(bm z7.2.2.2.1 z8.1 (aI J) (bW fV x.1 z λz9=>(bm z9.2.1 19 (bW fV x.1 z λz10=>(bW fV x.1 A λz11=>(aI (decide ((z10.2.2.1:Int)=z11.2.2.1))))) (aI af)))))) (bW fV x.1 z λN=>(bm N.2.1 19 (bW fV x.1 z λL=>(bW fV x.1 A λD=>(aI (decide ((L.2.2.1:Int)=D.2.2.1))))) (aI af))))) λx5=>(aJ x5 (aI z) (c8 (cS z)))) (aI (-1)))) (cS A)))))
def oO (x:eu×C!):M η:=
 (bW fV x.2.1 x.2.2 λz1=>(iter (σ:=Int×eu×(η)×b!) (λz=>(bV z.1 x.2.2 (bW fV x.2.1 z.1 λz3=>(jn (α:=eu×(η)×b!) (jn (bm z.c 1 (bm z3.2.1 20 (aI ((decide ((z3.a:Int)=z.b)),z.2.1,z.a,z.d,z3)) (aI (af,z.2.1,z.a,z.d,z3))) (aI (af,z.2.1,z.a,z.d,z3))) λL=>(aJ L.1 (bT (bh (aj L.a+aj ([z.1])) 8) (aI (L.2.1,(L.a++([z.1])),L.b))) (jn (bm L.b.2.1 21 (aI ((decide ((L.c:Int)=L.b.a)),L.2)) (aI (af,L.2))) λD=>(aJ D.1 (bT (bh (aj D.a+aj ([z.1])) 8) (aI (D.2.1,(D.a++([z.1])),D.b))) (jn (bm D.b.2.1 3 (aA (pP (D.2.1,D.b)) λy8=>(aJ y8 (bm D.e 4 (aI ((decide ((D.g:Int)=D.b.a)),D.2)) (aI (af,D.2))) (aI (af,D.2)))) (aI (af,D.2))) λA=>(aJ A.1 (bT (bh (aj A.a+aj ([z.1])) 8) (aI (A.2.1,(A.a++([z.1])),A.b))) (jn (bm A.b.2.1 23 (bm A.e 22 (aI ((decide ((A.g:Int)=A.b.a)),A.2.1,A.a,A.b)) (aI (af,A.2.1,A.a,A.b))) (aI (af,A.2.1,A.a,A.b))) λx9=>(aJ x9.1 (bT (bh (aj x9.a+aj ([z.1])) 8) (aI (x9.2.1,(x9.a++([z.1])),x9.d))) (aI x9.2))))))))) λx4=>(c8 ((cS z.1),x4)))) (aA (jn (α:=η) (bm z.c 17 (aA (sY x.2) λN=>(jZ 0 N (bT (bh (aj z.a+aj ([N])) 8) (aI (z.a++([N])))) (aI z.a))) (aI z.a)) λx10=>(Z x10)) λr=>Z (bZ r)))) (0,x.1,([]:η),z1)))
def ol (x:c!):M rz:=
 (iter (σ:=Int×Int×S!) (λz=>(bV z.1 (bc x.2.1) (bT (bh (aj z.d+aj ([((-1),([]:η))])) 32) (c8 ((cS z.1),z.2.1,z.a,(z.d++([((-1),([]:η))]))))) (aI (z.d,z.a,([]:θ),([]:Y eH))))) (0,0,(-1),([]:Y j!)))
def rS (x:BG×Q?):M (Bool):=
 (jn (jY x.1.1 x.2.1 (aJ x.1.d (aJ (!x.f) (jZ 0 x.1.a (aI (gF x.1.a x.a)) (aI af)) (aI af)) (jZ 0 x.1.a (aI (gF x.1.a x.a)) (aI af))) (aI af)) λz=>(Z z))
def iw (x:BG×C!):M (Bool):=
 (jn (bW fV x.2.1 x.2.2 λz=>(bm z.1 x.1.1 (jZ x.1.2.1 x.2.2 (bV x.1.a 0 (aI J) (aI (dz x.2.2 x.1.a))) (aI af)) (aI af))) λA=>(Z A))
def rR (x:ν×u?):M (Bool×u?):=
 (ck (dN x.1.1 (aj x.2.1)) (bT (dN x.1.2 (aN (m_ x.2.1 x.1.1))) (kO x.1.1 x.2.2 (bW (.bool) (kX (T:=.bool) x.2.2 x.1.1) x.1.2 λz=>(aJ z (Z (af,x.2)) (ck (dN x.1.1 (aj x.2.1)) (bT (dN x.1.2 (aN (m_ x.2.1 x.1.1))) (kO x.1.1 x.2.2 (kO x.1.2 (kX (T:=.bool) x.2.2 x.1.1) (Z (J,x.2.1,(mB (T:=.bool) x.2.2 x.1.1 (cC (kX (T:=.bool) x.2.2 x.1.1) x.1.2 J)))))))))))))
def ku (x:η×Y θ):M (η×Y θ):=
 (iter (σ:=Int×u?) (λD=>(bV D.1 (bc x.1) (iter (σ:=Int×u?) (λA=>(bV A.1 (bc D.2.1) (jn (α:=u?) (ck (dN A.1 (aj A.2.1)) (bT (dN D.1 (aN (m_ A.2.1 A.1))) (kO A.1 A.2.2 (bW (.bool) (kX (T:=.bool) A.2.2 A.1) D.1 λN=>(aJ (!N) (aI A.2) (iter (σ:=Int×u?) (λz=>(bV z.1 (bc A.2.1) (jn (ck (dN D.1 (aj z.2.1)) (bT (dN z.1 (aN (m_ z.2.1 D.1))) (kO D.1 z.2.2 (bW (.bool) (kX (T:=.bool) z.2.2 D.1) z.1 λL=>(aJ L (ck (dN A.1 (aj z.2.1)) (bT (dN z.1 (aN (m_ z.2.1 A.1))) (kO A.1 z.2.2 (kO z.1 (kX (T:=.bool) z.2.2 A.1) (aI (z.2.1,(mB (T:=.bool) z.2.2 A.1 (cC (kX (T:=.bool) z.2.2 A.1) z.1 J)))))))) (aI z.2)))))) λx6=>(c8 ((cS z.1),x6))) (aI (bZ z.2)))) (0,A.2))))))) λx3=>(c8 ((cS A.1),x3))) (aI (li ((cS D.1),A.2))))) (0,D.2)) (aI D.2))) (0,x))
abbrev Â:=Int×(η)×al5×BG×Q?
def ua (x:((Y gA)×BG×Int×Int×Int×Bool)×u?):M (Bool×u?):=
 (iter (σ:=Â) (λA=>(bV A.1 (bc x.1.1) (iter (σ:=Â) (λz=>(bV z.1 (bc x.1.1) (jn (aA (iw (z.b,x.1.1,A.1)) λy4=>(aJ y4 (aA (iw (z.f,x.1.1,z.1)) λN=>(aJ N (ck (dN A.1 (aj z.2.1)) (bT (dN z.1 (aN (m_ z.2.1 A.1))) (kO A.1 z.a (bW (.bool) (kX (T:=.bool) z.a A.1) z.1 λL=>(aI (L,z.2)))))) (aI (af,z.2)))) (aI (af,z.2)))) λD=>(aJ D.1 (aI (bZ (J,D.2.1,D.a))) (c8 ((cS z.1),D.2)))) (aI (li ((cS A.1),z.2))))) (0,A.2)) (aI (af,A.2.1,A.a)))) (0,x.2.1,x.2.2,x.1.2))
def uc (x:((Y gA)×Int)×u?):M (η×al5×n!):=
 (bT (dz 0 (bc x.1.1)&&dz (bc x.1.1) (bc x.1.1)&&bh (aN (bc x.1.1)) 24) (iter (σ:=Int×(η)×al5×n!) (λz=>(bV z.1 (bc x.1.1) (bT (dz 0 x.1.2&&dz x.1.2 x.1.2&&bh (aN x.1.2) 8) (ck (dN z.1 (aj z.b)) (bT (af|| !(aB (aj (aG (aN x.1.2) (0:Int))) 0)) (iter (σ:=Int×(η)×al5×n!) (λA=>(bV A.1 (bc x.1.1) (jn (jn (bm A.1 z.1 (aI (J,A.2)) (ck (dN A.1 (aj A.2.1)) (bT (dN z.1 (aN (m_ A.2.1 A.1))) (kO A.1 A.a (bW (.bool) (kX (T:=.bool) A.a A.1) z.1 λz5=>(aI (z5,A.2))))))) λD=>(aJ D.1 (ck (dN z.1 (aj D.b)) (kO A.1 x.1.1 (lt ((geti fV x.1.1 A.1).1) λL=>(bT (dN L (aN (m_ D.b z.1))) (kO z.1 D.f (bW aP (kX (T:=aP) D.f z.1) L λN=>(bT (dN L (aN (m_ D.b z.1))) (kO z.1 D.f (kO L (kX (T:=aP) D.f z.1) (aI (D.2.1,D.a,D.b,(mB (T:=aP) D.f z.1 (cC (kX (T:=aP) D.f z.1) L (cS N)))))))))))))) (aI D.2))) λx3=>(c8 ((cS A.1),x3))) (aI (li ((cS z.1),A.2))))) (0,z.2.1,z.a,(oI z.b (aN z.1) (aS (aj (aG (aN x.1.2) (0:Int))))),(mB (T:=aP) z.f z.1 (aG (aN x.1.2) (0:Int)))))))) (aI z.2))) (0,x.2.1,x.2.2,(aG (aN (bc x.1.1)) (0:Int)),(aG (aN (bc x.1.1)) ([]:η)))))
abbrev o?:=(eu×Y gA)×(η)×(Y (Y BG))×Y θ
abbrev y?:=(eu×Y gA)×(η)×(Y (Y BG))×BG×Y θ
abbrev H!:=Int×(eu×Y gA)×(η)×(Y (Y BG))×BG×BG×Y θ
abbrev N!:=Int×(eu×Y gA)×u?
def sX (x:x?):M (η×Y η):=
 (bT (dz 0 (bc x.2)&&dz (bc x.2) (bc x.2)&&bh (aN (bc x.2)) 24) (iter (σ:=N!) (λx1=>(bV x1.1 (aS (aj (aG (aN (bc x.2)) (0:Int)))) (bT (dz 0 (bc x.2)&&dz (bc x.2) (bc x.2)&&bh (aN (bc x.2)) 1) (ck (dN x1.1 (aj x1.a)) (bT (af|| !(aB (aj (aG (aN (bc x.2)) (af:Bool))) 0)) (c8 ((cS x1.1),x1.2.1,(oI x1.a (aN x1.1) (aS (aj (aG (aN (bc x.2)) (af:Bool))))),(mB (T:=.bool) x1.d x1.1 (aG (aN (bc x.2)) (af:Bool)))))))) (aA (iter (σ:=N!) (λx2=>(bV x2.1 (bc x.2) (jn (aA (ny (x.2,x2.1)) λy4=>(jZ 0 y4 (ck (dN y4 (aj x2.a)) (bT (dN x2.1 (aN (m_ x2.a y4))) (kO y4 x2.d (kO x2.1 (kX (T:=.bool) x2.d y4) (aI (x2.2.1,x2.a,(mB (T:=.bool) x2.d y4 (cC (kX (T:=.bool) x2.d y4) x2.1 J)))))))) (aI x2.2))) λx3=>(aA (oO (x3.1.1,x.2,x2.1)) λy5=>(iter (σ:=N!) (λx6=>(bV x6.1 (bc y5) (bW aP y5 x6.1 λz7=>(ck (dN z7 (aj x6.a)) (bT (dN x2.1 (aN (m_ x6.a z7))) (kO z7 x6.d (kO x2.1 (kX (T:=.bool) x6.d z7) (c8 ((cS x6.1),x6.2.1,x6.a,(mB (T:=.bool) x6.d z7 (cC (kX (T:=.bool) x6.d z7) x2.1 J))))))))) (aI (li ((cS x2.1),x6.2))))) (0,x3)))) (aA (iter (σ:=Int×o?) (λx8=>(jZ x8.1 (bc x8.2.1.1.2.1) (aA (ol x8.2.1.1) λy9=>(aA (nv (x8.2.1.1,y9,x.2,x8.1)) λy10=>(bT (bh (aj x8.b+aj ([y10])) 24) (iter (σ:=Int×o?) (λx11=>(bV x11.1 (bc y10) (bW uC y10 x11.1 λz12=>(iter (σ:=Int×y?) (λD=>(bV D.1 (bc y10) (jn (α:=y?) (bW uC y10 D.1 λz15=>(aA (rS (D.c,z15)) λy16=>(aJ (!y16) (aI D.2) (iter (σ:=H!) (λx17=>(bV x17.1 (bc x.2) (iter (σ:=H!) (λL=>(bV L.1 (bc x.2) (jn (jn (aA (iw (L.c,x.2,x17.1)) λy21=>(aJ y21 (aA (iw (L.e,x.2,L.1)) λy22=>(aJ y22 (bW fV x.2 x17.1 λz23=>(bW fV x.2 L.1 λz24=>(aA (nz (z23,z24)) λy25=>(aI (y25,L.2))))) (aI (af,L.2)))) (aI (af,L.2)))) λA=>(aJ A.1 (ck (dN A.c.a (aj A.a)) (bT (dN L.1 (aN (m_ A.a A.c.a))) (kO A.c.a A.k (kO L.1 (kX (T:=.bool) A.k A.c.a) (aI (A.2.1,A.a,A.b,A.c,A.e,(mB (T:=.bool) A.k A.c.a (cC (kX (T:=.bool) A.k A.c.a) L.1 J)))))))) (aI A.2))) λx19=>(c8 ((cS L.1),x19))) (aI (li ((cS x17.1),L.2))))) (0,x17.2)) (aI (bZ (x17.2.1,x17.a,x17.b,x17.c,x17.k))))) (0,D.2.1,D.a,D.b,D.c,z15,D.h))))) λx14=>(c8 ((cS D.1),x14))) (aI (li ((cS x11.1),D.2.1,D.a,D.b,D.h))))) (0,x11.2.1,x11.a,x11.b,z12,x11.f))) (aI (li ((cS x8.1),x11.2))))) (0,x8.2.1,x8.a,(x8.b++([y10])),x8.f))))) (aA (aA (ku (x8.a,x8.f)) λy26=>(bT (aB (aj x8.a) (aj y26.1)&&J) (iter (σ:=Bool×o?) (λx27=>(aJ x27.1 (iter (σ:=(Bool×Int)×o?) (λN=>(bV N.1.2 (bc x27.b) (kf (.sl uC) N.b N.1.2 λz29=>(iter (σ:=(Bool×Int)×o?) (λx30=>(bV x30.1.2 (bc z29) (bW uC z29 x30.1.2 λz31=>(iter (σ:=(Bool×Int)×y?) (λz=>(bV z.1.2 (bc z29) (jn (bW uC z29 z.1.2 λz34=>(jn (aA (rS (z.c,z34)) λy36=>(aJ y36 (jZ 0 z34.a (aA (ua ((x.2,z.c,z34),z.a,z.h)) λy37=>(bT (aB (aj z.a) (aj y37.2.1)&&J) (aJ y37.1 (aA (rR ((z.c.a,z34.a),y37.2)) λy38=>(bT (aB (aj y37.2.1) (aj y38.2.1)&&J) (aI (y38.1,z.2.1,y38.2.1,z.b,z.c,y38.2.2)))) (aI (af,z.2.1,y37.2.1,z.b,z.c,y37.2.2))))) (aI (af,z.2))) (aI (af,z.2)))) λx35=>(aJ x35.1 (aI (J,x35.2)) (aI (z.1.1,x35.2))))) λx33=>(c8 ((x33.1,(cS z.1.2)),x33.2))) (aI (li ((z.1.1,(cS x30.1.2)),z.2.1,z.a,z.b,z.h))))) ((x30.1.1,0),x30.2.1,x30.a,x30.b,z31,x30.f))) (aI (li ((x30.1.1,(cS N.1.2)),x30.2))))) ((N.1.1,0),N.2))) (aA (aA (ku (N.a,N.f)) λy39=>(bT (aB (aj N.a) (aj y39.1)&&J) (c8 (N.1.1,N.2.1,y39.1,N.b,y39.2)))) λr=>Z (bZ r)))) ((af,0),x27.2)) (aA (aA (uc ((x.2,(bc x27.2.1.1.c)),x27.a,x27.f)) λy40=>(bT (aB (aj x27.a) (aj y40.1)&&J) (Z y40.2.2))) λr=>Z (bZ r)))) (J,x8.2.1,y26.1,x8.b,y26.2)))) λr=>Z (bZ r)))) (0,x2.2.1,x2.a,([]:Y (Y BG)),x2.d)) λr=>Z (bZ r)))) (0,x1.2)) λr=>Z (bZ r)))) (0,x,(aG (aN (bc x.2)) (0:Int)),(aG (aN (bc x.2)) ([]:θ)))))
def F0 (x:(ν×Int)×Y η):M (Int×Y η):=
 (jn (bV x.1.2 0 (aI (((x.1.1.1,aS (aN x.1.1.2)),J),x.2)) (aI (((x.1.1.1,aS (aN x.1.1.2)),(dz (aS (aN x.1.1.2)) x.1.2)),x.2))) λz=>(aJ z.1.2 (Z (0,z.2)) (bT (dN x.1.2 (aN z.1.1.2)) (kO z.1.1.1 z.2 (bW aP (kX (T:=aP) z.2 z.1.1.1) x.1.2 λA=>(Z (A,z.2)))))))
def vu (x:(ν×Int×Int)×Y η):M Ye10:=
 (aA (F0 (((x.1.1.1,aS (aN x.1.1.2)),x.1.2.2),x.2)) λz=>(Z ((dz x.1.2.1 z.1),z.2)))
def rT (x:wY×Y ν):M (Bool):=
 (jY (bc x.1) (bc x.2) (Z af) (iter (σ:=Int) (λz=>(bV z (bc x.1) (bW fd x.1 z λD=>(bW fd x.2 z λA=>(aJ (LL (.pr aP (.pr aP .un)) (D.1,D.2,()) (A.1,A.2,()) !=J) (aI af) (c8 (cS z))))) (aI J))) 0))
abbrev B!:=(η)×(Y η)×(eu×Y gA)×Y ν
def oq (x:(eu×Y gA)×n!):M (wY×n!):=
 (iter (σ:=Int×B!) (λA=>(bV A.1 (bc x.1.2) (iter (σ:=Int×B!) (λz=>(bV z.1 A.1 (jn (α:=B!) (jn (bW fV z.b.2 z.1 λz5=>(bW fV z.b.2 A.1 λz6=>(aA (nz (z5,z6)) λy7=>(aJ y7 (bW fV z.b.2 A.1 λz8=>(aA (pP (z.b.1,z8)) λy9=>(aJ (!y9) (ck (dN A.1 (aj z.2.1)) (aA (rU (z.b.2,z.1)) λN=>(aA (vu (((A.1,aS (aN (m_ z.2.1 A.1))),N),z.a)) λL=>(aI ((!L.1),z.2.1,L.2,z.d))))) (aI (af,z.2))))) (aI (af,z.2)))))) λD=>(aJ D.1 (bT (bh (aj D.f+aj ([(z.1,A.1)])) 16) (aI (D.2.1,D.a,D.b,(D.f++([(z.1,A.1)]))))) (aI D.2))) λx3=>(c8 ((cS z.1),x3))) (aI (li ((cS A.1),z.2))))) (0,A.2)) (aI (A.f,A.2.1,A.a)))) (0,x.2.1,x.2.2,x.1,([]:Y ν)))
def oX (x:η×Q!):M (Bool):=
 (aA (oN (x,24)) λz=>(aA (ly z) λL=>(jn (bm L.2 0 (aA (sX z) λD=>(aA (oq (z,D)) λA=>(bT (aB (aj D.1) (aj A.2.1)&&J) (aA (rT (L.1,A.1)) λy6=>(aJ y6 (aA (vw ()) λN=>(aI N)) (aI af)))))) (aI af)) λx3=>(Z x3))))
variable {R:Type}
@[simp] theorem LP (t f:M R):aJ J t f=t:=Eq.trans rfl rfl
@[simp] theorem aoz (t f:M R):aJ af t f=f:=Eq.trans rfl rfl
@[simp] theorem chk_t (k:J=J->M R):chk J k=k rfl:=Eq.trans rfl rfl
def wJ (h:b=J) (k:M R):chk b (λ_=>k)=k:=by cases b with|true=>rfl|false=>cases h
@[simp] theorem abu {α:Type} (x:α) (k:α->M R):aA (Z x) k=k x:=Eq.trans rfl rfl
@[simp] theorem anp {α:Type} (x:α) (k:α->M R):jn (Z (.inr x)) k=k x:=Eq.trans rfl rfl
@[simp] theorem jn_l {α:Type} (r:R) (k:α->M R):jn (Z (.inl r)) k=Z r:=Eq.trans rfl rfl
def anq {σ:Type} {f:σ->M (σ⊕R)} {x:σ} {r:R} (h:iterN f i x=Z r) (z:i<=18446744073709551616):iK f x=Z r:=yP h z
def aj9 {σ:Type} {f:σ->M (σ⊕R)} (n:Nat) (A:n<18446744073709551616) (st:Nat->σ) {r:R} (h0:∀i,i<n->f (st i)=Z (.inl (st (i+1)))) (h1:f (st n)=Z (.inr r)):iK f (st 0)=Z r:=by
 have key:∀k i,i+k=n->iterN f (k+1) (st i)=Z r:=by
  intro k;induction k with
  |zero=>intro i hi;have:i=n:=by omega
         subst this;simp[iterN,h1]
  |succ k z=>intro i hi;rw[iterN,h0 i (by omega)];exact z (i+1) (by omega)
 exact anq (key n 0 (by omega)) (by omega)
@[simp] theorem ajl {b:Int}:dz a b=J↔a<=b:=by unfold dz;simp
@[simp] theorem ajj {b:Int}:gF a b=J↔a<b:=by unfold gF;simp
def Ge {b:Int} (h:a<=b):dz a b=J:=ajl.2 h
def VS {b:Int} (h:a<b):gF a b=J:=ajj.2 h
def aqu {b:Int} (h:b<a):dz a b=af:=by unfold dz;simp;omega
def ajk {b:Int} (h:b<=a):gF a b=af:=by unfold gF;simp;omega
def awy (h0:0<=a) (h1:a<i):dN a i=J:=by unfold dN;rw[Ge h0,VS h1];rfl
def vz (h1:j<i):dN (j:Int) i=J:=awy (by omega) (by omega)
def abd (h0:i<=1099511627776) (h1:i*j<=1099511627776):bh i j=J:=by
 unfold bh;rw[bj h0,bj h1];rfl
def aqd (h0: -9223372036854775808<=a) (h1:a<=9223372036854775807):bn .i64 a=a:=by
 rw[Ln];unfold Q6;simp only[];rw[Ge h0,Ge h1];rfl
def Q5 (h:i<j) (z:j<=1099511627776):bn .i64 ((i:Int)+1)=((i+1:Nat):Int):=by
 rw[aqd (by omega) (by omega)];omega
def MR (a b:Nat):m7 (aS a) (aS b)=((max a b:Nat):Int):=by
 unfold m7;by_cases h:a<b
 .rw[VS (by simp;omega),aF rfl];simp;omega
 .rw[ajk (by simp;omega)];simp;omega
def ajw (xs:Y T.den) (i:Nat):geti _ xs (i:Int)=xs.getD i T.zero:=by unfold geti;simp
def rB (xs:Y R) (i:Nat) (x:R):cC xs (i:Int) x=xs.set i x:=by unfold cC;simp
def big:Nat:=1000000000
def jl (a b:η):η:=(dG (max (l! a) (l! b))).map λi=>m7 (a.getD i 0) (b.getD i 0)
def Ia (a b:η):l! (jl a b)=max (l! a) (l! b):=by simp[jl]
def MN (a b:η) (i:Nat):(jl a b).getD i 0=m7 (a.getD i 0) (b.getD i 0):=by
 unfold jl;simp[aE,bE];by_cases h:i<max (l! a) (l! b)
 .grind
 .rw[dL (by grind),dL (l:=a) (by omega),dL (l:=b) (by omega)];rfl
def aaz (c:η) (i:Nat):o9 (c,(i:Int))=Z (c.getD i 0):=by
 unfold o9 bV kO bc aI;rw[ajk (by omega)];by_cases h:i<l! c
 .rw[aqu (by grind)];rw[wJ (vz h),ajw];rfl
 .rw[Ge (by grind)];simp_all
def UJ (a b:η) (N:l! a<=big) (L:l! b<=big):lC (a,b)=Z (jl a b):=by
 unfold big at N L;unfold lC xA ck bV bT bc c8 aI cS;rw[wJ (by simp only[MR];rw[Ge (by omega),Ge (by omega),abd (by omega) (by omega)];rfl)];simp only[MR,be,dy];have:=aj9 (σ:=j!) (R:=η) (max (l! a) (l! b)) (by omega) (λi=>((i:Int),(dG (max (l! a) (l! b))).map λk=>if k<i then m7 (a.getD k 0) (b.getD k 0) else 0)) (f:=(λz=>(aJ (gF z.1 (aS (max (l! a) (l! b)))) (aA (o9 (a,z.1)) λD=>(aA (o9 (b,z.1)) λA=>(chk (dN z.1 (aj z.2)) λ_=>(chk (dN z.1 (aj z.2)) λ_=>(Z (li ((bn .i64 (z.1+1)),(cC z.2 z.1 (m7 D A))))))))) (Z (bZ z.2))))) (r:=jl a b) ?_ ?_
 .refine Eq.trans ?_ this;congr 1;simp[Int.natCast_zero,bN,dZ,aU,true_and];apply sI<;>simp
 .intro i hi;rw[VS (by grind),LP,aaz,aaz,abu,abu,wJ (vz (by grind)),wJ (vz (by grind)),Q5 hi (by omega),rB];congr 3;apply sI
  .simp
  .grind
 .simp[];rw[ajk (by simp),aoz];unfold jl;simp_all
def tk (c:η) (t:Nat):η:=(c++aG (t+1-l! c) 0).set t (c.getD t 0+1)
def Q_ (c:η) (t:Nat):l! (tk c t)=max (l! c) (t+1):=by simp[tk];omega
def padD (c:η) (n i:Nat):(c++aG n 0).getD i 0=c.getD i 0:=by grind
def EL (c:η) (t i:Nat):(tk c t).getD i 0=if i=t then c.getD t 0+1 else c.getD i 0:=by
 unfold tk
 grind
def akd (c:η) (n:Nat) (h:l! c<=n):Yy (aG n 0) c=c++aG (n-l! c) 0:=by
 unfold Yy;rw[dy,iG h,List.drop_replicate]
def ape (c:η) (t:Nat) (A:l! c<=big) (ht:t<4) (h0:0<=c.getD t 0) (h1:c.getD t 0<9223372036854775807):rf (c,(t:Int))=Z (tk c t):=by
 unfold big at A;unfold rf ck jZ bT bc aI cS;rw[Ge (by omega),LP,anp,VS (by omega)];simp only[LP,anp];have L:m7 (aS (l! c)) (bn .i64 ((t:Int)+1))=((max (l! c) (t+1):Nat):Int):=by
  rw[Q5 ht (by omega)];exact MR _ _
 rw[L];rw[wJ (by rw[Ge (by omega),Ge (by omega),abd (by omega) (by omega)];rfl)];rw[be];have e2:Yy (aG (max (l! c) (t+1)) (0:Int)) c=c++aG (t+1-l! c) 0:=by
  rw[akd c _ (by omega)]
  grind
 rw[e2];have z:t<l! (c++aG (t+1-l! c) (0:Int)):=by simp;omega
 rw[wJ (vz z),wJ (vz z),anp];have D:geti aP (c++aG (t+1-l! c) (0:Int)) (t:Int)=c.getD t 0:=by
  exact padD c _ t
 rw[D,VS h1,LP,wJ (vz z),wJ (vz z),wJ (vz z),wJ (vz z),anp,aqd (by omega) (by omega),rB];rfl
abbrev WO:Type:=(Int×Int×Int×Int×Bool)×Y (Int×Bool)×Y (Int×Bool)
def eL (l:Y ET) (i:Nat):Nat:=(eN l i).1.toNat
def ct (l:Y ET) (u:Nat):Nat->Nat
 |0=>0
 |n+1=>ct l u n+if eL l n=u then 1 else 0
def He (l:Y ET) (u:Nat):∀{n m:Nat},n<=m->ct l u n<=ct l u m:=by
 intro n m h;induction h with
 |refl=>exact bI _
 |step _ z=>exact dc z (by simp only[ct];omega)
def aoh (l:Y ET) (u:Nat):∀n,ct l u n<=n
 |0=>bI _
 |n+1=>by have:=aoh l u n;simp only[ct];split<;>omega
def CJ (l:Y ET) (i:Nat):ct l (eL l i) (i+1)=ct l (eL l i) i+1:=by simp only[ct,bq]
def EA (T j:Nat) (x:η):Prop:=l! x=T/\∀u:Nat,u<T-> -1<=x.getD u 0/\x.getD u 0<(j:Int)
def EA.up (h:EA i j z):EA i (j+1) z:=⟨h.1,λu x=>by have:=h.2 u x;omega⟩
def EA.set (h:EA i j z) (u:Nat) (h0: -1<=a) (h1:a<=(j:Int)):EA i (j+1) (cC z (u:Int) a):=by
 refine ⟨by rw[bX];exact h.1,λk x=>?_⟩;rw[rB,aE,ey];by_cases e:u=k
 .grind
 .rw[ax e,<-aE];have:=h.2 k x;omega
def EA.geti {T:Nat} (h:EA T j z) (h0:0<=a) (h1:a<T): -1<=AI.geti (T:=aP) z a/\AI.geti (T:=aP) z a<(j:Int):=by
 have e:a=((a.toNat:Nat):Int):=by omega
 exact h.2 _ (by omega)
def Pw (n j:Nat) (st:η) (si:Y η):Prop:=l! st=n/\l! si=n/\∀o:Nat,o<n->st.getD o 0=(l! (si.getD o []):Int)/\l! (si.getD o [])<=j/\∀v∈si.getD o [],0<=v/\v<(j:Int)
def Pw.up {si:Y η} (h:Pw i j z si):Pw i (j+1) z si:=⟨h.1,h.2.1,λo A=>by let⟨a,b,c⟩:=h.2.2 o A;exact⟨a,by omega,λv st=>by have:=c v st;omega⟩⟩
def Ap (z:η) (o:Nat):m_ z (o:Int)=z.getD o 0:=by unfold m_;rw[be]
def tJ (xss:Y η) (o:Nat):kX (T:=aP) xss (o:Int)=xss.getD o []:=by unfold kX;rw[be]
def tX (w:WT) (la sp wa:η) (si ei:Y η) (e:ET):η:=[geti aP la e.1]++
 (if e.2.1=1 then [geti aP sp e.1] else if e.2.1=21 then [geti aP la e.2.2.1] else if e.2.1=23 then kX (T:=aP) ei e.2.2.1
  else if e.2.1=3 then (if (geti lL w.1 e.2.2.1).2.2.2.1=J then kX (T:=aP) si e.2.2.1 else []) else if e.2.1=17 then [geti aP wa e.1] else [])
def YL {w:WT} {e:ET} (hev:Fp w e) (hj:j<=1000) {c:Y η} {tm:Y ν} {sp wa wt st se:η} {op:Y d?} {re:η} {ar:Y WO} {si ei:Y η}
 (h1:EA (l! w.2.2.2.2.1) j z) (h2:EA (l! w.2.2.2.2.1) j sp) (h3:EA (l! w.2.2.2.2.1) j wa) (h4:Pw (l! w.1) j st si) (h5:Pw (l! w.2.2.2.1) j se ei):
 iZ (e,(w,k),c,tm,z,sp,wa,wt,st,se,op,re,ar,si,ei)=Z (tX w z sp wa si ei e,(w,k),c,tm,z,sp,wa,wt,st,se,op,re,ar,si,ei):=by
 refine cI ?_;let⟨nm,L,D,cd⟩:=hev;let⟨t,l,o,v,s,r1,r2⟩:=e;dsimp only at nm L D;unfold iZ kK lE lD CZ bk bB bP cP eU kJ lP mw Prod.r ck bm kO bT bW kf aI;dsimp only;have l1:=h1.1;have l2:=h2.1;have l3:=h3.1;have gY:∀{R:Type} {Q:R->Prop} {x:η} {u:Int} {l:Int->M R},l! x=l! w.2.2.2.2.1->0<=u->u<l! w.2.2.2.2.1->Ok (l (geti aP x u)) Q->Ok (chk (dN u (l! x)) λ_=>chk (dN u (l! x)) λ_=>lt (geti aP x u) l) Q:=λhl h0 h1 hk=>aR h0 (by omega) (aR h0 (by omega) (aT hk))
 refine gY l1 L D ?_;refine aV (λx=>x=((w,k),c,tm,z,sp,wa,wt,st,se,op,re,ar,si,ei,tX w z sp wa si ei (t,l,o,v,s,r1,r2))) ?_ ?_
 .refine aK (λg=>?_) λg1=>?_
  .refine gY l2 L D (bG (by simp) (by omega) (ak ?_));dsimp only;unfold tX;dsimp only;rw[aF g]
  refine aK (λg=>?_) λg2=>?_
  .obtain⟨la,A⟩:=nm.th (.inr g);refine gY l1 la A (bG (by simp) (by omega) (ak ?_));dsimp only;unfold tX
   grind
  have lst:∀{n:Nat} {xs:η} {xss:Y η},Pw n j xs xss->0<=o->o<n->aB (aN (m_ xs o)) (aj (kX (T:=aP) xss o))=J/\(aj (kX (T:=aP) xss o))<=j/\l! xs=n/\l! xss=n:=λ{n xs xss} h la A=>by
   have e:o=((o.toNat:Nat):Int):=by omega
   let⟨a,b,cc⟩:=h.2.2 o.toNat (by omega);rw[e,Ap,tJ,a,be];exact⟨gw _,b,h.1,h.2.1⟩
  refine aK (λg=>?_) λg3=>?_
  .obtain⟨la,A⟩:=nm.fu (.inr g);let⟨N,q2,q3,q4⟩:=lst h5 la A;refine aR la (by omega) (aR la (by omega) (aR la (by omega) (bl N (bG (by rw[cH];omega) (by omega) (ak ?_)))));dsimp only;unfold tX
   grind
  refine aK (λg=>?_) λg4=>?_
  .obtain⟨la,A⟩:=nm.ce (.inl g);let⟨N,q2,q3,q4⟩:=lst h4 la A;refine aR la A (aT ?_);refine aQ (λgv=>?_) λgv=>?_
   .refine aR la (by omega) (aR la (by omega) (aR la (by omega) (bl N (bG (by rw[cH];omega) (by omega) (ak ?_)))));dsimp only;unfold tX
    grind
   .refine ak ?_;dsimp only;unfold tX
    grind
  refine aK (λg=>?_) λg5=>?_
  .refine gY l3 L D (bG (by simp) (by omega) (ak ?_));dsimp only;unfold tX
   grind
  .refine ak ?_;dsimp only;unfold tX
   grind
 .rintro x rfl;exact ak rfl
def Y3 (o j:Int) (n:Nat) (wt wa:η):η:=(dG (l! wa)).map λu=>if u<n/\wt.getD u 0=o then j else wa.getD u 0
def VF (o:Int) (n:Nat) (wt:η):η:=(dG (l! wt)).map λu=>if u<n/\wt.getD u 0=o then -1 else wt.getD u 0
def S9 (o j:Int) (n:Nat) (wt wa:η):l! (Y3 o j n wt wa)=l! wa:=by simp[Y3]
def S8 (o:Int) (n:Nat) (wt:η):l! (VF o n wt)=l! wt:=by simp[VF]
def ac0 (o j:Int) (n:Nat) (wt wa:η) (z:i<l! wa):(Y3 o j n wt wa).getD i 0=if i<n/\wt.getD i 0=o then j else wa.getD i 0:=by
 unfold Y3
 grind
def abz (o:Int) (n:Nat) (wt:η) (z:i<l! wt):(VF o n wt).getD i 0=if i<n/\wt.getD i 0=o then -1 else wt.getD i 0:=by
 unfold VF
 grind
def aiu (o j:Int) (wt wa:η):Y3 o j 0 wt wa=wa:=by
 unfold Y3;apply sI
 .simp
 .intro k h1 z;simp[aE,aH z]
def ait (o:Int) (wt:η):VF o 0 wt=wt:=by
 unfold VF;apply sI
 .simp
 .intro k h1 z;simp[aE,aH z]
def ast {j:Int} {wa:η} (h:z.getD i 0≠a):Y3 a j (i+1) z wa=Y3 a j i z wa:=by
 unfold Y3
 grind
def ass (h:z.getD i 0≠a):VF a (i+1) z=VF a i z:=by
 unfold VF
 grind
def ang {j:Int} {wa:η} (h:z.getD i 0=a):Y3 a j (i+1) z wa=cC (Y3 a j i z wa) (i:Int) j:=by
 rw[rB];unfold Y3;apply sI
 .simp
 .grind
def anf (h:z.getD i 0=a):VF a (i+1) z=cC (VF a i z) (i:Int) (-1):=by
 rw[rB];unfold VF;apply sI
 .simp
 .grind
def z_ (j:Int) (e:ET) (sp:η):η:=if e.2.1=20 then cC sp e.2.2.1 j else sp
def EJ (j:Int) (e:ET) (wt wa:η):η:=if e.2.1=18 then (if 0<=e.2.2.2.1 then cC wa e.2.2.2.1 j else wa) else if e.2.1=19 then Y3 e.2.2.1 j (l! wt) wt wa else wa
def HE (e:ET) (wt:η):η:=if e.2.1=16 then cC wt e.1 e.2.2.1 else if e.2.1=18 then (if 0<=e.2.2.2.1 then cC wt e.2.2.2.1 (-1) else wt) else if e.2.1=19 then VF e.2.2.1 (l! wt) wt else wt
def QR (k:Int) (j:Int) (e:ET) (st:η) (si:Y η):η:=if e.2.1=k then oI st (aN e.2.2.1) (aS (aj (kX (T:=aP) si e.2.2.1++[j]))) else st
def QQ (k:Int) (j:Int) (e:ET) (si:Y η):Y η:=if e.2.1=k then mB (T:=aP) (mB (T:=aP) si e.2.2.1 []) e.2.2.1 (kX (T:=aP) si e.2.2.1++[j]) else si
def adg (k j:Int) (e:ET) (si:Y η) (A:i<l! si) (h0:e.2.1=k->0<=e.2.2.1):(QQ k j e si).getD i []=if e.2.1=k/\e.2.2.1=(i:Int) then si.getD i []++[j] else si.getD i []:=by
 unfold QQ;by_cases h:e.2.1=k
 .rw[aF h];have z:e.2.2.1=((e.2.2.1.toNat:Nat):Int):=by omega
  unfold mB;rw[aE,ey];by_cases q:e.2.2.1.toNat=i
  .rw[aF q,dF,aF (by omega),aF ⟨h,by omega⟩];simp only[Option.getD_some];rw[z,tJ,q]
  .grind
 .grind
def ap2 (k j:Int) (e:ET) (si:Y η):l! (QQ k j e si)=l! si:=by
 unfold QQ mB;split
 .simp
 .rfl
def ap3 (k j:Int) (e:ET) (st:η) (si:Y η) (A:i<l! st) (h0:e.2.1=k->0<=e.2.2.1):(QR k j e st si).getD i 0=if e.2.1=k/\e.2.2.1=(i:Int) then (l! (si.getD i []++[j]):Int) else st.getD i 0:=by
 unfold QR;by_cases h:e.2.1=k
 .rw[aF h];have z:e.2.2.1=((e.2.2.1.toNat:Nat):Int):=by omega
  rw[aE,ey];by_cases q:e.2.2.1.toNat=i
  .rw[aF q,aF (by omega),aF ⟨h,by omega⟩];rw[z,tJ,q];rfl
  .grind
 .grind
def Pw.ad {si:Y η} (h:Pw i j z si) (k:Int) (e:ET) (h0:e.2.1=k->0<=e.2.2.1):Pw i (j+1) (QR k (j:Int) e z si) (QQ k (j:Int) e si):=by
 let⟨a,b,c⟩:=h;refine ⟨by unfold QR;split<;>simp[a],by rw[ap2,b],λo st=>?_⟩;rw[ap3 _ _ _ _ _ (by omega) h0,adg _ _ _ _ (by omega) h0]
 grind
def EA.wa {wt:η} (h:EA i j z) (e:ET) (A:e.2.1=18->e.2.2.2.1<i):EA i (j+1) (EJ (j:Int) e wt z):=by
 unfold EJ;split
 .rename_i g;split
  .rename_i D;have e0:e.2.2.2.1=((e.2.2.2.1.toNat:Nat):Int):=by omega
   exact h.set _ (by omega) (dg _)
  .exact h.up
 .split
  .refine ⟨by rw[S9];exact h.1,λu wa=>?_⟩;rw[ac0 _ _ _ _ _ (by rw[h.1];exact wa)];split
   .omega
   .have:=h.2 u wa;omega
  .exact h.up
def LY (e:ET) (wt:η):l! (HE e wt)=l! wt:=by
 unfold HE;split
 .exact bX _ _ _
 .split
  .split
   .exact bX _ _ _
   .rfl
  .split
   .exact S8 _ _ _
   .rfl
def EA.sp (h:EA i j z) (e:ET) (h0:e.2.1=20->0<=e.2.2.1):EA i (j+1) (z_ (j:Int) e z):=by
 unfold z_;split
 .rename_i g;have e0:e.2.2.1=((e.2.2.1.toNat:Nat):Int):=by omega
  exact h.set _ (by omega) (dg _)
 .exact h.up
def ak8 {w:WT} {e:ET} (hev:Fp w e) (hj:j<=1000) (hT:l! w.2.2.2.2.1<=4) (hv:e.2.1=18->e.2.2.2.1<l! w.2.2.2.2.1) {c:Y η} {tm:Y ν} {sp wa wt st se:η} {op:Y d?} {re:η} {ar:Y WO} {si ei:Y η}
 (h1:EA (l! w.2.2.2.2.1) j z) (h2:EA (l! w.2.2.2.2.1) j sp) (h3:EA (l! w.2.2.2.2.1) j wa) (hwt:l! wt=l! w.2.2.2.2.1) (h4:Pw (l! w.1) j st si) (h5:Pw (l! w.2.2.2.1) j se ei):
 gL (((j:Int),e),(w,k),c,tm,z,sp,wa,wt,st,se,op,re,ar,si,ei)=Z ((w,k),c,tm,cC z e.1 (j:Int),z_ (j:Int) e sp,EJ (j:Int) e wt wa,HE e wt,QR 4 (j:Int) e st si,QR 22 (j:Int) e se ei,op,re,ar,QQ 4 (j:Int) e si,QQ 22 (j:Int) e ei):=by
 refine cI ?_;let⟨nm,N,t1,cd⟩:=hev;let⟨t,l,o,v,s,D,A⟩:=e;dsimp only at nm N t1 hv;unfold gL mL kK lE lD CZ Prod.t Prod.D bk bB bP cP eU kJ lP mw Prod.r ef iF Lj ck bm bV jZ kO bT kf bc c8 aI cS;dsimp only;have l1:=h1.1;have l2:=h2.1;have l3:=h3.1;have cB:∀{R:Type} {Q:R->Prop} {n:Nat} {u:Int} {l:M R},0<=u->u<n->Ok l Q->Ok (ck (dN u n) l) Q:=λh0 h1 hk=>aR h0 h1 (aR h0 h1 hk)
 refine cB N (by omega) ?_;refine aV (λx=>x=((w,k),c,tm,cC z t (j:Int),z_ (j:Int) (t,l,o,v,s,D,A) sp,EJ (j:Int) (t,l,o,v,s,D,A) wt wa,HE (t,l,o,v,s,D,A) wt,QR 4 (j:Int) (t,l,o,v,s,D,A) st si,QR 22 (j:Int) (t,l,o,v,s,D,A) se ei,op,re,ar,QQ 4 (j:Int) (t,l,o,v,s,D,A) si,QQ 22 (j:Int) (t,l,o,v,s,D,A) ei)) ?_ ?_
 .unfold z_ EJ HE QR QQ;dsimp only;have lst:∀{n:Nat} {xs:η} {xss:Y η},Pw n j xs xss->0<=o->o<n->aB (aN (m_ xs o)) (aj (kX (T:=aP) xss o))=J/\(aN (m_ xs o))<=j/\l! xs=n/\l! xss=n:=λ{n xs xss} h la L=>by
   have e:o=((o.toNat:Nat):Int):=by omega
   let⟨a,b,cc⟩:=h.2.2 o.toNat (by omega);rw[e,Ap,tJ,a,be];exact⟨gw _,b,h.1,h.2.1⟩
  refine aK (λg=>?_) λg1=>?_
  .obtain⟨la,L⟩:=nm.th (.inl g);refine cB la (by omega) (ak ?_);subst g;simp only[c7,bq,dZ]
  refine aK (λg=>?_) λg2=>?_
  .obtain⟨la,L⟩:=nm.fu (.inl g);let⟨q1,q2,q3,q4⟩:=lst h5 la L;refine cB la (by omega) (aR la (by omega) (cE (bl q1 (bG (by rw[cH];omega) (by omega) (cB la (by omega) (ak ?_))))));subst g;simp only[c7,bq,dZ]
  refine aK (λg=>?_) λg3=>?_
  .obtain⟨la,L⟩:=nm.ce (.inr g);let⟨q1,q2,q3,q4⟩:=lst h4 la L;refine cB la (by omega) (aR la (by omega) (cE (bl q1 (bG (by rw[cH];omega) (by omega) (cB la (by omega) (ak ?_))))));subst g;simp only[c7,bq,dZ]
  refine aK (λg=>?_) λg4=>?_
  .refine cB N (by omega) (ak ?_);subst g;simp only[c7,bq,dZ]
  refine aK (λg=>?_) λg5=>?_
  .subst g;refine eh (λv0=>?_) λv0=>?_
   .have v1:=hv rfl;refine cB v0 (by omega) (cB v0 (by omega) (ak ?_));simp only[c7,bq,dZ,v0]
   .refine ak ?_;simp only[c7,bq,dZ,Int.not_le.2 v0]
  refine aK (λg=>?_) λg6=>?_
  .subst g;refine hY (l! wt) (by omega) (λi x=>x=((i:Int),(w,k),c,tm,cC z t (j:Int),sp,Y3 o (j:Int) i wt wa,VF o i wt,st,se,op,re,ar,si,ei,(t,19,o,v,s,D,A))) ?_ ?_ (by rw[aiu,ait];simp only[Int.natCast_zero])
   .rintro i x hi rfl;refine cU ?_;refine aV (λx=>x=((w,k),c,tm,cC z t (j:Int),sp,Y3 o (j:Int) (i+1) wt wa,VF o (i+1) wt,st,se,op,re,ar,si,ei,(t,19,o,v,s,D,A))) ?_ ?_
    .dsimp only;have ib:dN (i:Int) (l! (VF o i wt))=J:=LG.2 ⟨by omega,by rw[S8];omega⟩;refine bl ib (bl ib (aT ?_));have gv:geti aP (VF o i wt) (i:Int)=wt.getD i 0:=by
      rw[vC,abz _ _ _ hi,ax (by omega)]
     rw[gv];refine aK (λh=>?_) λh=>?_
     .have h:wt.getD i 0=o:=h;refine cB (by omega) (by rw[S9];omega) (cB (by omega) (by rw[S8];omega) (ak ?_));rw[ang h,anf h]
     .have h:¬wt.getD i 0=o:=h;refine ak ?_;rw[ast h,ass h]
    .rintro x rfl;refine ak ?_;show _=_;rw[fL]
   .rintro x rfl;refine cO (ak ?_);simp only[c7,bq,dZ]
  .refine ak ?_;simp only[g1,g2,g3,g4,g5,g6,dZ]
 .rintro x rfl;exact ak rfl
def fB (w:WT) (e:ET):Int:=if e.2.1=7\/e.2.1=9\/e.2.1=11 then e.2.2.1 else if e.2.1=16 then (geti itK w.2.2.1 e.2.2.1).2 else if e.2.1=13 then (l! w.2.1:Int) else -1
def mT (w:WT) (e:ET):Int:=if e.2.1=6\/e.2.1=8\/e.2.1=10 then e.2.2.1 else if e.2.1=17 then (geti itK w.2.2.1 e.2.2.1).2 else if e.2.1=12 then (l! w.2.1:Int) else -1
def Jb {w:WT} {e:ET} (hev:Fp w e):lW (w,e)=Z (fB w e):=by
 refine cI ?_;let⟨nm,L,D,cd⟩:=hev;let⟨t,k,o,v,s,r1,N⟩:=e;dsimp only at nm L D;unfold lW bk bP bm bW bc aI;refine aV (λx=>x=(decide (k=7\/k=9\/k=11),w,t,k,o,v,s,r1,N)) ?_ ?_
 .refine aK (λg=>ak ?_) λA=>aK (λg=>ak ?_) λz=>ak ?_
  .grind
  .grind
  .grind
 .rintro x rfl;unfold fB;refine aK (λg=>ak ?_) λA=>?_
  .rw[aF g]
  rw[ax A];refine aK (λg=>?_) λz=>?_
  .have g:k=16:=g;let⟨o0,o1⟩:=nm.cd ⟨by omega,by omega⟩;rw[aF g];exact aR o0 o1 (aT (ak rfl))
  rw[ax z];refine aK (λg=>ak ?_) λg3=>ak ?_
  .rw[aF g];rfl
  .rw[ax g3]
def Kj {w:WT} {e:ET} (hev:Fp w e):lX (w,e)=Z (mT w e):=by
 refine cI ?_;let⟨nm,L,D,cd⟩:=hev;let⟨t,k,o,v,s,r1,N⟩:=e;dsimp only at nm L D;unfold lX bk bP bm bW bc aI;refine aV (λx=>x=(decide (k=6\/k=8\/k=10),w,t,k,o,v,s,r1,N)) ?_ ?_
 .refine aK (λg=>ak ?_) λA=>aK (λg=>ak ?_) λz=>ak ?_
  .grind
  .grind
  .grind
 .rintro x rfl;unfold mT;refine aK (λg=>ak ?_) λA=>?_
  .rw[aF g]
  rw[ax A];refine aK (λg=>?_) λz=>?_
  .have g:k=17:=g;let⟨o0,o1⟩:=nm.cd ⟨by omega,by omega⟩;rw[aF g];exact aR o0 o1 (aT (ak rfl))
  rw[ax z];refine aK (λg=>ak ?_) λg3=>ak ?_
  .rw[aF g];rfl
  .rw[ax g3]
def OpI (n:Nat) (op:Y d?):Prop:=∀x∈op,0<=x.2/\x.2<(n:Int)
def ReI (n:Nat) (re:η):Prop:=∀v∈re,0<=v/\v<(n:Int)
def aho (h0:0<=a) (h1:a<(i:Int)):shf i a=a:=by
 unfold shf;rw[aF (by exact bj (by omega))]
def ReI.shf (h:ReI i z):z.map (AI.shf i)=z:=by
 have:z.map (AI.shf i)=z.map id:=kS λv re=>aho (h v re).1 (h v re).2
 rw[this,List.map_id]
def OpI.shf {op:Y d?} (h:OpI i op):L6 i op=op:=by
 unfold L6;have:op.map (λe=>(e.1,AI.shf i e.2))=op.map id:=kS λx z=>by rw[aho (h x z).1 (h x z).2];rfl
 rw[this,List.map_id]
def uQ {k z:ν}:H_ k z=J↔k=z:=by
 unfold H_;rw[au,bS,bS];exact⟨λh=>sG h.1 h.2,λh=>by rw[h];exact⟨rfl,rfl⟩⟩
def gh (k:ν):∀{op:Y d?},jN k op=J->(k,db k op)∈op
 |[],h=>by cases h
 |e::r,h=>by
  simp only[jN,db]at h ⊢;cases z:H_ k e.1 with
  |true=>
   rw[uQ.1 z];exact dk ..
  |false=>
   rw[z,Bool.false_or]at h;exact cg _ (gh k h)
def FY (k:ν) {x:d?}:∀{op:Y d?},x∈Ah k op->x∈op
 |[],h=>by cases h
 |e::r,h=>by
  simp[Ah]at h;cases z:H_ k e.1 with
  |true=>rw[z]at h;exact cg _ h
  |false=>
   rw[z]at h;rcases a_.1 h with h|h
   .grind
   .exact cg _ (FY k h)
def OpI.del {op:Y d?} (h:OpI i op) (k:ν):OpI i (Ah k op):=λx z=>h x (FY k z)
def IA (j:Int) (o:WO):WO:=((o.1.1,o.1.2.1,o.1.2.2.1,j,o.1.2.2.2.2),o.2)
abbrev bf (ar:Y WO) (i:Int):WO:=dT lO ar i
def scQ (w:WT) (e:ET) (op:Y d?):Bool:=jN (e.1,fB w e) op
def xQ (w:WT) (e:ET) (op:Y d?):Y d?:=if scQ w e op=J then Ah (e.1,fB w e) op else op
def yA (w:WT) (e:ET) (op:Y d?) (re:η):η:=if scQ w e op=J then re++[db (e.1,fB w e) op] else re
def yB (w:WT) (j:Int) (e:ET) (op:Y d?) (ar:Y WO):Y WO:=if scQ w e op=J then qW (S:=lO) ar (db (e.1,fB w e) op) (IA j (bf ar (db (e.1,fB w e) op))) else ar
def Ri (w:WT) (e:ET) (op:Y d?) (ar:Y WO):Y d?:=if 0<=mT w e then sK (e.1,mT w e) (l! ar:Int) (xQ w e op) else xQ w e op
def BI (w:WT) (j:Int) (e:ET) (op:Y d?) (ar:Y WO):Y WO:=if 0<=mT w e then yB w j e op ar++[((e.1,mT w e,j,-1,decide (e.2.1=8)),[],[])] else yB w j e op ar
def BQ (w:WT) (j:Int) (e:ET) (op:Y d?) (ar:Y WO):l! (yB w j e op ar)=l! ar:=by
 unfold yB qW;split
 .exact dF ..
 .rfl
def U6 {w:WT} {e:ET} (hev:Fp w e) {c:Y η} {tm:Y ν} {sp wa wt st se:η} {op:Y d?} {re:η} {ar:Y WO} {si ei:Y η}
 (h1:OpI (l! ar) op) (h2:ReI (l! ar) re) (h3:l! re<=1000):
 iJ (((j:Int),e),(w,k),c,tm,z,sp,wa,wt,st,se,op,re,ar,si,ei)=Z ((w,k),c,tm,z,sp,wa,wt,st,se,Ri w e op ar,si,ei,yA w e op re,BI w (j:Int) e op ar):=by
 refine cI ?_;unfold iJ kK lE lD CZ bk bB bP cP eU kJ lP mw Prod.r jZ kO bT bc;dsimp only;refine aX (Jb hev) ?_;refine aQ (λL=>?_) λL=>?_
 .have hm:=gh _ L;have D:=h1 _ hm;dsimp only at D;have la:scQ w e op=J:=L;refine aR D.1 D.2 (a! (aX (Kj hev) ?_));have N:aj (qW (S:=lO) ar (db (e.1,fB w e) op) (IA (j:Int) (bf ar (db (e.1,fB w e) op))))=l! ar:=by unfold qW;exact dF ..
  have hR:ReI (l! ar) (re++[db (e.1,fB w e) op]):=λv A=>by
   rcases bO.1 A with A|A
   .exact h2 v A
   .simp only[aC]at A;subst A;exact D
  refine eh (λg=>ak ?_) λg=>ak ?_
  .unfold Ri BI yA xQ yB;rw[aF g,aF g,aF la,aF la,aF la];have e1:=(h1.del (e.1,fB w e)).shf;have e2:=hR.shf;rw[<- N]at e1 e2;refine sG rfl (sG rfl (sG rfl (sG rfl (sG rfl (sG rfl (sG rfl (sG rfl (sG rfl (sG ?_ (sG rfl (sG rfl (sG ?_ rfl))))))))))))
   .show sK (e.1,mT w e) (aS (aj (qW (S:=lO) ar (db (e.1,fB w e) op) (IA (j:Int) (bf ar (db (e.1,fB w e) op)))))) (L6 (aj (qW (S:=lO) ar (db (e.1,fB w e) op) (IA (j:Int) (bf ar (db (e.1,fB w e) op))))) (Ah (e.1,fB w e) op))=_;rw[e1,N];rfl
   .exact e2
  .unfold Ri BI yA xQ yB;rw[ax (Int.not_le.2 g),ax (Int.not_le.2 g),aF la,aF la,aF la];rfl
 .have la:¬scQ w e op=J:=by unfold scQ;rw[L];simp
  refine aX (Kj hev) (eh (λg=>ak ?_) λg=>ak ?_)
  .unfold Ri BI yA xQ yB;rw[aF g,aF g,ax la,ax la,ax la,h1.shf,h2.shf];rfl
  .unfold Ri BI yA xQ yB;rw[ax (Int.not_le.2 g),ax (Int.not_le.2 g),ax la,ax la,ax la]
section
def acx (c:η) (a:Int) (u:Nat):kl (c,a,(u:Int))=Z (decide (a<=c.getD u 0)):=by
 unfold kl;dsimp only;rw[aaz];rfl
def cvr (clk:η) (x:ν):Bool:=decide (x.1<=clk.getD x.2.toNat 0)
def akf (clk:η) {x:ν} (h:0<=x.2):kl (clk,x)=Z (cvr clk x):=by
 let⟨a,b⟩:=x;have e:b=((b.toNat:Nat):Int):=by omega
 unfold cvr;rw[e,acx,be]
def jc (c:Y η) (i:Int):η:=c.getD i.toNat []
def jt (tm:Y ν) (i:Int):ν:=tm.getD i.toNat (0,0)
abbrev WO.th (o:WO):Int:=o.1.1
abbrev WO.lk (o:WO):Int:=o.1.2.1
abbrev WO.bg (o:WO):Int:=o.1.2.2.1
abbrev WO.en (o:WO):Int:=o.1.2.2.2.1
abbrev WO.rd (o:WO):Bool:=o.1.2.2.2.2
def qP (P Q:WO):Bool:=decide (P.lk=Q.lk)&&(!decide (P.th=Q.th)&&(!(P.rd&&Q.rd)&&gF P.en Q.bg))
abbrev VN (o:Int) (m:Y q!):Bool:=xn (K:=.int .i64) (V:=.bool) o m af
def Us (P:WO) (e:ET):Bool:=VN e.2.2.1 P.2.2||(decide (e.2.1=4)&&VN e.2.2.1 P.2.1)
def Bw (c:Y η) (ar:Y WO) (q:Int) (e:ET) (clk:η) (p:Int):η:=if qP (bf ar p) (bf ar q)=J/\Us (bf ar p) e=J then jl clk (jc c (bf ar p).en) else clk
def vQ (c:Y η) (tm:Y ν) (ar:Y WO) (q:Int) (s:η×Bool) (p:Int):η×Bool:=if qP (bf ar p) (bf ar q)=J/\cvr s.1 (jt tm (bf ar p).bg)=J/\cvr s.1 (jt tm (bf ar p).en)=af then (jl s.1 (jc c (bf ar p).en),J) else s
structure CkL (T j:Nat) (c:List η) (tm:List ν):Prop where
 cl:l! c=j
 tl:l! tm=j
 ln:∀i:Nat,i<j->l! (c.getD i [])=T
 th:∀i:Nat,i<j->0<=(tm.getD i (0,0)).2
def EnI (j:Nat) (ar:Y WO) (re:η):Prop:=∀p∈re,(0<=p/\p<(l! ar:Int))/\(0<=(bf ar p).bg/\(bf ar p).bg<(j:Int))/\(0<=(bf ar p).en/\(bf ar p).en<(j:Int))
def CkL.jc {c:Y η} {tm:Y ν} (h:CkL i j c tm) {T:Int} (h0:0<=T) (h1:T<(j:Int)):l! (AI.jc c T)=i:=h.ln _ (by omega)
def CkL.jt {c:Y η} {tm:Y ν} (h:CkL i j c tm) {T:Int} (h0:0<=T) (h1:T<(j:Int)):0<=(AI.jt tm T).2:=h.th _ (by omega)
def ah9 {c:Y η} {tm:Y ν} (h:CkL i j c tm) {ar:Y WO} {e:ET} (clk:l! z=i) {p:Int} (h0:0<=(bf ar p).en) (h1:(bf ar p).en<(j:Int)):l! (Bw c ar a e z p)=i:=by
 unfold Bw;split
 .rw[Ia,clk,h.jc h0 h1];exact Nat.max_self _
 .exact clk
def ah8 {c:Y η} {tm:Y ν} (h:CkL i j c tm) {ar:Y WO} {s:η×Bool} (z:l! s.1=i) {p:Int} (h0:0<=(bf ar p).en) (h1:(bf ar p).en<(j:Int)):(vQ c tm ar a s p).1.length=i:=by
 unfold vQ;split
 .show (l! (jl s.1 _))=i;rw[Ia,z,h.jc h0 h1];exact Nat.max_self _
 .exact z
variable {w:WT} {l:Y ET} {c:Y η} {tm:Y ν} {la sp wa wt st se:η} {op:Y d?} {re:η} {ar:Y WO} {si ei:Y η}
def ae1 (hT:i<=4) (h:CkL i j c tm) (hp:(0<=a/\a<(l! ar:Int))/\(0<=(bf ar a).bg/\(bf ar a).bg<(j:Int))/\(0<=(bf ar a).en/\(bf ar a).en<(j:Int))) {e:ET} (N:l! z=i):
 jT (a,(w,l),c,tm,la,sp,wa,wt,st,se,op,re,ar,si,ei,e,z)=Z ((w,l),c,tm,la,sp,wa,wt,st,se,op,re,ar,si,ei,e,if Us (bf ar a) e=J then jl z (jc c (bf ar a).en) else z):=by
 refine cI ?_;let⟨⟨p0,clk⟩,_,n0,D⟩:=hp;unfold jT kK lE lD CZ Prod.t Prod.u bk bB bP cP eU kJ lP mw Prod.E ck bm kO kf aI;refine aV (λx=>x=((a,Us (bf ar a) e),(w,l),c,tm,la,sp,wa,wt,st,se,op,re,ar,si,ei,e,z)) ?_ ?_
 .refine aR p0 clk (aR p0 clk ?_);refine aQ (λg=>ak ?_) λg=>?_
  .have g:VN e.2.2.1 (bf ar a).2.2=J:=g;unfold Us;rw[g];rfl
  have g:VN e.2.2.1 (bf ar a).2.2=af:=g;refine aK (λA=>aR p0 clk (aR p0 clk (ak ?_))) λA=>ak ?_
  .unfold Us;rw[g,a8 (show e.2.1=4 from A)];rfl
  .unfold Us;rw[g,dm (show ¬e.2.1=4 from A)];rfl
 .rintro x rfl;refine aQ (λg=>?_) λg=>ak ?_
  .have L:=h.cl;refine aR p0 clk (aT ?_);refine aR n0 (by grind) (aR n0 (by grind) (aT ?_));refine aX (UJ z (jc c (bf ar a).en) (by unfold big;omega) (by rw[h.jc n0 D];unfold big;omega)) (ak ?_);rw[aF g]
  .grind
def ae0 (hT:i<=4) (h:CkL i j c tm) (hp:(0<=a/\a<(l! ar:Int))/\(0<=(bf ar a).bg/\(bf ar a).bg<(j:Int))/\(0<=(bf ar a).en/\(bf ar a).en<(j:Int))) (N:l! z=i):
 jS (a,(w,l),c,tm,la,sp,wa,wt,st,se,op,re,ar,si,ei,z,b)=Z ((w,l),c,tm,la,sp,wa,wt,st,se,op,re,ar,si,ei,if cvr z (jt tm (bf ar a).bg)=J/\cvr z (jt tm (bf ar a).en)=af then (jl z (jc c (bf ar a).en),J) else (z,b)):=by
 refine cI ?_;let⟨⟨p0,clk⟩,⟨b0,b1⟩,n0,D⟩:=hp;have L:=h.cl;have ht:=h.tl;unfold jS kK lE lD CZ Prod.t Prod.u bk bB bP cP eU kJ lP mw kO kf aI;refine aV (λx=>x=((a,cvr z (jt tm (bf ar a).bg)&& !cvr z (jt tm (bf ar a).en)),(w,l),c,tm,la,sp,wa,wt,st,se,op,re,ar,si,ei,z,b)) ?_ ?_
 .refine aR p0 clk (aT (aR b0 (by grind) (aR b0 (by grind) (aT ?_))));refine aX (akf z (h.jt b0 b1)) ?_;refine aQ (λg=>?_) λg=>ak ?_
  .refine aR p0 clk (aT (aR n0 (by grind) (aR n0 (by grind) (aT ?_))));refine aX (akf z (h.jt n0 D)) (ak ?_);have g:cvr z (jt tm (bf ar a).bg)=J:=g;rw[g,du];rfl
  .have g:cvr z (jt tm (bf ar a).bg)=af:=g
   grind
 .rintro x rfl;refine aQ (λg=>?_) λg=>ak ?_
  .refine aR p0 clk (aT ?_);refine aR n0 (by grind) (aR n0 (by grind) (aT ?_));refine aX (UJ z (jc c (bf ar a).en) (by unfold big;omega) (by rw[h.jc n0 D];unfold big;omega)) (ak ?_)
   grind
  .grind
def aj0 {Q:R->Prop} {P S:WO} {q:Int} (p0:0<=a) (D:a<(i:Int)) (q0:0<=q) (A:q<(i:Int)) {k:Bool->M R} (z:Ok (k (qP P S)) Q):
 Ok (chk (dN a i) λ_=>lt P.lk λz4=>chk (dN q i) λ_=>lt S.lk λz5=>aJ (decide (z4=z5)) (chk (dN a i) λ_=>lt P.th λz6=>chk (dN q i) λ_=>lt S.th λz7=>aJ (!decide (z6=z7)) (chk (dN a i) λ_=>lt P.rd λz8=>aJ z8 (chk (dN q i) λ_=>lt S.rd λz9=>aJ (!z9) (chk (dN a i) λ_=>lt P.en λz10=>chk (dN q i) λ_=>lt S.bg λz11=>k (gF z10 z11)) (k af)) (chk (dN a i) λ_=>lt P.en λN=>chk (dN q i) λ_=>lt S.bg λL=>k (gF N L))) (k af)) (k af)) Q:=by
 unfold qP at z;refine aR p0 D (aT (aR q0 A (aT ?_)));refine aK (λg1=>?_) λg1=>?_
 .rw[a8 g1,du]at z;refine aR p0 D (aT (aR q0 A (aT ?_)));refine cj (λg2=>?_) λg2=>?_
  .rw[dm g2,Pq,du]at z;refine aR p0 D (aT ?_);refine aQ (λg3=>?_) λg3=>?_
   .rw[g3,du]at z;refine aR q0 A (aT ?_);refine dK (λg4=>?_) λg4=>?_
    .rw[g4,Pq,du]at z;exact aR p0 D (aT (aR q0 A (aT z)))
    .grind
   .rw[g3,kN,Pq,du]at z;exact aR p0 D (aT (aR q0 A (aT z)))
  .grind
 .grind
def sV (d:R) {xs:Y R} (h:i<l! xs):xs.take (i+1)=xs.take i++[xs.getD i d]:=by
 rw[List.take_add_one,aH h,aE,aH h];rfl
def yT (d:R) {xs:Y R} (h:i<l! xs):xs.getD i d∈xs:=by
 rw[aE,aH h];exact List.getElem_mem h
def W6 (hT:i<=4) (h:CkL i j c tm) (q0:0<=a) (D:a<(l! ar:Int)) (L:EnI j ar re) (hrl:l! re<=1000) {e:ET} (N:l! z=i):
 kA (a,(w,l),c,tm,la,sp,wa,wt,st,se,op,re,ar,si,ei,e,z)=Z ((w,l),c,tm,la,sp,wa,wt,st,se,op,re,ar,si,ei,e,re.foldl (Bw c ar a e) z):=by
 refine cI ?_;unfold kA sj kK lE lD bk bB bP cP eU kJ lP mw ck bm bV jY kO bT bc c8 aI cS;refine hY (l! re) (by omega) (λT x=>x=((a,(T:Int)),(w,l),c,tm,la,sp,wa,wt,st,se,op,re,ar,si,ei,e,(re.take T).foldl (Bw c ar a e) z)/\l! ((re.take T).foldl (Bw c ar a e) z)=i) ?_ ?_ ⟨by simp,by simpa using N⟩
 .rintro T x hi ⟨rfl,hcl⟩;refine cU ?_;have hpe:=L _ (yT 0 hi);have hiA:m_ re (T:Int)=re.getD T 0:=Ap re T;generalize hp:re.getD T 0=p at*
  let⟨⟨p0,A⟩,hb,clk⟩:=hpe;refine aV (λx=>x=(a,(w,l),c,tm,la,sp,wa,wt,st,se,op,re,ar,si,ei,e,Bw c ar a e ((re.take T).foldl (Bw c ar a e) z) p)) ?_ ?_
  .refine aR (by simp) (by grind) (aR (by simp) (by grind) ?_);rw[hiA];refine aV (λx=>x=((a,p,qP (bf ar p) (bf ar a)),(w,l),c,tm,la,sp,wa,wt,st,se,op,re,ar,si,ei,e,(re.take T).foldl (Bw c ar a e) z)) ?_ ?_
   .with_reducible exact aj0 (P:=bf ar p) (S:=bf ar a) (k:=λb=>Z (bZ ((a,p,b),(w,l),c,tm,la,sp,wa,wt,st,se,op,re,ar,si,ei,e,(re.take T).foldl (Bw c ar a e) z))) p0 A q0 D (ak rfl)
   .rintro x rfl;refine aQ (λg=>?_) λg=>ak ?_
    .refine aX (ae1 hT h ⟨⟨p0,A⟩,hb,clk⟩ hcl) (bl (by simp) (ak ?_));unfold Bw
     grind
    .unfold Bw
     grind
  .rintro x rfl;refine ak ⟨?_,?_⟩
   .rw[sV 0 hi,eZ,hp];rw[fL];rfl
   .rw[sV 0 hi,eZ,hp];exact ah9 h hcl clk.1 clk.2
 .rintro x ⟨rfl,_⟩;refine cO (ak ?_);rw[cY]
def W5 (hT:i<=4) (h:CkL i j c tm) (q0:0<=a) (L:a<(l! ar:Int)) (N:EnI j ar re) (hrl:l! re<=1000) {clk:Bool} (hc:l! z=i):
 kz (a,(w,l),c,tm,la,sp,wa,wt,st,se,op,re,ar,si,ei,z,clk)=Z ((w,l),c,tm,la,sp,wa,wt,st,se,op,re,ar,si,ei,re.foldl (vQ c tm ar a) (z,clk)):=by
 refine cI ?_;unfold kz sh kK lE lD bk bB bP cP eU kJ lP mw ck bm bV jY kO bT bc c8 aI cS;refine hY (l! re) (by omega) (λT x=>x=((a,(T:Int)),(w,l),c,tm,la,sp,wa,wt,st,se,op,re,ar,si,ei,(re.take T).foldl (vQ c tm ar a) (z,clk))/\((re.take T).foldl (vQ c tm ar a) (z,clk)).1.length=i) ?_ ?_ ⟨by simp,by simpa using hc⟩
 .rintro T x hi ⟨rfl,hcl⟩;refine cU ?_;have hpe:=N _ (yT 0 hi);have hiA:m_ re (T:Int)=re.getD T 0:=Ap re T;generalize hp:re.getD T 0=p at*
  let⟨⟨p0,D⟩,hb,A⟩:=hpe;refine aV (λx=>x=(a,(w,l),c,tm,la,sp,wa,wt,st,se,op,re,ar,si,ei,vQ c tm ar a ((re.take T).foldl (vQ c tm ar a) (z,clk)) p)) ?_ ?_
  .refine aR (by simp) (by grind) (aR (by simp) (by grind) ?_);rw[hiA];refine aV (λx=>x=((a,p,qP (bf ar p) (bf ar a)),(w,l),c,tm,la,sp,wa,wt,st,se,op,re,ar,si,ei,(re.take T).foldl (vQ c tm ar a) (z,clk))) ?_ ?_
   .with_reducible exact aj0 (P:=bf ar p) (S:=bf ar a) (k:=λb=>Z (bZ ((a,p,b),(w,l),c,tm,la,sp,wa,wt,st,se,op,re,ar,si,ei,(re.take T).foldl (vQ c tm ar a) (z,clk)))) p0 D q0 L (ak rfl)
   .rintro x rfl;generalize (re.take T).foldl (vQ c tm ar a) (z,clk)=s at*
    refine aQ (λg=>?_) λg=>ak ?_
    .refine aX (ae0 hT h ⟨⟨p0,D⟩,hb,A⟩ hcl) (bl (by simp) (ak ?_));unfold vQ
     grind
    .unfold vQ
     grind
  .rintro x rfl;refine ak ⟨?_,?_⟩
   .rw[sV 0 hi,eZ,hp];rw[fL];rfl
   .rw[sV 0 hi,eZ,hp];exact ah8 h hcl A.1 A.2
 .rintro x ⟨rfl,_⟩;refine cO (ak ?_);rw[cY]
end
def wQ (a b:η):Prop:=∀u:Nat,a.getD u 0<=b.getD u 0
def wQ.rfl :wQ z z:=λ_=>dg _
def wQ.trans {b c:η} (h:wQ z b) (h':wQ b c):wQ z c:=λu=>C6 (h u) (h' u)
def at0 (a b:Int):a<=m7 a b:=by unfold m7;by_cases h:gF a b=J<;>simp only[h,bq]<;>first|(have:=r_.1 h;omega)|simp
def asz (a b:Int):b<=m7 a b:=by
 unfold m7;by_cases h:gF a b=J
 .rw[aF h];exact dg _
 .have:=ji.1 (Sn.2 h);rw[ax h];omega
def Tn (a b:Int):m7 a b=a\/m7 a b=b:=by
 unfold m7;by_cases h:gF a b=J
 .right;simp[h]
 .left;simp[h]
def MG (a b:η):wQ a (jl a b):=λu=>by rw[MN];exact at0 _ _
def Th (a b:η):wQ b (jl a b):=λu=>by rw[MN];exact asz _ _
def Ot {b:η} (h:wQ z b) {x:ν} (a:cvr z x=J):cvr b x=J:=by
 unfold cvr at a ⊢;rw[bS]at a ⊢;exact C6 a (h _)
def Ql (ar:Y WO) (q:Int) (e:ET):Y WO:=if e.2.1=4 then qW (S:=lO) ar q (vW (S:=lO) 1 (bf ar q) (uN (K:=.int .i64) (V:=.bool) e.2.2.1 J (sN (S:=lO) 1 (bf ar q)))) else qW (S:=lO) ar q (vW (S:=lO) 0 (bf ar q) (uN (K:=.int .i64) (V:=.bool) e.2.2.1 J (sN (S:=lO) 0 (bf ar q))))
def U8 {ar:Y WO} {e:ET} (q0:0<=a) (z:a<(l! ar:Int)):jR ((a,e),ar)=Z (Ql ar a e):=by
 refine cI ?_;unfold jR Ql bk bB ck bm;refine aK (λg=>?_) λg=>?_
 .exact aR q0 z (aR q0 z (ak (by grind)))
 .exact aR q0 z (aR q0 z (ak (by grind)))
def IX (e:ET):oL e=Z (decide (e.2.1=3\/e.2.1=4)):=by
 refine cI ?_;refine aV (λx=>x=decide (e.2.1=3\/e.2.1=4)) ?_ ?_
 .refine aK (λg=>ak ?_) λg=>ak ?_
  .grind
  .grind
 .rintro x rfl;exact ak rfl
def S4 {ar:Y WO} (o:WO) (i:Int) (h:a.toNat<l! ar):bf (qW (S:=lO) ar a o) i=if i.toNat=a.toNat then o else bf ar i:=by
 unfold bf qW dT
 grind
structure Sam (ar ar':List WO):Prop where
 ln:l! ar'=l! ar
 hd:∀i:Int,(bf ar' i).1=(bf ar i).1
 eq:∀i:Int,(bf ar i).en≠ -1->bf ar' i=bf ar i
def Sam.rfl (ar:Y WO):Sam ar ar:=⟨Eq.refl _,λ_=>Eq.refl _,λ_ _=>Eq.refl _⟩
def WY (ar:Y WO) (q:Int) (e:ET):l! (Ql ar q e)=l! ar:=by
 unfold Ql qW;split<;>exact dF ..
def Cl {ar:Y WO} (e:ET) (i:Int) (h:a.toNat<l! ar):bf (Ql ar a e) i=if i.toNat=a.toNat then (if e.2.1=4 then ((bf ar a).1,(bf ar a).2.1,uN (K:=.int .i64) (V:=.bool) e.2.2.1 J (bf ar a).2.2) else ((bf ar a).1,uN (K:=.int .i64) (V:=.bool) e.2.2.1 J (bf ar a).2.1,(bf ar a).2.2)) else bf ar i:=by
 unfold Ql;by_cases g:e.2.1=4
 .rw[aF g,aF g,S4 _ _ h];rfl
 .rw[ax g,ax g,S4 _ _ h];rfl
def Sam.ent {ar ar':Y WO} (h:Sam ar ar') (e:ET) (D:a.toNat<l! ar) (L:(bf ar a).en= -1):Sam ar (Ql ar' a e):=by
 let⟨h1,N,A⟩:=h;have hi:∀i:Int,i.toNat=a.toNat->bf ar i=bf ar a:=λi hi=>by unfold bf dT;rw[hi]
 refine ⟨by rw[WY,h1],λi=>?_,λi z=>?_⟩
 .rw[Cl e i (by omega)]
  grind
 .rw[Cl e i (by omega),ax]
  .exact A i z
  .grind
def Sam.mat {ar ar':Y WO} (h:Sam ar ar') (p q:Int):qP (bf ar' p) (bf ar' q)=qP (bf ar p) (bf ar q):=by
 unfold qP WO.lk WO.th WO.rd WO.en WO.bg;rw[h.hd p,h.hd q]
def Sam.EnI {ar ar':Y WO} (h:Sam ar ar') {re:η} (z:EnI j ar re):AI.EnI j ar' re:=λp hp=>by
 let⟨⟨a,b⟩,A,d,f⟩:=z p hp;have e:=h.eq p (by omega);rw[h.ln,e];exact⟨⟨a,b⟩,A,d,f⟩
def aqo {I:η->Prop} {c:Y η} {ar:Y WO} {q:Int} {e:ET}:∀(L:η) (clk:η),I clk->(∀clk p,p∈L->qP (bf ar p) (bf ar q)=J->Us (bf ar p) e=J->I clk->I (jl clk (jc c (bf ar p).en)))->
 I (L.foldl (Bw c ar q e) clk)/\wQ clk (L.foldl (Bw c ar q e) clk)/\∀p∈L,qP (bf ar p) (bf ar q)=J->Us (bf ar p) e=J->wQ (jc c (bf ar p).en) (L.foldl (Bw c ar q e) clk)
 |[],clk,h,_=>⟨h,wQ.rfl,λp hp=>by cases hp⟩
 |p::L,clk,h,A=>by
  have h1:I (Bw c ar q e clk p)/\wQ clk (Bw c ar q e clk p)/\(qP (bf ar p) (bf ar q)=J->Us (bf ar p) e=J->wQ (jc c (bf ar p).en) (Bw c ar q e clk p)):=by
   unfold Bw;by_cases g:qP (bf ar p) (bf ar q)=J/\Us (bf ar p) e=J
   .rw[aF g];exact⟨A clk p (dk ..) g.1 g.2 h,MG _ _,λ_ _=>Th _ _⟩
   .rw[ax g];exact⟨h,wQ.rfl,λa b=>bC ⟨a,b⟩ g⟩
  let⟨a,b,d⟩:=aqo L _ h1.1 λclk p hp=>A clk p (cg _ hp)
  refine ⟨a,h1.2.1.trans b,λD z m1 m2=>?_⟩;rcases a_.1 z with rfl|z
  .exact (h1.2.2 m1 m2).trans b
  .exact d D z m1 m2
def unc (tm:Y ν) (ar:Y WO) (re:η) (clk:η):Nat:=l! (re.filter λp=> !cvr clk (jt tm (bf ar p).en))
def ahc {tm:Y ν} {ar:Y WO} {re:η} {b:η} (h:wQ z b):unc tm ar re b<=unc tm ar re z:=by
 unfold unc;induction re with
 |nil=>exact bI _
 |cons p r a=>
  simp[List.filter_cons];cases A:cvr z (jt tm (bf ar p).en) with
  |true=>rw[Ot h A];exact a
  |false=>grind
def as5 {tm:Y ν} {ar:Y WO} {re:η} {b:η} (h:wQ z b) {p:Int} (hp:p∈re) (h0:cvr z (jt tm (bf ar p).en)=af) (h1:cvr b (jt tm (bf ar p).en)=J):unc tm ar re b<unc tm ar re z:=by
 induction re with
 |nil=>cases hp
 |cons x r a=>
  have hle:=ahc (tm:=tm) (ar:=ar) (re:=r) h;unfold unc at a hle ⊢;simp[List.filter_cons];rcases a_.1 hp with rfl|hp
  .grind
  .have a:=a hp;cases A:cvr z (jt tm (bf ar x).en) with
   |true=>rw[Ot h A];exact a
   |false=>grind
def aig {I:η->Prop} {c:Y η} {tm:Y ν} {ar:Y WO} {q:Int} {re:η} (htm:∀p∈re,cvr (jc c (bf ar p).en) (jt tm (bf ar p).en)=J):∀(L:η) (s:η×Bool),(∀p∈L,p∈re)->I s.1->(∀clk p,p∈L->qP (bf ar p) (bf ar q)=J->cvr clk (jt tm (bf ar p).bg)=J->I clk->I (jl clk (jc c (bf ar p).en)))->
 I (L.foldl (vQ c tm ar q) s).1/\wQ s.1 (L.foldl (vQ c tm ar q) s).1/\((L.foldl (vQ c tm ar q) s).2=J->s.2=J\/unc tm ar re (L.foldl (vQ c tm ar q) s).1<unc tm ar re s.1)/\
 ((L.foldl (vQ c tm ar q) s).2=af->s.2=af/\(L.foldl (vQ c tm ar q) s).1=s.1/\∀p∈L,qP (bf ar p) (bf ar q)=J->cvr s.1 (jt tm (bf ar p).bg)=J->cvr s.1 (jt tm (bf ar p).en)=J)
 |[],s,_,h,_=>⟨h,wQ.rfl,λh=>.inl h,λh=>⟨h,rfl,λp hp=>by cases hp⟩⟩
 |p::L,s,hL,h,z=>by
  have hpr:=hL p (dk ..);by_cases g:qP (bf ar p) (bf ar q)=J/\cvr s.1 (jt tm (bf ar p).bg)=J/\cvr s.1 (jt tm (bf ar p).en)=af
  .have A:vQ c tm ar q s p=(jl s.1 (jc c (bf ar p).en),J):=by unfold vQ;rw[aF g]
   let⟨a,b,d,f⟩:=aig htm L (jl s.1 (jc c (bf ar p).en),J) (λp hp=>hL p (cg _ hp)) (z s.1 p (dk ..) g.1 g.2.1 h) λclk p hp=>z clk p (cg _ hp)
   simp[zX,A];have hlt:unc tm ar re (jl s.1 (jc c (bf ar p).en))<unc tm ar re s.1:=as5 (MG _ _) hpr g.2.2 (Ot (Th _ _) (htm p hpr));refine ⟨a,(MG _ _).trans b,λ_=>.inr (Nat.lt_of_le_of_lt (ahc b) hlt),λhf=>?_⟩
   grind
  .have A:vQ c tm ar q s p=s:=by unfold vQ;rw[ax g]
   let⟨a,b,d,f⟩:=aig htm L s (λp hp=>hL p (cg _ hp)) h λclk p hp=>z clk p (cg _ hp)
   grind
def UT (j:Int) (e:ET) (sp:η):l! (z_ j e sp)=l! sp:=by unfold z_;split<;>simp only[bX]
def US (j:Int) (e:ET) (wt wa:η):l! (EJ j e wt wa)=l! wa:=by
 unfold EJ;split
 .split<;>simp only[bX]
 .split<;>simp only[S9]
def adh (k j:Int) (e:ET) (st:η) (si:Y η):l! (QR k j e st si)=l! st:=by unfold QR;split<;>simp only[dF]
def zH (e:ET) (op:Y d?) (ar:Y WO):Nat->Y WO
 |0=>ar
 |n+1=>if jN (e.1,(n:Int)) op=J then Ql (zH e op ar n) (db (e.1,(n:Int)) op) e else zH e op ar n
def Ho {e:ET} {op:Y d?} {ar:Y WO} (h:jN (e.1,(i:Int)) op=J):zH e op ar (i+1)=Ql (zH e op ar i) (db (e.1,(i:Int)) op) e:=aF h
def UD {e:ET} {op:Y d?} {ar:Y WO} (h:¬jN (e.1,(i:Int)) op=J):zH e op ar (i+1)=zH e op ar i:=ax h
def nh (w:WT) (e:ET) (op:Y d?) (ar:Y WO):Y WO:=if e.2.1=3\/e.2.1=4 then zH e op ar (l! w.2.1+1) else ar
def zG {e:ET} {op:Y d?} {ar:Y WO} (h1:OpI (l! ar) op) (A:∀x∈op,(bf ar x.2).en= -1):∀n,Sam ar (zH e op ar n)
 |0=>Sam.rfl ar
 |n+1=>by
  have z:=zG (e:=e) h1 A n;unfold zH;split
  next D=>have hm:=gh _ D;have:=h1 _ hm;exact z.ent e (by omega) (A _ hm)
  .exact z
def CS {w:WT} {e:ET} {op:Y d?} {ar:Y WO} (h1:OpI (l! ar) op) (z:∀x∈op,(bf ar x.2).en= -1):Sam ar (nh w e op ar):=by
 unfold nh;split
 .exact zG h1 z _
 .exact Sam.rfl ar
structure JI (w:WT) (c:List η) (tm:List ν) (src:η) (op:List (ν×Int)) (re:η) (ar:List WO) (e:ET) (I:η->Prop):Prop where
 i0:I (aG (l! w.2.2.2.2.1) 0)
 i1:∀clk i,i∈src->0<=i->I clk->I (jl clk (jc c i))
 i2:∀clk (lk:Int) p,(e.2.1=3\/e.2.1=4)->0<=lk->lk<=(l! w.2.1:Int)->jN (e.1,lk) op=J->p∈re->qP (bf ar p) (bf ar (db (e.1,lk) op))=J->Us (bf ar p) e=J->I clk->I (jl clk (jc c (bf ar p).en))
 i3:∀clk p,jN (e.1,fB w e) op=J->p∈re->qP (bf ar p) (bf ar (db (e.1,fB w e) op))=J->cvr clk (jt tm (bf ar p).bg)=J->I clk->I (jl clk (jc c (bf ar p).en))
 it:∀clk,I clk->l! clk=l! w.2.2.2.2.1/\0<=clk.getD e.1.toNat 0/\clk.getD e.1.toNat 0<1000000000
structure JR (w:WT) (c:List η) (tm:List ν) (src:η) (op:List (ν×Int)) (re:η) (ar:List WO) (e:ET) (clk:η):Prop where
 a:∀i∈src,0<=i->wQ (jc c i) clk
 b:(e.2.1=3\/e.2.1=4)->∀lk:Int,0<=lk->lk<=(l! w.2.1:Int)->jN (e.1,lk) op=J->∀p∈re,qP (bf ar p) (bf ar (db (e.1,lk) op))=J->Us (bf ar p) e=J->wQ (jc c (bf ar p).en) clk
 c:jN (e.1,fB w e) op=J->∀p∈re,qP (bf ar p) (bf ar (db (e.1,fB w e) op))=J->cvr clk (jt tm (bf ar p).bg)=J->cvr clk (jt tm (bf ar p).en)=J
set_option maxRecDepth 10000 in
def amj {w:WT} {l:Y ET} {e:ET} (hev:Fp w e) {j:Nat} (hj:j<=400) (hT:l! w.2.2.2.2.1<=4) (hL:l! w.2.1<=4) (hv:e.2.1=18->e.2.2.2.1<l! w.2.2.2.2.1) {c:Y η} {tm:Y ν} {la sp wa wt st se:η} {op:Y d?} {re:η} {ar:Y WO} {si ei:Y η}
 (h1:EA (l! w.2.2.2.2.1) j la) (h2:EA (l! w.2.2.2.2.1) j sp) (h3:EA (l! w.2.2.2.2.1) j wa) (hwt:l! wt=l! w.2.2.2.2.1) (h4:Pw (l! w.1) j st si) (h5:Pw (l! w.2.2.2.1) j se ei)
 (hc:CkL (l! w.2.2.2.2.1) j c tm) (ho:OpI (l! ar) op) (hoo:∀x∈op,(bf ar x.2).en= -1) (hr:EnI j ar re) (hrl:l! re<=400) (htm:∀p∈re,cvr (jc c (bf ar p).en) (jt tm (bf ar p).en)=J)
 {I:η->Prop} (hI:JI w c tm (tX w la sp wa si ei e) op re ar e I):
 Ok (gy (((j:Int),e),(w,l),c,tm,la,sp,wa,wt,st,se,op,re,ar,si,ei)) λy=>∃clk,(I clk/\JR w c tm (tX w la sp wa si ei e) op re ar e clk)/\y=((w,l),cC la e.1 (j:Int),z_ (j:Int) e sp,EJ (j:Int) e wt wa,HE e wt,QR 4 (j:Int) e st si,QR 22 (j:Int) e se ei,Ri w e op (nh w e op ar),c++[tk clk e.1.toNat],tm++[((tk clk e.1.toNat).getD e.1.toNat 0,e.1)],yA w e op re,BI w (j:Int) e op (nh w e op ar),QQ 4 (j:Int) e si,QQ 22 (j:Int) e ei):=by
 have t0:=hev.t0;have t1:=hev.t1;have hsl:l! (tX w la sp wa si ei e)<=401:=by
  have q:∀{n:Nat} {xs:η} {xss:Y η} {o:Int},Pw n j xs xss->0<=o->o<n->l! (kX (T:=aP) xss o)<=400:=λ{n xs xss o} h o0 o1=>by
   have e:o=((o.toNat:Nat):Int):=by omega
   obtain⟨a,b,cc⟩:=h.2.2 o.toNat (by omega);rw[e,tJ];omega
  unfold tX;rw[bz,cH];split
  .simp
  .split
   .simp
   .split
    .rename_i g;have:=q h5 (hev.nm.fu (.inr g)).1 (hev.nm.fu (.inr g)).2;omega
    .split
     .rename_i g;split
      .have:=q h4 (hev.nm.ce (.inl g)).1 (hev.nm.ce (.inl g)).2;omega
      .simp
     .split<;>simp
 have hsv:∀v∈tX w la sp wa si ei e,v<(j:Int):=by
  have q:∀{n:Nat} {xs:η} {xss:Y η} {o:Int},Pw n j xs xss->0<=o->o<n->∀v∈kX (T:=aP) xss o,v<(j:Int):=λ{n xs xss o} h o0 o1 v hv=>by
   have e:o=((o.toNat:Nat):Int):=by omega
   rw[e,tJ]at hv;exact ((h.2.2 o.toNat (by omega)).2.2 v hv).2
  intro v hv;unfold tX at hv;rcases bO.1 hv with hv|hv
  .rw[aC]at hv;rw[hv];exact (h1.geti t0 t1).2
  .split at hv
   .rw[aC]at hv;rw[hv];exact (h2.geti t0 t1).2
   .split at hv
    .rename_i g;rw[aC]at hv;rw[hv];exact (h1.geti (hev.nm.th (.inr g)).1 (hev.nm.th (.inr g)).2).2
    .split at hv
     .rename_i g;exact q h5 (hev.nm.fu (.inr g)).1 (hev.nm.fu (.inr g)).2 v hv
     .split at hv
      .rename_i g;split at hv
       .exact q h4 (hev.nm.ce (.inl g)).1 (hev.nm.ce (.inl g)).2 v hv
       .cases hv
      .split at hv
       .rw[aC]at hv;rw[hv];exact (h3.geti t0 t1).2
       .cases hv
 generalize hsrc:tX w la sp wa si ei e=src at*
 have hcl:=hc.cl;unfold gy nR kK lE lD CZ Prod.t Prod.u Prod.C bk bB bP cP eU kJ lP mw Prod.w Prod.z Prod.y Prod.r Prod.F Prod.E Prod.G bV jZ bT bW kf bc c8 aI cS;dsimp only;refine cE (cE (dh (by dsimp only[ay];omega) (a? (bG (by simp only[ay,be];omega) (by omega) ?_))));refine aX (YL hev (by omega) h1 h2 h3 h4 h5) ?_;rw[hsrc];dsimp only;refine bl (by simp only[gw,ip]) ?_;refine hY (l! src) (by omega) (λi x=>∃clk,x=((i:Int),(w,l),c,tm,la,sp,wa,wt,st,se,op,re,ar,si,ei,e,clk)/\I clk/\∀v∈src.take i,0<=v->wQ (jc c v) clk) ?_ ?_ ⟨aG (l! w.2.2.2.2.1) 0,by simp only[ay,be];rfl,hI.i0,λv hv=>by simp at hv⟩
 .rintro i x hi ⟨clk,rfl,hk,hs⟩;refine cU ?_;have hvm:=yT 0 hi;have hgv:geti aP src (i:Int)=src.getD i 0:=vC src i;have hlt:=hsv _ hvm;have htk:=sV 0 hi;generalize src.getD i 0=v at*
  refine aV (λx=>∃clk',x=((w,l),c,tm,la,sp,wa,wt,st,se,op,re,ar,si,ei,e,clk')/\I clk'/\∀v∈src.take (i+1),0<=v->wQ (jc c v) clk') ?_ ?_
  .refine bF (aT ?_);dsimp only;have hgv':geti aP src (i:Int)=v:=hgv;rw[hgv'];refine eh (λv0=>?_) λv0=>?_
   .refine aR v0 (by omega) (aR v0 (by omega) (aT ?_));refine aX (UJ clk (jc c v) (by have:=(hI.it clk hk).1;unfold big;omega) (by rw[hc.jc v0 hlt];unfold big;omega)) (ak ⟨_,rfl,hI.i1 clk v hvm v0 hk,λu hu u0=>?_⟩);rw[htk]at hu;rcases bO.1 hu with hu|hu
    .exact (hs u hu u0).trans (MG _ _)
    .rw[aC]at hu;rw[hu];exact Th _ _
   .refine ak ⟨clk,rfl,hk,λu hu u0=>?_⟩;rw[htk]at hu;rcases bO.1 hu with hu|hu
    .exact hs u hu u0
    .rw[aC]at hu;omega
  .rintro x ⟨clk',rfl,hk',hs'⟩;refine ak ⟨clk',?_,hk',hs'⟩;show (bn .i64 ((i:Int)+1),_)=_;rw[fL]
 rintro x ⟨clk,rfl,hk,hs⟩;rw[cY]at hs;refine cO ?_;refine aw (P:=λy=>∃clk,(I clk/\JR w c tm src op re ar e clk)/\y=((w,l),cC la e.1 (j:Int),z_ (j:Int) e sp,EJ (j:Int) e wt wa,HE e wt,QR 4 (j:Int) e st si,QR 22 (j:Int) e se ei,Ri w e op (nh w e op ar),c++[tk clk e.1.toNat],tm++[((tk clk e.1.toNat).getD e.1.toNat 0,e.1)],yA w e op re,BI w (j:Int) e op (nh w e op ar),QQ 4 (j:Int) e si,QQ 22 (j:Int) e ei)) ?_ λy hy=>ak hy
 have sam:=CS (w:=w) (e:=e) ho hoo;have hrl':l! re<=1000:=by omega
 refine aV (λx=>∃clk,x=((w,l),c,tm,la,sp,wa,wt,st,se,op,re,nh w e op ar,si,ei,e,clk)/\I clk/\(∀v∈src,0<=v->wQ (jc c v) clk)/\((e.2.1=3\/e.2.1=4)->∀lk:Int,0<=lk->lk<=(l! w.2.1:Int)->jN (e.1,lk) op=J->∀p∈re,qP (bf ar p) (bf ar (db (e.1,lk) op))=J->Us (bf ar p) e=J->wQ (jc c (bf ar p).en) clk)) ?_ ?_
 .dsimp only;refine aX (IX e) ?_;refine aK (λhacc=>?_) λhacc=>?_
  .refine hY (l! w.2.1+1) (by omega) (λi x=>∃clk,x=((i:Int),(w,l),c,tm,la,sp,wa,wt,st,se,op,re,zH e op ar i,si,ei,e,clk)/\I clk/\(∀v∈src,0<=v->wQ (jc c v) clk)/\∀lk:Int,0<=lk->lk<(i:Int)->jN (e.1,lk) op=J->∀p∈re,qP (bf ar p) (bf ar (db (e.1,lk) op))=J->Us (bf ar p) e=J->wQ (jc c (bf ar p).en) clk) ?_ ?_ ⟨clk,rfl,hk,hs,λlk h0 h1=>by omega⟩
   .rintro i x hi ⟨clk,rfl,hk,hs,hb⟩;have hwr:bn .i64 (aS (l! w.2.1)+1)=((l! w.2.1+1:Nat):Int):=fL;refine cU ?_ (by dsimp only;rw[hwr];omega);have si_:=zG (e:=e) ho hoo i;refine aV (λx=>∃clk',x=((w,l),c,tm,la,sp,wa,wt,st,se,op,re,zH e op ar (i+1),si,ei,e,clk')/\I clk'/\(∀v∈src,0<=v->wQ (jc c v) clk')/\∀lk:Int,0<=lk->lk<((i+1:Nat):Int)->jN (e.1,lk) op=J->∀p∈re,qP (bf ar p) (bf ar (db (e.1,lk) op))=J->Us (bf ar p) e=J->wQ (jc c (bf ar p).en) clk') ?_ ?_
    .dsimp only;refine aQ (λhq=>?_) λhq=>?_
     .have hm:=gh _ hq;have hqr:=ho _ hm;dsimp only at hqr;have q0:=hqr.1;have q1:db (e.1,(i:Int)) op<(l! (zH e op ar i):Int):=by rw[si_.ln];exact hqr.2
      refine aX (W6 hT hc q0 q1 (si_.EnI hr) hrl' (hI.it clk hk).1) (bl (by simp only[gw,ip]) ?_);refine aX (U8 q0 q1) (ak ?_);have pe:∀p∈re,bf (zH e op ar i) p=bf ar p:=λp hp=>si_.eq p (by have:=(hr p hp).2.2;omega)
      obtain⟨r1,r2,r3⟩:=aqo (I:=I) (c:=c) (ar:=zH e op ar i) (q:=db (e.1,(i:Int)) op) (e:=e) re clk hk (λclk p hp m1 m2 hk=>by
       rw[si_.mat]at m1;rw[pe p hp]at m2 ⊢;exact hI.i2 clk (i:Int) p hacc (by omega) (by omega) hq hp m1 m2 hk)
      refine ⟨_,by rw[Ho hq],r1,λv hv v0=>(hs v hv v0).trans r2,λlk l0 l1 ho' p hp m1 m2=>?_⟩;by_cases hlk:lk=(i:Int)
      .subst hlk;have:=r3 p hp (by rw[si_.mat];exact m1) (by rw[pe p hp];exact m2);rw[pe p hp]at this;exact this
      .exact (hb lk l0 (by omega) ho' p hp m1 m2).trans r2
     .refine ak ⟨clk,by rw[UD (by rw[hq];simp)],hk,hs,λlk l0 l1 ho' p hp m1 m2=>?_⟩;by_cases hlk:lk=(i:Int)
      .subst hlk;have hq:jN (e.1,(i:Int)) op=af:=hq;rw[hq]at ho';cases ho'
      .exact hb lk l0 (by omega) ho' p hp m1 m2
    .rintro x ⟨clk',rfl,a,b,d⟩;refine ak ⟨clk',?_,a,b,d⟩;show (bn .i64 ((i:Int)+1),_)=_;rw[fL]
   .rintro x ⟨clk,rfl,a,b,d⟩;have hwr:bn .i64 (aS (l! w.2.1)+1)=((l! w.2.1+1:Nat):Int):=fL;refine cO (ak ⟨clk,by unfold nh;rw[aF hacc],a,b,λ_ lk l0 l1=>d lk l0 (by omega)⟩) (by dsimp only;rw[hwr];omega)
  .exact ak ⟨clk,by unfold nh;rw[ax hacc],hk,hs,λh=>bC h hacc⟩
 rintro x ⟨clk,rfl,hk,hs,hb⟩;dsimp only;refine aV (λx=>∃clk,x=((w,l),c,tm,la,sp,wa,wt,st,se,op,re,nh w e op ar,si,ei,e,clk)/\I clk/\JR w c tm src op re ar e clk) ?_ ?_
 .refine aX (Jb hev) ?_;refine aQ (λhq=>?_) λhq=>?_
  .have hm:=gh _ hq;have hqr:=ho _ hm;dsimp only at hqr;have q0:=hqr.1;have q1:db (e.1,fB w e) op<(l! (nh w e op ar):Int):=by rw[sam.ln];exact hqr.2
   have pe:∀p∈re,bf (nh w e op ar) p=bf ar p:=λp hp=>sam.eq p (by have:=(hr p hp).2.2;omega)
   have uncL:∀clk,unc tm (nh w e op ar) re clk<=l! re:=λclk=>by unfold unc;exact EH ..
   refine ail 1000 (λx=>2*unc tm (nh w e op ar) re x.2.2.2.2.2.2.2.2.2.2.2.2.2.2.2.2.1+if x.2.2.2.2.2.2.2.2.2.2.2.2.2.2.2.2.2=J then 1 else 0) (λx=>∃clk ag,x=(db (e.1,fB w e) op,(w,l),c,tm,la,sp,wa,wt,st,se,op,re,nh w e op ar,si,ei,e,clk,ag)/\I clk/\(∀v∈src,0<=v->wQ (jc c v) clk)/\((e.2.1=3\/e.2.1=4)->∀lk:Int,0<=lk->lk<=(l! w.2.1:Int)->jN (e.1,lk) op=J->∀p∈re,qP (bf ar p) (bf ar (db (e.1,lk) op))=J->Us (bf ar p) e=J->wQ (jc c (bf ar p).en) clk)/\(ag=af->∀p∈re,qP (bf ar p) (bf ar (db (e.1,fB w e) op))=J->cvr clk (jt tm (bf ar p).bg)=J->cvr clk (jt tm (bf ar p).en)=J)) ?_ ?_ ⟨clk,J,rfl,hk,hs,hb,nofun⟩
   .rintro x ⟨clk,ag,rfl,hk,hs,hb,hd⟩;dsimp only;refine aQ (λhag=>?_) λhag=>?_
    .refine aX (W5 hT hc q0 q1 (sam.EnI hr) hrl' (hI.it clk hk).1) (bl (by simp only[gw,ip]) (ak ?_));obtain⟨r1,r2,r3,r4⟩:=aig (I:=I) (c:=c) (tm:=tm) (ar:=nh w e op ar) (q:=db (e.1,fB w e) op) (re:=re) (λp hp=>by rw[pe p hp];exact htm p hp) re (clk,af) (λp hp=>hp) hk (λclk p hp m1 m2 hk=>by
      rw[sam.mat]at m1;rw[pe p hp]at m2 ⊢;exact hI.i3 clk p hq hp m1 m2 hk)
     generalize List.foldl (vQ c tm (nh w e op ar) (db (e.1,fB w e) op)) (clk,af) re=s at*
     obtain⟨sc,sa⟩:=s;dsimp only at r1 r2 r3 r4;refine ⟨⟨sc,sa,rfl,r1,λv hv v0=>(hs v hv v0).trans r2,λh lk l0 l1 ho' p hp m1 m2=>(hb h lk l0 l1 ho' p hp m1 m2).trans r2,λh p hp m1 m2=>?_⟩,?_⟩
     .obtain⟨_,f2,f3⟩:=r4 h;rw[f2]at m2 ⊢;have:=f3 p hp (by rw[sam.mat];exact m1) (by rw[pe p hp];exact m2);rw[pe p hp]at this;exact this
     .grind
    .have hag:ag=af:=hag;exact ak ⟨clk,rfl,hk,hs,hb,λ_=>hd hag⟩
   .dsimp only;have:=uncL clk;rw[aF rfl];omega
  .refine ak ⟨clk,rfl,hk,hs,hb,λh=>?_⟩;have hq:jN (e.1,fB w e) op=af:=hq;rw[hq]at h;cases h
 rintro x ⟨clk,rfl,hk,hj'⟩;dsimp only;obtain⟨k1,k2,k3⟩:=hI.it clk hk;have et:e.1=((e.1.toNat:Nat):Int):=by omega
 have htick:rf (clk,e.1)=Z (tk clk e.1.toNat):=by
  rw[et,be];exact ape clk e.1.toNat (by unfold big;omega) (by omega) k2 (by omega)
 refine aX htick ?_;have htl:=hc.tl;have hlt:l! (tk clk e.1.toNat)=l! w.2.2.2.2.1:=by rw[Q_,k1];omega
 refine bG (by rw[cH];omega) (by omega) (aR t0 (by rw[hlt];exact t1) (aT (bG (by rw[cH];omega) (by omega) ?_)));have hgt:geti aP (tk clk e.1.toNat) e.1=(tk clk e.1.toNat).getD e.1.toNat 0:=by
  rw[et,vC,be]
 have hgt':geti aP (tk clk e.1.toNat) e.1=(tk clk e.1.toNat).getD e.1.toNat 0:=hgt;rw[hgt'];refine aX (U6 hev (by rw[sam.ln];exact ho) (λv hv=>by rw[sam.ln];exact (hr v hv).1) hrl') ?_;dsimp only;refine bl (by simp only[gw,ip]) ?_;refine aX (ak8 hev (by omega) hT hv h1 h2 h3 hwt h4 h5) ?_;dsimp only;refine bl (by simp only[bX,UT,US,LY,adh,gw,ip]) (ak ⟨clk,⟨hk,hj'⟩,rfl⟩)
def FW {ar:Y WO} :bf ar a=bf ar (a.toNat:Int):=by unfold bf dT;rw[be]
def FX {ar:Y WO} (o:WO) (h:a.toNat<l! ar):bf (ar++[o]) a=bf ar a:=by
 unfold bf dT;rw[aE,aE,bU h]
def Lz (ar:Y WO) (o:WO):bf (ar++[o]) (l! ar:Int)=o:=by
 unfold bf dT;rw[be,aE,vo];rfl
def AS (op:Y d?):Prop:=(op.map (·.1)).Nodup
def abx (k:ν) {x:d?}:∀{op:Y d?},AS op->x∈Ah k op->x.1≠k
 |[],_,h=>by cases h
 |e::r,A,h=>by
  unfold AS at A;rw[ch,uF]at A;simp[Ah]at h;cases z:H_ k e.1 with
  |true=>
   rw[z]at h;intro he;exact A.1 (by rw[<- uQ.1 z,<-he];exact List.mem_map_of_mem h)
  |false=>
   rw[z]at h;rcases a_.1 h with h|h
   .rw[h];intro he;rw[uQ.2 he.symm]at z;cases z
   .exact abx k A.2 h
def AS.del (k:ν):∀{op:Y d?},AS op->AS (Ah k op)
 |[],h=>h
 |e::r,z=>by
  unfold AS at z ⊢;rw[ch,uF]at z;simp[Ah];cases D:H_ k e.1 with
  |true=>exact z.2
  |false=>
   rw[ch,uF];refine ⟨λh=>z.1 ?_,AS.del k z.2⟩;let⟨x,A,hxe⟩:=cu.1 h;rw[<- hxe];exact List.mem_map_of_mem (FY k A)
def Ms {k:ν} {x:d?}:∀{op:Y d?},AS op->x∈sK k a op->x=(k,a)\/(x∈op/\x.1≠k)
 |[],_,h=>.inl (aC.1 h)
 |e::r,A,h=>by
  unfold AS at A;rw[ch,uF]at A;simp[sK]at h;cases z:H_ k e.1 with
  |true=>
   rw[z]at h;rcases a_.1 h with h|h
   .exact .inl h
   .refine .inr ⟨cg _ h,λhe=>A.1 ?_⟩;rw[<- uQ.1 z,<-he];exact List.mem_map_of_mem h
  |false=>
   rw[z]at h;rcases a_.1 h with h|h
   .rw[h];exact .inr ⟨dk ..,λhe=>by rw[uQ.2 he.symm]at z;cases z⟩
   .rcases Ms A.2 h with h|h
    .exact .inl h
    .grind
def Rs {k:ν} {y:ν}:∀{op:Y d?},y∈(sK k a op).map (·.1)->y=k\/y∈op.map (·.1)
 |[],h=>.inl (by simpa[sK] using h)
 |e::r,h=>by
  simp only[sK]at h;cases z:H_ k e.1 with
  |true=>grind
  |false=>
   rw[z]at h;rcases a_.1 h with h|h
   .grind
   .rcases Rs h with h|h
    .exact .inl h
    .grind
def AS.put (k:ν) (v:Int):∀{op:Y d?},AS op->AS (sK k v op)
 |[],_=>by simp[AS,sK]
 |e::r,z=>by
  unfold AS at z ⊢;rw[ch,uF]at z;simp[sK];cases A:H_ k e.1 with
  |true=>
   show (k::r.map (·.1)).Nodup;rw[uQ.1 A,uF];exact z
  |false=>
   show (e.1::(sK k v r).map (·.1)).Nodup;rw[uF];refine ⟨λh=>?_,AS.put k v z.2⟩;rcases Rs h with h|h
   .rw[uQ.2 h.symm]at A;cases A
   .exact z.1 h
structure WS (j:Nat) (op:List (ν×Int)) (re:η) (ar:List WO):Prop where
 ks:AS op
 o:∀x∈op,(0<=x.2/\x.2<(l! ar:Int))/\(bf ar x.2).th=x.1.1/\(bf ar x.2).lk=x.1.2/\(bf ar x.2).en= -1/\0<=x.1.2
 a:∀k:Nat,k<l! ar->(0<=(bf ar k).bg/\(bf ar k).bg<(j:Int))/\((bf ar k).en= -1\/((bf ar k).bg<(bf ar k).en/\(bf ar k).en<(j:Int)))
 r:∀p∈re,(0<=p/\p<(l! ar:Int))/\(bf ar p).en≠ -1
 rl:l! re<=j
def WS.op {op:Y d?} {re:η} {ar:Y WO} (h:WS j op re ar):OpI (l! ar) op:=λx z=>(h.o x z).1
def WS.oo {op:Y d?} {re:η} {ar:Y WO} (h:WS j op re ar):∀x∈op,(bf ar x.2).en= -1:=λx z=>(h.o x z).2.2.2.1
def WS.en {op:Y d?} {re:η} {ar:Y WO} (h:WS j op re ar):EnI j ar re:=λp hp=>by
 let⟨⟨p0,z⟩,p2⟩:=h.r p hp;let⟨D,A⟩:=h.a p.toNat (by omega)
 grind
def WS.sam {op:Y d?} {re:η} {ar ar':Y WO} (h:WS j op re ar) (s:Sam ar ar'):WS j op re ar':=by
 let⟨h1,h2,N,L,D⟩:=h;have e:∀i:Int,(bf ar' i).1=(bf ar i).1:=s.hd;refine ⟨h1,λx z=>?_,λk A=>?_,λp hp=>?_,D⟩
 .have:=h2 x z;unfold WO.th WO.lk WO.en at this ⊢;rw[e,s.ln];exact this
 .have:=N k (by rw[<- s.ln];exact A)
  grind
 .have:=L p hp;unfold WO.en at this ⊢;rw[e,s.ln];exact this
def rD {w:WT} {e:ET} {op:Y d?} {ar:Y WO} (hi:OpI (l! ar) op) (i:Int):bf (yB w a e op ar) i=if scQ w e op=J/\i.toNat=(db (e.1,fB w e) op).toNat then IA a (bf ar (db (e.1,fB w e) op)) else bf ar i:=by
 unfold yB;by_cases z:scQ w e op=J
 .rw[aF z];have:=hi _ (gh _ z);rw[S4 _ _ (by omega)]
  grind
 .grind
def FB {w:WT} {e:ET} {op:Y d?} (z:AS op) {x:d?} (h:x∈xQ w e op):x∈op/\(scQ w e op=J->x.1≠(e.1,fB w e)):=by
 unfold xQ at h;split at h
 .exact⟨FY _ h,λ_=>abx _ z h⟩
 .grind
def Rh {w:WT} {e:ET} {op:Y d?} (z:AS op):AS (xQ w e op):=by
 unfold xQ;split
 .exact z.del _
 .exact z
def SD {w:WT} {e:ET} {op:Y d?} {re:η} {ar:Y WO} (h:WS j op re ar) {x:d?} (A:x∈xQ w e op) (z:Int):bf (yB w z e op ar) x.2=bf ar x.2:=by
 let⟨h1,N⟩:=FB h.ks A;rw[rD h.op,ax];rintro⟨D,L⟩;have hm:=gh _ D;have a1:=h.o _ h1;have a2:=h.o _ hm
 grind
def WS.next {w:WT} {e:ET} {op:Y d?} {re:η} {ar:Y WO} (h:WS j op re ar):WS (j+1) (Ri w e op ar) (yA w e op re) (BI w (j:Int) e op ar):=by
 have z:=BQ w (j:Int) e op ar;have m1:WS (j+1) (xQ w e op) (yA w e op re) (yB w (j:Int) e op ar):=by
  refine ⟨Rh h.ks,λx A=>?_,λk N=>?_,λp hp=>?_,?_⟩
  .rw[SD h A,z];exact h.o x (FB h.ks A).1
  .rw[z]at N;rw[rD h.op];split
   .rename_i hz;have hm:=h.o _ (gh _ hz.1);dsimp only at hm;have ha:=h.a (db (e.1,fB w e) op).toNat (by omega);unfold IA
    grind
   .have ha:=h.a k N;omega
  .unfold yA at hp;have old:p∈re->(0<=p/\p<(l! (yB w (j:Int) e op ar):Int))/\(bf (yB w (j:Int) e op ar) p).en≠ -1:=λhp=>by
    let⟨L,D⟩:=h.r p hp;rw[z];refine ⟨L,?_⟩;rw[rD h.op];split
    .unfold IA;dsimp only[WO.en];omega
    .exact D
   split at hp
   .rename_i hq;rcases bO.1 hp with hp|hp
    .exact old hp
    .rw[aC]at hp;subst hp;have hm:=h.o _ (gh _ hq);rw[z];refine ⟨hm.1,?_⟩;rw[rD h.op,aF ⟨hq,rfl⟩];unfold IA;dsimp only[WO.en];omega
   .exact old hp
  .unfold yA;have:=h.rl
   grind
 unfold Ri BI;by_cases g:0<=mT w e
 .rw[aF g,aF g];generalize hn:((e.1,mT w e,(j:Int),-1,decide (e.2.1=8)),([],[]))=new;have hlen:(l! (yB w (j:Int) e op ar++[new]:Y WO):Int)=(l! ar:Int)+1:=by grind
  have hat:bf (yB w (j:Int) e op ar++[new]) (l! ar:Int)=new:=by rw[<- z];exact Lz _ _
  refine ⟨m1.ks.put _ _,λx A=>?_,λk N=>?_,λp hp=>?_,m1.rl⟩
  .rcases Ms m1.ks A with rfl|⟨A,_⟩
   .grind
   .obtain⟨⟨q0,L⟩,D⟩:=m1.o x A;rw[z]at L;rw[FX _ (by omega),hlen];exact⟨⟨q0,by omega⟩,D⟩
  .rw[bz,cH,z]at N;by_cases hz:k=l! ar
   .grind
   .rw[FX _ (by omega)];exact m1.a k (by omega)
  .obtain⟨⟨q0,L⟩,D⟩:=m1.r p hp;rw[z]at L;rw[FX _ (by omega),hlen];exact⟨⟨q0,by omega⟩,D⟩
 .grind
structure JCw (w:WT) (l:List ET) (j:Nat) (c:List η) (clk:η):Prop where
 ln:l! clk=l! w.2.2.2.2.1
 b:∀u:Nat,0<=clk.getD u 0/\clk.getD u 0<=(ct l u j:Int)
 cl:∀i:Nat,i<j->(c.getD i []).getD (eL l i) 0<=clk.getD (eL l i) 0->wQ (c.getD i []) clk
structure CI (w:WT) (l:List ET) (j:Nat) (c:List η) (tm:List ν) (la:η):Prop where
 k:CkL (l! w.2.2.2.2.1) j c tm
 tv:∀i:Nat,i<j->tm.getD i (0,0)=((c.getD i []).getD (eL l i) 0,(eL l i:Int))
 nn:∀i:Nat,i<j->∀u:Nat,0<=(c.getD i []).getD u 0/\(c.getD i []).getD u 0<=(ct l u (i+1):Int)
 own:∀i:Nat,i<j->(c.getD i []).getD (eL l i) 0=(ct l (eL l i) (i+1):Int)
 cls:∀i k:Nat,i<j->k<j->(c.getD i []).getD (eL l i) 0<=(c.getD k []).getD (eL l i) 0->wQ (c.getD i []) (c.getD k [])
 lav:∀u:Nat,u<l! w.2.2.2.2.1->(0<=la.getD u 0->la.getD u 0<(j:Int)/\eL l (la.getD u 0).toNat=u/\ct l u j=ct l u ((la.getD u 0).toNat+1))/\(la.getD u 0<0->ct l u j=0)
def CI.cvr {w:WT} {l:Y ET} {c:Y η} {tm:Y ν} {la:η} (h:CI w l j c tm la) (h0:0<=a) (h1:a<(j:Int)) (clk:η):AI.cvr clk (jt tm a)=J↔(jc c a).getD (eL l a.toNat) 0<=clk.getD (eL l a.toNat) 0:=by
 unfold AI.cvr jt jc;rw[h.tv a.toNat (by omega),bS,be]
def JCw.join {w:WT} {l:Y ET} {c:Y η} {tm:Y ν} {la:η} (h:CI w l j c tm la) (clk:JCw w l j c z) (h0:0<=a) (h1:a<(j:Int)):JCw w l j c (jl z (jc c a)):=by
 have hi:a.toNat<j:=by omega
 refine ⟨by rw[Ia,clk.ln,h.k.jc h0 h1];exact Nat.max_self _,λu=>?_,λk hkj hle=>?_⟩
 .rw[MN];have i:=clk.b u;have b:=h.nn a.toNat hi u;have d:=He l u (show a.toNat+1<=j from hi);have e:jc c a=c.getD a.toNat []:=rfl;rw[e];rcases Tn (z.getD u 0) ((c.getD a.toNat []).getD u 0) with h|h<;>rw[h]<;>omega
 .rw[MN]at hle;rcases Tn (z.getD (eL l k) 0) ((jc c a).getD (eL l k) 0) with e|e
  .rw[e]at hle;exact (clk.cl k hkj hle).trans (MG _ _)
  .rw[e]at hle;exact (h.cls k a.toNat hkj hi hle).trans (Th _ _)
def JCw.zero {w:WT} {l:Y ET} {c:Y η} {tm:Y ν} {la:η} (h:CI w l j c tm la):JCw w l j c (aG (l! w.2.2.2.2.1) 0):=by
 have z:∀u:Nat,(aG (l! w.2.2.2.2.1) (0:Int)).getD u 0=0:=λu=>by grind
 refine ⟨dy ..,λu=>by rw[z];omega,λi hi hle=>?_⟩;rw[z,h.own i hi]at hle;have:=CJ l i;omega
def L1 (clk:η) (t:Nat):wQ clk (tk clk t):=λu=>by
 rw[EL];split
 next h=>rw[h];omega
 .exact dg _
def CI.next {w:WT} {l:Y ET} {c:Y η} {tm:Y ν} {la:η} (h:CI w l j c tm la) (hla:EA (l! w.2.2.2.2.1) j la) (t0:0<=(eN l j).1) (t1:(eN l j).1<l! w.2.2.2.2.1) (hk:JCw w l j c z) (hp:0<=la.getD (eL l j) 0->wQ (jc c (la.getD (eL l j) 0)) z):
 CI w l (j+1) (c++[tk z (eL l j)]) (tm++[((tk z (eL l j)).getD (eL l j) 0,(eN l j).1)]) (cC la (eN l j).1 (j:Int))/\wQ z ((c++[tk z (eL l j)]).getD j [])/\∀u,u≠eL l j->((c++[tk z (eL l j)]).getD j []).getD u 0=z.getD u 0:=by
 have hcl:=h.k.cl;have htl:=h.k.tl;have et:(eN l j).1=(eL l j:Int):=by unfold eL;omega
 have tlt:eL l j<l! w.2.2.2.2.1:=by omega
 have N:∀i:Nat,i<j->(c++[tk z (eL l j)]).getD i []=c.getD i []:=λi hi=>by
  rw[aE,aE,bU (by omega)]
 have gj:(c++[tk z (eL l j)]).getD j []=tk z (eL l j):=by
  rw[aE,<-hcl,vo];rfl
 have tl:∀i:Nat,i<j->(tm++[((tk z (eL l j)).getD (eL l j) 0,(eN l j).1)]).getD i (0,0)=tm.getD i (0,0):=λi hi=>by
  simp only[aE,bU (show i<l! tm by omega)]
 have tj:(tm++[((tk z (eL l j)).getD (eL l j) 0,(eN l j).1)]).getD j (0,0)=((tk z (eL l j)).getD (eL l j) 0,(eN l j).1):=by
  rw[aE,<-htl,vo];rfl
 have hown:z.getD (eL l j) 0=(ct l (eL l j) j:Int):=by
  have hb:=hk.b (eL l j);let⟨a1,a2⟩:=h.lav (eL l j) tlt;by_cases h0:0<=la.getD (eL l j) 0
  .obtain⟨q1,q2,q3⟩:=a1 h0;have:=hp h0 (eL l j);have ho:=h.own (la.getD (eL l j) 0).toNat (by omega);rw[q2]at ho;have e:jc c (la.getD (eL l j) 0)=c.getD (la.getD (eL l j) 0).toNat []:=rfl;rw[e,ho,<-q3]at this;omega
  .have:=a2 (by omega);omega
 have htk:(tk z (eL l j)).getD (eL l j) 0=(ct l (eL l j) (j+1):Int):=by
  rw[EL,aF rfl,hown,CJ];omega
 refine ⟨⟨⟨by simp[hcl],by simp[htl],λi hi=>?_,λi hi=>?_⟩,λi hi=>?_,λi hi u=>?_,λi hi=>?_,λi k hi hkk hle=>?_,λu D=>?_⟩,by rw[gj];exact L1 _ _,λu D=>by rw[gj,EL,ax D]⟩
 .rcases cJ i j with clk|clk
  .rw[N i clk];exact h.k.ln i clk
  .have:i=j:=by omega
   subst this;rw[gj,Q_,hk.ln];omega
 .rcases cJ i j with clk|clk
  .rw[tl i clk];exact h.k.th i clk
  .have:i=j:=by omega
   subst this;rw[tj];exact t0
 .rcases cJ i j with clk|clk
  .rw[tl i clk,N i clk];exact h.tv i clk
  .have:i=j:=by omega
   subst this;rw[tj,gj,et]
 .rcases cJ i j with clk|clk
  .rw[N i clk];exact h.nn i clk u
  .have:i=j:=by omega
   subst this;rw[gj];by_cases D:u=eL l i
   .rw[D,htk];omega
   .rw[EL,ax D];have:=hk.b u;have:=He l u (show i<=i+1 by omega);omega
 .rcases cJ i j with clk|clk
  .rw[N i clk];exact h.own i clk
  .have:i=j:=by omega
   subst this;rw[gj];exact htk
 .rcases cJ i j with clk|clk
  .rcases cJ k j with A|A
   .rw[N i clk,N k A] at*
    exact h.cls i k clk A hle
   .have:k=j:=by omega
    subst this;rw[N i clk,gj] at*
    refine wQ.trans (hk.cl i clk ?_) (L1 _ _);by_cases D:eL l i=eL l k
    .rw[D,hown];have ho:=h.own i clk;rw[D]at ho;rw[ho];have:=He l (eL l k) (show i+1<=k from clk);omega
    .rw[EL,ax D]at hle;exact hle
  .have:i=j:=by omega
   subst this;rcases cJ k i with A|A
   .rw[N k A,gj,htk]at hle;have:=(h.nn k A (eL l i)).2;have:=He l (eL l i) (show k+1<=i from A);have:=CJ l i;omega
   .have:k=i:=by omega
    subst this;exact wQ.rfl
 .rw[et,rB];have hll:=hla.1;rw[aE,ey];by_cases L:eL l j=u
  .rw[aF L,aF (by omega)];simp only[Option.getD_some];refine ⟨λ_=>⟨by omega,by rw[be];exact L,by rw[be]⟩,λhz=>by omega⟩
  .rw[ax L,<-aE];have hc:ct l u (j+1)=ct l u j:=by simp only[ct,ax L,dI]
   rw[hc];let⟨a1,a2⟩:=h.lav u D;refine ⟨λhz=>?_,a2⟩;let⟨q1,q2,q3⟩:=a1 hz;exact⟨by omega,q2,q3⟩
structure WkG (w:WT) (l:List ET) (j:Nat) (c:List η) (tm:List ν) (la sp wa wt st se:η) (op:List (ν×Int)) (re:η) (ar:List WO) (si ei:List η):Prop where
 ci:CI w l j c tm la
 ws:WS j op re ar
 la:EA (l! w.2.2.2.2.1) j la
 sp:EA (l! w.2.2.2.2.1) j sp
 wa:EA (l! w.2.2.2.2.1) j wa
 wt:l! wt=l! w.2.2.2.2.1
 st:Pw (l! w.1) j st si
 se:Pw (l! w.2.2.2.1) j se ei
structure JK (w:WT) (c:List η) (tm:List ν) (src:η) (op:List (ν×Int)) (re:η) (ar:List WO) (e:ET) (I:η->Prop):Prop where
 i0:I (aG (l! w.2.2.2.2.1) 0)
 i1:∀clk i,i∈src->0<=i->I clk->I (jl clk (jc c i))
 i2:∀clk (lk:Int) p,(e.2.1=3\/e.2.1=4)->0<=lk->lk<=(l! w.2.1:Int)->jN (e.1,lk) op=J->p∈re->qP (bf ar p) (bf ar (db (e.1,lk) op))=J->Us (bf ar p) e=J->I clk->I (jl clk (jc c (bf ar p).en))
 i3:∀clk p,jN (e.1,fB w e) op=J->p∈re->qP (bf ar p) (bf ar (db (e.1,fB w e) op))=J->cvr clk (jt tm (bf ar p).bg)=J->I clk->I (jl clk (jc c (bf ar p).en))
structure CKj (w:WT) (l:List ET) (j:Nat) (c:List η) (tm:List ν) (la sp wa:η) (op:List (ν×Int)) (re:η) (ar:List WO) (si ei:List η) (clk:η):Prop where
 jc:JCw w l j c clk
 jr:JR w c tm (tX w la sp wa si ei (eN l j)) op re ar (eN l j) clk
 js:∀I,JK w c tm (tX w la sp wa si ei (eN l j)) op re ar (eN l j) I->I clk
def TR.note {w:WT} {l:Y ET} (tr:TR (w,l)) (D:j<l! l):(eN l j).2.1=18->(eN l j).2.2.2.1<l! w.2.2.2.2.1:=λh=>by
 have sc:=tr.sc D;have en:=sc.en;have z:=sc.va.el (by omega) (by omega) (by omega) (by omega) (by omega);rw[h,Fk]at z;split at z
 .omega
 .rename_i A;have:=(LM (u:=(eN l j).2.2.2.1) A).2;have e3:=en.e3
  grind
def ae7 (w:WT) (la sp wa:η) (si ei:Y η) (e:ET):geti aP la e.1∈tX w la sp wa si ei e:=by
 unfold tX;exact eV _ (aC.2 rfl)
def ab3 {w:WT} {e:ET} (hev:Fp w e) {la sp wa st se:η} {si ei:Y η} (h1:EA (l! w.2.2.2.2.1) j la) (N:EA (l! w.2.2.2.2.1) j sp) (L:EA (l! w.2.2.2.2.1) j wa) (D:Pw (l! w.1) j st si) (A:Pw (l! w.2.2.2.1) j se ei):∀v∈tX w la sp wa si ei e,v<(j:Int):=by
 have t0:=hev.t0;have t1:=hev.t1;have q:∀{n:Nat} {xs:η} {xss:Y η} {o:Int},Pw n j xs xss->0<=o->o<n->∀v∈kX (T:=aP) xss o,v<(j:Int):=λ{n xs xss o} h o0 o1 v z=>by
  have e:o=((o.toNat:Nat):Int):=by omega
  exact ((h.2.2 o.toNat (by omega)).2.2 v z).2
 intro v z;rcases bO.1 z with z|z
 .rw[aC]at z;rw[z];exact (h1.geti t0 t1).2
 .split at z
  .rw[aC]at z;rw[z];exact (N.geti t0 t1).2
  .split at z
   next g=>rw[aC]at z;rw[z];exact (h1.geti (hev.nm.th (.inr g)).1 (hev.nm.th (.inr g)).2).2
   .split at z
    next g=>exact q A (hev.nm.fu (.inr g)).1 (hev.nm.fu (.inr g)).2 v z
    .split at z
     .rename_i g;split at z
      .exact q D (hev.nm.ce (.inl g)).1 (hev.nm.ce (.inl g)).2 v z
      .cases z
     .split at z
      .rw[aC]at z;rw[z];exact (L.geti t0 t1).2
      .cases z
def WkG.step {w:WT} {l:Y ET} (tr:TR (w,l)) (D:j<l! l) {c:Y η} {tm:Y ν} {la sp wa wt st se:η} {op:Y d?} {re:η} {ar:Y WO} {si ei:Y η} (g:WkG w l j c tm la sp wa wt st se op re ar si ei):
 Ok (gy (((j:Int),eN l j),(w,l),c,tm,la,sp,wa,wt,st,se,op,re,ar,si,ei)) λy=>∃clk,CKj w l j c tm la sp wa op re ar si ei clk/\y=((w,l),cC la (eN l j).1 (j:Int),z_ (j:Int) (eN l j) sp,EJ (j:Int) (eN l j) wt wa,HE (eN l j) wt,QR 4 (j:Int) (eN l j) st si,QR 22 (j:Int) (eN l j) se ei,Ri w (eN l j) op (nh w (eN l j) op ar),c++[tk clk (eL l j)],tm++[((tk clk (eL l j)).getD (eL l j) 0,(eN l j).1)],yA w (eN l j) op re,BI w (j:Int) (eN l j) op (nh w (eN l j) op ar),QQ 4 (j:Int) (eN l j) si,QQ 22 (j:Int) (eN l j) ei):=by
 have N:l! l<=400:=tr.len;have wb:=tr.wb;have hev:Fp w (eN l j):=tr.ev _ (nL D);have hen:=g.ws.en;have hlt:=ab3 hev g.la g.sp g.wa g.st g.se;have htm:∀p∈re,cvr (jc c (bf ar p).en) (jt tm (bf ar p).en)=J:=λp hp=>by
  let⟨_,_,q0,A⟩:=hen p hp;exact (g.ci.cvr q0 A _).2 (dg _)
 have hrl:=g.ws.rl;refine Ok.mono (amj (I:=λclk=>JCw w l j c clk/\∀I,JK w c tm (tX w la sp wa si ei (eN l j)) op re ar (eN l j) I->I clk) hev (by omega) wb.t wb.l (tr.note D) g.la g.sp g.wa g.wt g.st g.se g.ci.k g.ws.op g.ws.oo hen (by omega) htm ?_) ?_
 .refine ⟨⟨JCw.zero g.ci,λI h=>h.i0⟩,λclk i hi h0 z=>⟨z.1.join g.ci h0 (hlt i hi),λI h=>h.i1 clk i hi h0 (z.2 I h)⟩,λclk lk p a b d f hp m1 m2 z=>?_,λclk p a hp m1 m2 z=>?_,λclk z=>?_⟩
  .obtain⟨_,_,q0,A⟩:=hen p hp;exact⟨z.1.join g.ci q0 A,λI h=>h.i2 clk lk p a b d f hp m1 m2 (z.2 I h)⟩
  .obtain⟨_,_,q0,A⟩:=hen p hp;exact⟨z.1.join g.ci q0 A,λI h=>h.i3 clk p a hp m1 m2 (z.2 I h)⟩
  .have:=z.1.b (eN l j).1.toNat;have:=aoh l (eN l j).1.toNat j;exact⟨z.1.ln,by omega,by omega⟩
 .rintro y ⟨clk,⟨⟨k1,k2⟩,k3⟩,L⟩;exact⟨clk,⟨k1,k3,k2⟩,L⟩
def WkG.next {w:WT} {l:Y ET} (tr:TR (w,l)) (A:j<l! l) {c:Y η} {tm:Y ν} {la sp wa wt st se:η} {op:Y d?} {re:η} {ar:Y WO} {si ei:Y η} (g:WkG w l j c tm la sp wa wt st se op re ar si ei) (clk:CKj w l j c tm la sp wa op re ar si ei z):
 WkG w l (j+1) (c++[tk z (eL l j)]) (tm++[((tk z (eL l j)).getD (eL l j) 0,(eN l j).1)]) (cC la (eN l j).1 (j:Int)) (z_ (j:Int) (eN l j) sp) (EJ (j:Int) (eN l j) wt wa) (HE (eN l j) wt) (QR 4 (j:Int) (eN l j) st si) (QR 22 (j:Int) (eN l j) se ei) (Ri w (eN l j) op (nh w (eN l j) op ar)) (yA w (eN l j) op re) (BI w (j:Int) (eN l j) op (nh w (eN l j) op ar)) (QQ 4 (j:Int) (eN l j) si) (QQ 22 (j:Int) (eN l j) ei):=by
 have hev:Fp w (eN l j):=tr.ev _ (nL A);have t0:=hev.t0;have t1:=hev.t1;have D:(eN l j).1=(eL l j:Int):=by unfold eL;omega
 have sam:=CS (w:=w) (e:=eN l j) g.ws.op g.ws.oo;have hlast:geti aP la (eN l j).1=la.getD (eL l j) 0:=by rw[D,vC]
 refine ⟨(g.ci.next g.la t0 t1 clk.jc λh0=>?_).1,(g.ws.sam sam).next,?_,g.sp.sp _ λh=>(hev.nm.th (.inl h)).1,g.wa.wa _ (tr.note A),by rw[LY];exact g.wt,g.st.ad 4 _ λh=>(hev.nm.ce (.inr h)).1,g.se.ad 22 _ λh=>(hev.nm.fu (.inl h)).1⟩
 .rw[<- hlast];exact clk.jr.a _ (ae7 ..) (by grind)
 .exact g.la.set _ (by omega) (dg _)
def an9 {n:Nat} (A:n<=1000):lF (n:Int)=Z (aG n (-1)):=by
 refine cI ?_;unfold lF At ck bV bT c8 aI cS;refine cE (cE (a? (a? (a! ?_))));refine hY n (by omega) (λi x=>x=((i:Int),aG i (-1)++aG (n-i) 0)) ?_ ?_ (by simp)
 .rintro i x hi rfl;refine cU ?_ (by grind);have z:dN (i:Int) (aj (aG i (-1:Int)++aG (n-i) 0))=J:=LG.2 ⟨by omega,by simp;omega⟩;refine bl z (bl z (ak ?_));rw[fL,rB];have h1:n-i=(n-(i+1))+1:=by omega
  rw[List.set_append_right _ _ (by simp),dy,xc,h1,yi,List.set_cons_zero,wM (n:=i),iV];rfl
 .rintro x rfl;refine cO (ak ?_) (by simp);simp
def WkG.zero (w:WT) (l:Y ET):WkG w l 0 [] [] (aG (l! w.2.2.2.2.1) (-1)) (aG (l! w.2.2.2.2.1) (-1)) (aG (l! w.2.2.2.2.1) (-1)) (aG (l! w.2.2.2.2.1) (-1)) (aG (l! w.1) 0) (aG (l! w.2.2.2.1) 0) [] [] [] (aG (l! w.1) []) (aG (l! w.2.2.2.1) []):=by
 have m1:∀(n u:Nat),u<n->(aG n (-1:Int)).getD u 0= -1:=λn u h=>by grind
 have rw_:∀n:Nat,EA n 0 (aG n (-1)):=λn=>⟨dy ..,λu z=>by rw[m1 n u z];omega⟩
 have A:∀n:Nat,Pw n 0 (aG n 0) (aG n []):=λn=>⟨dy ..,dy ..,λo D=>by
  rw[aE,aE,fW,fW,aF D,aF D];exact⟨rfl,bI _,λv N=>by cases N⟩⟩
 refine ⟨⟨⟨rfl,rfl,λi hi=>bC hi (bN _),λi hi=>bC hi (bN _)⟩,λi hi=>bC hi (bN _),λi hi=>bC hi (bN _),λi hi=>bC hi (bN _),λi k hi=>bC hi (bN _),λu z=>⟨λh=>by rw[m1 _ u z]at h;omega,λ_=>rfl⟩⟩,⟨List.nodup_nil,λx L=>(by cases L),λk hk=>bC hk (bN _),λp hp=>(by cases hp),bI _⟩,rw_ _,rw_ _,rw_ _,dy ..,A _,A _⟩
def WkH:Type:=Nat->Y η->Y ν->η->η->η->η->η->η->Y d?->η->Y WO->Y η->Y η->Prop
structure HK (w:WT) (l:List ET) (H:WkH):Prop where
 z:H 0 [] [] (aG (l! w.2.2.2.2.1) (-1)) (aG (l! w.2.2.2.2.1) (-1)) (aG (l! w.2.2.2.2.1) (-1)) (aG (l! w.2.2.2.2.1) (-1)) (aG (l! w.1) 0) (aG (l! w.2.2.2.1) 0) [] [] [] (aG (l! w.1) []) (aG (l! w.2.2.2.1) [])
 s:∀j c tm la sp wa wt st se op re ar si ei clk,j<l! l->WkG w l j c tm la sp wa wt st se op re ar si ei->H j c tm la sp wa wt st se op re ar si ei->CKj w l j c tm la sp wa op re ar si ei clk->
  H (j+1) (c++[tk clk (eL l j)]) (tm++[((tk clk (eL l j)).getD (eL l j) 0,(eN l j).1)]) (cC la (eN l j).1 (j:Int)) (z_ (j:Int) (eN l j) sp) (EJ (j:Int) (eN l j) wt wa) (HE (eN l j) wt) (QR 4 (j:Int) (eN l j) st si) (QR 22 (j:Int) (eN l j) se ei) (Ri w (eN l j) op (nh w (eN l j) op ar)) (yA w (eN l j) op re) (BI w (j:Int) (eN l j) op (nh w (eN l j) op ar)) (QQ 4 (j:Int) (eN l j) si) (QQ 22 (j:Int) (eN l j) ei)
def af8 {w:WT} {l:Y ET} (tr:TR (w,l)) {H:WkH} (L:HK w l H):Ok (mF (w,l)) λy=>∃c tm la sp wa wt st se op re ar si ei,y=((w,l),c,tm,la,sp,wa,wt,st,se,op,re,ar,si,ei)/\WkG w l (l! l) c tm la sp wa wt st se op re ar si ei/\H (l! l) c tm la sp wa wt st se op re ar si ei:=by
 have hl:l! l<=400:=tr.len;have wb:=tr.wb;have N:=wb.t;have hC:=wb.c;have hF:=wb.f;dsimp only at N hC hF;unfold mF vA kK lE lD CZ bk bB bP cP eU kJ lP mw Prod.y Prod.r bV bT bW bc c8 aI cS;dsimp only;have A:=an9 (n:=l! w.2.2.2.2.1) (by omega);refine aX A (aX A (aX A (aX A ?_)));refine cE (cE (dh (by simp) (a? (bG (by grind) (by omega) ?_))));refine cE (cE (dh (by simp) (a? (bG (by grind) (by omega) ?_))));refine hY (l! l) (by omega) (λi x=>∃c tm la sp wa wt st se op re ar si ei,x=((i:Int),(w,l),c,tm,la,sp,wa,wt,st,se,op,re,si,ei,ar)/\WkG w l i c tm la sp wa wt st se op re ar si ei/\H i c tm la sp wa wt st se op re ar si ei) ?_ ?_ ⟨_,_,_,_,_,_,_,_,_,_,_,_,_,by simp only[ay,be];rfl,WkG.zero w l,L.z⟩
 .rintro i x hi ⟨c,tm,la,sp,wa,wt,st,se,op,re,ar,si,ei,rfl,g,h⟩;refine cU ?_;refine aR (by simp) (by omega) (aT ?_);refine aw (g.step tr hi) ?_;rintro y ⟨clk,D,rfl⟩;refine bl (by simp[bX,UT,US,LY,adh,gw,ip]) (ak ⟨_,_,_,_,_,_,_,_,_,_,_,_,_,?_,g.next tr hi D,L.s i c tm la sp wa wt st se op re ar si ei clk hi g h D⟩);rw[fL]
 .rintro x ⟨c,tm,la,sp,wa,wt,st,se,op,re,ar,si,ei,rfl,g,h⟩;exact cO (ak ⟨c,tm,la,sp,wa,wt,st,se,op,re,ar,si,ei,rfl,g,h⟩)
def ap0:vw ()=Z J:=by kernel_rfl
abbrev IT:Type:=ω
abbrev CT:Type:=WT×Y (Int×Y IT)
def tN (a b:Int):j7 (a,b)=Z (decide (0<=a/\a<b)):=by
 refine cI ?_;unfold j7 jZ aI;with_reducible repeat' first|apply OS.ok;constructor|refine IM.mk λ_=>?_
 .by_cases h:a<b<;>simp[*,gF]
 .simp;omega
def I1 (k:Int):q_ k=Z (decide (1<=k/\k<=5)):=by
 refine cI ?_;unfold q_ jZ aI;with_reducible repeat' first|apply OS.ok;constructor|refine IM.mk λ_=>?_
 .by_cases h:k<=5<;>simp[*,dz]
 .simp;omega
def jD (i:IT):η:=
 if i.1=1\/i.1=6\/i.1=10\/i.1=27 then [i.2.1]
 else if i.1=2\/i.1=3 then [i.2.1,i.2.2.1]
 else if i.1=4 then [i.2.1,i.2.2.1,i.2.2.2.1]
 else if i.1=7 then [i.2.1,i.2.2.2.1]
 else if i.1=8\/i.1=26 then [i.2.2.1]
 else if i.1=9 then [i.2.2.1,i.2.2.2.1]
 else []
def vG (i:IT):kC i=Z (jD i):=by
 let⟨z,i2⟩:=i;unfold kC jD bk bB bP bm aI;by_cases h1:z=1
 .subst h1;rfl
 by_cases h2:z=6
 .subst h2;rfl
 by_cases h3:z=10
 .subst h3;rfl
 by_cases h4:z=27
 .subst h4;rfl
 by_cases h5:z=2
 .subst h5;rfl
 by_cases h6:z=3
 .subst h6;rfl
 by_cases h7:z=4
 .subst h7;rfl
 by_cases N:z=7
 .subst N;rfl
 by_cases L:z=8
 .subst L;rfl
 by_cases D:z=26
 .subst D;rfl
 by_cases A:z=9
 .subst A;rfl
 simp[h1,h2,h3,h4,h5,h6,h7,N,L,D,A,decide_false,bcF,jnr,fH,dZ]
def FH (z:IT):l! (jD z)<=3:=by
 unfold jD
 (repeat' split)<;>simp
def aj6 (l:Y IT) (a:Int) (D:l! l<=1000000):Ok (qK (l,a)) λ_=>True:=by
 unfold qK bm bV jZ bW bc c8 aI cS;refine qi (λx=>((l! l:Int)+1-x.2).toNat) (λx=>0<=x.2/\x.2<=(l! l:Int)+1) ?_ ⟨by dsimp only;omega,by dsimp only;omega⟩;rintro⟨(a:Int),(n:Int)⟩ ⟨h0,h1⟩;refine eh (λg=>?_) λ_=>ak trivial
 dsimp [ay]at g;refine aV (λ_=>True) ?_ λb _=>ak ?_
 .refine aV (λb=>b=af->0<=a/\a<(l! l:Int)) ?_ ?_
  .refine bQ (λ_=>ak nofun) λL=>ak λh=>?_
   rw[m8]at h
   grind
  .intro b z;refine aQ (λ_=>ak trivial) λh=>?_
   let⟨q0,A⟩:=z h;refine aR q0 (by omega) (aT ?_);refine aX (I1 _) ?_;refine dK (λ_=>ak trivial) λ_=>?_
   refine aR q0 (by omega) (aT ?_);refine aK (λ_=>?_) λ_=>ak trivial
   exact aR q0 (by omega) (aT (ak trivial))
 .dsimp only;rw[iI];omega
structure AR (w:WT) (b n:Int):Prop where
 b0:0<=b
 b1:b<l! w.1
 ix:(geti lL w.1 b).2.1=0
 sz:¬(geti lL w.1 b).2.2.1=0
 sn:(geti lL w.1 b).2.2.1=n
def X3 (w:WT) (b n:Int):Ok (qL (w,b,n)) λr=>r=J->AR w b n:=by
 refine gQ ?_;refine aX (tN _ _) ?_;refine aK (λh=>?_) λ_=>ak (ak nofun)
 refine aR h.1 h.2 (aT (aK (λh1=>?_) λ_=>ak (ak nofun)));refine aR h.1 h.2 (aT (cj (λA=>?_) λ_=>ak (ak nofun)));exact aR h.1 h.2 (aT (ak (ak λz=>⟨h.1,h.2,h1,A,bJ z⟩)))
def YZ (w:WT) (i:IT):Ok (mG (w,i)) λb=>b=J->(i.1=7->AR w i.2.2.1 i.2.2.2.2.1)/\(i.1=9->AR w i.2.1 i.2.2.2.2.1):=by
 have tr:∀{b:Bool},¬i.1=7->¬i.1=9->b=J->(i.1=7->AR w i.2.2.1 i.2.2.2.2.1)/\(i.1=9->AR w i.2.1 i.2.2.2.2.1):=λh1 z _=>⟨λh=>(h1 h).elim,λh=>(z h).elim⟩
 unfold mG bk bB bP cP eU bm jZ bW bc aI;simp only[tN,obs];refine aK (λh6=>?_) λ_=>?_
 .refine aV (λ_=>True) ?_ λ_ _=>ak (tr (by omega) (by omega))
  refine aK (λh=>?_) λ_=>ak trivial
  exact aR h.1 h.2 (aT (ak trivial))
 refine aK (λh8=>?_) λ_=>?_
 .refine aV (λ_=>True) ?_ λ_ _=>ak (tr (by omega) (by omega))
  refine aK (λh=>?_) λ_=>ak trivial
  exact aR h.1 h.2 (aT (ak trivial))
 refine aK (λA=>?_) λD=>?_
 .exact aw (X3 _ _ _) λ_ h=>ak λz=>⟨λ_=>h z,λN=>by have A:i.1=7:=A;omega⟩
 refine aK (λN=>?_) λL=>?_
 .exact aw (X3 _ _ _) λ_ h=>ak λz=>⟨λA=>(D A).elim,λ_=>h z⟩
 have tr:∀{b:Bool},b=J->(i.1=7->AR w i.2.2.1 i.2.2.2.2.1)/\(i.1=9->AR w i.2.1 i.2.2.2.2.1):=tr D L;refine aV (λx=>x.2=(w,i)) (aK (λ_=>ak rfl) λ_=>ak rfl) ?_;rintro⟨b,x⟩ e;subst e;refine aQ (λ_=>?_) λ_=>?_
 .refine aV (λ_=>True) ?_ λ_ _=>ak tr
  refine aK (λh=>?_) λ_=>ak trivial
  exact aR h.1 h.2 (aT (ak trivial))
 refine aV (λx=>x.2=(w,i)) (aK (λ_=>ak rfl) λ_=>aK (λ_=>ak rfl) λ_=>aK (λ_=>ak rfl) λ_=>ak rfl) ?_;rintro⟨b,x⟩ e;subst e;refine aQ (λ_=>?_) λ_=>?_
 .refine aV (λ_=>True) ?_ λ_ _=>ak tr
  refine aK (λh=>?_) λ_=>ak trivial
  exact aR h.1 h.2 (aT (ak trivial))
 refine aV (λx=>x.2=(w,i)) (aK (λ_=>ak rfl) λ_=>aK (λ_=>ak rfl) λ_=>ak rfl) ?_;rintro⟨b,x⟩ e;subst e;refine aQ (λ_=>ak tr) λ_=>?_
 refine aV (λx=>x.2=(w,i)) (aK (λ_=>ak rfl) λ_=>ak rfl) ?_;rintro⟨b,x⟩ e;with_reducible repeat' first|apply OS.ok;constructor|refine IM.mk λ_=>?_
 all_goals exact tr
structure VI (n:Int) (i:IT):Prop where
 o1:1<=i.1
 o2:i.1<=28
 r:∀j∈jD i,0<=j/\j<n
structure VT (t:Int×List IT):Prop where
 r0:0<=t.1
 r1:t.1<=32
 i:∀i∈t.2,VI t.1 i
structure VJ (w:WT) (k:Int) (i:IT):Prop where
 a7:i.1=7->AR w i.2.2.1 i.2.2.2.2.1
 a9:i.1=9->AR w i.2.1 i.2.2.2.2.1
 se:i.1=28->i.2.2.2.2.2= -1
 si:¬i.1=28->0<=i.2.2.2.2.2/\i.2.2.2.2.2<l! w.2.2.2.2.2/\(geti pW w.2.2.2.2.2 i.2.2.2.2.2).1=k
def LZ (w:WT) (k:Int) (c:Int×Y IT) (hc:l! c.2<=1000000):Ok (iP (w,k,c)) λb=>b=J->VT c/\∀i∈c.2,VJ w k i:=by
 unfold iP bk bB bP cP c_ ef Lj bm bV jY bW bc c8 aI cS;refine aV (λx=>x.2=(w,c)/\(x.1=af->0<=c.1/\c.1<=32)) ?_ ?_
 .refine bQ (λ_=>ak ⟨rfl,nofun⟩) λh0=>bQ (λ_=>ak ⟨rfl,nofun⟩) λh1=>ak ⟨rfl,λ_=>⟨h0,h1⟩⟩
 rintro⟨b,x⟩ ⟨e,D⟩;dsimp only at e D;subst e;refine aQ (λ_=>ak nofun) λh=>?_
 let⟨r0,r1⟩:=D h;refine bR (l! c.2) (λi x=>x.1=(i:Int)/\x.2=(w,c)/\∀q:Nat,q<i->VI c.1 (geti sJ c.2 (q:Int))/\VJ w k (geti sJ c.2 (q:Int))) ?_ ?_ ⟨rfl,rfl,λk hk=>by omega⟩
 .rintro i ⟨a,x⟩ hi ⟨e1,e2,L⟩;dsimp only at e1 e2 L;subst e1 e2;refine cU ?_;refine bF (aT ?_);generalize hz:(geti _ _ _)=z;refine aV (λx=>x.2=(w,c,z)/\(x.1=af->(1<=z.1/\z.1<=28)/\(z.1=7->AR w z.2.2.1 z.2.2.2.2.1)/\(z.1=9->AR w z.2.1 z.2.2.2.2.1))) ?_ ?_
  .refine bQ (λ_=>ak ⟨rfl,nofun⟩) λh0=>bQ (λ_=>ak ⟨rfl,nofun⟩) λh1=>?_
   refine aQ (λ_=>ak ⟨rfl,nofun⟩) λ_=>?_
   refine aw (YZ w z) λy hy=>?_
   refine dK (λ_=>ak ⟨rfl,nofun⟩) λhyt=>?_
   exact aw (aj6 c.2 _ hc) λy _=>ak ⟨rfl,λ_=>⟨⟨h0,h1⟩,hy hyt⟩⟩
  rintro⟨b,x⟩ ⟨e,D⟩;dsimp only at e D;subst e;refine aQ (λ_=>ak nofun) λh=>?_
  let⟨⟨o1,o2⟩,a7,a9⟩:=D h;refine aV (λx=>x.2=(w,c,z)/\(x.1=af->(z.1=28->z.2.2.2.2.2= -1)/\(¬z.1=28->0<=z.2.2.2.2.2/\z.2.2.2.2.2<l! w.2.2.2.2.2/\(geti pW w.2.2.2.2.2 z.2.2.2.2.2).1=k))) ?_ ?_
  .simp only[tN,obs];refine aK (λA=>?_) λA=>?_
   .refine cj (λ_=>ak ⟨rfl,nofun⟩) λhm=>?_
    exact cj (λh=>(h A).elim) λ_=>ak ⟨rfl,λ_=>⟨λ_=>hm,λh=>(h A).elim⟩⟩
   .refine cj (λ_=>?_) λh=>(A h).elim
    refine cj (λ_=>ak ⟨rfl,nofun⟩) λh=>?_
    exact aR h.1 h.2 (aT (ak ⟨rfl,λh2=>⟨λh3=>(A h3).elim,λ_=>⟨h.1,h.2,by simpa using h2⟩⟩⟩))
  rintro⟨b,x⟩ ⟨e,hsi⟩;dsimp only at e hsi;subst e;refine aQ (λ_=>ak nofun) λhbs=>?_
  let⟨se,si⟩:=hsi hbs;refine aV (λx=>x.2=(w,c,z)) ?_ ?_
  .simp only[tN,obs];with_reducible repeat' first|apply OS.ok;constructor|refine IM.mk λ_=>?_
   all_goals rfl
  rintro⟨b,x⟩ e;dsimp only at e;subst e;refine aQ (λ_=>ak nofun) λ_=>?_
  refine aX (vG z) ?_;refine bR (l! (jD z)) (λj x=>x.1=(j:Int)/\x.2=(w,c)/\∀k:Nat,k<j->0<=geti aP (jD z) (k:Int)/\geti aP (jD z) (k:Int)<c.1) ?_ ?_ ⟨rfl,rfl,λk hk=>by omega⟩
  .rintro j ⟨a,x⟩ hj ⟨d1,N,d3⟩;dsimp only at d1 N d3;subst d1 N;refine cU ?_;refine bF (aT ?_);refine aX (tN _ _) ?_;refine cj (λ_=>ak nofun) λh=>ak ?_
   dsimp only at h ⊢;have hj32:l! (jD z)<=3:=FH z;refine ⟨fL,rfl,λk hk=>?_⟩
   grind
  .rintro⟨a,x⟩ ⟨d1,N,d3⟩;dsimp only at d1 N d3;subst d1 N;refine cO (ak ?_);dsimp only;refine ⟨fL,rfl,λk hk=>?_⟩;rcases cJ k i with h1|h1
   .exact L k h1
   .rw[show k=i by omega,hz];exact⟨⟨o1,o2,iT (T:=aP) d3⟩,⟨a7,a9,se,si⟩⟩
 .rintro⟨a,x⟩ ⟨e1,e2,L⟩;refine cO (ak λ_=>⟨⟨r0,r1,iT (T:=sJ) (p:=VI c.1) λq hq=>(L q hq).1⟩,iT (T:=sJ) (p:=VJ w k) λq hq=>(L q hq).2⟩)
structure VC (c:CT):Prop where
 vl:VL c.1
 tl:l! c.2=l! c.1.2.2.2.2.1
 t:∀t∈c.2,VT t
 sv:SV0 c.1
 j:∀k:Nat,k<l! c.2->∀i∈(geti zP c.2 (k:Int)).2,VJ c.1 (k:Int) i
structure CB (c:CT):Prop where
 th:l! c.2<=1000000
 ins:∀t∈c.2,l! t.2<=1000000
 rg:∀t∈c.2,1<=t.1
 wx:WX c.1
 ok:kB c=Z J
def Ye (c:CT) (h1:l! c.2<=1000000) (h2:∀t∈c.2,l! t.2<=1000000):Ok (kB c) λb=>b=J->VC c:=by
 let⟨w,l⟩:=c;dsimp only at h1 h2;unfold kB bP bV bW bc c8 aI cS;refine aV (λx=>x.2=(w,l)/\(x.1=af->(VL w/\SV0 w)/\l! l=l! w.2.2.2.2.1)) ?_ ?_
 .refine aw (Ey w) λb N=>?_
  refine dK (λ_=>ak ⟨rfl,nofun⟩) λh=>ak ⟨rfl,λh3=>⟨N h,?_⟩⟩
  simp at h3;omega
 rintro⟨b,x⟩ ⟨e,hx⟩;subst e;refine aQ (λ_=>ak nofun) λh=>?_
 let⟨⟨hv,hsv⟩,hl⟩:=hx h;refine bR (l! l) (λi x=>x.1=(i:Int)/\x.2=(w,l)/\∀k:Nat,k<i->VT (geti zP l (k:Int))/\∀q∈(geti zP l (k:Int)).2,VJ w (k:Int) q) ?_ ?_ ⟨rfl,rfl,λk A=>by omega⟩
 .rintro i ⟨a,x⟩ hi ⟨L,e2,D⟩;subst L e2;refine cU ?_;refine bF (aT ?_);have hm:=bK (T:=zP) (xs:=l) (j:=(i:Int)) (by omega) (by omega);revert hm;generalize hz:(geti zP l (i:Int))=z;intro hm;refine aw (LZ w _ z (h2 z hm)) λb N=>?_
  refine dK (λ_=>ak nofun) λh=>ak ?_
  refine ⟨fL,rfl,λk A=>?_⟩
  grind
 .rintro⟨a,x⟩ ⟨L,e2,D⟩;subst L e2;refine cO (ak λ_=>⟨hv,hl,iT (T:=zP) (p:=VT) λk A=>(D k A).1,hsv,λk A=>(D k A).2⟩)
section
abbrev TT:Type:=Int×η×Y η×Int
structure TL (F:Int->Prop) (E:Nat) (l:η):Prop where
 a:Lg l
 m:∀y∈l,0<=y/\y<(E:Int)
 f:∀y∈l,F y
variable {F:Int->Prop}
def TL.len {l:η} (h:TL F i l):l! l<=i:=by
 have:=LQ l 0 i h.a h.m;omega
def TL.nil (E:Nat):TL F E []:=⟨trivial,λy z=>(by cases z),λy z=>(by cases z)⟩
def TL.uni {b:η} (D:TL F i z) (A:TL F i b):TL F i (yn z b):=
 ⟨UU z b,λy a=>by
   rcases BL.1 a with h|h
   .exact D.m y h
   .exact A.m y h,λy a=>(BL.1 a).elim (D.f y) (A.f y)⟩
def TL.mono {A:Int->Prop} {l:η} (h:TL F i l) (hf:i<=j) (L:∀y,F y->A y):TL A j l:=⟨h.a,λy z=>⟨(h.m y z).1,by have:=(h.m y z).2;omega⟩,λy z=>L y (h.f y z)⟩
structure TH (F:Int->Prop) (E:Nat) (s:TT):Prop where
 r:l! s.2.1<=32
 t:l! s.2.2.1<=32
 l:∀l∈s.2.2.1,TL F E l
 e0:0<=s.2.2.2
 e1:s.2.2.2<=(E:Int)
def TH.zero (E:Nat):TH F E (0,[],[],0):=⟨by simp,by simp,λl z=>(by cases z),by simp,by simp⟩
def TH.mono {z:Int->Prop} {s:TT} (h:TH F i s) (hf:i<=j) (L:∀y,F y->z y):TH z j s:=⟨h.r,h.t,λl D=>(h.l l D).mono hf L,h.e0,by have:=h.e1;omega⟩
def zS (s:TT) (E:Nat) (hE:E<=100000) (h:TH F E s):cF s=Z ((s.1,s.2.2.2),s.2.1,s.2.2.1):=by
 let⟨h1,h2,N,h4,h5⟩:=h;refine cI ?_;unfold cF bk bB bP c_ ef bV bT bW bc c8 aI cS;refine bG (by grind) (by omega) ?_;refine bR (l! s.2.2.1) (λi x=>x.1=(i:Int)/\x.2.1=s/\x.2.2.2.1=(s.1,s.2.2.2)/\x.2.2.2.2.1=s.2.1/\x.2.2.2.2.2=s.2.2.1.take i) ?_ ?_ ⟨rfl,rfl,rfl,rfl,rfl⟩
 .rintro i ⟨a,b,c,d,e,f⟩ hi ⟨L,e2,D,A,z⟩;dsimp only at L e2 D A z;subst L e2 z;refine cU ?_;refine bF (aT ?_);have hz:=(N _ (bK (T:=.sl (.int .i64)) (xs:=b.2.2.1) (j:=(i:Int)) (by omega) (by omega))).len;refine bG (by grind) (by omega) ?_;refine bG (by grind) (by omega) (ak ?_);refine ⟨fL,rfl,D,A,?_⟩;rw[pL (T:=.sl (.int .i64)) hi];rfl
 .rintro⟨a,b,c,d,e,f⟩ ⟨L,e2,D,A,z⟩;dsimp only at L e2 D A z;subst e2;refine cO (ak ?_)
  grind
def yo (b:Bool):Ok (gp b) λ_=>True:=by
 unfold gp;with_reducible repeat' first|apply OS.ok;constructor|refine IM.mk λ_=>?_
 all_goals trivial
def Jf (n:Int):Ok (nB n) λ_=>True:=by
 unfold nB bV aI;with_reducible repeat' first|apply OS.ok;constructor|refine IM.mk λ_=>?_
 all_goals trivial
def alb (x:ν):Ok (wh x) λ_=>True:=by
 unfold wh bm;refine aK (λ_=>ak trivial) λ_=>aK (λ_=>?_) λ_=>ak trivial
 exact aw (yo _) λ_ _=>ak trivial
def agq (x:π):Ok (xl x) λ_=>True:=by
 have z:∀b,Ok (aA (gp b) λy=>Z (y,J)) λ_=>True:=λb=>aw (yo _) λ_ _=>ak trivial
 refine aK (λ_=>ak trivial) λ_=>aK (λ_=>ak trivial) λ_=>aK (λ_=>ak trivial) λ_=>?_
 refine aK (λ_=>aK (λ_=>ak trivial) λh=>BT h (ak trivial)) λ_=>?_
 refine aK (λ_=>aK (λ_=>ak trivial) λh=>BT h (ak trivial)) λ_=>?_
 refine aK (λ_=>z _) λ_=>aK (λ_=>z _) λ_=>aK (λ_=>z _) λ_=>aK (λ_=>z _) λ_=>aK (λ_=>z _) λ_=>aK (λ_=>z _) λ_=>?_
 refine aK (λ_=>aV (λ_=>True) (cj (λ_=>aw (yo _) λ_ _=>ak trivial) λ_=>aw (yo _) λ_ _=>ak trivial) λ_ _=>ak trivial) λ_=>?_
 exact aK (λ_=>aV (λ_=>True) (cj (λ_=>aw (yo _) λ_ _=>ak trivial) λ_=>aw (yo _) λ_ _=>ak trivial) λ_ _=>ak trivial) λ_=>ak trivial
def ae6 (E:Nat) (hE:E<=100000) (i:IT) (p:ν) (R:η) (T:Y η) (D:∀j∈jD i,0<=j/\j<(l! R:Int)) (o1:1<=i.1) (o2:i.1<=5) (hR:l! R<=32) (z:l! T=l! R) (hl:∀l∈T,TL F E l):Ok (yI ((i,p),R,T)) λy=>y.1.1.2=p.2/\l! y.2.1=l! R/\l! y.2.2=l! T/\∀l∈y.2.2,TL F E l:=by
 unfold yI bk bB bP ck bm bV bT bW kf bc c8 aI cS;refine aX (vG i) ?_;have h3:=FH i;refine bR (l! (jD i)) (λj x=>x.1=(j:Int)/\x.2.1=R/\x.2.2.1=T/\x.2.2.2.1=i/\x.2.2.2.2.1=p) ?_ ?_ ⟨rfl,rfl,rfl,rfl,rfl⟩
 .rintro j ⟨a,b,c,d,e⟩ hj ⟨e1,e2,e3,e4,L⟩;dsimp only at e1 e2 e3 e4 L;subst e1 e2 e3 e4;refine cU ?_;have hz:=D _ (bK (T:=aP) (xs:=jD d) (j:=(j:Int)) (by omega) (by omega));refine aV (λx=>x.2=(b,c,d,e)/\x.1=af) ?_ ?_
  .refine bF (aT ?_);refine bQ (λg=>?_) λ_=>?_
   .dsimp only at g;omega
   refine bF (aT (ak ⟨rfl,?_⟩));dsimp only;rw[m8];exact hz.2
  rintro⟨b',x⟩ ⟨f1,N⟩;dsimp only at f1 N;subst f1 N;refine aQ nofun λ_=>ak ?_
  dsimp only;exact⟨fL,rfl,rfl,rfl,L⟩
 .rintro⟨a,b,c,d,e⟩ ⟨e1,e2,e3,e4,L⟩;dsimp only at e1 e2 e3 e4 L;subst e1 e2 e3 e4;refine cO ?_;let⟨e,e'⟩:=e;dsimp only at L;subst L;refine aw (P:=λy=>y.1.1.2=e.2/\l! y.2.1=l! b/\l! y.2.2=l! c/\∀l∈y.2.2,TL F E l) ?_ λr D=>ak D
  have hA:d.1≠5->0<=d.2.1/\d.2.1<(l! b:Int):=λh5=>D _ (by
   unfold jD;(repeat' split)<;>simp<;>omega)
  have hB:2<=d.1->d.1≠5->0<=d.2.2.1/\d.2.2.1<(l! b:Int):=λh2 h5=>D _ (by
   unfold jD;(repeat' split)<;>simp<;>omega)
  have hC:d.1=4->0<=d.2.2.2.1/\d.2.2.2.1<(l! b:Int):=λh5=>D _ (by
   unfold jD;(repeat' split)<;>simp<;>omega)
  have hg:∀{j:Int},0<=j->j<(l! b:Int)->TL F E (geti (.sl (.int .i64)) c j):=λh0 h1=>hl _ (bK (T:=.sl (.int .i64)) (xs:=c) h0 (by rw[z];exact h1))
  refine aV (λx=>x.2.1=b/\x.2.2.1=c/\x.2.2.2.1=d/\x.2.2.2.2.1=e/\TL F E x.1.2.2/\d.1≠5) ?_ ?_
  .refine aK (λ_=>ak ⟨rfl,rfl,rfl,hl⟩) λA=>?_
   refine aK (λ_=>ak ⟨rfl,rfl,rfl,rfl,TL.nil E,A⟩) λn1=>?_
   dsimp only at n1 A;let⟨b0,b1⟩:=hB (by omega) A;refine aK (λ_=>?_) λn2=>?_
   .refine aR b0 b1 (aR b0 b1 (aT ?_));refine aR b0 (by dsimp only;rw[z];exact b1) (aR b0 (by dsimp only;rw[z];exact b1) (aT ?_));exact ak ⟨rfl,rfl,rfl,rfl,hg b0 b1,A⟩
   refine aK (λ_=>?_) λn3=>?_
   .refine aw (Jf _) λy _=>?_
    refine aR b0 b1 (aR b0 b1 (aT ?_));refine aw (alb _) λy _=>?_
    refine aR b0 (by dsimp only;rw[z];exact b1) (aR b0 (by dsimp only;rw[z];exact b1) (aT ?_));exact ak ⟨rfl,rfl,rfl,rfl,hg b0 b1,A⟩
   dsimp only at n2 n3;let⟨c0,c1⟩:=hC (by omega);refine aw (Jf _) λy _=>?_
   refine aR b0 b1 (aR b0 b1 (aT ?_));refine aR c0 c1 (aR c0 c1 (aT ?_));refine aw (agq _) λy _=>?_
   refine aR b0 (by dsimp only;rw[z];exact b1) (aR b0 (by dsimp only;rw[z];exact b1) (aT ?_));refine aR c0 (by dsimp only;rw[z];exact c1) (aR c0 (by dsimp only;rw[z];exact c1) (aT ?_));have g1:=hg b0 b1;have g2:=hg c0 c1;refine aX (Yg _ _ (dc g1.len (by omega)) (dc g2.len (by omega))) ?_;exact ak ⟨rfl,rfl,rfl,rfl,g1.uni g2,A⟩
  rintro⟨⟨v,ok,tn⟩,b',c',d',e',e''⟩ ⟨f1,N,f3,f4,f5,f6⟩;dsimp only at f1 N f3 f4 f5 f6;subst f1 N f3 f4;let⟨a0,a1⟩:=hA f6;have ht:=f5.len;refine a! ?_;refine aR a0 a1 (aR a0 a1 (aR a0 (by dsimp only;rw[z];exact a1) (aR a0 (by dsimp only;rw[z];exact a1) (ak ?_))));refine ⟨rfl,bX ..,bX ..,λl hm=>?_⟩;rcases Fy hm with h|h
  .exact hl l h
  .rw[h];exact f5
def ag7 (E:Nat) (hE:E<=100000) (c:Int×Y IT) (hc:l! c.2<=1000000) (hv:VT c) (s:TT) (h:TH F E s):Ok (ox (c,s)) λy=>TH F E y.1/\(l! y.1.2.1=0\/y.1.2.2.2=s.2.2.2):=by
 unfold ox bk bB bP c_ dQ ef bm bV jZ jY bT bW bc c8 aI cS;have N:=h;let⟨h1,h2,h3,h4,h5⟩:=h;refine aV (λx=>x.2.1=c/\x.2.2.1=s/\(x.1=af->(l! s.2.1:Int)=c.1/\(l! s.2.2.1:Int)=c.1)) ?_ ?_
 .refine cj (λ_=>ak ⟨rfl,rfl,nofun⟩) λg=>ak ⟨rfl,rfl,λh=>?_⟩
  simp at h;exact⟨g,h⟩
 rintro⟨b,c',s',z⟩ ⟨D,e2,L⟩;dsimp only at D e2 L;subst D e2;refine aQ (λ_=>ak ⟨TH.zero E,.inl rfl⟩) λhb=>?_
 let⟨q1,q2⟩:=L hb;refine aX (zS s' E hE N) ?_;refine qi (λx=>((l! c'.2:Int)+1-x.1).toNat) (λx=>0<=x.1/\x.1<=(l! c'.2:Int)+1/\x.2.1=c'/\x.2.2.1.2=s'.2.2.2/\l! x.2.2.2.2.1=l! s'.2.1/\l! x.2.2.2.2.2=l! s'.2.2.1/\∀l∈x.2.2.2.2.2,TL F E l) ?_ ⟨by dsimp only;omega,by dsimp only;omega,rfl,rfl,rfl,rfl,h3⟩;rintro⟨(n:Int),c,⟨(A:Int),ev⟩,z',R,T⟩ ⟨n0,n1,D,e2,L,e4,e5⟩;dsimp only at n0 n1 D e2 L e4 e5;subst D e2;refine eh (λg=>?_) λ_=>ak ⟨TH.zero E,.inl rfl⟩
 refine aV (λx=>x.2=(c,(A,s'.2.2.2),z',R,T)/\(x.1=af->0<=A/\A<(l! c.2:Int))) ?_ ?_
 .refine bQ (λ_=>ak ⟨rfl,nofun⟩) λg1=>ak ⟨rfl,λh=>?_⟩
  rw[m8]at h;exact⟨g1,h⟩
 rintro⟨b',x⟩ ⟨f1,f2⟩;subst f1;refine aQ (λ_=>ak ⟨TH.zero E,.inl rfl⟩) λhb=>?_
 let⟨p0,p1⟩:=f2 hb;refine aR p0 p1 (aT ?_);have hi:=hv.i _ (bK (T:=sJ) (xs:=c.2) (j:=A) p0 p1);revert hi;generalize (geti sJ _ _)=i;intro hi;refine aX (I1 _) ?_;refine cj (λ_=>ak ⟨⟨by dsimp only;omega,by dsimp only;omega,e5,h4,h5⟩,.inr rfl⟩) λhsil=>?_
 refine aK (λ_=>ak ⟨TH.zero E,.inl rfl⟩) λhn=>?_
 refine aw (ae6 E hE i (A,s'.2.2.2) R T (λj hj=>by have:=hi.r j hj;omega) hsil.1 hsil.2 (by omega) (by omega) e5) λy hy=>?_
 let⟨k1,k2,k3,k4⟩:=hy;refine cE (jH k3.symm (cE (jH k2.symm (vV ?_))));refine dK (λ_=>ak ⟨TH.zero E,.inl rfl⟩) λ_=>ak ?_
 rw[iI]
 grind
end
abbrev ST:Type:=SY×η×η×Y TT
structure TF (c:Int×List IT) (t:TT):Prop where
 p0:0<=t.1
 p1:t.1<(l! c.2:Int)
 r:(l! t.2.1:Int)=c.1
 t:(l! t.2.2.1:Int)=c.1
structure FSx (c:CT) (s:ST):Prop where
 vc:VC c
 cd:∀d∈c.1.2.2.1,0<=d.2/\d.2<(l! c.1.2.1:Int)
 e3:l! s.1.2.2.2=l! c.1.2.2.2.2.1
 ce:l! s.2.1=l! c.1.1
 fu:l! s.2.2.1=l! c.1.2.2.2.1
 th:l! s.2.2.2=l! c.2
 t:∀k:Nat,k<l! c.2->TF (geti zP c.2 (k:Int)) (geti fA s.2.2.2 (k:Int))
def FQ (L:Y ET) (k:Int) (y:Int):Prop:=1<=y/\Pm L k y
structure SV (n:Nat) (L:List ET) (s:ST):Prop where
 sb:SB n s.1
 ln:l! L=n
 t:∀k:Nat,k<l! s.2.2.2->TH (FQ L k) n (geti fA s.2.2.2 (k:Int))
def SV.ti {s:ST} (h:SV i k s) {L:Int} (h0:0<=L) (h1:L<(l! s.2.2.2:Int)):TH (FQ k L) i (geti fA s.2.2.2 L):=by
 have:=h.t L.toNat (by omega)
 grind
structure TG (c:CT) (L:List ET) (sy:SY) (k:Int) (t:TT):Prop where
 ev:t.2.2.2=(l! (fl L k):Int)
 wi:(geti iD sy.2.2.2 k).1=3\/(geti iD sy.2.2.2 k).1=4->(geti sJ (geti zP c.2 k).2 t.1).1=21
 nw:l! (fl L k)=0->(geti iD sy.2.2.2 k).1=0\/(geti iD sy.2.2.2 k).1=1
structure SIv (c:CT) (L:List ET) (s:ST):Prop where
 ac:Acw c.1 L s.1 s.2.1 s.2.2.1
 t:∀k:Nat,k<l! s.2.2.2->(geti fA s.2.2.2 (k:Int)).2.1.length=0\/TG c L s.1 (k:Int) (geti fA s.2.2.2 (k:Int))
def ao7 (c:CT) (s:ST) (D:CB c):Ok (yH (c,s)) λb=>b=J->FSx c s:=by
 unfold yH bk bB dQ ef bV jZ jY bW bc c8 aI cS;refine aV (λx=>x.2=(c,s)/\(x.1=af->VC c/\(∀d∈c.1.2.2.1,0<=d.2/\d.2<(l! c.1.2.1:Int))/\l! s.1.2.2.2=l! c.1.2.2.2.2.1/\l! s.2.1=l! c.1.1/\l! s.2.2.1=l! c.1.2.2.2.1/\l! s.2.2.2=l! c.2)) ?_ ?_
 .refine aw (Ye c D.th D.ins) λb A=>?_
  refine dK (λ_=>ak ⟨rfl,nofun⟩) λh=>?_
  have z:=A h;refine aw (UL c.1 s.1 (by have:=z.vl.d;omega)) λb2 L=>?_
  refine dK (λ_=>ak ⟨rfl,nofun⟩) λh2=>?_
  let⟨N,_,_,g4⟩:=L h2;refine cj (λ_=>ak ⟨rfl,nofun⟩) λk1=>?_
  refine cj (λ_=>ak ⟨rfl,nofun⟩) λk2=>ak ⟨rfl,λk3=>⟨z,N,g4,?_,?_,?_⟩⟩
  .grind
  .grind
  .simp at k3;omega
 rintro⟨b,x⟩ ⟨e,A⟩;subst e;refine aQ (λ_=>ak nofun) λh=>?_
 let⟨z,hcd,h3,hce,hfu,hth⟩:=A h;have hcl:=D.th;refine bR (l! c.2) (λi x=>x.1=(i:Int)/\x.2=(c,s)/\∀k:Nat,k<i->TF (geti zP c.2 (k:Int)) (geti fA s.2.2.2 (k:Int))) ?_ ?_ ⟨rfl,rfl,λk hk=>by omega⟩
 .rintro i ⟨a,x⟩ hi ⟨e1,e2,e3⟩;subst e1 e2;refine cU ?_;have hin:((i:Nat):Int)<(l! c.2:Int):=by omega
  refine bF (aT ?_);refine aV (λx=>x.2=(c,s)/\(x.1=af->TF (geti zP c.2 (i:Int)) (geti fA s.2.2.2 (i:Int)))) ?_ ?_
  .refine bQ (λ_=>ak ⟨rfl,nofun⟩) λg0=>?_
   refine aR (by simp) hin (aT ?_);refine eh (λ_=>ak ⟨rfl,nofun⟩) λN=>?_
   refine aR (by simp) hin (aT ?_);refine cj (λ_=>ak ⟨rfl,nofun⟩) λg2=>?_
   refine aR (by simp) hin (aT (ak ⟨rfl,λg3=>⟨g0,N,g2,?_⟩⟩));simp at g3;exact g3
  rintro⟨b,x⟩ ⟨e,A⟩;subst e;refine aQ (λ_=>ak nofun) λh=>ak ?_
  refine ⟨fL,rfl,λk hk=>?_⟩
  grind
 .rintro⟨a,x⟩ ⟨e1,e2,e3⟩;subst e1 e2;refine cO (ak λ_=>⟨z,hcd,h3,hce,hfu,hth,e3⟩)
def aqm {i:IT} (h:i.1=6\/i.1=7\/i.1=27\/i.1=10):i.2.1∈jD i:=by
 unfold jD;(repeat' split)<;>simp<;>omega
def aql {i:IT} (h:i.1=8\/i.1=9\/i.1=26):i.2.2.1∈jD i:=by
 unfold jD;(repeat' split)<;>simp<;>omega
def awi {i:IT} (h:i.1=7\/i.1=9):i.2.2.2.1∈jD i:=by
 unfold jD;(repeat' split)<;>simp<;>omega
structure KD (op k:Int):Prop where
 ld:k=3->op=6\/op=7
 st:k=4->op=8\/op=9
 br:k=5->op=10
 se:k=22->op=26
 ge:k=23->op=27
 e1:k=2->op=28
 n1:¬k=1
 n17:¬k=17
 wt:k=16->op=21
 e2:¬k=0->op=28->k=2
 d7:¬k=0->op=7->k=3
 d8:¬k=0->op=8->k=4
 d9:¬k=0->op=9->k=4
 d10:¬k=0->op=10->k=5
 d26:¬k=0->op=26->k=22
def ann (op:Int):Ok (Dd op) λk=>KD op k:=by
 refine aV (λx=>x.2=[3,3,4,4,5,6,7,8,9,10,11,12,13,14,15,16,18,19,20,21,22,23,2]/\(x.1=af->6<=op/\op<=28)) ?_ ?_
 .refine bQ (λ_=>ak ⟨rfl,nofun⟩) λg=>ak ⟨rfl,λh=>?_⟩
  rw[ji]at h;exact⟨g,h⟩
 rintro⟨b,x⟩ ⟨e,z⟩;subst e;refine aQ (λ_=>ak (by constructor<;>first|decide|(intro h;first|(exact (h rfl).elim)|(cases h;done)))) λh=>?_
 let⟨h1,A⟩:=z h;dsimp only;rw[iI (n:=op-6) (by omega) (by omega)];refine aR (by omega) (by simp;omega) (aR (by omega) (by simp;omega) (aT (ak ?_)));have:op=6\/op=7\/op=8\/op=9\/op=10\/op=11\/op=12\/op=13\/op=14\/op=15\/op=16\/op=17\/op=18\/op=19\/op=20\/op=21\/op=22\/op=23\/op=24\/op=25\/op=26\/op=27\/op=28:=by omega
 rcases this with rfl|rfl|rfl|rfl|rfl|rfl|rfl|rfl|rfl|rfl|rfl|rfl|rfl|rfl|rfl|rfl|rfl|rfl|rfl|rfl|rfl|rfl|rfl;all_goals (constructor<;>decide)
def Yr (a n:Int):Ok (wj (a,n)) λr=>n=2->r=0\/r=1:=by
 refine bQ (λ_=>ak λh=>(by simp)) λh=>?_
 refine BT (by omega) ?_;have A:=Int.lt_tmod_of_pos a (b:=n) (by omega);refine aV (λr=>n=2->r=0\/r=1) (bQ (λg=>ak λz=>?_) λg=>ak λz=>?_) λ_ h=>ak h
 .dsimp only at g ⊢;rw[iI];omega
 .grind
def VB (i:IT) (t:TT) (hr:∀j∈jD i,0<=j/\j<(l! t.2.1:Int)):Ok (xk (i,t)) λo=>(i.1=7->i.2.2.1=3->i.2.2.2.2.1=2->o=3\/o=4)/\(i.1=9->i.2.1=3->i.2.2.2.2.1=2->o=3\/o=4):=by
 have z:i.1=7\/i.1=9->0<=i.2.2.2.1/\i.2.2.2.1<(l! t.2.1:Int):=λh=>hr _ (by
  unfold jD;(repeat' split)<;>simp<;>omega)
 have tr:∀{o:Int},¬i.1=7->¬i.1=9->(i.1=7->i.2.2.1=3->i.2.2.2.2.1=2->o=3\/o=4)/\(i.1=9->i.2.1=3->i.2.2.2.2.1=2->o=3\/o=4):=λh1 h2=>⟨λh=>(h1 h).elim,λh=>(h2 h).elim⟩
 have wk:∀{b r n:Int},b=3->n=2->(n=2->r=0\/r=1)->bn .i64 (b+r)=3\/bn .i64 (b+r)=4:=λh1 h2 A=>by
  rw[iI];omega
 refine aV (λx=>x.2=(i,t)/\(x.1=J->i.1=6\/i.1=27)) (aK (λh=>ak ⟨rfl,λ_=>.inl h⟩) λ_=>ak ⟨rfl,λh=>.inr (bJ h)⟩) ?_;rintro⟨b,x⟩ ⟨e,hb⟩;subst e;refine aQ (λh=>ak (tr (by grind) (by grind))) λ_=>?_
 refine aK (λh=>?_) λD=>?_
 .exact aR (z (.inl h)).1 (z (.inl h)).2 (aT (aw (Yr _ _) λy L=>ak ⟨λ_ A N=>wk A N L,λh9=>by dsimp only at h;omega⟩))
 refine aK (λh=>?_) λn9=>?_
 .exact aR (z (.inr h)).1 (z (.inr h)).2 (aT (aw (Yr _ _) λy L=>ak ⟨λh7=>(D h7).elim,λ_ A N=>wk A N L⟩))
 refine aV (λ_=>True) ?_ λx _=>aQ (λ_=>ak (tr D n9)) λ_=>ak (tr D n9)
 with_reducible repeat' first|apply OS.ok;constructor|refine IM.mk λ_=>?_
 all_goals trivial
def ara {w:WT} (A:w.1=C0) {n:Int} (h:AR w a n):a=3/\n=2:=by
 let⟨b0,b1,ix,sz,z⟩:=h;rw[A]at b1 ix sz z;have b1:a<5:=b1;rcases (by omega:a=0\/a=1\/a=2\/a=3\/a=4) with rfl|rfl|rfl|rfl|rfl
 .exact (sz rfl).elim
 .exact (sz rfl).elim
 .exact (sz rfl).elim
 .exact⟨rfl,z.symm⟩
 .exact bC ix (by decide)
def aqh {w:WT} (z:w.1=C0) (h:a=3\/a=4):¬(geti lL w.1 a).2.2.1=0:=by
 rw[z];rcases h with rfl|rfl<;>decide
structure PE (n:Nat) (c:CT) (s:ST) (t:Int) (e:ET):Prop where
 fs:FSx c s
 t0:0<=t
 t1:t<(l! c.2:Int)
 et:e.1=t
 d:l! e.2.2.2.2.2.1<=n
 f:l! e.2.2.2.2.2.2<=n
 a:e.2.1=3\/e.2.1=23\/e.2.1=5->0<=(geti sJ (geti zP c.2 t).2 (geti fA s.2.2.2 t).1).2.1/\(geti sJ (geti zP c.2 t).2 (geti fA s.2.2.2 t).1).2.1<((geti fA s.2.2.2 t).2.1.length:Int)
 b:e.2.1=4\/e.2.1=22->0<=(geti sJ (geti zP c.2 t).2 (geti fA s.2.2.2 t).1).2.2.1/\(geti sJ (geti zP c.2 t).2 (geti fA s.2.2.2 t).1).2.2.1<((geti fA s.2.2.2 t).2.1.length:Int)
structure PS (c:CT) (L:List ET) (s:ST) (t:Int) (e:ET):Prop where
 tg:TG c L s.1 t (geti fA s.2.2.2 t)
 s1:e.2.1=1\/e.2.1=2->e.2.2.2.2.1= -1
 s2:¬(e.2.1=1\/e.2.1=2)->0<=e.2.2.2.2.1/\e.2.2.2.2.1<l! c.1.2.2.2.2.2/\(geti pW c.1.2.2.2.2.2 e.2.2.2.2.1).1=t
 de:0<l! e.2.2.2.2.2.1->e.2.1=5\/(e.2.1=3\/e.2.1=4)/\¬(geti lL c.1.1 e.2.2.1).2.2.1=0
 fr:0<l! e.2.2.2.2.2.2->e.2.1=4\/e.2.1=22
 da:Lg e.2.2.2.2.2.1
 dq:∀y∈e.2.2.2.2.2.1,FQ L t y
 fa:Lg e.2.2.2.2.2.2
 fq:∀y∈e.2.2.2.2.2.2,FQ L t y
 wt:e.2.1=16->(geti sJ (geti zP c.2 t).2 (geti fA s.2.2.2 t).1).1=21
def aaq (n:Nat) (hn:n<=100000) (c:CT) (L:Y ET) (s:ST) (hc:CB c) (hs:SV n L s) (hI:SIv c L s) (t:Int):Ok (oP (c,s,t)) λy=>y.2=J->PE n c s t y.1/\PS c L s t y.1:=by
 unfold oP bk bB bP c_ dQ ef bm bV bT bW bc aI;refine aV (λx=>x.2.1=c/\x.2.2.1=s/\(x.1=af->FSx c s/\0<=t/\t<(l! c.2:Int))) ?_ ?_
 .refine aw (ao7 c s hc) λb hb=>?_
  refine dK (λ_=>ak ⟨rfl,rfl,nofun⟩) λh=>?_
  refine bQ (λ_=>ak ⟨rfl,rfl,nofun⟩) λg0=>ak ⟨rfl,rfl,λg1=>?_⟩
  dsimp only at g0 g1;rw[m8]at g1;exact⟨hb h,g0,g1⟩
 rintro⟨b,D,s',z⟩ ⟨e1,e2,hb⟩;dsimp only at e1 e2 hb;subst e1 e2;refine aQ (λ_=>ak nofun) λh=>?_
 let⟨hf,t0,t1⟩:=hb h;have hk:((t.toNat:Nat):Int)=t:=by omega
 have htf:=hf.t t.toNat (by omega);rw[hk]at htf;have hvt:=hf.vc.t _ (bK (T:=zP) (xs:=D.2) (j:=t) t0 t1);have hth:=hs.ti t0 (by rw[hf.th];exact t1);have key:∀e:ET,e.1=t->l! e.2.2.2.2.2.1<=n->l! e.2.2.2.2.2.2<=n->(e.2.1=1\/e.2.1=17\/KD (geti sJ (geti zP D.2 t).2 (geti fA s'.2.2.2 t).1).1 e.2.1)->PE n D s' t e:=by
  intro e h1 h2 h3 N;have hi:=hvt.i _ (bK (T:=sJ) (xs:=(geti zP D.2 t).2) (j:=(geti fA s'.2.2.2 t).1) htf.p0 htf.p1);refine ⟨hf,t0,t1,h1,h2,h3,λh5=>?_,λh5=>?_⟩
  .rw[htf.r];rcases N with N|N|N
   .omega
   .omega
   .refine hi.r _ ?_;have a1:=N.ld;have a2:=N.ge;have a3:=N.br;revert a1 a2 a3 h5;generalize (geti sJ (geti zP D.2 t).2 (geti fA s'.2.2.2 t).1)=i;intro h5 a1 a2 a3;exact aqm (by omega)
  .rw[htf.r];rcases N with N|N|N
   .omega
   .omega
   .refine hi.r _ ?_;have a1:=N.st;have a2:=N.se;revert a1 a2 h5;generalize (geti sJ (geti zP D.2 t).2 (geti fA s'.2.2.2 t).1)=i;intro h5 a1 a2;exact aql (by omega)
 have hir:=(hvt.i _ (bK (T:=sJ) (xs:=(geti zP D.2 t).2) (j:=(geti fA s'.2.2.2 t).1) htf.p0 htf.p1)).r;rw[<- htf.r]at hir;have hrg:=hc.rg _ (bK (T:=zP) (xs:=D.2) (j:=t) t0 t1);have htg:TG D L s'.1 t (geti fA s'.2.2.2 t):=by
  have:=hI.t t.toNat (by rw[hf.th];omega);rw[hk]at this;refine this.resolve_left λh=>?_
  have:=htf.r;omega
 have hvj:=hf.vc.j t.toNat (by omega);rw[hk]at hvj;have hvj:=hvj _ (bK (T:=sJ) (xs:=(geti zP D.2 t).2) (j:=(geti fA s'.2.2.2 t).1) htf.p0 htf.p1);have hC0:=hc.wx.c;refine aR t0 (by dsimp only;rw[hf.th];exact t1) (aT ?_);refine aR t0 t1 (aT ?_);refine aR htf.p0 htf.p1 (aT ?_);have t4:t<(l! s'.1.2.2.2:Int):=by rw[hf.e3,<-hf.vc.tl];exact t1
 have tz:(geti fA s'.2.2.2 t).2.2.1.length=(geti fA s'.2.2.2 t).2.1.length:=by have:=htf.r;have:=htf.t;omega
 refine aR t0 t4 (aT ?_);refine aK (λ_=>ak λ_=>⟨key _ rfl (kV _) (kV _) (.inl rfl),⟨htg,λ_=>rfl,λh=>(h (.inl rfl)).elim,nofun,nofun,trivial,λy hy=>(by cases hy),trivial,λy hy=>(by cases hy),nofun⟩⟩) λ_=>?_
 refine aK (λN=>aR t0 t4 (aT (ak λ_=>⟨key _ rfl (kV _) (kV _) (.inr (.inl rfl)),⟨htg,λh=>(by rcases h with h|h<;>cases h),λ_=>hvj.si (by rw[htg.wi (.inr N)];decide),nofun,nofun,trivial,λy hy=>(by cases hy),trivial,λy hy=>(by cases hy),nofun⟩⟩))) λ_=>?_
 refine aK (λ_=>?_) λ_=>ak nofun
 refine aw (ann _) λk A=>?_
 refine aw (VB _ _ hir) λo ho=>?_
 refine aK (λ_=>ak nofun) λhk0=>?_
 have fin:∀e:ET,e.1=t->e.2.1=k->e.2.2.1=o->e.2.2.2.2.1=(geti sJ (geti zP D.2 t).2 (geti fA s'.2.2.2 t).1).2.2.2.2.2->(0<l! e.2.2.2.2.2.1->(geti sJ (geti zP D.2 t).2 (geti fA s'.2.2.2 t).1).1=10\/(geti sJ (geti zP D.2 t).2 (geti fA s'.2.2.2 t).1).1=7\/(geti sJ (geti zP D.2 t).2 (geti fA s'.2.2.2 t).1).1=9)->(0<l! e.2.2.2.2.2.2->(geti sJ (geti zP D.2 t).2 (geti fA s'.2.2.2 t).1).1=8\/(geti sJ (geti zP D.2 t).2 (geti fA s'.2.2.2 t).1).1=9\/(geti sJ (geti zP D.2 t).2 (geti fA s'.2.2.2 t).1).1=26)->TL (FQ L t) n e.2.2.2.2.2.1->TL (FQ L t) n e.2.2.2.2.2.2->PE n D s' t e/\PS D L s' t e:=by
  intro e h1 h2 h3 N h5 h6 h7 h8;refine ⟨key e h1 h7.len h8.len (.inr (.inr (h2▸A))),htg,λh=>?_,λh=>?_,λh=>?_,λh=>?_,h7.a,h7.f,h8.a,h8.f,λh=>A.wt (h2▸h)⟩
  .rw[N];rw[h2]at h;exact hvj.se (A.e1 (h.resolve_left A.n1))
  .rw[N];rw[h2]at h;exact hvj.si λh9=>h (.inr (A.e2 hk0 h9))
  .rw[h2,h3];rcases h5 h with g|g|g
   .exact .inl (A.d10 hk0 g)
   .obtain⟨q1,q2⟩:=ara hC0 (hvj.a7 g);exact .inr ⟨.inl (A.d7 hk0 g),aqh hC0 (ho.1 g q1 q2)⟩
   .obtain⟨q1,q2⟩:=ara hC0 (hvj.a9 g);exact .inr ⟨.inr (A.d9 hk0 g),aqh hC0 (ho.2 g q1 q2)⟩
  .rw[h2];rcases h6 h with g|g|g
   .exact .inl (A.d8 hk0 g)
   .exact .inl (A.d9 hk0 g)
   .exact .inr (A.d26 hk0 g)
 clear key htg hvj ho hC0 hrg;revert fin htf hvt hth hir tz A;dsimp only;generalize (geti fA s'.2.2.2 t)=th;generalize (geti sJ _ th.1)=i;intro htf hvt hth hir tz A fin;have hlen:∀{j:Int},0<=j->j<(l! th.2.2.1:Int)->TL (FQ L t) n (geti (.sl (.int .i64)) th.2.2.1 j):=λh0 h1=>hth.l _ (bK (T:=.sl (.int .i64)) (xs:=th.2.2.1) h0 h1)
 have hA:i.1=10->0<=i.2.1/\i.2.1<(l! th.2.2.1:Int):=λh=>by
  rw[tz];exact hir _ (aqm (.inr (.inr (.inr h))))
 have hB:i.1=8\/i.1=9\/i.1=26->0<=i.2.2.1/\i.2.2.1<(l! th.2.2.1:Int):=λh=>by
  rw[tz];exact hir _ (aql (h))
 have hC:i.1=7\/i.1=9->0<=i.2.2.2.1/\i.2.2.2.1<(l! th.2.2.1:Int):=λh=>by
  rw[tz];exact hir _ (awi (h))
 refine aV (λx=>x.2.1=th/\x.2.2.1=i/\(x.2.2.2.1.1=t/\x.2.2.2.1.2.1=k/\x.2.2.2.1.2.2.1=o/\x.2.2.2.1.2.2.2.2=i.2.2.2.2.2)/\TL (FQ L t) n x.2.2.2.2/\(0<l! x.2.2.2.2->i.1=10\/i.1=7\/i.1=9)) ?_ ?_
 .refine aK (λh=>?_) λ_=>?_
  .obtain⟨a0,a1⟩:=hA h;refine aR a0 a1 (aT ?_);have:=hlen a0 a1;exact bG (dc this.len (by omega)) (by omega) (ak ⟨rfl,rfl,⟨rfl,rfl,rfl,rfl⟩,this,λ_=>.inl h⟩)
  refine aV (λx=>x.2.2.1=th/\x.2.2.2.1=i/\(x.2.2.2.2.1=t/\x.2.2.2.2.2.1=k/\x.2.2.2.2.2.2.1=o/\x.2.2.2.2.2.2.2.2=i.2.2.2.2.2)/\(x.1=J->i.1=7\/i.1=9)) ?_ ?_
  .refine aK (λh=>ak ⟨rfl,rfl,⟨rfl,rfl,rfl,rfl⟩,λ_=>.inl h⟩) λ_=>ak ⟨rfl,rfl,⟨rfl,rfl,rfl,rfl⟩,λh=>.inr (bJ h)⟩
  rintro⟨b,z0,th',i',t',k',z1⟩ ⟨e1,e2,e3,hb9⟩;dsimp only at e1 e2 e3 hb9;subst e1 e2;refine aQ (λh=>?_) λ_=>ak ⟨rfl,rfl,e3,TL.nil n,nofun⟩
  let⟨a0,a1⟩:=hC (hb9 h);refine aR a0 a1 (aT ?_);have:=hlen a0 a1;exact bG (dc this.len (by omega)) (by omega) (ak ⟨rfl,rfl,e3,this,λ_=>.inr (hb9 h)⟩)
 rintro⟨z0,th',i',⟨t',k',z1⟩,ds⟩ ⟨e1,e2,e3,hd,hd2⟩;dsimp only at e1 e2 e3 hd hd2;subst e1 e2;refine aV (λx=>(x.2.1.1=t/\x.2.1.2.1=k/\x.2.1.2.2.1=o/\x.2.1.2.2.2.2=i'.2.2.2.2.2)/\x.2.2.1=ds/\TL (FQ L t) n x.2.2.2/\(0<l! x.2.2.2->i'.1=8\/i'.1=9\/i'.1=26)) ?_ ?_
 .refine aV (λx=>x.2=(z0,th',i',(t',k',z1),ds)/\(x.1=J->i'.1=8\/i'.1=9\/i'.1=26)) ?_ ?_
  .exact aK (λh=>ak ⟨rfl,λ_=>.inl h⟩) λ_=>aK (λh=>ak ⟨rfl,λ_=>.inr (.inl h)⟩) λ_=>ak ⟨rfl,λh=>.inr (.inr (bJ h))⟩
  rintro⟨b,x⟩ ⟨e,hb9⟩;dsimp only at e hb9;subst e;refine aQ (λh=>?_) λ_=>ak ⟨e3,rfl,TL.nil n,nofun⟩
  let⟨a0,a1⟩:=hB (hb9 h);refine aR a0 a1 (aT ?_);have:=hlen a0 a1;exact bG (dc this.len (by omega)) (by omega) (ak ⟨e3,rfl,this,λ_=>hb9 h⟩)
 rintro⟨z2,⟨t2,k2,o2,z3,si⟩,d2,f2⟩ ⟨e1,e2,h1,h2⟩;dsimp only at e1 e2 h1 h2;subst e2;let⟨g1,g2,g3,g4⟩:=e1;exact ak λ_=>fin _ g1 g2 g3 g4 hd2 h2 hd h1
def as8 {n:Nat} {k:Int} (h0:0<=k) (h1:k<n):(geti iD (thP n) k).1=0\/(geti iD (thP n) k).1=1:=by
 have hm:=bK (T:=iD) (xs:=thP n) h0 (by rw[Lq];exact h1);revert hm;generalize geti iD (thP n) k=z;intro hm;cases n with
 |zero=>cases hm
 |succ n=>
  rcases a_.1 hm with rfl|hm
  .exact .inr rfl
  .grind
def aao (c:CT) (hvt:kB c=Z J) (hv:VC c):Ok (v9 c) λs=>SV 0 [] s/\SIv c [] s:=by
 unfold v9 bk bB bP cP c_ dQ ef iF bV kO bT bW bc c8 aI cS;refine aX hvt (dK nofun λ_=>?_);let⟨vc,vl,vd,vf,_,vt,_⟩:=id hv.vl;have htl:=hv.tl;refine aX (O8 c.1 hv.vl) ?_;refine bR (l! c.1.1) (λi x=>x.1=(i:Int)/\x.2.1=c/\x.2.2.2.1=Yw c.1/\x.2.2.2.2=(c.1.1.take i).map λc=>c.2.2.2.2) ?_ ?_ ⟨rfl,rfl,rfl,rfl⟩
 .rintro i ⟨a,c',z,y',l⟩ hi ⟨L,e2,D,A⟩;dsimp only at L e2 D A;subst L e2 D A;refine cU ?_;refine bF (aT (a! (ak ?_)));dsimp only;exact⟨fL,rfl,rfl,by rw[pL (T:=lL) hi,cr];rfl⟩
 rintro⟨a,c',z,y',l⟩ ⟨L,e2,D,A⟩;dsimp only at L e2 D A;subst L e2 D;rw[cY]at A;subst A;refine cO ?_;refine aw (P:=λs=>SV 0 [] s/\SIv c' [] s) ?_ λr hr=>ak hr
 refine bR (l! c'.1.2.2.2.1) (λi x=>x.1=(i:Int)/\x.2.1=c'/\x.2.2.2.1=Yw c'.1/\x.2.2.2.2.1=ce0 c'.1/\x.2.2.2.2.2=aG i 0) ?_ ?_ ⟨rfl,rfl,rfl,rfl,rfl⟩
 .rintro i ⟨a,c,z,y,l,f⟩ hi ⟨L,e2,D,A,N⟩;dsimp only at L e2 D A N;subst L e2 D N;refine cU ?_;refine a! (ak ?_);dsimp only;exact⟨fL,rfl,rfl,A,by rw[wM]⟩
 rintro⟨a,c,z,y,l,f⟩ ⟨L,e2,D,A,N⟩;dsimp only at L e2 D A N;subst L e2 D A N;refine cO ?_;refine aw (P:=λs=>SV 0 [] s/\SIv c [] s) ?_ λr hr=>ak hr
 refine bR (l! c.2) (λi x=>x.1=(i:Int)/\x.2.1=c/\x.2.2.2.1=Yw c.1/\x.2.2.2.2.1=ce0 c.1/\x.2.2.2.2.2.1=fu0 c.1/\l! x.2.2.2.2.2.2=i/\∀t∈x.2.2.2.2.2.2,(∀F,TH F 0 t)/\t.2.2.2=0) ?_ ?_ ⟨rfl,rfl,rfl,rfl,rfl,rfl,λt ht=>(by cases ht)⟩
 .rintro i ⟨a,c,z,y,l,f,th⟩ hi ⟨L,e2,D,A,e4b,N,e6⟩;dsimp only at L e2 D A e4b N e6;subst L e2 D;refine cU ?_;have hin:((i:Nat):Int)<(l! c.2:Int):=by omega
  have hvt:=hv.t _ (bK (T:=zP) (xs:=c.2) (j:=(i:Int)) (by omega) hin);have q0:=hvt.r0;have q1:=hvt.r1;refine aR (by simp) hin (aT ?_);refine cE (cE (dh q0 (dh (dg _) (bG (by grind) (by omega) ?_))));refine aR (by simp) hin (aT ?_);refine cE (cE (dh q0 (dh (dg _) (bG (by grind) (by omega) ?_))));refine a! (ak ?_);dsimp only;refine ⟨fL,rfl,rfl,A,e4b,by simp;omega,λt ht=>?_⟩;rcases bO.1 ht with h|h
  .exact e6 t h
  .rw[aC]at h;subst h;refine ⟨λF=>⟨?_,?_,λl hl=>?_,dg _,dg _⟩,rfl⟩
   .grind
   .grind
   .rw[List.eq_of_mem_replicate hl];exact TL.nil 0
 .rintro⟨a,c,z,y,l,f,th⟩ ⟨L,e2,D,A,e4b,N,e6⟩;dsimp only at L e2 D A e4b N e6;subst L e2 D A e4b;refine cO (ak ?_);have hm:∀k:Nat,k<l! th->_:=λk hk=>e6 _ (bK (T:=fA) (xs:=th) (j:=(k:Int)) (by omega) (by omega))
  refine ⟨⟨YQ hv.vl,rfl,λk hk=>(hm k hk).1 _⟩,⟨.nil,λk hk=>.inr ?_⟩⟩;dsimp only at hk;have hst:=as8 (n:=l! c.1.2.2.2.2.1) (k:=(k:Int)) (by omega) (by omega);exact⟨(hm k hk).2,λh=>(by rcases hst with q|q<;>rcases h with h|h<;>exact bC (q.symm.trans h) (by decide)),λ_=>hst⟩
def L3 {x j:Int} (h0:0<=a) (h1:a<l! N) (z:0<=j):(geti iD (AX N a x) j).1=if j=a then x else (geti iD N j).1:=by
 unfold AX;rw[jK (T:=iD) _ _ _ _ h0 h1 z];split<;>rfl
def ar2 {x j:Int} (h0:0<=a) (h1:a<l! N) (z:0<=j):(geti iD (cdP N a x) j).1=(geti iD N j).1:=by
 unfold cdP;rw[jK (T:=iD) _ _ _ _ h0 h1 z];split
 next h=>rw[h]
 .rfl
def ar9 {j:Int} (h0:0<=a) (h1:a<l! N) (z:0<=j):(geti iD (atP N a b) j).1=(geti iD N j).1:=by
 unfold atP;rw[jK (T:=iD) _ _ _ _ h0 h1 z];split
 next h=>rw[h]
 .rfl
def aqr (A:0<=a):∀(l:η) (th:Y e!),(∀u:Int,u∈l->0<=u/\u<l! th)->(geti iD (FZ th l) a).1=if a∈l then 4 else (geti iD th a).1
 |[],th,_=>by simp[FZ]
 |x::r,th,h=>by
  have z:=h x (dk ..);have D:=aqr A r (AX th x 4) λu L=>by unfold AX;rw[bX];exact h u (cg _ L)
  have e:FZ th (x::r)=FZ (AX th x 4) r:=rfl;rw[e,D,L3 z.1 z.2 A]
  grind
def X5 {w:WT} {s:SY} {k o u v:Int} {A:SY} (h:(A,v)=po w s a k o u):po w s a k o v=(A,v):=by
 by_cases D:k=18
 .subst D;rw[Fk]at h ⊢;by_cases z:l! (wl s.2.2.2 o (l! s.2.2.2))=0
  .grind
  .rw[ax z]at h ⊢;have hm:=LN u z;generalize wl s.2.2.2 o (l! s.2.2.2)=l at h z hm ⊢;obtain⟨rfl,rfl⟩:=Prod.mk.inj h;have:Ew l (Ew l u)=Ew l u:=by
    rw[Ew,ax z,aF (EI.2 hm)]
   rw[this]
 .rw[adc _ _ _ _ _ _ u D,<-h]
def atk {w:WT} {s:SY} {k o:Int} (u:Int) (he:EN w s a k o) (hr:UQ w s a k o) {j:Int} (h0:0<=j):(¬j=a->(geti iD (po w s a k o u).1.2.2.2 j).1=(geti iD s.2.2.2 j).1\/((geti iD s.2.2.2 j).1=3/\(geti iD (po w s a k o u).1.2.2.2 j).1=4)\/((geti iD s.2.2.2 j).1=0/\(geti iD (po w s a k o u).1.2.2.2 j).1=1))/\(j=a->¬k=16->¬(geti iD (po w s a k o u).1.2.2.2 j).1=3/\¬(geti iD (po w s a k o u).1.2.2.2 j).1=4):=by
 have t0:=he.t0;have t1:a<l! s.2.2.2:=by have:=he.t1;have:=he.e3;omega
 have A:=hr.r;have hml:∀u:Int,u∈wl s.2.2.2 o (l! s.2.2.2)->0<=u/\u<l! s.2.2.2:=λu hu=>⟨(sU.1 hu).1,(sU.1 hu).2.1⟩
 have h3:∀u:Int,u∈wl s.2.2.2 o (l! s.2.2.2)->(geti iD s.2.2.2 u).1=3:=λu hu=>by
  have:=(sU.1 hu).2.2;unfold Py at this;rw[au]at this;exact bJ this.1
 have same:¬k=1->¬k=17->∀th:Y e!,(geti iD th j).1=(geti iD s.2.2.2 j).1->(¬j=a->(geti iD th j).1=(geti iD s.2.2.2 j).1\/((geti iD s.2.2.2 j).1=3/\(geti iD th j).1=4)\/((geti iD s.2.2.2 j).1=0/\(geti iD th j).1=1))/\(j=a->¬k=16->¬(geti iD th j).1=3/\¬(geti iD th j).1=4):=λt b th h=>⟨λ_=>.inl h,λh2 _=>by rw[h,h2,A t b];decide⟩
 have st:∀x:Int,¬x=3\/k=16->¬x=4->∀th:Y e!,(geti iD th j).1=(if j=a then x else (geti iD s.2.2.2 j).1)->(¬j=a->(geti iD th j).1=(geti iD s.2.2.2 j).1\/((geti iD s.2.2.2 j).1=3/\(geti iD th j).1=4)\/((geti iD s.2.2.2 j).1=0/\(geti iD th j).1=1))/\(j=a->¬k=16->¬(geti iD th j).1=3/\¬(geti iD th j).1=4):=λx hx hx4 th h=>⟨λhn=>.inl (by rw[h,ax hn]),λh2 h16=>by rw[h,aF h2];exact⟨hx.resolve_right h16,hx4⟩⟩
 have L:∀x:Int,a<l! (AX s.2.2.2 a x):=λx=>by unfold AX;rw[bX];exact t1
 by_cases k1:k=1
 .subst k1;exact st 2 (.inl (by decide)) (by decide) _ (L3 t0 t1 h0)
 by_cases k2:k=2
 .subst k2;exact st 5 (.inl (by decide)) (by decide) _ (L3 t0 t1 h0)
 by_cases k16:k=16
 .subst k16;exact st 3 (.inr rfl) (by decide) _ ((ar2 t0 (L _) h0).trans (L3 t0 t1 h0))
 by_cases k17:k=17
 .subst k17;exact st 2 (.inl (by decide)) (by decide) _ ((ar2 t0 (L _) h0).trans (L3 t0 t1 h0))
 by_cases k14:k=14
 .subst k14;exact same k1 k17 _ (ar9 t0 t1 h0)
 by_cases k15:k=15
 .subst k15;exact same k1 k17 _ (ar9 t0 t1 h0)
 by_cases k18:k=18
 .subst k18;rw[Fk];by_cases hl:l! (wl s.2.2.2 o (l! s.2.2.2))=0
  .rw[aF hl];exact same k1 k17 _ rfl
  .rw[ax hl];have hc:=LN u hl;have N:=hml _ hc;have z:=h3 _ hc;dsimp only;rw[L3 N.1 N.2 h0];generalize Ew (wl s.2.2.2 o (l! s.2.2.2)) u=c at z;by_cases D:j=c
   .rw[aF D,D];exact⟨λ_=>.inr (.inl ⟨z,rfl⟩),λh _=>by rw[h,A k1 k17]at z;exact bC z (by decide)⟩
   .rw[ax D];exact⟨λ_=>.inl rfl,λh _=>by rw[h,A k1 k17];decide⟩
 by_cases k19:k=19
 .subst k19;show (_->(geti iD (FZ _ _) j).1=_\/_/\(geti iD (FZ _ _) j).1=_\/_/\(geti iD (FZ _ _) j).1=_)/\(_->_->¬(geti iD (FZ _ _) j).1=_/\¬(geti iD (FZ _ _) j).1=_)
  rw[aqr h0 _ _ hml];by_cases D:j∈wl s.2.2.2 o (l! s.2.2.2)
  .rw[aF D];have z:=h3 _ D;exact⟨λ_=>.inr (.inl ⟨z,rfl⟩),λh _=>by rw[h,A k1 k17]at z;exact bC z (by decide)⟩
  .rw[ax D];exact⟨λ_=>.inl rfl,λh _=>by rw[h,A k1 k17];decide⟩
 by_cases k20:k=20
 .subst k20;let⟨o0,o1⟩:=he.nm.th (.inl rfl);let⟨hot,ho0⟩:=hr.sp rfl;have o1':o<l! s.2.2.2:=by rw[he.e3];exact o1
  show (_->(geti iD (AX _ _ _) j).1=_\/_/\(geti iD (AX _ _ _) j).1=_\/_/\(geti iD (AX _ _ _) j).1=_)/\(_->_->¬(geti iD (AX _ _ _) j).1=_/\¬(geti iD (AX _ _ _) j).1=_)
  rw[L3 o0 o1' h0];by_cases D:j=o
  .rw[aF D,D];exact⟨λ_=>.inr (.inr ⟨ho0,rfl⟩),λh _=>(hot h).elim⟩
  .rw[ax D];exact⟨λ_=>.inl rfl,λh _=>by rw[h,A k1 k17];decide⟩
 refine same k1 k17 _ ?_;unfold po;rw[ax k1,ax k2];repeat' split
 all_goals first|rfl|omega
def ao6 {e e':ET} (h1:e'.1=e.1) (z:e'.2.1=e.2.1) (t:Int):fl [e'] t=fl [e] t:=by
 by_cases h:e.1=t
 .rw[Ch h,Ch (h1.trans h)];unfold rdE;rw[z]
 .rw[yV h,yV (λg=>h (h1.symm.trans g))]
def aq8 {e e':ET} (h1:e'.1=e.1) (z:e'.2.1=e.2.1) {L:Int} (h:FQ (k++[e]) L a):FQ (k++[e']) L a:=by
 unfold FQ Pm at h ⊢;rw[wD,ao6 h1 z,<-wD];exact h
def Ni (xs:Y T.den) (i k:Nat) (x:T.den) (hi:i<l! xs):geti _ (xs.set i x) (k:Int)=if k=i then x else geti _ xs (k:Int):=by
 refine (jK xs (i:Int) (k:Int) x (by omega) (by omega) (by omega)).trans ?_
 grind
abbrev D?:=ST×ET×Bool
def SQ (n:Nat) (c:CT) (L:Y ET) (y:D?):Prop:=y.2.2=J->SV (n+1) (L++[y.2.1]) y.1/\SIv c (L++[y.2.1]) y.1/\Fp c.1 y.2.1/\EvS y.2.1
def apk (hn:j+1<=100000) {c:CT} {s:ST} {o v0 si:Int} {fs:η} {sy:SY} (hs:SV j k s) (hI:SIv c k s) (hp:PE j c s (i:Int) ((i:Int),a,o,v0,si,z,fs)) (hm:PS c k s (i:Int) ((i:Int),a,o,v0,si,z,fs)) (he:EN c.1 s.1 (i:Int) a o) (hr:UQ c.1 s.1 (i:Int) a o) (ha:AP j s.1 sy) (ds:Int) (ce fu:η) (N:TT) (hap:(po c.1 s.1 (i:Int) a o ds).1=sy) (hva:VA c.1 s.1 s.2.1 s.2.2.1 (i:Int) a o ds) (hce:ce=ceP s.2.1 ((i:Int),a,o,ds,si,z,fs)) (hfu:fu=fuP s.2.2.1 ((i:Int),a,o,ds,si,z,fs)) (ht:TH (FQ (k++[((i:Int),a,o,v0,si,z,fs)]) (i:Int)) (j+1) N) (hg:l! N.2.1=0\/N.2.2.2=bn .i64 ((geti fA s.2.2.2 (i:Int)).2.2.2+1)/\(a=16->N.1=(geti fA s.2.2.2 (i:Int)).1)):SQ j c k ((sy,ce,fu,s.2.2.2.set i N),((i:Int),a,o,ds,si,z,fs),J):=by
 intro _;have q1:=hp.t1;have q2:=hp.fs.th;have hil:i<l! s.2.2.2:=by omega
 have hln:=hs.ln;refine ⟨⟨ha.toSB hs.sb hn,by simp[hln],λL D=>?_⟩,⟨?_,λL D=>?_⟩,⟨he.nm,he.t0,he.t1,he.cd⟩,⟨dc hp.d (by omega),dc hp.f (by omega)⟩⟩
 .dsimp only at D ⊢;rw[dF]at D;rw[Ni (T:=fA) _ _ _ _ hil];split
  next h=>subst h;exact ht.mono (bI _) λy A=>aq8 (e:=((L:Int),a,o,v0,si,z,fs)) (e':=((L:Int),a,o,ds,si,z,fs)) rfl rfl A
  .exact (hs.t L D).mono (by omega) λy A=>⟨A.1,A.2.app _⟩
 .rw[<- hap,hce,hfu];exact hI.ac.snoc (e:=((i:Int),a,o,ds,si,z,fs)) ⟨he,hr,hm.s1,hm.s2,hm.de,hm.fr,⟨hm.da,λx hx=>⟨(hm.dq x hx).1,(hm.dq x hx).2.lt⟩⟩,⟨hm.fa,λx hx=>⟨(hm.fq x hx).1,(hm.fq x hx).2.lt⟩⟩,λy A=>(hm.dq y A).2,λy A=>(hm.fq y A).2,hva⟩
 .dsimp only at D ⊢;rw[dF]at D;rw[Ni (T:=fA) _ _ _ _ hil];let⟨Pr,st2⟩:=atk ds he hr (j:=(L:Int)) (by omega);rw[hap]at Pr st2;have hfl:=WA k (i:Int);split
  .rename_i h;subst h;rcases hg with hg|⟨g1,g2⟩
   .exact .inl hg
   .refine .inr ⟨?_,λhw=>?_,λhz=>?_⟩
    .rw[g1,hm.tg.ev,wD,Ch rfl,fL];simp
    .have h16:a=16:=xO λh=>hw.elim (st2 rfl h).1 (st2 rfl h).2
     rw[g2 h16];exact hm.wt h16
    .rw[wD,Ch rfl]at hz;simp at hz
  .rename_i h;have hki:¬(L:Int)=(i:Int):=by omega
   have hfo:∀e:ET,e.1=(i:Int)->fl (k++[e]) (L:Int)=fl k (L:Int):=λe h=>by
    rw[wD,yV (by omega),io]
   have Pr:=Pr hki;refine (hI.t L D).imp id λg=>⟨by rw[hfo _ rfl];exact g.ev,λhw=>g.wi (by
    rcases Pr with h1|⟨h1,_⟩|⟨_,h1⟩
    .rw[<- h1];exact hw
    .exact .inl h1
    .exact hw.elim (λh=>bC (h1.symm.trans h) (by decide)) λh=>bC (h1.symm.trans h) (by decide)),λhz=>?_⟩
   rw[hfo _ rfl]at hz;have g2:=g.nw hz
   grind
def Y0 {α:Type} (o:M α):aA o (λ_=>(U:M R))=U:=by cases o<;>rfl
def akk (b:Bool):chk b (λ_=>(U:M R))=U:=by cases b<;>rfl
def anm {α:Type} (x:α):lt x (λ_=>(U:M R))=U:=rfl
def OkN (o:M R) (Q:R->Prop):Prop:=o=U\/Ok o Q
def OkN.or {a b:M R} {Q:R->Prop} (A:OkN a Q) (z:OkN b Q):OkN (orE a b) Q:=by
 rcases A with rfl|⟨y,rfl,h⟩
 .exact z
 .exact .inr ⟨y,rfl,h⟩
def Ok.orL {a b:M R} {Q:R->Prop} (z:Ok a Q):Ok (orE a b) Q:=by
 obtain⟨y,rfl,h⟩:=z;exact⟨y,rfl,h⟩
def OkN.orR {a b:M R} {Q:R->Prop} (A:OkN a Q) (z:Ok b Q):Ok (orE a b) Q:=by
 rcases A with rfl|⟨y,rfl,h⟩
 .exact z
 .exact⟨y,rfl,h⟩
def L2 (hn:i+1<=100000) {c:CT} {s:ST} {u:Int} (hc:CB c) (hs:SV i k s) (hI:SIv c k s) (G:M D?->Prop) (hG:∀y,SQ i c k y->G (Z y)) (L:ET×Bool->SY×q!->M D?)
 (hk:∀e v A,PE i c s a e->PS c k s a e->EN c.1 s.1 a e.2.1 e.2.2.1->UQ c.1 s.1 a e.2.1 e.2.2.1->AP i s.1 A->(A,v)=po c.1 s.1 a e.2.1 e.2.2.1 u->G (L (e,J) (A,v,J))):
 G (aA (oP (c,s,a)) λz=>aJ (!z.2) (Z ((([],0,[],[]),[],[],[]),(0,0,0,0,0,[],[]),af)) (aA (qI (c.1,s.1,a,z.1.2.1,z.1.2.2.1,u)) λD=>aJ (!D.2.2) (Z ((([],0,[],[]),[],[],[]),(0,0,0,0,0,[],[]),af)) (L z D))):=by
 have N:=hG ((([],0,[],[]),[],[],[]),(0,0,0,0,0,[],[]),af) nofun
 let⟨⟨e,b⟩,h1,h2⟩:=aaq i (by omega) c k s hc hs hI a;rw[h1,obs];cases b with
 |false=>exact N
 |true=>
  let⟨hp,hm⟩:=h2 rfl;have hcd:l! c.1.2.2.1<=1000:=by have:=hp.fs.vc.vl.d;omega
  let⟨⟨A,v,b⟩,h3,h4,_,_⟩:=Yu c.1 s.1 hs.sb hcd a e.2.1 e.2.2.1 u;have e0:∀{R:Type} (t b:M R),aJ (!J) t b=b:=λ_ _=>rfl
  rw[e0,h3,obs];cases b with
  |false=>exact N
  |true=>grind
def kdx (k:Int):k=1\/k=16\/k=2\/k=3\/k=23\/k=4\/k=22\/k=5\/((k=1)=False/\(k=16)=False/\(k=2)=False/\(k=3)=False/\(k=23)=False/\(k=4)=False/\(k=22)=False/\(k=5)=False):=by grind
def KR (n:Nat) (c0:CT) (L:Y ET) (i:Nat) (u:Int) (l:Y TT) (z:R) (k:Int->(CT×SY×(ν)×Int×(υ)×ET×(ν)×(η)×(η)×R×(η)×Y η)->M D?):Prop:=
 ∀(F:Int->Prop) (p:Int) (sy:SY) (kd o v si:Int) (ds fs ce fu A:η) (T:Y η) (N:Int),
  (kd≠16->kd≠2->Ok (ox (geti zP c0.2 (i:Int),(p,A,T,bn .i64 (N+1)))) λy=>TH F (n+1) y.1/\(l! y.1.2.1=0\/y.1.2.2.2=bn .i64 (N+1)))->
  (kd=16\/kd=2->TH F (n+1) (p,A,T,bn .i64 (N+1)))->
  (∀D,TH F (n+1) D->(l! D.2.1=0\/D.2.2.2=bn .i64 (N+1)/\(kd=16->D.1=p))->SQ n c0 L ((sy,ce,fu,l.set i D),((i:Int),kd,o,v,si,ds,fs),J))->(i:Int)<(l! c0.2:Int)->
  ∀pc,Ok (k p (c0,sy,((i:Int),u),0,(0,0,0,0,0),((i:Int),kd,o,v,si,ds,fs),(pc,N),ce,fu,z,A,T)) (SQ n c0 L)
def Ez (N n:Nat) {cp:SY×(η)×(η)×Y TT->M (Int×(Y (Int×η))×(θ)×(Y (Int×Int×Bool))×(η)×(η)×R×(η)×Y η)} {pc ev:R->Int} {k:Int->(CT×SY×(ν)×Int×(υ)×ET×(ν)×(η)×(η)×R×(η)×Y η)->M D?} (hn:i+1<=100000) (c0:CT) (L:Y ET) (s:ST) (t u:Int) (hc:CB c0) (hs:SV i L s) (hI:SIv c0 L s)
 (h0:∀sy ce fu (l:Y TT),l! l<=4->l! l≠N->cp (sy,ce,fu,l)=U)
 (h1:∀sy ce fu (l:Y TT),SV i L (sy,ce,fu,l)->l! ce<=1000->l! fu<=1000->l! l=N->n<N/\∃y,cp (sy,ce,fu,l)=Z y/\y.2.2.2.2.1=ce/\y.2.2.2.2.2.1=fu/\y.2.2.2.2.2.2.2.1=(geti fA l (n:Int)).2.1/\y.2.2.2.2.2.2.2.2=(geti fA l (n:Int)).2.2.1/\pc y.2.2.2.2.2.2.1=(geti fA l (n:Int)).1/\ev y.2.2.2.2.2.2.1=(geti fA l (n:Int)).2.2.2/\KR i c0 L n u l y.2.2.2.2.2.2.1 k):
 OkN (SG (n:Int) cp pc ev k (c0,s,t,u)) (SQ i c0 L)/\(l! s.2.2.2=N->t=(n:Int)->Ok (SG (n:Int) cp pc ev k (c0,s,t,u)) (SQ i c0 L)):=by
 by_cases hz:l! s.2.2.2=N/\t=(n:Int)
 .obtain⟨hz1,rfl⟩:=hz;suffices h:Ok (SG (n:Int) cp pc ev k (c0,s,(n:Int),u)) (SQ i c0 L) from ⟨.inr h,λ_ _=>h⟩
  unfold SG kK lE lD bk bB bP cP eU kJ lP mw Prod.w Prod.v Prod.y c_ dQ xa Prod.B ck bm bW kf aI;refine L2 hn hc hs hI (λo=>Ok o (SQ i c0 L)) (λy h=>ak h) _ λe v sy hp hm he hr ha hq=>?_
  let⟨sy0,ce,fu,l⟩:=s;let⟨e1,kd,o,e4,site,ds,fs⟩:=e;have het:=hp.et;dsimp only at hz1 he hr ha hq het;subst het;have vl:=hp.fs.vc.vl;have hce:=hp.fs.ce;have hfu:=hp.fs.fu;dsimp only at hce hfu;let⟨hiN,⟨q1,q2,q3,q4,ce',fu',z,R0,T0⟩,hcp,g1,g2,g3,g4,hpc,hve,hk⟩:=h1 sy0 ce fu l hs (by have:=vl.c;omega) (by have:=vl.f;omega) hz1;dsimp only at g1 g2 g3 g4 hpc hve hk;rw[g1,g2,g3,g4]at hcp;let⟨_,_,nmce,_,_,_,nmfu,_,_,_⟩:=id he.nm;have t1:(n:Int)<(l! c0.2:Int):=hp.t1;have htf:TF (geti zP c0.2 (n:Int)) (geti fA l (n:Int)):=hp.fs.t n (by omega);have hA:=hp.a;have hB:=hp.b;dsimp only at hA hB;have hvt:=hp.fs.vc.t _ (bK (T:=zP) (xs:=c0.2) (j:=(n:Int)) (by omega) t1);have hci:=hc.ins _ (bK (T:=zP) (xs:=c0.2) (j:=(n:Int)) (by omega) t1);have hth:TH (FQ L (n:Int)) i (geti fA l (n:Int)):=hs.t n (by dsimp only;omega);have done:=apk hn hs hI hp hm he hr ha;have htg:=hm.tg;have hrun:=hr.r;dsimp only at done htg;have hgv:kd=3\/kd=23->FQ (L++[((n:Int),kd,o,e4,site,ds,fs)]) (n:Int) (geti fA l (n:Int)).2.2.2:=λh3=>by
   have D:=hrun (by omega) (by omega);have hn0:¬l! (fl L (n:Int))=0:=λh=>(htg.nw h).elim (λg=>bC (D.symm.trans g) (by decide)) λg=>bC (D.symm.trans g) (by decide)
   refine ⟨by rw[htg.ev];omega,Pm.last (e:=((n:Int),kd,o,e4,site,ds,fs)) ?_ htg.ev⟩;unfold rdE;rcases h3 with h|h
   .rw[a8 h];rfl
   .simp[h]
  have vaA:¬kd=3->¬kd=23->¬kd=5->VA c0.1 sy0 ce fu (n:Int) kd o v:=λa b c=>⟨λh=>(a h).elim,λh=>(b h).elim,λh=>(c h).elim,λ_ _ _ _ _=>by rw[X5 hq]⟩
  have apA:(po c0.1 sy0 (n:Int) kd o v).1=sy:=by rw[X5 hq]
  have apB:¬kd=18->∀v',(po c0.1 sy0 (n:Int) kd o v').1=sy:=λh v'=>by rw[adc _ _ _ _ _ _ u h,<-hq]
  have keep:∀x∈(geti fA l (n:Int)).2.2.1,TL (FQ (L++[((n:Int),kd,o,e4,site,ds,fs)]) (n:Int)) (i+1) x:=λx hx=>(hth.l x hx).mono (by omega) λy hy=>⟨hy.1,hy.2.app _⟩
  clear g3 g4 hm hI hrun htg;revert done hgv keep;generalize FQ (L++[((n:Int),kd,o,e4,site,ds,fs)]) (n:Int)=F;generalize geti fA l (n:Int)=th at hcp hpc hve htf hA hB hth ⊢;intro done hgv keep;refine aX hcp ?_;dsimp only;rw[hpc,hve];refine qU (a8 rfl) ?_;refine aR (by omega) t1 (aT (aR htf.p0 htf.p1 (aT ?_)));have htz:l! th.2.2.1=l! th.2.1:=by have:=htf.r;have:=htf.t;omega
  have fin:∀(p:Int) (A:η) (T:Y η),l! A=l! th.2.1->l! T=l! th.2.2.1->(∀x∈T,TL F (i+1) x)->Ok (ox (geti zP c0.2 (n:Int),(p,A,T,bn .i64 (th.2.2.2+1)))) λy=>TH F (i+1) y.1/\(l! y.1.2.1=0\/y.1.2.2.2=bn .i64 (th.2.2.2+1)):=λp A T h1 D h3=>by
   have a1:=hth.e0;have a2:=hth.e1;have a3:=hth.r;have a4:=hth.t;rw[iI (n:=th.2.2.2+1) (by omega) (by omega)];exact ag7 (i+1) hn _ hci hvt _ ⟨by dsimp only;omega,by dsimp only;omega,h3,by dsimp only;omega,by dsimp only;omega⟩
  have mark:kd=3\/kd=23->∀j:Int,∀x∈cC th.2.2.1 j [th.2.2.2],TL F (i+1) x:=λh3 j x hx=>by
   rcases Fy hx with h|h
   .exact keep x h
   .rw[h];exact⟨⟨λy hy=>(by cases hy),trivial⟩,λy hy=>by rw[aC]at hy;have:=hth.e0;have:=hth.e1;rw[hy];exact⟨by omega,by omega⟩,λy hy=>by rw[aC]at hy;rw[hy];exact hgv h3⟩
  have nopark:TH F (i+1) (th.1,th.2.1,th.2.2.1,bn .i64 (th.2.2.2+1)):=by
   have a1:=hth.e0;have a2:=hth.e1;rw[iI (n:=th.2.2.2+1) (by omega) (by omega)];exact⟨hth.r,hth.t,keep,by dsimp only;omega,by dsimp only;omega⟩
  clear hp hs hc h0 h1 hcp g1 g2 hr ha hq he;generalize (geti sJ (geti zP c0.2 (n:Int)).2 th.1)=ins at hA hB ⊢;rcases kdx kd with rfl|rfl|rfl|rfl|rfl|rfl|rfl|rfl|⟨k1,k2,k3,k4,k5,k6,k7,k8⟩
  case inr.inr.inr.inr.inr.inr.inr.inr=>
   simp only[k1,k2,k3,k4,k5,k6,k7,k8,c7,eC,Rg];refine hk F _ _ _ _ _ _ _ _ _ _ _ _ _ (λ_ _=>fin _ _ _ rfl rfl keep) (λh=>by rw[k2,k3]at h;exact (h.elim id id).elim) (λt' h g=>?_) t1 _;exact done v ce fu t' apA (vaA (of_eq_false k4) (of_eq_false k5) (of_eq_false k8)) (ax (of_eq_false k6)).symm (ax (of_eq_false k7)).symm h (g.imp id λh=>⟨h.1,λD=>(of_eq_false k2 D).elim⟩)
  all_goals simp only[c7,eC,Rg]
  .refine hk F _ _ _ _ _ _ _ _ _ _ _ _ _ (λ_ _=>fin _ _ _ rfl rfl keep) (λh=>by omega) (λt' h g=>?_) t1 _;exact done v ce fu t' apA (vaA (by decide) (by decide) (by decide)) rfl rfl h (g.imp id λh=>⟨h.1,nofun⟩)
  .refine hk F _ _ _ _ _ _ _ _ _ _ _ _ _ (λh _=>(h rfl).elim) (λ_=>nopark) (λt' h g=>?_) t1 _;exact done v ce fu t' apA (vaA (by decide) (by decide) (by decide)) rfl rfl h g
  .refine hk F _ _ _ _ _ _ _ _ _ _ _ _ _ (λ_ h=>(h rfl).elim) (λ_=>nopark) (λt' h g=>?_) t1 _;exact done v ce fu t' apA (vaA (by decide) (by decide) (by decide)) rfl rfl h (g.imp id λh=>⟨h.1,nofun⟩)
  .obtain⟨o0,o1⟩:=nmce (.inl rfl);rw[<- hce]at o1;let⟨a0,a1⟩:=hA (.inl rfl);have a2:ins.2.1<(l! th.2.2.1:Int):=by rw[htz];exact a1
   refine gQ (aR o0 o1 (aR o0 o1 (ak ?_)));simp only[c7,eC,Rg];refine gQ (aR a0 a1 (aR a0 a1 (aR a0 a2 (aR a0 a2 (ak ?_)))));refine hk F _ _ _ _ _ _ _ _ _ _ _ _ _ (λ_ _=>fin _ _ _ (bX ..) (bX ..) (mark (.inl rfl) _)) (λh=>by omega) (λt' h g=>?_) t1 _;exact done _ ce fu t' (apB (by decide) _) ⟨λ_=>rfl,nofun,nofun,λh=>(h rfl).elim⟩ rfl rfl h (g.imp id λh=>⟨h.1,nofun⟩)
  .obtain⟨o0,o1⟩:=nmfu (.inr rfl);rw[<- hfu]at o1;let⟨a0,a1⟩:=hA (.inr (.inl rfl));have a2:ins.2.1<(l! th.2.2.1:Int):=by rw[htz];exact a1
   refine gQ (aR o0 o1 (aR o0 o1 (ak ?_)));simp only[c7,eC,Rg];refine gQ (aR a0 a1 (aR a0 a1 (aR a0 a2 (aR a0 a2 (ak ?_)))));refine hk F _ _ _ _ _ _ _ _ _ _ _ _ _ (λ_ _=>fin _ _ _ (bX ..) (bX ..) (mark (.inr rfl) _)) (λh=>by omega) (λt' h g=>?_) t1 _;exact done _ ce fu t' (apB (by decide) _) ⟨nofun,λ_=>rfl,nofun,λ_ h=>(h rfl).elim⟩ rfl rfl h (g.imp id λh=>⟨h.1,nofun⟩)
  .obtain⟨o0,o1⟩:=nmce (.inr rfl);rw[<- hce]at o1;let⟨a0,a1⟩:=hB (.inl rfl);refine gQ (aR a0 a1 (aR a0 a1 (aR o0 o1 (aR o0 o1 (ak ?_)))));simp only[c7,eC,Rg];refine hk F _ _ _ _ _ _ _ _ _ _ _ _ _ (λ_ _=>fin _ _ _ rfl rfl keep) (λh=>by omega) (λt' h g=>?_) t1 _;exact done _ _ fu t' (apB (by decide) _) ⟨nofun,nofun,nofun,λ_ _ _ h=>(h rfl).elim⟩ rfl rfl h (g.imp id λh=>⟨h.1,nofun⟩)
  .obtain⟨o0,o1⟩:=nmfu (.inl rfl);rw[<- hfu]at o1;let⟨a0,a1⟩:=hB (.inr rfl);refine gQ (aR a0 a1 (aR a0 a1 (aR o0 o1 (aR o0 o1 (ak ?_)))));simp only[c7,eC,Rg];refine hk F _ _ _ _ _ _ _ _ _ _ _ _ _ (λ_ _=>fin _ _ _ rfl rfl keep) (λh=>by omega) (λt' h g=>?_) t1 _;exact done _ ce _ t' (apB (by decide) _) ⟨nofun,nofun,nofun,λ_ _ _ _ h=>(h rfl).elim⟩ rfl rfl h (g.imp id λh=>⟨h.1,nofun⟩)
  .obtain⟨a0,a1⟩:=hA (.inr (.inr rfl));refine gQ (aR a0 a1 (aR a0 a1 (aK (λ_=>ak ?_) λ_=>ak ?_)));all_goals
    simp only[c7,eC,Rg];refine hk F _ _ _ _ _ _ _ _ _ _ _ _ _ (λ_ _=>fin _ _ _ rfl rfl keep) (λh=>by omega) (λt' h g=>?_) t1 _;exact done _ ce fu t' (apB (by decide) _) ⟨nofun,nofun,λ_=>(by decide),λ_ _ h=>(h rfl).elim⟩ rfl rfl h (g.imp id λh=>⟨h.1,nofun⟩)
 .refine ⟨?_,λh1 D=>(hz ⟨h1,D⟩).elim⟩;unfold SG kK lE lD bk bB bP cP eU kJ lP mw Prod.w Prod.v Prod.y c_ dQ xa Prod.B ck bm bW kf aI;refine L2 hn hc hs hI (λo=>OkN o (SQ i c0 L)) (λy h=>.inr (ak h)) _ λe v sy hp _ _ _ _ _=>.inl ?_
  let⟨sy0,ce,fu,l⟩:=s;have vl:=hp.fs.vc.vl;by_cases hl:l! l=N
  .have ht:¬t=(n:Int):=λh=>hz ⟨hl,h⟩
   dsimp only;cases cp (sy0,ce,fu,l) with
   |none=>rfl
   |some y=>rw[obs,dm ht];rfl
  .show aA (cp (sy0,ce,fu,l)) _=U;rw[h0 sy0 ce fu l (by have h1:l! l=l! c0.2:=hp.fs.th;have:=hp.fs.vc.tl;have:=vl.t;omega) hl];rfl
def azj {W V:Type} {c0:CT} {l:Y TT} {z:R} {t1:R->η->Y η->W} {t2:W->V} {t3:V->TT->Y TT} (h3:∀A T D,t3 (t2 (t1 z A T)) D=l.set i D):KR j c0 k i a l z (KG (i:Int) t1 t2 t3):=by
 intro F p sy kd o v si ds fs ce fu A T ev fin park done ht pc;unfold KG kK bk bB bP cP eU kJ lP mw Prod.w Prod.v Lj bm jY bW aI cS;have done:∀D,TH F (j+1) D->(l! D.2.1=0\/D.2.2.2=bn .i64 (ev+1)/\(kd=16->D.1=p))->SQ j c0 k ((sy,ce,fu,t3 (t2 (t1 z A T)) D),((i:Int),kd,o,v,si,ds,fs),J):=λD h g=>by grind
 by_cases h1:kd=16
 .subst h1;exact gQ (gQ (jI rfl (ak (jI rfl (ak (qU (a8 rfl) (ak (done _ (park (.inl rfl)) (.inr ⟨rfl,λ_=>rfl⟩)))))))))
 by_cases N:kd=2
 .subst N;exact gQ (gQ (qU rfl (ak (jI rfl (ak (qU (a8 rfl) (ak (done _ (park (.inr rfl)) (.inr ⟨rfl,nofun⟩)))))))))
 rw[dm h1,dm N];exact gQ (gQ (qU rfl (ak (qU rfl (aR (eD i) ht (aT (aw (fin h1 N) λy hy=>ak (qU (a8 rfl) (ak (done _ hy.1 (hy.2.imp id λh=>⟨h,λN=>(h1 N).elim⟩)))))))))))
def SOx (n:Nat) (z:CT) (L:Y ET) (s:ST) (t u:Int) (N i:Nat) (f:CT×ST×i?->M D?):Prop:=OkN (f (z,s,t,u)) (SQ n z L)/\(l! s.2.2.2=N->t=(i:Int)->Ok (f (z,s,t,u)) (SQ n z L))
def alf (D:i+1<=100000) (z:CT) (L:Y ET) (s:ST) (t u:Int) (N:CB z) (A:SV i L s) (hI:SIv z L s):SOx i z L s t u 4 0 qZ/\SOx i z L s t u 4 1 qY/\SOx i z L s t u 4 2 ov/\SOx i z L s t u 4 3 mq/\SOx i z L s t u 3 0 lz/\SOx i z L s t u 3 1 kh/\SOx i z L s t u 3 2 i_/\SOx i z L s t u 2 0 iy/\SOx i z L s t u 2 1 gR/\SOx i z L s t u 1 0 gU:=by
 refine ⟨Ez 4 0 (cp:=ug) D z L s t u N A hI ?_ ?_,Ez 4 1 (cp:=uf) D z L s t u N A hI ?_ ?_,Ez 4 2 (cp:=ue) D z L s t u N A hI ?_ ?_,Ez 4 3 (cp:=ud) D z L s t u N A hI ?_ ?_,Ez 3 0 (cp:=uj) D z L s t u N A hI ?_ ?_,Ez 3 1 (cp:=ui) D z L s t u N A hI ?_ ?_,Ez 3 2 (cp:=uh) D z L s t u N A hI ?_ ?_,Ez 2 0 (cp:=ul) D z L s t u N A hI ?_ ?_,Ez 2 1 (cp:=uk) D z L s t u N A hI ?_ ?_,Ez 1 0 (cp:=um) D z L s t u N A hI ?_ ?_⟩;all_goals
  intro sy ce fu l;first|unfold ug bk c_ bV bT bW bc|unfold uf bk c_ bV bT bW bc|unfold ue bk c_ bV bT bW bc|unfold ud bk c_ bV bT bW bc|unfold uj bk c_ bV bT bW bc|unfold ui bk c_ bV bT bW bc|unfold uh bk c_ bV bT bW bc|unfold ul bk c_ bV bT bW bc|unfold uk bk c_ bV bT bW bc|unfold um bk c_ bV bT bW bc
  rcases l with _|⟨a,_|⟨b,_|⟨c,_|⟨d,_|⟨e,l⟩⟩⟩⟩⟩;all_goals first
  |intro h h0
   first|(simp at h0;done)|(exfalso;simp only[jX]at h;omega)|simp[gF,Y0,akk,anm,bcT,bcF]
   done
  |intro h hce hfu hl
   first|(simp at hl;done)|(exfalso;simp only[jX]at hl;omega)|skip
   have hE:=h.sb.n1;refine ⟨by decide,aX (adu sy h.sb) (a! (a! (qU rfl (bl rfl (aT (aX (zS a i hE (h.t 0 (by simp))) ?_))))))⟩;try refine qU rfl (bl rfl (aT (aX (zS b i hE (h.t 1 (by simp))) ?_)))
   try refine qU rfl (bl rfl (aT (aX (zS c i hE (h.t 2 (by simp))) ?_)))
   try refine qU rfl (bl rfl (aT (aX (zS d i hE (h.t 3 (by simp))) ?_)))
   exact jI rfl (ak ⟨rfl,rfl,rfl,rfl,rfl,rfl,azj λR T t'=>rfl⟩)
def ag5 {n:Nat} (hn:n+1<=100000) (c:CT) (L:Y ET) (s:ST) (t u:Int) (hc:CB c) (hs:SV n L s) (hI:SIv c L s):Ok (De (c,s,t,u)) (SQ n c L):=by
 unfold De;let⟨N,D,A,z,a30,a31,a32,a20,a21,a10⟩:=alf hn c L s t u hc hs hI;by_cases hz:l! s.2.2.2<=4/\0<=t/\t<(l! s.2.2.2:Int)
 .obtain⟨h1,h2,h3⟩:=hz;have:(l! s.2.2.2=4/\t=0)\/(l! s.2.2.2=4/\t=1)\/(l! s.2.2.2=4/\t=2)\/(l! s.2.2.2=4/\t=3)\/(l! s.2.2.2=3/\t=0)\/(l! s.2.2.2=3/\t=1)\/(l! s.2.2.2=3/\t=2)\/(l! s.2.2.2=2/\t=0)\/(l! s.2.2.2=2/\t=1)\/(l! s.2.2.2=1/\t=0):=by omega
  rcases this with h|h|h|h|h|h|h|h|h|h;all_goals first|exact (N.2 h.1 h.2).orL|refine N.1.orR ?_
  all_goals first|exact (D.2 h.1 h.2).orL|refine D.1.orR ?_
  all_goals first|exact (A.2 h.1 h.2).orL|refine A.1.orR ?_
  all_goals first|exact (z.2 h.1 h.2).orL|refine z.1.orR ?_
  all_goals first|exact (a30.2 h.1 h.2).orL|refine a30.1.orR ?_
  all_goals first|exact (a31.2 h.1 h.2).orL|refine a31.1.orR ?_
  all_goals first|exact (a32.2 h.1 h.2).orL|refine a32.1.orR ?_
  all_goals first|exact (a20.2 h.1 h.2).orL|refine a20.1.orR ?_
  all_goals first|exact (a21.2 h.1 h.2).orL|refine a21.1.orR ?_
  exact a10.2 h.1 h.2
 .refine Ok.orL ?_;unfold qZ bk bB dQ;refine L2 hn hc hs hI (λo=>Ok o (SQ n c L)) (λy h=>ak h) _ λe v sy hp _ _ _ _ _=>(hz ?_).elim
  have h1:l! s.2.2.2=l! c.2:=hp.fs.th;have h2:l! c.2=l! c.1.2.2.2.2.1:=hp.fs.vc.tl;have h3:l! c.1.2.2.2.2.1<=4:=hp.fs.vc.vl.t;have h4:0<=t:=hp.t0;have h5:t<(l! c.2:Int):=hp.t1;exact⟨by omega,h4,by omega⟩
def ao5 (c:CT) (s:ST) (l:Y ν) (hc:CB c) (hs:SV 0 [] s) (hI:SIv c [] s) (hl:l.length<=9223372036854775806):Ok (yG (c,s,l)) λy=>y.1.length<=400/\(∀e∈y.1,Fp c.1 e/\EvS e)/\∃N ce fu,Acw c.1 y.1 N ce fu:=by
 unfold yG bk bB dQ bV bT bW bc c8 aI cS;refine qi (λx=>((l.length:Int)-x.1).toNat) (λx=>0<=x.1/\x.2.2.1=c/\SV x.2.1.length x.2.1 x.2.2.2.1/\SIv c x.2.1 x.2.2.2.1/\x.2.1.length<=400/\∀e∈x.2.1,Fp c.1 e/\EvS e) ?_ ⟨dg _,rfl,hs,hI,by simp,λe he=>(by cases he)⟩;rintro⟨(i:Int),es,A,s',z⟩ ⟨i0,e1,e2,eI,L,D⟩;subst e1;refine aV (λx=>x.2=(es,A,s',z)/\(x.1=J->i<(l.length:Int)/\es.length<400)) ?_ ?_
 .refine bQ (λg=>ak ⟨rfl,λh=>⟨g,?_⟩⟩) λ_=>ak ⟨rfl,nofun⟩
  rw[r_]at h
  grind
 rintro⟨b,x⟩ ⟨f1,f2⟩;subst f1;refine aQ (λh=>?_) λ_=>ak ⟨L,D,_,_,_,eI.ac⟩
 let⟨g1,g2⟩:=f2 h;refine aV (λx=>x.2.1=A/\SV x.1.length x.1 x.2.2.1/\SIv A x.1 x.2.2.1/\x.1.length<=400/\∀e∈x.1,Fp A.1 e/\EvS e) ?_ ?_
 .refine aR i0 g1 (aT ?_);refine aw (ag5 (n:=es.length) (by omega) A es s' _ _ hc e2 eI) λy hy=>?_
  refine aQ (λh=>?_) λ_=>ak ⟨rfl,e2,eI,L,D⟩
  let⟨h1,hJ,h2,h3⟩:=hy h;refine bG (by grind) (by omega) (ak ⟨rfl,?_,hJ,by simp;omega,λe he=>?_⟩)
  .grind
  .grind
 rintro⟨es',c2,s2,z2⟩ ⟨k1,k2,kI,k3,k4⟩;refine ak ?_;rw[iI (n:=i+1) (by omega) (by omega)]
 grind
def CB.vc {c:CT} (z:CB c):VC c:=by
 let⟨b,h1,A⟩:=Ye c z.th z.ins;rw[z.ok]at h1;cases h1;exact A rfl
def au7 (c:CT) (l:Y ν) (z:CB c) (N:l! l<=9223372036854775806):Ok (F4 (c,l)) λy=>TR y.1:=by
 refine aX z.ok (dK nofun λ_=>?_);have D:=z.vc;refine aw (aao c z.ok D) λs L=>?_
 refine aw (ao5 c s l z L.1 L.2 N) λy A=>ak ?_
 exact⟨D.vl.wb,D.vl,λe he=>(A.2.1 e he).1,by have:=A.1;dsimp only;omega,λe he=>(A.2.1 e he).2,z.wx,A.2.2⟩
def aay (l:η) (A:l! l<=1000000):Ok (tL l) λy=>l! y=l! l:=by
 refine bR (l! l) (λi x=>x.1=(i:Int)/\l! x.2=i) ?_ ?_ ⟨rfl,rfl⟩
 .rintro i ⟨a,b⟩ hi ⟨z,e2⟩;subst z;refine cU ?_;refine bF (aT (bF (aT (bG (by grind) (by omega) (ak ?_)))));exact⟨fL,by simp;omega⟩
 .rintro⟨a,b⟩ ⟨z,e2⟩;exact cO (ak e2)
def gg (e:Xp):eO (Xp.op e,Xp.n e,Xp.name e,Xp.l e)=e:=by cases e;rfl
def BP (s:Sx):oY (Sx.op s,Sx.line s,Sx.name s,Sx.arg s,Sx.index s,Sx.expr s,Sx.body s,Sx.els s)=s:=by cases s;rfl
abbrev NV:Y ζ:=[[97],[98],[120],[121],[118]]
def GE:Nat->Xp->Prop
 |0,_=>False
 |d+1,e=>(e.op=3->e.name=[113])/\(e.op≠1->e.op≠2->1<=l! e.l)/\l! e.l<=2/\(∀x∈e.l,GE d x)/\(e.op=2->e.name∈NV)/\(e.op≠1->e.op≠2->e.op≠3->2<=l! e.l/\6<=e.op/\e.op<=18)
def GE.mono:∀{d:Nat} {e:Xp},GE d e->GE (d+1) e
 |0,_,h=>h.elim
 |_+1,_,h=>⟨h.1,h.2.1,h.2.2.1,λx z=>(h.2.2.2.1 x z).mono,h.2.2.2.2⟩
def GE.le {e:Xp} (h:GE i e) (A:i<=j):GE j e:=by
 induction A with
 |refl=>exact h
 |step _ z=>exact z.mono
def S7 (n:Int):tu n=Z (.mk 1 n [] []):=rfl
def LB (s:ζ):qO s=Z (.mk 2 0 s []):=rfl
def IU (o:Int) (a b:Xp):oW (o,a,b)=Z (.mk o 0 [] [a,b]):=by
 cases a;cases b;rfl
def vO (s:ζ) (e:Xp):j9 (s,e)=Z (.mk 1 0 s [] [] e [] []):=by
 cases e;rfl
abbrev MK:Type:=X!
abbrev UE:Type:=n?
abbrev HD:Type:=Bool×Y ζ
def GE.num (n:Int) (d:Nat):GE (d+1) (.mk 1 n [] []):=⟨nofun,λh=>(h rfl).elim,by simp[Xp.l],λx z=>(by cases z),nofun,λh=>(h rfl).elim⟩
def GE.nm {s:ζ} (A:s∈NV) (d:Nat):GE (d+1) (.mk 2 0 s []):=⟨nofun,λ_ h=>(h rfl).elim,by simp[Xp.l],λx z=>(by cases z),λ_=>A,λ_ h=>(h rfl).elim⟩
def GE.bin {o b:Xp} (A:6<=a/\a<=18) (L:GE i o) (D:GE i b):GE (i+1) (.mk a 0 [] [o,b]):=
 ⟨λh=>(by have h:a=3:=h;omega),λ_ _=>by simp[Xp.l],by simp[Xp.l],λx z=>by
   simp[Xp.l,a_,cD,fH]at z;rcases z with rfl|rfl
   .exact L
   .exact D,λh=>(by have h:a=2:=h;omega),λ_ _ _=>⟨by simp[Xp.l],A⟩⟩
def GE.ix {a:Xp} (A:GE i a):GE (i+1) (.mk 3 0 [113] [a]):=
 ⟨λ_=>rfl,λ_ _=>by simp[Xp.l],by simp[Xp.l],λx z=>by
   simp[Xp.l,a_,cD,fH]at z;rw[z];exact A,nofun,λ_ _ h=>(h rfl).elim⟩
def Gx:∀(n d:Nat),d<n->d<=10->∀(m:MK) (t:UE) (h:HD),TP t->Ok (mc n ((d:Int),m,t,h)) λy=>GE (d+1) y.1/\y.2.1=m/\wZ t y.2.2.1/\y.2.2.2=h
 |0,d,hd,_,_,_,_,_=>by omega
 |n+1,d,hd,h10,m,t,h,ht=>by
  refine aw (gH 10 t ht) λy A=>?_
  let⟨k,t1⟩:=y;let⟨L,k0,k1,_⟩:=A;refine aV (λx=>x.2=(m,t1,h,(0,0,[]),[[97],[98],[120],[121],[118],[120],[121]])/\(x.1=af->2<=k/\(d=0->k<7))) ?_ ?_
  .refine bQ (λ_=>ak ⟨rfl,nofun⟩) λg=>aK (λg2=>ak ⟨rfl,λg3=>⟨g,λ_=>?_⟩⟩) λg2=>ak ⟨rfl,λ_=>⟨g,λh=>(g2 (by omega)).elim⟩⟩
   rw[m8]at g3;exact g3
  rintro⟨b,x⟩ ⟨e,hb⟩;dsimp only at e hb;subst e;refine aQ (λ_=>?_) λg=>?_
  .refine aw (gH 4 t1 L.p) λy A=>?_
   refine aX (S7 _) (ak ?_);exact⟨GE.num _ _,rfl,L.trans A.1,rfl⟩
  let⟨q0,q1⟩:=hb g;refine bQ (λg=>?_) λg=>?_
  .refine aw (gH _ t1 L.p) λy A=>?_
   let⟨u1,N,D,_⟩:=A;have D:=D (show (1:Int)<=7 by decide);refine aR N D (aR N D (aT ?_));refine aX (LB _) (ak ?_);have hnv:∀z∈([[97],[98],[120],[121],[118],[120],[121]]:Y ζ),z∈NV:=by decide
   exact⟨GE.nm (hnv _ (bK (T:=.str) N D)) _,rfl,L.trans u1,rfl⟩
  dsimp only at g;have hd0:d≠0:=λh=>by omega
  obtain⟨d,rfl⟩:∃k,d=k+1:=⟨d-1,by omega⟩
  refine aK (λg=>?_) λg=>?_
  .refine aw (Gx n 0 (by omega) (by omega) m t1 h L.p) λy A=>?_
   let⟨e,m',t',h'⟩:=y;let⟨v1,v2,v3,v4⟩:=A;subst v2 v4;refine bl (by simp) (ak ?_);dsimp only;rw[gg];exact⟨(GE.ix (v1.le (by omega):GE (d+1) e)),rfl,L.trans v3,rfl⟩
  .refine aw (gH _ t1 L.p) λy A=>?_
   let⟨k2,t2⟩:=y;let⟨u1,N,D,_⟩:=A;have D:=D (by decide);refine aR N D (aR N D (aT ?_));have ho:(6:Int)<=geti aP [6,7,8,11,13,17] k2/\geti aP [6,7,8,11,13,17] k2<=(18:Int):=by
    have h1:=bK (T:=aP) (xs:=([6,7,8,11,13,17]:η)) N D
    grind
   have ew:bn .i64 (((d+1:Nat):Int)-1)=(d:Int):=by rw[iI];omega
   dsimp only;rw[ew];refine aw (Gx n d (by omega) (by omega) m t2 h u1.p) λy A=>?_
   let⟨e,m',t',h'⟩:=y;let⟨v1,v2,v3,v4⟩:=A;subst v2 v4;refine bl (by simp) ?_;refine aw (Gx n d (by omega) (by omega) m' t' h' v3.p) λy A=>?_
   let⟨e2,m2,t2',h2⟩:=y;let⟨w1,w2,w3,w4⟩:=A;subst w2 w4;refine bl (by simp) ?_;refine aX (IU _ _ _) (ak ?_);dsimp only;rw[gg];exact⟨GE.bin ho v1 w1,rfl,L.trans (u1.trans (v3.trans w3)),rfl⟩
def aiy (d:Nat) (hd:d<=10) (m:MK) (t:UE) (h:HD) (ht:TP t):Ok (fG ((d:Int),m,t,h)) λy=>GE (d+1) y.1/\y.2.1=m/\wZ t y.2.2.1/\y.2.2.2=h:=Gx fuel d (by rw[kR];omega) hd m t h ht
section
def NE (op:Int):Prop:=op=1\/op=2\/op=3\/op=14
def ZE (e:Xp):Prop:=GE 4 e\/e= .mk 0 0 [] []
structure NO (nT:Nat) (s:Sx):Prop where
 o0:1<=s.op
 o1:s.op<=15
 vr:s.op=1->s.index=[]->s.name∈NV
 lk:s.op=4->s.name=[109]\/s.name=[110]
 rw:s.op=5\/s.op=6->s.name=[114]
 cn:s.op=9\/s.op=10\/s.op=11->s.name=[99]
 sp:s.op=12\/s.op=13->s.name∈zM.take nT
 se:s.op=14->s.name=[102]
 ge:s.op=15->s.name=[97]/\s.arg=[102]
 el:¬s.op=2->s.els=[]
 bo:s.op=1\/9<=s.op->s.body=[]
variable {nT:Nat}
def GS (nT:Nat):Nat->Sx->Prop
 |0,_=>False
 |d+1,s=>(s.index≠[]->s.name=[113])/\l! s.index<=1/\(∀e∈s.index,GE 4 e)/\(NE s.op->GE 4 s.expr)/\ZE s.expr/\l! s.body<=8/\l! s.els<=8/\(∀x∈s.body,GS nT d x)/\(∀x∈s.els,GS nT d x)/\NO nT s
def GS.mono:∀{d:Nat} {s:Sx},GS nT d s->GS nT (d+1) s
 |0,_,h=>h.elim
 |_+1,_,⟨a,b,c,e,f,g,i,j,k,l⟩=>⟨a,b,c,e,f,g,i,λx z=>(j x z).mono,λx z=>(k x z).mono,l⟩
def GS.le {s:Sx} (h:GS nT i s) (A:i<=j):GS nT j s:=by
 induction A with
 |refl=>exact h
 |step _ z=>exact z.mono
def NO.asg {s a:ζ} {e:Xp} {i:Y Xp} (z:i=[]->s∈NV):NO nT (.mk 1 0 s a i e [] []):=by
 constructor<;>simp[Sx.op,Sx.name,Sx.index,Sx.els,Sx.body];exact λh=>by simpa using z h
def GS.asg {s:ζ} (A:s∈NV) {e:Xp} (h:GE 4 e):GS nT (i+1) (.mk 1 0 s [] [] e [] []):=
 ⟨λh=>(h rfl).elim,by simp[Sx.index],λe he=>(by cases he),λ_=>h,.inl h,by simp[Sx.body],by simp[Sx.els],λx z=>(by cases z),λx z=>(by cases z),NO.asg λ_=>A⟩
def GS.aix {d e:Xp} (hi:GE 4 d) (h:GE 4 e):GS nT (i+1) (.mk 1 0 [113] [] [d] e [] []):=
 ⟨λ_=>rfl,by simp[Sx.index],λe he=>(by simp[Sx.index,aC]at he;rw[he];exact hi),λ_=>h,.inl h,by simp[Sx.body],by simp[Sx.els],λx z=>(by cases z),λx z=>(by cases z),NO.asg nofun⟩
def GS.we {op:Int} {s a:ζ} {e:Xp} {b l:Y Sx} (h:GE 4 e) (D:l! b<=8) (A:l! l<=8) (N:∀x∈b,GS nT i x) (L:∀x∈l,GS nT i x) (z:NO nT (.mk op 0 s a [] e b l)):GS nT (i+1) (.mk op 0 s a [] e b l):=
 ⟨λh=>(h rfl).elim,by simp[Sx.index],λe he=>(by cases he),λ_=>h,.inl h,D,A,N,L,z⟩
def GS.wo {op:Int} {s z:ζ} {b:Y Sx} (ho:4<=op/\op≠14) (L:l! b<=8) (N:∀x∈b,GS nT i x) (D:NO nT (.mk op a s z [] (.mk 0 0 [] []) b [])):GS nT (i+1) (.mk op a s z [] (.mk 0 0 [] []) b []):=
 ⟨λh=>(h rfl).elim,by simp[Sx.index],λe he=>(by cases he),λh=>(by have h:op=1\/op=2\/op=3\/op=14:=h;omega),.inr rfl,L,by simp[Sx.els],N,λx A=>(by cases A),D⟩
def QS (nT:Nat) (d:Nat) (n:Int) (t:UE) (h:HD) (y:MK×UE×HD×Y Sx):Prop:=(l! y.2.2.2:Int)<=max 0 n/\(∀s∈y.2.2.2,GS nT (d+1) s)/\wZ t y.2.1/\y.2.2.1.2=h.2
abbrev F!:=MK×UE×HD
def QT (nT:Nat) (d:Nat) (t:UE) (h:HD) (y:Sx×F!):Prop:=GS nT (d+1) y.1/\wZ t y.2.2.1/\y.2.2.2.2=h.2
def QB (nT:Nat) (d:Nat) (t:UE) (h:HD) (y:Y Sx×F!):Prop:=l! y.1<=2/\(∀s∈y.1,GS nT (d+1) s)/\wZ t y.2.2.1/\y.2.2.2.2=h.2
abbrev RS:Type:=(ν×F!)->M (MK×UE×HD×Y Sx)
abbrev RT:Type:=(Int×F!)->M (Sx×F!)
abbrev RBk:Type:=((ζ×Int)×F!)->M (Y Sx×F!)
def SpS (nT:Nat) (z:RS) (d:Nat):Prop:=∀(n:Int) (m:MK) (t:UE) (h:HD),n<=3->TP t->l! h.2+d<=100->Ok (z (((d:Int),n),m,t,h)) (QS nT d n t h)
def SpT (nT:Nat) (z:RT) (d:Nat):Prop:=∀(m:MK) (t:UE) (h:HD),TP t->l! h.2+d<=100->Ok (z ((d:Int),m,t,h)) (QT nT d t h)
def SpB (nT:Nat) (z:RBk) (d:Nat):Prop:=∀(s:ζ) (m:MK) (t:UE) (h:HD),TP t->l! h.2+1+d<=100->Ok (z ((s,(d:Int)),m,t,h)) (QB nT d t h)
def af3 (rs:RS) (L:RT) (rb:RBk) (d:Nat) (ht:SpT nT L d):SpS nT (nV rs L rb) d:=by
 intro n m t h hn hp hh;unfold nV bk bB bP c_ dQ ef bm bV bT c8 aI cS eT;refine qi (λx=>(n-x.1).toNat) (λx=>0<=x.1/\(x.1<=n\/x.1=0)/\wZ t x.2.2.1/\(l! x.2.2.2.1:Int)<=x.1/\(∀s∈x.2.2.2.1,GS nT (d+1) s)/\x.2.2.2.2.2=h.2) ?_ ⟨dg _,.inr rfl,wZ.refl hp,by simp,λs hs=>(by cases hs),rfl⟩;rintro⟨(i:Int),m',D,l,h'⟩ ⟨i0,i1,z,e2,N,A⟩;dsimp only at i0 i1 z e2 N A;refine aV (λx=>x.2=(m',D,l,h')/\(x.1=J->i<n)) ?_ ?_
 .refine bQ (λg=>aK (λ_=>ak ⟨rfl,λ_=>g⟩) λ_=>ak ⟨rfl,λ_=>g⟩) λ_=>ak ⟨rfl,nofun⟩
 rintro⟨b,x⟩ ⟨f1,f2⟩;subst f1;refine aQ (λhb=>?_) λ_=>ak ⟨by dsimp only;omega,N,z,A⟩
 have g:=f2 hb;refine aw (ht m' D h' z.p (by grind)) λy hy=>?_
 let⟨s,m2,t2,h2⟩:=y;let⟨k1,k2,k3⟩:=hy;refine bl (by simp) (bG (by grind) (by omega) (ak ?_));rw[gg,BP,iI (n:=i+1) (by omega) (by omega)];refine ⟨⟨by omega,by omega,z.trans k2,by simp;omega,λx hx=>?_,k3.trans A⟩,by omega⟩
 grind
def af6 (D:RS) (N:RT) (rb:RBk) (d:Nat) (hs:SpS nT D d):SpB nT (nW D N rb) d:=by
 intro s m t h hp hh;unfold nW bk bB c_ dQ bT bc;refine bG (by grind) (by omega) ?_;refine aw (gH 2 t hp) λy z=>?_
 let⟨k,L⟩:=y;let⟨A,u2,u3,_⟩:=z;have ew:bn .i64 (1+k)=1+k:=iI;rw[ew];refine aw (hs (1+k) m L (h.1,h.2++[s]) (by omega) A.p (by grind)) λy z=>?_
 let⟨m2,t2,h2,l⟩:=y;let⟨k1,k2,k3,k4⟩:=z;dsimp only at k1 k2 k3 k4;refine bl (by simp) ?_;rw[k4];have el:bn .i64 ((aS (l! (h.2++[s])))-1)=(l! h.2:Int):=by
  rw[bz,cH,iI (by simp) (by grind)];simp<;>omega
 refine cE (a? (Db (by grind) (ak ?_)));refine ⟨by dsimp only;omega,k2,A.trans k3,?_⟩;simp_all
def Gk (s:ζ) (m:MK) (t:UE) (h:HD) (hh:l! h.2<=100):Ok (fo (s,m,t,h)) λy=>y.2=(m,t,h):=by
 unfold fo dQ;exact aw (Bt h.2 s (by omega)) λy _=>ak rfl
def ajv (rs:RS) (rt:RT) (rb:RBk) (d:Nat) (hd:d<=5) (h0:1<=d->SpS nT rs 0) (hS:1<=d->SpS nT rs (d-1)) (hB:1<=d->SpB nT rb (d-1)):SpT nT (pf rs rt rb) d:=by
 intro m t h hp hh;unfold pf bk bB bP c_ dQ ef bm bV bT kf aI eT;refine aw (gH 18 t hp) λy D=>?_
 let⟨k,N⟩:=y;let⟨L,k0,k1,_⟩:=D;have k1:=k1 (by decide);dsimp only at L k0 k1;have hE:∀(j:Nat) (m':MK) (t':UE) (h':HD),j<=1->TP t'->Ok (fG ((j:Int),m',t',h')) λy=>GE 4 y.1/\y.2.1=m'/\wZ t' y.2.2.1/\y.2.2.2=h':=λj m' t' h' hj ht'=>(aiy j (by omega) m' t' h' ht').mono λy D=>⟨D.1.le (by omega),D.2⟩
 have ed:bn .i64 ((d:Int)-1)=(d:Int)-1:=iI;have ed1:1<=d->(d:Int)-1=((d-1:Nat):Int):=λ_=>by omega
 refine aV (λx=>x.2=((m.1,bn .i64 (m.2.1-1),m.2.2),N,(0,0,[],[],0,0,[]),h)/\(x.1=J->1<=d)) ?_ ?_
 .refine bQ (λg=>aT (bQ (λ_=>ak ⟨rfl,λ_=>?_⟩) λ_=>ak ⟨rfl,nofun⟩)) λ_=>ak ⟨rfl,nofun⟩
  dsimp only at g;omega
 generalize ((m.1,bn .i64 (m.2.1-1),m.2.2):MK)=m0;rintro⟨nest,x⟩ ⟨e,hn⟩;dsimp only at e hn;subst e;refine bQ (λ_=>?_) λg4=>?_
 .refine aR k0 (by dsimp only[aj];omega) (aR k0 (by dsimp only[aj];omega) (aT ?_));refine aw (hE 1 m0 N h (by omega) L.p) λy D=>?_
  let⟨e,m2,t2,h2⟩:=y;let⟨v1,v2,v3,v4⟩:=D;dsimp only at v1 v2 v3 v4;subst v2 v4;refine bl (by simp) (aX (vO _ _) (ak ?_));dsimp only;rw[gg,BP];have hnv:∀z∈([[120],[121],[120],[118]]:Y ζ),z∈NV:=by decide
  exact⟨GS.asg (hnv _ (bK (T:=.str) k0 (by dsimp only[aj];omega))) v1,L.trans v3,rfl⟩
 dsimp only at g4;refine aK (λ_=>?_) λg5=>?_
 .refine aw (gH 2 N L.p) λy D=>?_
  let⟨u1,u2,u3,_⟩:=D;have u3:=u3 (by decide);refine aR u2 u3 (aR u2 u3 (aT ?_));refine aw (hE 1 m0 y.2 h (by omega) u1.p) λz hz=>?_
  let⟨e,m2,t2,h2⟩:=z;let⟨v1,v2,v3,v4⟩:=hz;dsimp only at v1 v2 v3 v4;subst v2 v4;refine bl (by simp) (aX (vO _ _) (ak ?_));dsimp only;rw[gg,BP];have hnv:∀z∈([[97],[98]]:Y ζ),z∈NV:=by decide
  exact⟨GS.asg (hnv _ (bK (T:=.str) u2 u3)) v1,L.trans (u1.trans v3),rfl⟩
 dsimp only at g5;refine aK (λ_=>?_) λg6=>?_
 .refine aw (hE 0 m0 N h (by omega) L.p) λz hz=>?_
  let⟨e,m2,t2,h2⟩:=z;let⟨v1,v2,v3,v4⟩:=hz;dsimp only at v1 v2 v3 v4;subst v2 v4;refine bl (by simp) ?_;refine aw (hE 1 m2 t2 h2 (by omega) v3.p) λz hz=>?_
  let⟨e',m3,t3,h3⟩:=z;let⟨w1,w2,w3,w4⟩:=hz;dsimp only at w1 w2 w3 w4;subst w2 w4;refine bl (by simp) (ak ?_);dsimp only;rw[gg,gg];exact⟨GS.aix v1 w1,L.trans (v3.trans w3),rfl⟩
 dsimp only at g6;have hz:∀(c:Prop),c->c:=λ_ h=>h
 have dd:1<=d->d-1+1=d:=λ_=>by omega
 have w8:8<=k->bn .i64 (k-8)=k-8:=λ_=>iI
 refine aV (λx=>x.2=(m0,N,(0,0,[],[],0,0,[]),h)/\(x.1=J->1<=d)) ?_ ?_
 .refine aK (λ_=>ak ⟨rfl,λg=>?_⟩) λ_=>ak ⟨rfl,nofun⟩
  dsimp only at g;rw[r_]at g;omega
 rintro⟨b,x⟩ ⟨e,hb⟩;dsimp only at e hb;subst e;refine aQ (λA=>?_) λ_=>?_
 .have d1:=hb A;refine aw (hE 1 m0 N h (by omega) L.p) λz hz=>?_
  let⟨e,m2,t2,h2⟩:=z;let⟨v1,v2,v3,v4⟩:=hz;dsimp only at v1 v2 v3 v4;subst v2 v4;refine bl (by simp) ?_;dsimp only;rw[ed,ed1 d1];refine aw (hS d1 1 m2 t2 h2 (by omega) v3.p (by omega)) λz hz=>?_
  let⟨m3,t3,h3,l⟩:=z;let⟨w1,w2,w3,w4⟩:=hz;dsimp only at w1 w2 w3 w4;rw[dd d1]at w2;refine bl (by simp) ?_;refine aV (λx=>x.2.2.2.1=(2,0,[],[],e.op,e.n,e.name,e.l)/\wZ N x.2.1/\x.2.2.2.2.1.2=h2.2/\x.2.2.2.2.2.1=l/\l! x.2.2.2.2.2.2<=8/\∀s∈x.2.2.2.2.2.2,GS nT d s) ?_ ?_
  .refine aw (gH 2 t3 w3.p) λy D=>?_
   refine aK (λ_=>?_) λ_=>ak ⟨rfl,v3.trans (w3.trans D.1),w4,rfl,by simp,λs hs=>(by cases hs)⟩
   dsimp only;refine aw (hS d1 1 m3 y.2 h3 (by omega) D.1.p (by rw[w4];omega)) λz hz=>?_
   let⟨m4,t4,h4,l2⟩:=z;let⟨x1,x2,x3,x4⟩:=hz;dsimp only at x1 x2 x3 x4;rw[dd d1]at x2;exact bl (by simp) (ak ⟨rfl,v3.trans (w3.trans (D.1.trans x3)),x4.trans w4,rfl,by dsimp only;omega,x2⟩)
  rintro⟨m5,t5,z5,e5,h5,l5,l6⟩ ⟨x1,x2,x3,x4,x5,x6⟩;dsimp only at x1 x2 x3 x4 x5 x6;subst x1 x4;refine ak ?_;dsimp only;rw[gg];exact⟨GS.we v1 (by first|omega|(dsimp only;omega)) x5 w2 x6 (by constructor<;>simp[Sx.op,Sx.name,Sx.index,Sx.arg,Sx.els,Sx.body]),L.trans x2,x3⟩
 refine aV (λx=>x.2=(m0,N,(0,0,[],[],0,0,[]),h)/\(x.1=J->1<=d)) ?_ ?_
 .refine aK (λ_=>ak ⟨rfl,λg=>?_⟩) λ_=>ak ⟨rfl,nofun⟩
  dsimp only at g;rw[r_]at g;omega
 rintro⟨b,x⟩ ⟨e,hb⟩;dsimp only at e hb;subst e;refine aQ (λA=>?_) λ_=>?_
 .have d1:=hb A;refine aX (LB _) (aX (S7 _) (aX (IU _ _ _) ?_));dsimp only;rw[ed,ed1 d1];refine aw (hS d1 1 _ N h (by omega) L.p (by omega)) λz hz=>?_
  let⟨m3,t3,h3,l⟩:=z;let⟨w1,w2,w3,w4⟩:=hz;dsimp only at w1 w2 w3 w4;rw[dd d1]at w2;refine bl (by simp) ?_;refine aX (LB _) (aX (S7 _) (aX (IU _ _ _) (aX (vO _ _) ?_)));refine a! (ak ?_);dsimp only;rw[gg,gg,BP];refine ⟨GS.we (GE.bin (by omega) (GE.nm (by decide) 2) (GE.num _ 2)) (by simp;omega) (by simp) (λx hx=>?_) (λx hx=>(by cases hx)) (by constructor<;>simp[Sx.op,Sx.name,Sx.index,Sx.arg,Sx.els,Sx.body]),L.trans w3,w4⟩;rcases bO.1 hx with hx|hx
  .exact w2 x hx
  .rw[aC]at hx;subst hx;rw[<- dd d1];exact GS.asg (by decide) (GE.bin (by omega) (GE.nm (by decide) 2) (GE.num _ 2))
 refine aV (λx=>x.2=(m0,N,(0,0,[],[],0,0,[]),h)/\(x.1=J->nest=J/\(k=8\/k=9))) ?_ ?_
 .refine aK (λg=>aQ (λgn=>?_) λ_=>ak ⟨rfl,nofun⟩) λ_=>aK (λg=>aQ (λgn=>?_) λ_=>ak ⟨rfl,nofun⟩) λ_=>ak ⟨rfl,nofun⟩
  all_goals
   dsimp only at g ⊢;rw[w8 (by omega)];refine aR (by omega) (by simp;omega) (aR (by omega) (by simp;omega) (aT ?_));refine aw (Gk _ m0 N h (by omega)) λy D=>?_
   let⟨yb,y2⟩:=y;dsimp only at D;subst D;exact bl (by simp) (ak ⟨rfl,λ_=>⟨gn,by omega⟩⟩)
 rintro⟨b,x⟩ ⟨e,hb⟩;dsimp only at e hb;subst e;refine aQ (λA=>?_) λ_=>?_
 .obtain⟨q1,q2⟩:=hb A;have d1:=hn q1;have hnm:geti (.str) [[109],[110]] (k-8)=[109]\/geti (.str) [[109],[110]] (k-8)=[110]:=by rcases q2 with rfl|rfl<;>simp[geti]
  dsimp only;rw[w8 (by omega),ed,ed1 d1];refine aR (by omega) (by simp;omega) (aR (by omega) (by simp;omega) (aT ?_));refine aw (hB d1 _ m0 N h L.p (by omega)) λz hz=>?_
  let⟨l,m3,t3,h3⟩:=z;let⟨w1,w2,w3,w4⟩:=hz;dsimp only at w1 w2 w3 w4;rw[dd d1]at w2;exact bl (by simp) (ak ⟨GS.wo (by omega) (by first|omega|(dsimp only;omega)) w2 (by constructor<;>simp[Sx.op,Sx.name,Sx.index,Sx.arg,Sx.els,Sx.body];exact hnm),L.trans w3,w4⟩)
 refine aV (λx=>x.2=(m0,N,(0,0,[],[],0,0,[]),h)/\(x.1=J->nest=J/\(k=10\/k=11))) ?_ ?_
 .refine aK (λg=>aQ (λgn=>?_) λ_=>ak ⟨rfl,nofun⟩) λ_=>aK (λg=>aQ (λgn=>?_) λ_=>ak ⟨rfl,nofun⟩) λ_=>ak ⟨rfl,nofun⟩
  all_goals
   dsimp only at g ⊢;refine aw (Gk _ m0 N h (by omega)) λy D=>?_
   let⟨yb,y2⟩:=y;dsimp only at D;subst D;exact bl (by simp) (ak ⟨rfl,λ_=>⟨gn,by omega⟩⟩)
 rintro⟨b,x⟩ ⟨e,hb⟩;dsimp only at e hb;subst e;refine aQ (λA=>?_) λ_=>?_
 .obtain⟨q1,q2⟩:=hb A;have d1:=hn q1;dsimp only;rw[ed,ed1 d1,iI (n:=k-10) (by omega) (by omega),iI (n:=k-10+5) (by omega) (by omega)];refine aw (hB d1 _ m0 N h L.p (by omega)) λz hz=>?_
  let⟨l,m3,t3,h3⟩:=z;let⟨w1,w2,w3,w4⟩:=hz;dsimp only at w1 w2 w3 w4;rw[dd d1]at w2;exact bl (by simp) (ak ⟨GS.wo (by omega) (by first|omega|(dsimp only;omega)) w2 (by constructor<;>simp[Sx.op,Sx.name,Sx.index,Sx.arg,Sx.els,Sx.body]<;>omega),L.trans w3,w4⟩)
 refine aV (λx=>x.2=(m0,N,(0,0,[],[],0,0,[]),h)/\(x.1=J->nest=J)) ?_ ?_
 .exact aK (λ_=>ak ⟨rfl,λg=>g⟩) λ_=>ak ⟨rfl,nofun⟩
 rintro⟨b,x⟩ ⟨e,hb⟩;dsimp only at e hb;subst e;refine aQ (λA=>?_) λ_=>?_
 .have d1:=hn (hb A);refine aw (gH 2 N L.p) λy D=>?_
  let⟨u1,u2,u3,_⟩:=D;have u3:=u3 (by decide);dsimp only;rw[iI (n:=1+y.1) (by omega) (by omega)];refine aw (h0 d1 (1+y.1) _ y.2 h (by omega) u1.p (by omega)) λz hz=>?_
  let⟨m3,t3,h3,l⟩:=z;let⟨w1,w2,w3,w4⟩:=hz;dsimp only at w1 w2 w3 w4;exact bl (by simp) (ak ⟨GS.wo (by omega) (by first|omega|(dsimp only;omega)) (λx hx=>(w2 x hx).le (by omega)) (by constructor<;>simp[Sx.op,Sx.name,Sx.index,Sx.arg,Sx.els,Sx.body]),L.trans (u1.trans w3),w4⟩)
 refine aV (λx=>x.2=(m0,N,(0,0,[],[],0,0,[]),h)/\(x.1=J->nest=J)) ?_ ?_
 .exact aK (λ_=>aQ (λgn=>ak ⟨rfl,λ_=>gn⟩) λ_=>ak ⟨rfl,nofun⟩) λ_=>ak ⟨rfl,nofun⟩
 rintro⟨b,x⟩ ⟨e,hb⟩;dsimp only at e hb;subst e;refine aQ (λA=>?_) λ_=>?_
 .have d1:=hn (hb A);dsimp only;rw[ed,ed1 d1];refine aw (hS d1 2 _ N h (by omega) L.p (by omega)) λz hz=>?_
  let⟨m3,t3,h3,l⟩:=z;let⟨w1,w2,w3,w4⟩:=hz;dsimp only at w1 w2 w3 w4;rw[dd d1]at w2;exact bl (by simp) (ak ⟨GS.wo (by omega) (by first|omega|(dsimp only;omega)) w2 (by constructor<;>simp[Sx.op,Sx.name,Sx.index,Sx.arg,Sx.els,Sx.body]),L.trans w3,w4⟩)
 refine aV (λx=>x.2=(m0,N,(0,0,[],[],0,0,[]),h)/\(x.1=J->nest=J)) ?_ ?_
 .refine aK (λ_=>aQ (λgn=>aQ (λ_=>?_) λ_=>ak ⟨rfl,nofun⟩) λ_=>ak ⟨rfl,nofun⟩) λ_=>ak ⟨rfl,nofun⟩
  refine aw (Gk _ m0 N h (by omega)) λy D=>?_
  let⟨yb,y2⟩:=y;dsimp only at D;subst D;exact bl (by simp) (ak ⟨rfl,λ_=>gn⟩)
 rintro⟨b,x⟩ ⟨e,hb⟩;dsimp only at e hb;subst e;refine aQ (λA=>?_) λ_=>?_
 .have d1:=hn (hb A);refine aX (LB _) (aX (vO _ _) (ak ?_));dsimp only;rw[gg,BP];refine ⟨GS.wo (by omega) (by simp) (λx hx=>?_) (by constructor<;>simp[Sx.op,Sx.name,Sx.index,Sx.arg,Sx.els,Sx.body]),L,rfl⟩;simp only[a_,cD,fH]at hx;rw[<- dd d1];rcases hx with rfl|rfl
  .exact GS.wo (by omega) (by simp) (λx hx=>(by cases hx)) (by constructor<;>simp[Sx.op,Sx.name,Sx.index,Sx.arg,Sx.els,Sx.body])
  .exact GS.asg (by decide) (GE.nm (by decide) 3)
 refine aV (λx=>x.2=(m0,N,(0,0,[],[],0,0,[]),h)/\(x.1=J->nest=J)) ?_ ?_
 .refine aK (λ_=>aQ (λgn=>?_) λ_=>ak ⟨rfl,nofun⟩) λ_=>ak ⟨rfl,nofun⟩
  refine aw (Gk _ m0 N h (by omega)) λy D=>?_
  let⟨yb,y2⟩:=y;dsimp only at D;subst D;exact bl (by simp) (ak ⟨rfl,λ_=>gn⟩)
 rintro⟨b,x⟩ ⟨e,hb⟩;dsimp only at e hb;subst e;refine aQ (λA=>?_) λ_=>?_
 .have d1:=hn (hb A);refine aw (gH 2 N L.p) λy D=>ak ?_
  let⟨u1,u2,u3,_⟩:=D;have u3:=u3 (by decide);dsimp only;rw[iI (n:=10+y.1) (by omega) (by omega)];refine ⟨GS.wo (by omega) (by simp) (λx hx=>?_) (by constructor<;>simp[Sx.op,Sx.name,Sx.index,Sx.arg,Sx.els,Sx.body]),L.trans u1,rfl⟩;simp only[a_,cD,fH]at hx;rw[hx,<-dd d1];exact GS.wo (by omega) (by simp) (λx hx=>(by cases hx)) (by constructor<;>simp[Sx.op,Sx.name,Sx.index,Sx.arg,Sx.els,Sx.body]<;>omega)
 refine aV (λx=>x.2=(m0,N,(0,0,[],[],0,0,[]),h)) ?_ ?_
 .exact aK (λ_=>aQ (λ_=>aQ (λ_=>ak rfl) λ_=>ak rfl) λ_=>ak rfl) λ_=>ak rfl
 rintro⟨b,x⟩ e;dsimp only at e;subst e;refine aQ (λA=>?_) λ_=>?_
 .refine aw (hE 1 _ N h (by omega) L.p) λz hz=>?_
  let⟨e,m2,t2,h2⟩:=z;let⟨v1,v2,v3,v4⟩:=hz;dsimp only at v1 v2 v3 v4;subst v2 v4;refine bl (by simp) (ak ?_);dsimp only;rw[gg];exact⟨GS.we v1 (by simp) (by simp) (λx hx=>(by cases hx)) (λx hx=>(by cases hx)) (by constructor<;>simp[Sx.op,Sx.name,Sx.index,Sx.arg,Sx.els,Sx.body]),L.trans v3,rfl⟩
 refine aV (λx=>x.2.1=m0/\wZ N x.2.2.1/\x.2.2.2.2=h) ?_ ?_
 .refine aK (λ_=>aQ (λ_=>?_) λ_=>ak ⟨rfl,wZ.refl L.p,rfl⟩) λ_=>ak ⟨rfl,wZ.refl L.p,rfl⟩
  exact aw (gH 2 N L.p) λy D=>ak ⟨rfl,D.1,rfl⟩
 rintro⟨b,m9,t9,z9,h9⟩ ⟨e1,e2,e3⟩;dsimp only at e1 e2 e3;subst e1 e3;refine aQ (λA=>?_) λ_=>?_
 .exact ak ⟨GS.wo (by omega) (by simp) (λx hx=>(by cases hx)) (by constructor<;>simp[Sx.op,Sx.name,Sx.index,Sx.arg,Sx.els,Sx.body]),L.trans e2,rfl⟩
 refine aw (hE 1 _ t9 h9 (by omega) e2.p) λz hz=>?_
 let⟨e,m2,t2,h2⟩:=z;let⟨v1,v2,v3,v4⟩:=hz;dsimp only at v1 v2 v3 v4;subst v2 v4;refine bl (by simp) (aX (vO _ _) (ak ?_));dsimp only;rw[gg,BP];exact⟨GS.asg (by decide) v1,L.trans (e2.trans v3),rfl⟩
def RH:∀(n:Nat),(∀d:Nat,d<=5->3*d+1<=n->SpT nT (fh n) d)/\(∀d:Nat,d<=5->3*d+2<=n->SpS nT (dY n) d)/\(∀d:Nat,d<=5->3*d+3<=n->SpB nT (eM n) d)
 |0=>⟨λd _ h=>by omega,λd _ h=>by omega,λd _ h=>by omega⟩
 |n+1=>by
  let⟨D,z,L⟩:=RH n;refine ⟨λd h1 A=>?_,λd h1 A=>?_,λd h1 A=>?_⟩
  .exact ajv (dY n) (fh n) (eM n) d h1 (λh=>z 0 (by omega) (by omega)) (λh=>z (d-1) (by omega) (by omega)) (λh=>L (d-1) (by omega) (by omega))
  .exact af3 (dY n) (fh n) (eM n) d (D d h1 (by omega))
  .exact af6 (dY n) (fh n) (eM n) d (z d h1 (by omega))
def aeg (d:Nat) (hd:d<=5):SpS nT r7 d:=(RH fuel).2.1 d hd (by rw[kR];omega)
end
end
end Go.Proofs.YtcmnmakaoonfgaaGreatDoor.AI
