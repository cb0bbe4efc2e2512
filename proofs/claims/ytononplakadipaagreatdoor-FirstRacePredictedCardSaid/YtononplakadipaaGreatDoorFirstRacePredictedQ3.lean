/-
  Texts of the proof, part 4 of 6: what is used to prove the statement. No condition.
-/
import Derived.Test.YtononplakadipaaGreatDoorFirstRacePredictedQ2
namespace Go.Proofs.YtononplakadipaaGreatDoor.AI
open Go.RowKit
set_option maxRecDepth 100000
set_option maxHeartbeats 4000000
set_option linter.unusedVariables false
set_option linter.unusedSimpArgs false
set_option linter.defProp false
open _root_.Bool renaming true→J,false→af
open _root_.Classical renaming propDecidable→gU
open _root_.Int renaming ofNat_eq_natCast→ax,toNat→aL,ofNat→aZ,reduceEq→bP,toNat_natCast→dH,reduceNeg→dP,tmod→vE,le_trans→yd
open IntKind renaming wrap→kx
open _root_.List renaming length→l!,length→ah,replicate→aA,length_singleton→bJ,take→cG,foldl_cons→dN,range→dV,cons_append→gj,length_cons→gQ,length_nil→jB,nil_append→lP,take_succ_cons→zu,getElem_of_mem→zB,take_take→Ef
open _root_.List.cons renaming inj→G8
open _root_.Nat renaming beq→aB,add_zero→dR
open _root_.Option renaming some→Z,none→U
open _root_.Prod renaming a→bf,b→bB,c→bN,d→cg,e→cM,h→dh,f→dD,g→gE,i→iD,j→qY,l→sL,n→xZ,p8→Eb,m→I4,k→MJ
noncomputable section
def nJ:η->Int->η
 |[],n=>[n]
 |x::r,n=>if x<n then x::nJ r n else if x=n then x::r else n::x::r
def Jp (n:Int):∀(i:Nat) (l:η),i<=l! l->(∀k,k<i->l.getD k 0<n)->nJ l n=l.take i++nJ (l.drop i) n
 |0,l,_,_=>b8
 |i+1,[],h,_=>by simp at h
 |i+1,x::r,h,hk=>by
  have h0:=hk 0 M;simp at h0;have:=Jp n i r cf (λk q=>by have:=hk (k+1) M;simpa using this);rw[nJ,aD h0,this,zu,LZ,gj]
def KF (n:Int):∀l:η,l! (nJ l n)<=l! l+1
 |[]=>by simp[nJ]
 |x::r=>by
  have:=KF n r;rw[nJ];split;simp;omega;split<;>simp
def Nw {n y:Int}:∀{l:η},y∈nJ l n↔y=n\/y∈l
 |[]=>by simp[nJ]
 |x::r=>by
  have:=Nw (n:=n) (y:=y) (l:=r);rw[nJ];split
  grind
  grind
def LX:η->Prop
 |[]=>True
 |x::r=>(∀y∈r,x<y)/\LX r
variable {a:Int}
def W_ :∀{l:η},LX l->LX (nJ l a)
 |[],_=>by simp[nJ,LX]
 |x::r,h=>by
  rw[nJ];split;rename_i A;refine ⟨λy q=>?_,W_ h.2⟩;rcases Nw.1 q with rfl|q;exact A;exact h.1 y q;split;exact h;rename_i h1 h2;refine ⟨λy q=>?_,h⟩;rcases bc.1 q with rfl|q;omega;have:=h.1 y q;omega
def aq6 (l:η) (n:Int) (hl:l! l<=1000000):zV (l,n)=Z (nJ l n):=by
 refine bZ ?_;unfold zV bO bT bM a8 cW aJ cH;have fin:∀i:Nat,i<=l! l->(∀k,k<i->l.getD k 0<n)->(i<l! l->¬l.getD i 0<n/\l.getD i 0≠n)->l.take i++[n]++l.drop i=nJ l n:=λi hi hk hn=>by
  rw[Jp n i l hi hk];cases hd:l.drop i with
  |nil=>simp[nJ]
  |cons y r=>
   have hlt:i<l! l:=cf;have A:l.getD i 0=y:=by
    rw[aC,<-List.head?_drop,hd];rfl
   let⟨h1,h2⟩:=hn hlt;rw[A]at h1 h2;rw[nJ,av h1,av h2];simp
 refine bX (l! l) (λi x=>x=(i:Int)/\∀k,k<i->l.getD k 0<n) ?_ ?_ ⟨rfl,λk hk=>M⟩
 .rintro i x hi ⟨rfl,q⟩;by_cases hlt:l.getD i 0<n
  .with_reducible repeat' first|apply OS.ok;constructor|refine IM.mk λ_=>?_
   all_goals try simp only[ax,sN] at*
   all_goals first|omega|skip
   refine ⟨iC,λk hk=>?_⟩
   grind
   rename_i h;exact bi hlt (iZ.2 h)
  .have key:l.getD i 0=n->nJ l n=l:=λhe=>by
    rw[Jp n i l M q];cases hd:l.drop i with
    |nil=>have:=eZ ah hd;simp at this;omega
    |cons y r=>
     have A:l.getD i 0=y:=by rw[aC,<-List.head?_drop,hd];rfl
     rw[A]at he;rw[nJ,av M,aD he,<-hd,FR]
   with_reducible repeat' first|apply OS.ok;constructor|refine IM.mk λ_=>?_
   all_goals try simp only[ax,sN] at*
   all_goals first|omega|skip
   rename_i h;exact bi h hlt
   .refine ay (P:=λr=>r=nJ l n) ?_ λr I=>ak I
    with_reducible repeat' first|apply OS.ok;constructor|refine IM.mk λ_=>?_
    all_goals try simp only[ax,sN] at*
    all_goals first|omega|skip
    rename_i h;exact (key h).symm;simp;omega;simp;omega;simp;omega;rename_i h;simpa using fin i M q (λ_=>⟨hlt,h⟩)
 .rintro x ⟨rfl,q⟩;with_reducible repeat' first|apply OS.ok;constructor|refine IM.mk λ_=>?_
  all_goals try simp only[ax,sN] at*
  all_goals first|omega|skip
  refine ay (P:=λr=>r=nJ l n) ?_ λr I=>ak I
  with_reducible repeat' first|apply OS.ok;constructor|refine IM.mk λ_=>?_
  all_goals try simp only[ax,sN] at*
  all_goals first|omega|skip
  simp;omega;simp;omega;simp;omega;simpa using fin (l! l) M q (λh=>M)
def xR (a b:η):η:=b.foldl nJ (a.foldl nJ [])
def Ag:∀(b acc:η),l! (b.foldl nJ acc)<=l! acc+l! b
 |[],acc=>b8
 |x::r,acc=>by
  have:=Ag r (nJ acc x);have:=KF x acc;rw[dN,gQ];omega
def OR:∀{b acc:η},LX acc->LX (b.foldl nJ acc)
 |[],_,h=>h
 |x::r,acc,h=>by rw[dN];exact OR (W_ h)
def OQ :∀{b acc:η},a∈b.foldl nJ acc↔a∈acc\/a∈b
 |[],acc=>b8
 |x::r,acc=>by
  rw[dN,OQ,Nw]
  grind
def Wu (a b:η):LX (xR a b):=OR (OR trivial)
variable {c:η}
def mA {b:η} {y:Int}:y∈xR c b↔y∈c\/y∈b:=by unfold xR;rw[OQ,OQ];simp
def alh (a b:η):l! (xR a b)<=l! a+l! b:=by
 have:=Ag b (a.foldl nJ []);have:=Ag a [];unfold xR;simp at *;omega
variable {i:Nat}
def S8 {acc:η} (hi:i<l! c):(c.take (i+1)).foldl nJ acc=nJ ((c.take i).foldl nJ acc) (c.getD i 0):=by
 rw[qZ hi,dG,aC,aI hi];rfl
def ZC (a b:η) (ha:l! a<=400000) (I:l! b<=400000):xi (a,b)=Z (xR a b):=by
 refine bZ ?_;refine bX (l! a) (λi x=>x.2=(i:Int)/\x.1=(a.take i).foldl nJ []) ?_ ?_ ⟨rfl,rfl⟩
 .rintro i ⟨x1,x2⟩ hi ⟨h1,h2⟩;subst h1 h2;have q:l! ((a.take i).foldl nJ [])<=1000000:=by have:=Ag (a.take i) [];simp at *;omega
  with_reducible repeat' first|apply OS.ok;constructor|refine IM.mk λ_=>?_
  all_goals try simp[ax,sN] at*
  all_goals first|omega|skip
  refine aV (aq6 _ _ q) (ak ?_);refine ⟨iC,?_⟩;rw[OH,S8 hi]
 .rintro⟨x1,x2⟩ ⟨h1,h2⟩;subst h1 h2;rw[cO];have hla:=Ag a [];with_reducible repeat' first|apply OS.ok;constructor|refine IM.mk λ_=>?_
  all_goals try simp[ax,sN] at*
  all_goals first|omega|skip
  refine ay (P:=λr=>r=xR a b) ?_ λr A=>ak A
  refine bX (l! b) (λi x=>x.2=(i:Int)/\x.1=(b.take i).foldl nJ (a.foldl nJ [])) ?_ ?_ ⟨rfl,rfl⟩
  .rintro i ⟨x1,x2⟩ hi ⟨h1,h2⟩;subst h1 h2;have q:l! ((b.take i).foldl nJ (a.foldl nJ []))<=1000000:=by have:=Ag (b.take i) (a.foldl nJ []);simp at *;omega
   with_reducible repeat' first|apply OS.ok;constructor|refine IM.mk λ_=>?_
   all_goals first|omega|skip
   refine aV (aq6 _ _ q) (ak ?_);refine ⟨iC,?_⟩;rw[OH,S8 hi]
  .rintro⟨x1,x2⟩ ⟨h1,h2⟩;subst h1 h2;rw[cO];with_reducible repeat' first|apply OS.ok;constructor|refine IM.mk λ_=>?_
   all_goals first|omega|rfl
def FX (c:Int) (x:c!):Bool:=decide (x.1=3)&&decide (x.2.1=c)
def wl (th:Y c!) (c:Int):Nat->η
 |0=>[]
 |i+1=>if FX c (aE iH th (i:Int)) then wl th c i++[(i:Int)] else wl th c i
def vH (th:Y c!) (c:Int):∀i,l! (wl th c i)<=i
 |0=>bg _
 |i+1=>by have:=vH th c i;rw[wl];split<;>simp<;>omega
def oS {th:Y c!} {c u:Int}:∀{i:Nat},u∈wl th c i↔0<=u/\u<i/\FX c (aE iH th u)=J
 |0=>by simp[wl];omega
 |i+1=>by
  have q:= @oS th c u i;rw[wl]
  grind
variable {Q:Y (Int×Int×Bool)}
def aCd (h1:(aE iH Q (i:Int)).1=3) (h2:(aE iH Q (i:Int)).2.1=a):wl Q a (i+1)=wl Q a i++[(i:Int)]:=by
 rw[wl,aD];unfold FX;rw[h1,h2];simp
def avx (h1:¬(aE iH Q (i:Int)).1=3):wl Q a (i+1)=wl Q a i:=by
 rw[wl,av];unfold FX;rw[bE h1];simp
def avw (h1:¬(aE iH Q (i:Int)).2.1=a):wl Q a (i+1)=wl Q a i:=by
 rw[wl,av];unfold FX;rw[bE h1];simp
def Qo (s:SY) (c:Int) (q:l! s.2.2.2<=1000):pD (s,c)=Z (wl s.2.2.2 c (l! s.2.2.2)):=by
 refine bZ ?_;unfold pD cg bp bO bT bM a8 cW aJ cH;refine bX (l! s.2.2.2) (λi x=>x=((i:Int),s,wl s.2.2.2 c i)) ?_ ?_ rfl
 .rintro i x hi rfl;have A:=vH s.2.2.2 c i;with_reducible repeat' first|apply OS.ok;constructor|refine IM.mk λ_=>?_
  all_goals try simp only[ax,sN] at*
  all_goals first|omega|skip
  all_goals first|(simp;omega)|skip
  rename_i h1 h2;rw[aCd h1 h2,iC];rename_i h1 h2;rw[avw h2,iC];rename_i h1;rw[avx h1,iC]
 .rintro x rfl;with_reducible repeat' first|apply OS.ok;constructor|refine IM.mk λ_=>?_
  all_goals try simp[ax,sN] at*
  all_goals first|omega|rfl
def wo (l:η) (n:Int):η:=l.filter λx=> !decide (x=n)
def Z2 (l:η) (n:Int) (A:l! l<=1000000):sW (l,n)=Z (wo l n):=by
 refine bZ ?_;unfold sW bO jP bT bM a8 cW aJ cH;refine bX (l! l) (λi x=>x=((i:Int),wo (l.take i) n)) ?_ ?_ rfl
 .rintro i x hi rfl;have q:l! (wo (l.take i) n)<=i:=cR (List.length_filter_le ..) (sM ..);have ht:wo (l.take (i+1)) n=if aE aO l (i:Int)=n then wo (l.take i) n else wo (l.take i) n++[aE aO l (i:Int)]:=by
   unfold wo;rw[qZ hi,List.filter_append,OH,aC,aI hi]
   grind
  with_reducible repeat' first|apply OS.ok;constructor|refine IM.mk λ_=>?_
  all_goals try simp only[ax,sN] at*
  all_goals first|omega|skip
  simp;omega;rename_i h;rw[ht,av h,iC];rename_i h;rw[ht,aD h,iC]
 .rintro x rfl;with_reducible repeat' first|apply OS.ok;constructor|refine IM.mk λ_=>?_
  all_goals try simp[ax,sN] at*
  all_goals first|omega|(rw [cO])
def lM {T:Ty} {xs:Y T.den} (hi:i<ah xs):cG (i+1) xs=cG i xs++[aE _ xs (i:Int)]:=by
 rw[qZ hi,sD,aC,aI hi];rfl
def ahr (s:SY) (q:SB i s):jQ s=Z (s.2.1,s.1,s.2.2.1,s.2.2.2):=by
 refine bZ ?_;let⟨A,s2,s3,I⟩:=s;have hn:=q.n1;have g1:=q.lk;have g2:=q.dn;have g3:=q.th;dsimp only at g1 g2 g3;unfold jQ bf bB bN cg dh bO bT bM a8 cW aJ cH;with_reducible repeat' first|apply OS.ok;constructor|refine IM.mk λ_=>?_
 simp;omega;omega;simp;omega;omega;refine bX (l! A) (λn x=>x=((n:Int),(A,s2,s3,I),0,s2,A.take n,s3,I)) ?_ ?_ b8
 .rintro n x hi rfl;have hg:=q.rd _ (be (T:=dU) (xs:=A) (j:=(n:Int)) M M);with_reducible repeat' first|apply OS.ok;constructor|refine IM.mk λ_=>?_
  all_goals try simp only[ax,sN] at*
  all_goals first|omega|skip
  simp;omega;simp;omega;rw[iC,lM (T:=dU) hi];rfl
 .rintro x rfl;with_reducible repeat' first|apply OS.ok;constructor|refine IM.mk λ_=>?_
  all_goals try simp only[ax,sN] at*
  all_goals first|omega|skip
  simp
def LR (s:SY) (c:Int) (A:l! s.2.2.2<=1000):mE ((s.2.1,c),s.1,s.2.2.1,s.2.2.2)=Z (wl s.2.2.2 c (l! s.2.2.2)):=by
 refine bZ ?_;refine ay (P:=λy=>y=(wl s.2.2.2 c (l! s.2.2.2),s.1,s.2.2.1,s.2.2.2)) ?_ λy q=>by subst q;exact as3 rfl (ak rfl)
 unfold nZ bf bB bN cg dh bp bO bT nI a8 cW aJ cH;refine bX (l! s.2.2.2) (λi x=>x=((i:Int),s.1,s.2.2.1,s.2.2.2,s.2.1,wl s.2.2.2 c i)) ?_ ?_ rfl
 .rintro i x hi rfl;have I:=vH s.2.2.2 c i;with_reducible repeat' first|apply OS.ok;constructor|refine IM.mk λ_=>?_
  all_goals try simp only[ax,sN] at*
  all_goals first|omega|skip
  all_goals first|(simp;omega)|skip
  rename_i h1 h2;rw[aCd h1 h2,iC];rename_i h1 h2;rw[avw h2,iC];rename_i h1;rw[avx h1,iC]
 .rintro x rfl;with_reducible repeat' first|apply OS.ok;constructor|refine IM.mk λ_=>?_
  all_goals try simp[ax,sN] at*
  all_goals first|omega|rfl
structure AP (n:Nat) (s y:SY):Prop where
 a1:l! y.1=l! s.1
 a2:l! y.2.2.1=l! s.2.2.1
 a3:l! y.2.2.2=l! s.2.2.2
 rd:∀l∈y.1,l! l.2<=n+1
def AP.toSB {s y:SY} (h:AP i s y) (q:SB i s) (A:i+1<=100000):SB (i+1) y:=
 ⟨A,by rw[h.a1];exact q.lk,h.rd,by rw[h.a2];exact q.dn,by rw[h.a3];exact q.th⟩
def AP.same {s:SY} (q:SB i s) (x:Int) (d:θ) (t:Y c!) (hd:l! d=l! s.2.2.1) (ht:l! t=l! s.2.2.2):AP i s (s.1,x,d,t):=
 ⟨rfl,hd,ht,λl A=>gX (q.rd l A)⟩
def AP.set {s:SY} (q:SB i s) (j a:Int) (r:η) (A:l! r<=i+1) (x:Int) (d:θ) (t:Y c!) (hd:l! d=l! s.2.2.1) (ht:l! t=l! s.2.2.2):AP i s (bW s.1 j (a,r),x,d,t):=
 ⟨bu _ _ _,hd,ht,λl I=>by
   rcases li I with h|rfl;exact gX (q.rd l h);exact A⟩
def xQ (th:Y c!) (t st:Int):Y c!:=bW th t (st,(aE iH th t).2)
def owP (q:Y d!) (o t:Int):Y d!:=bW q o (t,(aE dU q o).2)
def rdP (q:Y d!) (o:Int) (l:η):Y d!:=bW q o ((aE dU q o).1,l)
def cdP (th:Y c!) (t c:Int):Y c!:=bW th t ((aE iH th t).1,c,(aE iH th t).2.2)
def atP (th:Y c!) (t:Int) (b:Bool):Y c!:=bW th t ((aE iH th t).1,(aE iH th t).2.1,b)
def GY (th:Y c!) (l:η):Y c!:=l.foldl (λx u=>xQ x u 4) th
def CJ (l:η) (u:Int):Int:=if (l! l)=0 then -1 else if l.contains u then u else aE aO l 0
def L7 (w:WT) (o:Int):Int:=(aE itK w.2.2.1 o).2
abbrev Y?:=SY×Int
def ku (w:WT) (s:SY) (t k o u:Int):Y?:=
 if k=1 then ((s.1,s.2.1,s.2.2.1,xQ s.2.2.2 t 2),0)
 else if k=2 then ((s.1,s.2.1,s.2.2.1,xQ s.2.2.2 t 5),0)
 else if k=6\/k=10 then ((owP s.1 o t,s.2),0)
 else if k=7\/k=11 then ((owP s.1 o (-1),s.2),0)
 else if k=8 then ((rdP s.1 o (xR (aE dU s.1 o).2 [t]),s.2),0)
 else if k=9 then ((rdP s.1 o (wo (aE dU s.1 o).2 t),s.2),0)
 else if k=12 then ((s.1,t,s.2.2),0)
 else if k=13 then ((s.1,-1,s.2.2),0)
 else if k=14 then ((s.1,s.2.1,s.2.2.1,atP s.2.2.2 t J),0)
 else if k=15 then ((s.1,s.2.1,s.2.2.1,atP s.2.2.2 t af),0)
 else if k=16 then ((owP s.1 (L7 w o) (-1),s.2.1,s.2.2.1,cdP (xQ s.2.2.2 t 3) t o),0)
 else if k=17 then ((owP s.1 (L7 w o) t,s.2.1,s.2.2.1,cdP (xQ s.2.2.2 t 2) t 0),0)
 else if k=18 then (if (l! (wl s.2.2.2 o (l! s.2.2.2)))=0 then (s,-1) else ((s.1,s.2.1,s.2.2.1,xQ s.2.2.2 (CJ (wl s.2.2.2 o (l! s.2.2.2)) u) 4),CJ (wl s.2.2.2 o (l! s.2.2.2)) u))
 else if k=19 then ((s.1,s.2.1,s.2.2.1,GY s.2.2.2 (wl s.2.2.2 o (l! s.2.2.2))),(l! (wl s.2.2.2 o (l! s.2.2.2)):Int))
 else if k=20 then ((s.1,s.2.1,s.2.2.1,xQ s.2.2.2 o 1),0)
 else if k=22 then ((s.1,s.2.1,bW s.2.2.1 o J,s.2.2.2),0)
 else (s,0)
def Es (l:η):∀th,l! (GY th l)=l! th:=by
 induction l with
 |nil=>intro th;rfl
 |cons x r q=>intro th;unfold GY;rw[dN];exact (q _).trans (bu ..)
def amt (hi:i<l! c):GY Q (c.take (i+1))=xQ (GY Q (c.take i)) (aE aO c (i:Int)) 4:=by
 unfold GY;rw[qZ hi,dG,OH,aC,aI hi];rfl
def BH (u:Int) (q:¬l! c=0):CJ c u∈c:=by
 unfold CJ;rw[av q];split;rename_i h;exact ca.1 h;exact be (T:=aO) M M
def QJ (w:WT) (s:SY) (q:SB i s) (hw:l! w.2.2.1<=1000) (t k o u:Int):Ok (rJ (w,s,t,k,o,u)) λy=>(y.2.2=J->EN w s t k o/\FO w s t k o/\AP i s y.1/\(y.1,y.2.1)=ku w s t k o u)/\(y.2.2=af->y.1=([],0,[],[]))/\(j5 (w,s,t,k,o)=Z J->y.2.2=J):=by
 unfold rJ bf bB bN cM cg dD dh iD ck bp bO bM nI a8 cW aJ cH;obtain⟨b,hb0,hb⟩:=QH w s q hw t k o;refine aV hb0 ?_;refine dJ (λh=>ak ⟨nofun,λ_=>rfl,λh2=>(by rw[hb0,h]at h2;cases h2)⟩) (λh=>?_);obtain⟨he,hry⟩:=hb h;refine aV (ahr s q) ?_;suffices hmain:Ok _ _ from a6 (λx=>AP i s (x.2.2.2.1,x.2.1,x.2.2.2.2)/\((x.2.2.2.1,x.2.1,x.2.2.2.2),x.1)=ku w s t k o u) hmain λx hx=>ak ⟨λ_=>⟨he,hry,hx⟩,nofun,λ_=>rfl⟩
 obtain⟨nm,t0,t1,cd,e1,e2,e3⟩:=id he;obtain⟨_,_,ce,lk,cn,th,fu⟩:=nm;have hn:=q.n1;have hlk:=q.lk;have hm:16<=k/\k<=19->0<=(aE itK w.2.2.1 o).2/\(aE itK w.2.2.1 o).2<l! w.2.1:=λh=>cd _ (be (cn h).1 (cn h).2)
 have hr:∀j:Int,0<=j->j<l! s.1->(aE dU s.1 j).2.length<=i:=λj h0 h1=>q.rd _ (be (T:=dU) h0 h1)
 cases kdI k
 case no hk _=>omega
 all_goals simp only[bP,dP,QP]
 all_goals with_reducible repeat' first|apply OS.ok;constructor|refine IM.mk λ_=>?_
 all_goals try simp only[ax,sN] at*
 all_goals try rw[bu]
 all_goals first|omega|exact (hm ⟨cr,cr⟩).1|exact e1▸(hm ⟨cr,cr⟩).2|exact⟨AP.same q _ _ _ rfl rfl,rfl⟩|exact⟨AP.same q _ _ _ rfl (bu _ _ _),rfl⟩|exact⟨AP.same q _ _ _ (bu _ _ _) rfl,rfl⟩|skip
 all_goals try exact⟨AP.set q _ _ _ (gX (hr o M M)) _ _ _ rfl rfl,rfl⟩
 .have:=hr o M M;refine aV (ZC _ _ (cR this (by have:=q.n1;omega)) b8) ?_;with_reducible repeat' first|apply OS.ok;constructor|refine IM.mk λ_=>?_
  all_goals try simp only[ax,sN] at*
  all_goals first|omega|skip
  exact⟨AP.set q _ _ _ (by have:=alh (aE dU s.1 o).2 [t];simp at this;omega) _ _ _ rfl rfl,rfl⟩
 .have:=hr o M M;have hl:l! (wo (aE dU s.1 o).2 t)<=(aE dU s.1 o).2.length:=List.length_filter_le ..;refine aV (Z2 _ _ M) ?_;with_reducible repeat' first|apply OS.ok;constructor|refine IM.mk λ_=>?_
  all_goals try simp only[ax,sN] at*
  all_goals first|omega|skip
  exact⟨AP.set q _ _ _ (cR hl M) _ _ _ rfl rfl,rfl⟩
 exact⟨AP.set q _ _ _ (gX (hr _ (hm ⟨cr,cr⟩).1 (by rw[e1];exact (hm ⟨cr,cr⟩).2))) _ _ _ rfl (by rw[bu,bu]),rfl⟩;exact⟨AP.set q _ _ _ (gX (hr _ (hm ⟨cr,cr⟩).1 (by rw[e1];exact (hm ⟨cr,cr⟩).2))) _ _ _ rfl (by rw[bu,bu]),rfl⟩
 .refine aV (LR s o q.th) ?_;have hth:=q.th;have hll:=vH s.2.2.2 o (l! s.2.2.2);have hml:∀u∈wl s.2.2.2 o (l! s.2.2.2),0<=u/\u<l! s.2.2.2:=λu I=>⟨(oS.1 I).1,(oS.1 I).2.1⟩
  have hap:ku w s t 18 o u=if (l! (wl s.2.2.2 o (l! s.2.2.2)))=0 then (s,-1) else ((s.1,s.2.1,s.2.2.1,xQ s.2.2.2 (CJ (wl s.2.2.2 o (l! s.2.2.2)) u) 4),CJ (wl s.2.2.2 o (l! s.2.2.2)) u):=rfl
  unfold CJ at hap;revert hll hml hap;generalize wl s.2.2.2 o (l! s.2.2.2)=l;intro hll hml hap;with_reducible repeat' first|apply OS.ok;constructor|refine IM.mk λ_=>?_
  all_goals try simp only[ax,sN] at*
  all_goals first|omega|skip
  have A:=hml _ (be (T:=aO) (xs:=l) (j:=0) M M);rw[av M,av M]at hap;simp only[QD l u M,UL];refine aR (λhc=>?_) λhc=>?_
  have I:=hml u (ca.1 hc);rw[hc,aD rfl]at hap;refine ak (aS I.1 I.2 (aS I.1 I.2 (ak ⟨AP.same q _ _ _ rfl (bu ..),?_⟩)));rw[hap];rfl;rw[hc,av cr]at hap;refine ak (aS A.1 A.2 (aS A.1 A.2 (ak ⟨AP.same q _ _ _ rfl (bu ..),?_⟩)));rw[hap];rfl;rw[aD M]at hap;exact⟨AP.same q _ _ _ rfl rfl,hap.symm⟩
 .refine aV (LR s o q.th) ?_;have hth:=q.th;have hll:=vH s.2.2.2 o (l! s.2.2.2);have hml:∀u∈wl s.2.2.2 o (l! s.2.2.2),0<=u/\u<l! s.2.2.2:=λu I=>⟨(oS.1 I).1,(oS.1 I).2.1⟩
  have hap:ku w s t 19 o u=((s.1,s.2.1,s.2.2.1,GY s.2.2.2 (wl s.2.2.2 o (l! s.2.2.2))),(l! (wl s.2.2.2 o (l! s.2.2.2)):Int)):=rfl;rw[hap];clear hap;generalize wl s.2.2.2 o (l! s.2.2.2)=l at hll hml ⊢;refine bX (l! l) (λn x=>x=((n:Int),s.2.1,0,s.1,s.2.2.1,GY s.2.2.2 (l.take n))) ?_ ?_ rfl
  .rintro n x hi rfl;have A:=hml _ (be (T:=aO) (xs:=l) (j:=(n:Int)) M M);have hq:=Es (l.take n) s.2.2.2;with_reducible repeat' first|apply OS.ok;constructor|refine IM.mk λ_=>?_
   all_goals try simp only[ax,sN] at*
   all_goals first|omega|skip
   rw[iC,amt hi];rfl
  .rintro x rfl;rw[cO];with_reducible repeat' first|apply OS.ok;constructor|refine IM.mk λ_=>?_
   all_goals try simp only[ax,sN] at*
   all_goals first|omega|skip
   exact AP.same q _ _ _ rfl (Es ..)
abbrev SN:Type:=SY×η×u!
abbrev ET:Type:=Q!
def asp (a b:Int):HB (a,b)=Z (decide (0<=a/\a<b)):=Xu a b
structure NB (n:Nat) (s:SN):Prop where
 sb:SB n s.1
 c:l! s.2.1<=1000
 f:l! s.2.2.1<=1000
 k:l! s.2.2.2<=1000
structure SP (n:Nat) (s y:SN):Prop where
 ap:AP n s.1 y.1
 c:l! y.2.1=l! s.2.1
 f:l! y.2.2.1=l! s.2.2.1
 k:l! y.2.2.2=l! s.2.2.2
def SP.NB {s y:SN} (h:SP i s y) (q:NB i s) (A:i+1<=100000):NB (i+1) y:=
 ⟨h.ap.toSB q.sb A,by rw[h.c];exact q.c,by rw[h.f];exact q.f,by rw[h.k];exact q.k⟩
def sn0:SN:=(([],0,[],[]),[],[],[])
structure F16 (w:WT) (s:SN):Prop where
 c:l! s.2.1=l! w.1
 f:l! s.2.2.1=l! w.2.2.2.1
 k:l! s.2.2.2=l! w.2.2.2.2.1
def akr (w:WT) (s:SN) (q:l! w.2.2.1<=1000):Ok (wQ (w,s)) λb=>b=J->F16 w s:=by
 unfold wQ bf bB bN dD bp a8 aJ;refine h_ (ay (Wi w s.1 M) λb A=>?_);with_reducible repeat' first|apply OS.ok;constructor|refine IM.mk λ_=>?_
 all_goals try simp[ax,sN] at*
 all_goals first|(intro h;constructor<;>omega)|(intro h;cases h;done)
def ahd:∀(l:η),(∀k:Nat,k+1<l! l->l.getD k 0<l.getD (k+1) 0)->LX l
 |[],_=>trivial
 |[x],_=>⟨λy I=>(by cases I),trivial⟩
 |x::y::r,h=>by
  have A:=ahd (y::r) λk hk=>by have:=h (k+1) cf;simpa using this
  have h0:=h 0 b8;simp at h0;refine ⟨λz q=>?_,A⟩;rcases bc.1 q with rfl|q;exact h0;have:=A.1 z q;omega
structure AN (c:Int) (l:η):Prop where
 a:LX l
 m:∀x:Int,x∈l->1<=x/\x<c
def EK:∀(l:η) (q hi:Int),LX l->(∀y∈l,q<=y/\y<hi)->(l! l:Int)<=max 0 (hi-q)
 |[],q,hi,_,_=>ye
 |x::r,q,hi,h,hm=>by
  have h1:=hm x (bU ..);have h2:=EK r (x+1) hi h.2 λy A=>⟨by have:=h.1 y A;omega,(hm y (bx _ A)).2⟩
  grind
def AN.len {l:η} (h:AN a l):(l! l:Int)<=max 0 a:=by
 have:=EK l 1 a h.a h.m;omega
def ayo {l:Int} (q:∀k:Nat,k<i->1<=aE aO c (k:Int)/\aE aO c (k:Int)<l) (I:∀k:Nat,k+1<i->c.getD k 0<c.getD (k+1) 0):(i:Int)<=max 0 l:=by
 have key:∀k:Nat,k<i->(k:Int)+1<=c.getD k 0:=by
  intro k;induction k with
  |zero=>intro hk;have:=(q 0 hk).1;exact this
  |succ k A=>grind
 rcases Nat.eq_zero_or_pos i with z|z;omega;have h1:=key (i-1) M;have h2:=(q (i-1) M).2;rw[OH]at h2
 grind
def NQ (l:η) (c:Int) (hl:l! l<=1000000000\/c<=1000000000):Ok (pB (l,c)) λb=>b=J->AN c l:=by
 refine bX (l! l) (λi x=>x=(i:Int)/\(∀k:Nat,k<i->1<=aE aO l (k:Int)/\aE aO l (k:Int)<c)/\∀k:Nat,k+1<i->l.getD k 0<l.getD (k+1) 0) ?_ ?_ ⟨rfl,λk hk=>M,λk hk=>M⟩
 .rintro i x hi ⟨rfl,q,A⟩;have hbd:i<=1000000000:=by
   have:=ayo q A;omega
  have I:0<(i:Int)->aU .i64 ((i:Int)-1)=((i-1:Nat):Int):=λh=>by rw[iF];omega
  have hq:(0<i->l.getD (i-1) 0<l.getD i 0)->1<=aE aO l (i:Int)/\aE aO l (i:Int)<c->aU .i64 ((i:Int)+1)=((i+1:Nat):Int)/\(∀k:Nat,k<i+1->1<=aE aO l (k:Int)/\aE aO l (k:Int)<c)/\∀k:Nat,k+1<i+1->l.getD k 0<l.getD (k+1) 0:=λg1 g2=>by
   exact⟨iC,λk hk=>cf,λk hk=>cf⟩
  with_reducible repeat' first|apply OS.ok;constructor|refine IM.mk λ_=>?_
  all_goals try simp only[ax,sN] at*
  all_goals first|omega|(intro h;cases h;done)|(rw [I M];omega)|skip
  rename_i h1 h2 h3 h4;rw[I h3,OH,OH]at h4
  grind
  grind
 .rintro x ⟨rfl,q,A⟩;with_reducible repeat' first|apply OS.ok;constructor|refine IM.mk λ_=>?_
  all_goals try simp only[ax,sN] at*
  all_goals first|omega|skip
  exact⟨ahd l λk hk=>A k hk,ij (T:=aO) q⟩
structure VA (w:WT) (sy:SY) (ce fu:η) (t k o v:Int):Prop where
 ld:k=3->v=aE aO ce o
 gt:k=23->v=aE aO fu o
 br:k=5->v=0\/v=1
 el:¬k=3->¬k=23->¬k=5->¬k=4->¬k=22->v=(ku w sy t k o v).2
def ite2 {c:Prop} [Decidable c] {a b:Y?} (A:a.2=0) (q:b.2=0):(if c then a else b).2=0:=by by_cases h:c<;>simp[h,A,q]
def apm (w:WT) (q:SY) (t k o u:Int) (h1:¬k=18) (h2:¬k=19):(ku w q t k o u).2=0:=by
 unfold ku;rw[av h1,av h2];repeat (first|exact rfl|refine ite2 rfl ?_)
def TY (w:WT) (q:SY) (t k o u A:Int) (h1:¬k=18):ku w q t k o u=ku w q t k o A:=by
 unfold ku;rw[av h1,av h1]
def D7 (w:WT) (q:SY) (t o u:Int):ku w q t 18 o u=if (l! (wl q.2.2.2 o (l! q.2.2.2)))=0 then (q,-1) else ((q.1,q.2.1,q.2.2.1,xQ q.2.2.2 (CJ (wl q.2.2.2 o (l! q.2.2.2)) u) 4),CJ (wl q.2.2.2 o (l! q.2.2.2)) u):=rfl
def apo (w:WT) (q:SY) (t o u:Int):(ku w q t 19 o u).2=(l! (wl q.2.2.2 o (l! q.2.2.2)):Int):=rfl
def ald (w:WT) (s:SN) (hs:NB i s) (hf:F16 w s) (e:ET) (he:EN w s.1 e.1 e.2.1 e.2.2.1):Ok (xf (s,e)) λb=>b=J->VA w s.1 s.2.1 s.2.2.1 e.1 e.2.1 e.2.2.1 e.2.2.2.1:=by
 let⟨t,k,o,v,si,de,fr⟩:=e;let⟨A,s2,s3,s4⟩:=s;let⟨nm,t0,t1,cd,e1,e2,e3⟩:=he;let⟨_,_,ce,lk,cn,th,fu,_,_,_⟩:=nm;let⟨f1,f2,f3⟩:=hf;have hth:=hs.sb.th;dsimp only at*
 have hW:=Qo A o hth;have hWl:=vH A.2.2.2 o (l! A.2.2.2);refine aN (λh=>?_) λn3=>?_
 have h:k=3:=h;let⟨c0,c1⟩:=ce (.inl h);exact aS c0 cf (aX (ak λh2=>⟨λ_=>a_ h2,λq=>M,λq=>M,λq=>(q h).elim⟩));refine aN (λh=>?_) λI=>?_
 have h:k=23:=h;let⟨c0,c1⟩:=fu (.inr h);exact aS c0 cf (aX (ak λh2=>⟨λq=>M,λ_=>a_ h2,λq=>M,λ_ q=>(q h).elim⟩));refine aN (λh=>?_) λn5=>?_
 have h:k=5:=h;exact h_ (aN (λh2=>ak (ak λ_=>⟨λq=>M,λq=>M,λ_=>.inl h2,λ_ _ q=>(q h).elim⟩)) λ_=>ak (ak λh2=>⟨λq=>M,λq=>M,λ_=>.inr (a_ h2),λ_ _ q=>(q h).elim⟩));refine a6 (λx=>x.2=((A,s2,s3,s4),t,k,o,v,si,de,fr)/\(x.1=J->k=4\/k=22)) (aN (λh=>ak ⟨rfl,λ_=>.inl h⟩) λ_=>ak ⟨rfl,λh=>.inr (a_ h)⟩) ?_;rintro⟨b,x⟩ ⟨e,hb⟩;subst e;refine aR (λh=>ak λ_=>⟨λq=>(n3 q).elim,λq=>(I q).elim,λq=>(n5 q).elim,λ_ _ _ h4 h5=>(hb h).elim (λh=>(h4 h).elim) λh=>(h5 h).elim⟩) λ_=>?_
 have fin:v=(ku w A t k o v).2->VA w A s2 s3 t k o v:=λh=>⟨λq=>(n3 q).elim,λq=>(I q).elim,λq=>(n5 q).elim,λ_ _ _ _ _=>h⟩
 refine aN (λh=>?_) λn18=>?_
 have h:k=18:=h;subst h;rw[D7]at fin;refine aV hW ?_;revert fin hWl;generalize wl A.2.2.2 o (l! A.2.2.2)=l;intro hWl fin;refine aN (λh=>ak λh2=>fin cf) λh=>?_
 dsimp [ax]at h;have hne:¬l! l=0:=M;refine h_ (eX (λ_=>bF (λ_=>?_) λ_=>ak (ak nofun)) λ_=>ak (ak nofun));refine aV (QD _ _ M) (ak (ak λh2=>fin ?_));rw[av hne];unfold CJ;rw[av hne,aD h2];refine aN (λh=>?_) λn19=>?_
 have h:k=19:=h;subst h;exact aV hW (ak λh2=>fin (a_ h2));exact ak λh2=>fin (by rw[apm _ _ _ _ _ _ n18 n19];exact a_ h2)
structure S16 (w:WT) (s:SN) (e:ET):Prop where
 rd:FO w s.1 e.1 e.2.1 e.2.2.1
 s1:e.2.1=1\/e.2.1=2->e.2.2.2.2.1= -1
 s2:¬(e.2.1=1\/e.2.1=2)->0<=e.2.2.2.2.1/\e.2.2.2.2.1<l! w.2.2.2.2.2/\(aE rZ w.2.2.2.2.2 e.2.2.2.2.1).1=e.1
 de:0<l! e.2.2.2.2.2.1->e.2.1=5\/(e.2.1=3\/e.2.1=4)/\¬(aE mS w.1 e.2.2.1).2.2.1=0
 fr:0<l! e.2.2.2.2.2.2->e.2.1=4\/e.2.1=22
 nd:AN (aE aO s.2.2.2 e.1) e.2.2.2.2.2.1
 nf:AN (aE aO s.2.2.2 e.1) e.2.2.2.2.2.2
 va:VA w s.1 s.2.1 s.2.2.1 e.1 e.2.1 e.2.2.1 e.2.2.2.1
def Zn (q:η) (e:ET):η:=if e.2.1=4 then bW q e.2.2.1 e.2.2.2.1 else q
def ZY (q:η) (e:ET):η:=if e.2.1=22 then bW q e.2.2.1 e.2.2.2.1 else q
def nxP (w:WT) (s:SN) (e:ET):SN:=((ku w s.1 e.1 e.2.1 e.2.2.1 e.2.2.2.1).1,Zn s.2.1 e,ZY s.2.2.1 e,bW s.2.2.2 e.1 (aU .i64 (aE aO s.2.2.2 e.1+1)))
def T4 (w:WT) (s:SN) (hs:NB i s) (hw:l! w.2.2.1<=1000) (e:ET) (hd:l! e.2.2.2.2.2.1<=1000000000\/(aE aO s.2.2.2 e.1:Int)<=1000000000) (hf:l! e.2.2.2.2.2.2<=1000000000\/(aE aO s.2.2.2 e.1:Int)<=1000000000):Ok (nY (w,s,e)) λy=>(y.2=J->EN w s.1 e.1 e.2.1 e.2.2.1/\SP i s y.1/\S16 w s e/\y.1=nxP w s e)/\(y.2=af->y.1=sn0):=by
 have hz:∀{Q:SN×Bool->Prop},Q (sn0,af)->Ok (Z (sn0,af)) Q:=λh=>ak h
 have z0:((sn0,af).2=J->EN w s.1 e.1 e.2.1 e.2.2.1/\SP i s (sn0,af).1/\S16 w s e/\(sn0,af).1=nxP w s e)/\((sn0,af).2=af->(sn0,af).1=sn0):=⟨nofun,λ_=>rfl⟩
 unfold nY bf bB bN cM gE cg dD dh iD sL ck bp bO jP bT bM nI a8 cW aJ cH;refine a6 (λx=>x.2=(w,s,e,0)/\(x.1=af->F16 w s/\(EN w s.1 e.1 e.2.1 e.2.2.1/\FO w s.1 e.1 e.2.1 e.2.2.1)/\j5 (w,s.1,e.1,e.2.1,e.2.2.1)=Z J)) ?_ ?_
 .refine ay (akr w s hw) λb hb=>?_
  with_reducible repeat' first|apply OS.ok;constructor|refine IM.mk λ_=>?_
  exact⟨rfl,nofun⟩;simp only[asp,UL];with_reducible repeat' first|apply OS.ok;constructor|refine IM.mk λ_=>?_
  exact⟨rfl,nofun⟩;exact⟨rfl,nofun⟩;exact⟨rfl,nofun⟩;let⟨c,hc0,hc⟩:=QH w s.1 hs.sb hw e.1 e.2.1 e.2.2.1;refine aV hc0 (ak ⟨rfl,λh=>?_⟩);have h:c=J:=by simpa using h
  exact⟨hb (by assumption),hc h,h▸hc0⟩
 rintro⟨x1,x2⟩ ⟨q,hx⟩;dsimp only at q hx;subst q;refine aR (λ_=>hz z0) λh1=>?_
 let⟨hF,⟨hE,hR⟩,hEn⟩:=hx h1;clear hx h1;refine a6 (λx=>x=(w,s,e,0)/\(e.2.1=1\/e.2.1=2->e.2.2.2.2.1= -1)/\(¬(e.2.1=1\/e.2.1=2)->0<=e.2.2.2.2.1/\e.2.2.2.2.1<l! w.2.2.2.2.2/\(aE rZ w.2.2.2.2.2 e.2.2.2.2.1).1=e.1)) ?_ ?_;refine a6 (λx=>x.2=(w,s,e,0)/\(x.1=J->e.2.1=1\/e.2.1=2)/\(x.1=af->¬(e.2.1=1\/e.2.1=2))) ?_ ?_;refine aN (λh=>ak ⟨rfl,λ_=>.inl h,nofun⟩) λh=>ak ⟨rfl,λh2=>.inr (a_ h2),λh2=>?_⟩
 have:=m8 h2;exact λI=>I.elim h this
 rintro⟨x1,x2⟩ ⟨q,hy1,hy2⟩;dsimp only at q hy1 hy2;subst q;refine aR (λhk=>bY (λ_=>ak z0) λh=>ak ⟨rfl,λ_=>h,λI=>(I (hy1 hk)).elim⟩) λhk=>?_
 refine a6 (λx=>x.2=(w,s,e,0)/\(x.1=af->0<=e.2.2.2.2.1/\e.2.2.2.2.1<l! w.2.2.2.2.2/\(aE rZ w.2.2.2.2.2 e.2.2.2.2.1).1=e.1)) ?_ ?_;simp only[asp,UL];refine bY (λ_=>ak ⟨rfl,nofun⟩) λh=>aS h.1 h.2 (aX (ak ⟨rfl,λh2=>⟨h.1,h.2,?_⟩⟩))
 simpa using h2;rintro⟨x1,x2⟩ ⟨q,hz⟩;dsimp only at q hz;subst q;exact aR (λ_=>ak z0) λh=>ak ⟨rfl,λI=>((hy2 hk) I).elim,λ_=>hz h⟩
 rintro x ⟨rfl,hS1,hS2⟩;let⟨nm,t0,t1,cd,e1,e2,e3⟩:=id hE;let⟨_,_,ce,lk,cn,th,fu,_,_,_⟩:=nm;let⟨f1,f2,f3⟩:=id hF;refine a6 (λx=>x.2=(w,s,e,0)/\(x.1=J->e.2.1=3\/e.2.1=4)) ?_ ?_
 .with_reducible repeat' first|apply OS.ok;constructor|refine IM.mk λ_=>?_
  exact⟨rfl,λ_=>.inl (by assumption)⟩;exact⟨rfl,λh=>.inr (a_ h)⟩
 rintro⟨x1,x2⟩ ⟨q,A⟩;dsimp only at q A;subst q;refine a6 (λx=>x.2=(w,s,e,0)/\(x.1=af->0<l! e.2.2.2.2.2.1->e.2.1=5\/(e.2.1=3\/e.2.1=4)/\¬(aE mS w.1 e.2.2.1).2.2.1=0)) ?_ ?_;refine bF (λ_=>bY (λ_=>aR (λh=>?_) λ_=>ak ⟨rfl,nofun⟩) λh5=>ak ⟨rfl,λ_ _=>.inl h5⟩) λh=>ak ⟨rfl,λ_ h2=>?_⟩
 refine aS (ce (A h)).1 (ce (A h)).2 (aX (ak ⟨rfl,λh2 _=>.inr ⟨A h,?_⟩⟩));simpa using h2;dsimp only[ax]at h;omega;rintro⟨x1,x2⟩ ⟨q,hDe⟩;dsimp only at q hDe;subst q;refine aR (λ_=>hz z0) λhde=>?_
 refine a6 (λx=>x.2=(w,s,e,0)/\(x.1=af->0<l! e.2.2.2.2.2.2->e.2.1=4\/e.2.1=22)) ?_ ?_;refine bF (λ_=>bY (λ_=>ak ⟨rfl,λh _=>.inr (by simpa using h)⟩) λh4=>ak ⟨rfl,λ_ _=>.inl h4⟩) λh=>ak ⟨rfl,λ_ h2=>?_⟩
 dsimp only[ax]at h;omega;rintro⟨x1,x2⟩ ⟨q,hFr⟩;dsimp only at q hFr;subst q;refine aR (λ_=>hz z0) λhfr=>?_
 have hk:=hs.k;have hc:=hs.c;have hfu:=hs.f;refine a6 (λx=>x.2=(w,s,e,0)/\(x.1=af->AN (aE aO s.2.2.2 e.1) e.2.2.2.2.2.1/\AN (aE aO s.2.2.2 e.1) e.2.2.2.2.2.2/\VA w s.1 s.2.1 s.2.2.1 e.1 e.2.1 e.2.2.1 e.2.2.2.1)) ?_ ?_;have hv:=ald w s hs hF e hE;refine aS t0 (by rw[f3];exact t1) (aX (ay (NQ _ _ hd) λb hb=>?_));refine dJ (λ_=>ak ⟨rfl,nofun⟩) λb1=>?_
 refine aS t0 (by rw[f3];exact t1) (aX (ay (NQ _ _ hf) λb hb2=>?_));refine dJ (λ_=>ak ⟨rfl,nofun⟩) λb2=>?_
 exact ay hv λb hb3=>ak ⟨rfl,λh=>⟨hb b1,hb2 b2,hb3 (by simpa using h)⟩⟩
 rintro⟨x1,x2⟩ ⟨q,hNum⟩;dsimp only at q hNum;subst q;refine aR (λ_=>hz z0) λhnu=>?_
 let⟨hN1,hN2,hVA⟩:=hNum hnu;have hS:S16 w s e:=⟨hR,hS1,hS2,hDe hde,hFr hfr,hN1,hN2,hVA⟩
 refine a! (a! (a! ?_));refine a6 (λx=>x.2=(w,s,e,0,0,s.2.1,s.2.2.1,s.2.2.2)/\ku w s.1 e.1 e.2.1 e.2.2.1 x.1=ku w s.1 e.1 e.2.1 e.2.2.1 e.2.2.2.1) ?_ ?_;exact aN (λ_=>ak ⟨rfl,rfl⟩) λh=>ak ⟨rfl,TY _ _ _ _ _ _ _ h⟩
 rintro⟨x1,x2⟩ ⟨q,hxu⟩;dsimp only at q hxu;subst q;refine ay (QJ w s.1 hs.sb hw e.1 e.2.1 e.2.2.1 x1) λy hy=>?_
 let⟨_,_,hap,hyq⟩:=hy.1 (hy.2.2 hEn);rw[hxu]at hyq;refine a6 (λx=>x.1=e/\x.2.2.1=y.1/\x.2.2.2.1=Zn s.2.1 e/\x.2.2.2.2=(s.2.2.1,s.2.2.2)) ?_ ?_
 .unfold Zn;refine aN (λh=>?_) λh=>ak ⟨rfl,rfl,(av h).symm,rfl⟩
  have hc4:=ce (.inr h);with_reducible repeat' first|apply OS.ok;constructor|refine IM.mk λ_=>?_
  all_goals try simp only[ax,sN] at*
  all_goals first|omega|exact (aD h).symm
 rintro⟨x1,x2,x3,x4,x5,x6⟩ ⟨h1,h2,I,h4⟩;simp only[aT]at h1 h2 I h4;obtain⟨rfl,rfl⟩:=h4;subst h1 h2 I;refine a6 (λx=>x.1=x1/\x.2.2.1=y.1/\x.2.2.2.1=Zn s.2.1 x1/\x.2.2.2.2.1=ZY s.2.2.1 x1/\x.2.2.2.2.2=s.2.2.2) ?_ ?_
 .unfold ZY;refine aN (λh=>?_) λh=>ak ⟨rfl,rfl,rfl,(av h).symm,rfl⟩
  have hc4:=fu (.inl h);with_reducible repeat' first|apply OS.ok;constructor|refine IM.mk λ_=>?_
  all_goals try simp only[ax,sN] at*
  all_goals first|omega|exact (aD h).symm
 rintro⟨x1,x2,x3,x4,x5,x6⟩ ⟨h1,h2,h4,h5,h6⟩;simp only at h1 h2 h4 h5 h6;subst h1 h2 h4 h5 h6;have l1:l! (Zn s.2.1 x1)=l! s.2.1:=by unfold Zn;split<;>simp[bu]
 have l2:l! (ZY s.2.2.1 x1)=l! s.2.2.1:=by unfold ZY;split<;>simp[bu]
 with_reducible repeat' first|apply OS.ok;constructor|refine IM.mk λ_=>?_
 all_goals try simp only[ax,sN] at*
 all_goals first|omega|skip
 exact⟨⟨hE,⟨hap,l1,l2,by rw[bu]⟩,hS,by unfold nxP;rw[<- hyq]⟩,nofun⟩
def ZN:Ok (me ()) λl=>l! l=22:=by
 unfold me;with_reducible repeat' first|apply OS.ok;constructor|refine IM.mk λ_=>?_
 all_goals rfl
def Wg (s:ζ):Ok (mF s) λ_=>True:=by
 refine ay ZN λl q=>?_
 refine bX (l! l) (λi x=>x=(i:Int)) ?_ ?_ rfl
 .rintro i x hi rfl;with_reducible repeat' first|apply OS.ok;constructor|refine IM.mk λ_=>?_
  all_goals try simp[ax,sN] at*
  all_goals first|omega|exact iC
 .rintro x rfl;with_reducible repeat' first|apply OS.ok;constructor|refine IM.mk λ_=>?_
  all_goals try simp[ax,sN] at*
  all_goals omega
def T6 (c:Int):Ok (mY c) λ_=>True:=by
 unfold mY jO aJ;with_reducible repeat' first|apply OS.ok;constructor|refine IM.mk λ_=>?_
 all_goals exact trivial
def anh (c:Int):Ok (rP c) λ_=>True:=by
 unfold rP uu jO aJ;refine h_ (ay (T6 c) λ_ _=>?_);with_reducible repeat' first|apply OS.ok;constructor|refine IM.mk λ_=>?_
 all_goals try exact trivial
 refine ay (P:=λ_=>True) ?_ λ_ _=>?_
 .with_reducible repeat' first|apply OS.ok;constructor|refine IM.mk λ_=>?_
  all_goals exact trivial
 .with_reducible repeat' first|apply OS.ok;constructor|refine IM.mk λ_=>?_
  all_goals exact trivial
def jX (s:ζ):Ok (gL s) λ_=>True:=by
 refine a6 (λb=>b=af->l! s<=12) ?_ ?_
 .with_reducible repeat' first|apply OS.ok;constructor|refine IM.mk λ_=>?_
  grind
  grind
  omega
  grind
  refine ay (T6 _) λ_ _=>?_
  with_reducible repeat' first|apply OS.ok;constructor|refine IM.mk λ_=>?_
  grind
  refine ay (Wg _) λ_ _=>ak λ_=>?_
  grind
 .rintro b q;refine aR (λ_=>ak trivial) λh=>?_
  have q:=q h;refine bX (l! s) (λi x=>x=(i:Int)) ?_ ?_ rfl
  .rintro i x hi rfl;with_reducible repeat' first|apply OS.ok;constructor|refine IM.mk λ_=>?_
   all_goals try simp[ax,sN] at*
   all_goals first|omega|skip
   refine ay (anh _) λ_ _=>?_
   with_reducible repeat' first|apply OS.ok;constructor|refine IM.mk λ_=>?_
   exact trivial;exact iC
  .rintro x rfl;with_reducible repeat' first|apply OS.ok;constructor|refine IM.mk λ_=>?_
   all_goals try simp[ax,sN] at*
   all_goals first|omega|exact trivial
def Cr (l:Y ζ) (s:ζ) (A:l! l<=1000000000):Ok (kP (l,s)) λr=> -1<=r/\r<l! l/\(0<=r->aE (.str) l r=s)/\(r<0->s∉l):=by
 refine bX (l! l) (λi x=>x=(i:Int)/\∀k:Nat,k<i->aE (.str) l (k:Int)≠s) ?_ ?_ ⟨rfl,λk hk=>M⟩
 .rintro i x hi ⟨rfl,q⟩;with_reducible repeat' first|apply OS.ok;constructor|refine IM.mk λ_=>?_
  all_goals try simp[ax,sN] at*
  all_goals first|omega|skip
  grind
  refine ⟨iC,λk hk=>?_⟩
  grind
 .rintro x ⟨rfl,q⟩;with_reducible repeat' first|apply OS.ok;constructor|refine IM.mk λ_=>?_
  all_goals try simp only[ax,sN] at*
  all_goals first|omega|skip
  exact⟨M,M,λh=>M,λ_ h=>ij (T:=.str) (p:=λc=>c≠s) q s h rfl⟩
structure VL (w:WT):Prop where
 c:l! w.1<=12
 l:l! w.2.1<=4
 d:l! w.2.2.1<=2
 f:l! w.2.2.2.1<=2
 t0:1<=l! w.2.2.2.2.1
 t:l! w.2.2.2.2.1<=4
 s:l! w.2.2.2.2.2<=60
def amq (w:WT) (h:VL w):Ok (rK w) λy=>l! y.1<=100:=by
 let⟨w1,w2,A,w4,w5,I⟩:=w;let⟨h1,h2,h3,h4,_,h5,h6⟩:=h;dsimp only at*
 unfold rK bf bB bN cM dD sL bp bO jP bT bM a8 cW aJ cH;refine sQ (λx=>((l! w1:Int)-x.1).toNat) (λx=>x.2.1=(w1,w2,A,w4,w5,I)/\0<=x.1/\x.1<=(l! w1:Int)/\(l! x.2.2:Int)<=x.1) ?_ ⟨rfl,b8,b8,b8⟩;rintro⟨x1,x2,x3⟩ ⟨e,g1,g2,g3⟩;dsimp only at e g1 g2 g3;subst e;refine bF (λg4=>?_) λg4=>?_
 .dsimp only[ax]at g4;refine a6 (λx=>x.2.1=(w1,w2,A,w4,w5,I)/\x1<x.1/\x.1<=(l! w1:Int)/\(l! x.2.2:Int)<=x.1) ?_ ?_
  .refine bK (aX (a! ?_));refine aN (λ_=>?_) λ_=>?_
   .with_reducible repeat' first|apply OS.ok;constructor|refine IM.mk λ_=>?_
    exact fE _;rw[iF];exact⟨rfl,lX,lX,ye⟩
   .generalize hz:aE _ _ x1=z;obtain⟨z1,(z2:Int),(q:Int),z4,z5⟩:=z;dsimp only;refine a6 (λx=>x.2=((w1,w2,A,w4,w5,I),x3++[z1],z1,z2,q,z4,z5)/\(x.1=af->1<=q/\q<=4/\x1+q<=l! w1)) ?_ ?_
    .with_reducible repeat' first|apply OS.ok;constructor|refine IM.mk λ_=>?_
     exact⟨rfl,nofun⟩;exact⟨rfl,nofun⟩;refine ⟨rfl,λh=>?_⟩;dsimp only[ax] at*
     rw[iF,jJ]at h;omega
    .rintro⟨b,y⟩ ⟨e,hb⟩;dsimp only at e hb;subst e;refine aR (λ_=>ak (fE _)) λh=>?_
     let⟨q1,q2,q3⟩:=hb h;refine sQ (λx=>(q-x.1).toNat) (λx=>x.2=((w1,w2,A,w4,w5,I),x3++[z1],z1,z2,q,z4,z5)/\0<=x.1/\x.1<=q) ?_ ⟨rfl,b8,lX⟩;rintro⟨k,y⟩ ⟨e,k0,k1⟩;dsimp only at e k0 k1;subst e;refine bF (λk2=>?_) λk2=>?_
     .dsimp only at k2;have e1:aU .i64 (x1+k)=x1+k:=iF;refine aS (by dsimp only;rw[e1];omega) (by dsimp only;rw[e1];omega) (aX ?_);refine a6 (λx=>x.2=((w1,w2,A,w4,w5,I),x3++[z1],z1,z2,q,z4,z5)) ?_ ?_
      .with_reducible repeat' first|apply OS.ok;constructor|refine IM.mk λ_=>?_
       all_goals rfl
      rintro⟨b,y⟩ e;dsimp only at e;subst e;refine aR (λ_=>ak (fE _)) λ_=>ak ?_
      dsimp only;rw[iF];exact⟨⟨rfl,M,M⟩,M⟩
     dsimp only at k2;refine ak ?_;dsimp only;rw[iF];exact⟨rfl,M,M,ye⟩
  rintro⟨y1,y2,y3⟩ ⟨e,g5,g6,g7⟩;dsimp only at e g5 g6 g7;subst e;refine ak ⟨⟨rfl,lX,g6,g7⟩,?_⟩;dsimp only;omega
 .dsimp only[ax]at g4;refine ay (P:=λy=>l! y.1<=100) ?_ λy hy=>ak hy
  refine bX (l! w2) (λi x=>x.1=(i:Int)/\x.2.1=(w1,w2,A,w4,w5,I)/\l! x.2.2<=12+i) ?_ ?_ ⟨rfl,rfl,lX⟩
  .rintro i ⟨a,b,c⟩ hi ⟨e1,e2,e3⟩;dsimp only at e1 e2 e3;subst e1 e2;with_reducible repeat' first|apply OS.ok;constructor|refine IM.mk λ_=>?_
   all_goals try simp only[ax,sN] at*
   all_goals first|omega|(simp;omega)|skip
   exact⟨iC,ye⟩
  .rintro⟨a,b,c⟩ ⟨e1,e2,e3⟩;dsimp only at e1 e2 e3;subst e1 e2;refine bF (λg4=>(by dsimp only[ax]at g4;omega)) λ_=>?_
   refine ay (P:=λy=>l! y.1<=100) ?_ λy hy=>ak hy
   refine bX (l! A) (λi x=>x.1=(i:Int)/\x.2.1=(w1,w2,A,w4,w5,I)/\l! x.2.2<=16+i) ?_ ?_ ⟨rfl,rfl,lX⟩
   .rintro i ⟨a,b,c⟩ hi ⟨e1,e2,e3⟩;dsimp only at e1 e2 e3;subst e1 e2;with_reducible repeat' first|apply OS.ok;constructor|refine IM.mk λ_=>?_
    all_goals try simp only[ax,sN] at*
    all_goals first|omega|(simp;omega)|skip
    exact⟨iC,ye⟩
   .rintro⟨a,b,c⟩ ⟨e1,e2,e3⟩;dsimp only at e1 e2 e3;subst e1 e2;refine bF (λg4=>(by dsimp only[ax]at g4;omega)) λ_=>?_
    refine ay (P:=λy=>l! y.1<=100) ?_ λy hy=>ak hy
    with_reducible repeat' first|apply OS.ok;constructor|refine IM.mk λ_=>?_
    all_goals try simp only[ax,sN] at*
    all_goals first|omega|(simp;omega)
def siS (T:Int) (o:aj ν) (s:π):aj ν:=
 match o with
 |none=>U
 |some (t,n)=>if s.1=t/\s.2.1=n then Z (t,n+1) else if t<s.1/\s.1<T/\s.2.1=0 then Z (s.1,1) else U
def Ut (T:Int) (l:Y π):aj ν:=l.foldl (siS T) (Z (0,0))
def SV0 (w:WT):Prop:=Ut (l! w.2.2.2.2.1) w.2.2.2.2.2≠U
def Nq {T:Int} {l:Y π} (hi:i<l! l):Ut T (l.take (i+1))=siS T (Ut T (l.take i)) (aE rZ l (i:Int)):=by
 rw[lM (T:=rZ) hi];unfold Ut;rw[dG];rfl
def WL (T:Int):∀l:Y π,l.foldl (siS T) U=U
 |[]=>rfl
 |_::r=>WL T r
def aew {l:Y π} (h:Ut a l≠U) (i:Nat):Ut a (l.take i)≠U:=λq=>h (by
 unfold Ut at q ⊢;rw[<- FR i l,dG,q,WL])
def alz {t n:Int} {z:π} (h:siS a (Z (t,n)) z≠U):siS a (Z (t,n)) z=Z (z.1,z.2.1+1)/\(z.1=t/\z.2.1=n\/t<z.1/\z.1<a/\z.2.1=0):=by
 unfold siS at h ⊢
 grind
def R5 (w:WT):Ok (jF w) λb=>b=J->VL w/\SV0 w:=by
 unfold jF bf bB bN cM dh iD bp bO jO jP bT bM a8 cW aJ cH;refine a6 (λx=>x.2=w/\(x.1=af->VL w)) ?_ ?_
 .with_reducible repeat' first|apply OS.ok;constructor|refine IM.mk λ_=>?_
  all_goals first|exact⟨rfl,λh=>(by cases h)⟩|skip
  dsimp only[ax] at*
  refine ⟨rfl,λh=>?_⟩;rw[jJ]at h;constructor<;>omega
 rintro⟨b,x⟩ ⟨e,hb⟩;dsimp only at e hb;subst e;refine aR (λ_=>ak λh=>(by cases h)) λh=>?_
 have hv:=hb h;refine ay (amq _ hv) λy hy=>?_
 refine dJ (λ_=>ak λh=>(by cases h)) λ_=>?_
 let⟨w1,w2,I,w4,A,q⟩:=x;have h6:=hv.s;have h3:=hv.d;dsimp only at h6 h3;refine bX (l! y.1) (λi x=>x.1=(i:Int)/\x.2=(w1,w2,I,w4,A,q)) ?_ ?_ ⟨rfl,rfl⟩
 .rintro i ⟨a,b⟩ hi ⟨e1,e2⟩;dsimp only at e1 e2;subst e1 e2;refine bF (λg4=>?_) λg4=>(by dsimp only[ax]at g4;omega)
  refine a6 (λx=>x.2=(w1,w2,I,w4,A,q)) ?_ ?_
  .refine bK (aX (ay (jX _) λ_ _=>?_));refine dJ (λ_=>ak rfl) λ_=>?_
   with_reducible repeat' first|apply OS.ok;constructor|refine IM.mk λ_=>?_
   all_goals try simp only[ax,sN] at*
   all_goals first|omega|skip
   refine ay (Cr _ _ ye) λ_ _=>ak rfl
  .rintro⟨a,b⟩ e;dsimp only at e;subst e;with_reducible repeat' first|apply OS.ok;constructor|refine IM.mk λ_=>?_
   exact λh=>(by cases h)
   dsimp only;exact⟨iC,rfl⟩
 rintro⟨a,b⟩ ⟨e1,e2⟩;dsimp only at e1 e2;subst e1 e2;refine bF (λg4=>(by dsimp only[ax]at g4;omega)) λ_=>?_
 refine ay (P:=λb=>b=J->VL (w1,w2,I,w4,A,q)/\SV0 (w1,w2,I,w4,A,q)) ?_ λy hy=>ak hy
 refine bX (l! I) (λi x=>x.1=(i:Int)/\x.2=(w1,w2,I,w4,A,q)) ?_ ?_ ⟨rfl,rfl⟩
 .rintro i ⟨a,b⟩ hi ⟨e1,e2⟩;dsimp only at e1 e2;subst e1 e2;refine bF (λg4=>?_) λg4=>(by dsimp only[ax]at g4;omega)
  refine bK (aX ?_);refine a6 (λx=>x.2=(w1,w2,I,w4,A,q)) ?_ ?_
  .with_reducible repeat' first|apply OS.ok;constructor|refine IM.mk λ_=>?_
   all_goals try simp only[ax,sN] at*
   all_goals first|omega|rfl
  .rintro⟨a,b⟩ e;dsimp only at e;subst e;with_reducible repeat' first|apply OS.ok;constructor|refine IM.mk λ_=>?_
   exact λh=>(by cases h)
   dsimp only;exact⟨iC,rfl⟩
 rintro⟨a,b⟩ ⟨e1,e2⟩;dsimp only at e1 e2;subst e1 e2;refine bF (λg4=>(by dsimp only[ax]at g4;omega)) λ_=>?_
 refine ay (P:=λb=>b=J->VL (w1,w2,I,w4,A,q)/\SV0 (w1,w2,I,w4,A,q)) ?_ λy hy=>ak hy
 refine bX (l! q) (λi x=>x.1=(i:Int)/\x.2=(w1,w2,I,w4,A,q)/\Ut (l! A) (q.take i)=Z (if i=0 then (0,0) else ((aE rZ q ((i-1:Nat):Int)).1,(aE rZ q ((i-1:Nat):Int)).2.1+1))/\(¬i=0->(0:Int)<=(aE rZ q ((i-1:Nat):Int)).2.1/\(i:Int)>(aE rZ q ((i-1:Nat):Int)).2.1)) ?_ ?_ ⟨rfl,rfl,rfl,λh=>(h rfl).elim⟩;rintro i ⟨a,b⟩ hi ⟨e1,e2,e3,hpb⟩;dsimp only at e1 e2;subst e1 e2;have hw:¬(i:Int)=0->aU .i64 ((i:Int)-1)=((i-1:Nat):Int):=λh=>by rw[iF];omega
 have hnx:=Nq (T:=l! A) hi;rw[e3]at hnx;clear e3;refine bF (λg4=>?_) λg4=>(by dsimp only[ax]at g4;omega)
 refine a6 (λx=>x=(w1,w2,I,w4,A,q)/\Ut (l! A) (q.take (i+1))=Z (((aE rZ q (i:Int)).1,(aE rZ q (i:Int)).2.1+1))/\(0:Int)<=(aE rZ q (i:Int)).2.1/\((i+1:Nat):Int)>(aE rZ q (i:Int)).2.1) ?_ ?_;refine bK (aX ?_);rw[hnx];generalize hz:aE rZ q (i:Int)=z;obtain⟨(z1:Int),(z2:Int),(z3:Int)⟩:=z;dsimp only;refine a6 (λx=>x.2=((w1,w2,I,w4,A,q),z1,z2,z3)/\(x.1=af->0<=z1/\z1<l! A)) ?_ ?_;refine bF (λ_=>ak ⟨rfl,λh=>(by cases h)⟩) λg=>ak ⟨rfl,λh=>⟨g,?_⟩⟩
 rw[jK]at h;exact h;rintro⟨c,y⟩ ⟨e,hzr⟩;dsimp only at e hzr;subst e;refine aR (λ_=>ak λh=>(by cases h)) λhzb=>?_
 let⟨z0,zT⟩:=hzr hzb;refine a6 (λx=>x.2=((w1,w2,I,w4,A,q),z1,z2,z3)/\(x.1=J->i=0\/¬(aE rZ q ((i-1:Nat):Int)).1=z1)/\(x.1=af->¬(i:Int)=0/\(aE rZ q ((i-1:Nat):Int)).1=z1)) ?_ ?_;refine aN (λh=>ak ⟨rfl,λ_=>.inl (by have h:((i:Nat):Int)=0:=h;omega),λh=>(by cases h)⟩) λh=>?_
 rw[hw h];refine bK (aX (ak ⟨rfl,λh2=>.inr (by simpa using h2),λh2=>⟨h,by simpa using h2⟩⟩));rintro⟨c,y⟩ ⟨e,hc1,hc⟩;dsimp only at e hc1 hc;subst e;refine aR (λhct=>?_) λhcf=>?_
 refine a6 (λx=>x.2=(w1,w2,I,w4,A,q)/\(x.1=af->z2=0/\(¬i=0->((aE rZ q ((i-1:Nat):Int)).1:Int)<z1))) ?_ ?_;refine bY (λ_=>ak ⟨rfl,λh=>(by cases h)⟩) λhz2=>?_
 refine bF (λh=>?_) λhi0=>ak ⟨rfl,λ_=>⟨hz2,λh=>by have hi0:((i:Nat):Int)<=0:=hi0;omega⟩⟩
 have h:(0:Int)<((i:Nat):Int):=h;rw[hw M];refine bK (aX (ak ⟨rfl,λh2=>⟨hz2,λh3=>?_⟩⟩));rw[jJ]at h2;have h4:=(hc1 hct).resolve_left h3;have h2:(aE rZ q ((i-1:Nat):Int)).1<=z1:=h2;exact Int.lt_iff_le_and_ne.2 ⟨h2,h4⟩;rintro⟨c,y⟩ ⟨e,hy⟩;dsimp only at e hy;subst e;refine aR (λ_=>ak λh=>(by cases h)) λh=>ak ⟨rfl,?_⟩
 let⟨q1,q2⟩:=hy h;have q1:z2=0:=q1;subst q1;refine ⟨?_,cU 0,by show _>(0:Int);omega⟩;unfold siS
 grind
 let⟨hi0,hpr⟩:=hc hcf;rw[hw hi0];refine bK (aX ?_);refine bY (λ_=>ak λh=>(by cases h)) λh=>ak ⟨rfl,?_⟩
 let⟨b0,b1⟩:=hpb M;have h:z2=aU .i64 ((aE rZ q ((i-1:Nat):Int)).2.1+1):=h;rw[iF]at h;refine ⟨?_,M,M⟩;rw[av M];unfold siS;dsimp only;rw[aD ⟨hpr.symm,h⟩,hpr,h];rintro x ⟨rfl,hx,hx2⟩;refine ak ?_;dsimp only;refine ⟨iC,rfl,?_,λ_=>hx2⟩;rw[av M];exact hx;rintro⟨a,b⟩ ⟨e1,e2,e3,_⟩;dsimp only at e1 e2;subst e1 e2;refine bF (λg4=>(by dsimp only[ax]at g4;omega)) λ_=>?_
 rw[cO]at e3;exact ak λ_=>⟨hv,by unfold SV0;dsimp only;rw[e3];simp⟩
def UC (e:ET):Bool:=decide (e.2.1=3)||decide (e.2.1=23)
def fl (l:Y ET) (t:Int):θ:=(l.filter λe=>decide (e.1=t)).map UC
def T9 (l:Y ET) (t y:Int):Prop:=0<=y/\(fl l t).getD y.toNat af=J
def tD (l m:Y ET) (t:Int):fl (l++m) t=fl l t++fl m t:=by unfold fl;rw[List.filter_append,b_]
def yY {e:ET} (h:e.1=a):fl [e] a=[UC e]:=by unfold fl;simp[h]
def vx {e:ET} (h:¬e.1=a):fl [e] a=[]:=by unfold fl;simp[h]
variable {L:Y ET}
def T9.app {y:Int} (h:T9 L a y) (m:Y ET):T9 (L++m) a y:=by
 let⟨h0,h1⟩:=h;refine ⟨h0,?_⟩;rw[tD]
 grind
def T9.lt {y:Int} (h:T9 L a y):y<l! (fl L a):=by
 let⟨h0,h1⟩:=h;rcases co y.toNat (l! (fl L a)) with g|g;omega;rw[aC,eT g]at h1;cases h1
def T9.last {e:ET} (h:UC e=J) (q:a=l! (fl L e.1)):T9 (L++[e]) e.1 a:=by
 subst q;refine ⟨M,?_⟩;rw[tD,yY rfl,aC,cL b8,h];simp
def OT (l:Y ET) (t:Int):l! (fl l t)<=l! l:=by unfold fl;rw[bL];exact List.length_filter_le ..
structure SCx (w:WT) (l:List ET) (sy:SY) (ce fu:η) (e:ET):Prop where
 en:EN w sy e.1 e.2.1 e.2.2.1
 rd:FO w sy e.1 e.2.1 e.2.2.1
 s1:e.2.1=1\/e.2.1=2->e.2.2.2.2.1= -1
 s2:¬(e.2.1=1\/e.2.1=2)->0<=e.2.2.2.2.1/\e.2.2.2.2.1<l! w.2.2.2.2.2/\(aE rZ w.2.2.2.2.2 e.2.2.2.2.1).1=e.1
 de:0<l! e.2.2.2.2.2.1->e.2.1=5\/(e.2.1=3\/e.2.1=4)/\¬(aE mS w.1 e.2.2.1).2.2.1=0
 fr:0<l! e.2.2.2.2.2.2->e.2.1=4\/e.2.1=22
 nd:AN (l! (fl l e.1)) e.2.2.2.2.2.1
 nf:AN (l! (fl l e.1)) e.2.2.2.2.2.2
 rd1:∀y∈e.2.2.2.2.2.1,T9 l e.1 y
 rd2:∀y∈e.2.2.2.2.2.2,T9 l e.1 y
 va:VA w sy ce fu e.1 e.2.1 e.2.2.1 e.2.2.2.1
def thP:Nat->Y c!
 |0=>[]
 |n+1=>(1,0,af)::aA n (0,0,af)
def Q0 (w:WT):SY:=(aA (l! w.2.1) (-1,[]),-1,aA (l! w.2.2.2.1) af,thP (l! w.2.2.2.2.1))
def ce0 (w:WT):η:=w.1.map λc=>c.2.2.2.2
def fu0 (w:WT):η:=aA (l! w.2.2.2.1) 0
inductive Acw (w:WT):List ET->SY->η->η->Prop
 |nil:Acw w [] (Q0 w) (ce0 w) (fu0 w)
 |snoc {l:List ET} {sy:SY} {ce fu:η} {e:ET} (h:Acw w l sy ce fu) (hs:SCx w l sy ce fu e):Acw w (l++[e]) (ku w sy e.1 e.2.1 e.2.2.1 e.2.2.2.1).1 (Zn ce e) (ZY fu e)
def aln (i:Nat):thP (i+2)=thP (i+1)++[(0,0,af)]:=by
 show (1,0,af)::aA (i+1) (0,0,af)=(1,0,af)::aA i (0,0,af)++[(0,0,af)]
 rw[xN,gj]
def Hc:∀n,l! (thP n)=n
 |0=>rfl
 |n+1=>by simp[thP]
def Qr (w:WT) (h:VL w):ur w=Z (Q0 w):=by
 let⟨w1,w2,w3,A,I,w6⟩:=w;let⟨h1,h2,h3,h4,_,h5,h6⟩:=h;dsimp only at*
 refine bZ ?_;unfold ur bf bB bN cM dD dh iD bp bO bT a8 cW aJ cH;refine bX (l! w2) (λi x=>x.1=(i:Int)/\x.2.1=(w1,w2,w3,A,I,w6)/\x.2.2.2=(-1,aA i (-1,[]))) ?_ ?_ ⟨rfl,rfl,rfl⟩
 .rintro i ⟨a,b,c,d,e⟩ hi ⟨e1,e2,q⟩;obtain⟨rfl,rfl⟩:=q;subst e1 e2;with_reducible repeat' first|apply OS.ok;constructor|refine IM.mk λ_=>?_
  all_goals try simp[ax,sN] at*
  all_goals first|omega|(simp;omega)|skip
  exact⟨iC,by rw[xN]⟩
 rintro⟨a,b,c,d,e⟩ ⟨e1,e2,q⟩;obtain⟨rfl,rfl⟩:=q;subst e2;refine bF (λg4=>cf) λ_=>?_
 refine ay (P:=λs=>s=Q0 (w1,w2,w3,A,I,w6)) ?_ λy hy=>ak hy
 refine bX (l! A) (λi x=>x.1=(i:Int)/\x.2.1=(w1,w2,w3,A,I,w6)/\x.2.2.2=(-1,aA (l! w2) (-1,[]),aA i af)) ?_ ?_ ⟨rfl,rfl,rfl⟩
 .rintro i ⟨a,b,c,d,e',f⟩ hi ⟨e1,e2,q⟩;obtain⟨rfl,rfl,rfl⟩:=q;subst e1 e2;with_reducible repeat' first|apply OS.ok;constructor|refine IM.mk λ_=>?_
  all_goals try simp[ax,sN] at*
  all_goals first|omega|(simp;omega)|skip
  exact⟨iC,by rw[xN]⟩
 rintro⟨a,b,c,d,e',f⟩ ⟨e1,e2,q⟩;obtain⟨rfl,rfl,rfl⟩:=q;subst e2;refine bF (λg4=>cf) λ_=>?_
 refine ay (P:=λs=>s=Q0 (w1,w2,w3,A,I,w6)) ?_ λy hy=>ak hy
 refine bX (l! I) (λi x=>x.1=(i:Int)/\x.2.1=(w1,w2,w3,A,I,w6)/\x.2.2.2=(-1,aA (l! w2) (-1,[]),aA (l! A) af,thP i)) ?_ ?_ ⟨rfl,rfl,rfl⟩;rintro i ⟨a,b,c,d,e'',f',g⟩ hi ⟨e1,e2,q⟩;obtain⟨rfl,rfl,rfl,rfl⟩:=q;subst e1 e2;have hl:=Hc i;refine bF (λ_=>?_) λg4=>cf
 refine h_ (aN (λh0=>ak ?_) λh0=>ak ?_);have h0:((i:Nat):Int)=0:=h0;have h0:i=0:=M;subst h0;exact dB cf M (ak ⟨rfl,rfl,rfl⟩);have h0:¬((i:Nat):Int)=0:=h0;obtain⟨j,rfl⟩:∃j,i=j+1:=⟨i-1,M⟩
 refine dB cf M (ak ⟨iC,rfl,?_⟩);rw[aln];rintro⟨a,b,c,d,e'',f',g⟩ ⟨e1,e2,q⟩;obtain⟨rfl,rfl,rfl,rfl⟩:=q;refine bF (λg4=>cf) λ_=>ak rfl
def ay3 {w:WT} (h:VL w):SB 0 (Q0 w):=by
 let⟨h1,h2,h3,h4,_,I,A⟩:=h;refine ⟨M,by simp[Q0];omega,λl q=>?_,by simp[Q0];omega,by simp[Q0,Hc];omega⟩;rw[r7 q];simp
def Qq (w:WT) (h:VL w):uq w=Z (Q0 w,ce0 w,fu0 w,aA (l! w.2.2.2.2.1) 0):=by
 have hs:=Qr w h;let⟨w1,w2,w3,A,q,w6⟩:=w;let⟨h1,h2,h3,h4,_,h5,h6⟩:=h;refine bZ ?_;unfold uq bf bB bN cg dh bO bT bM a8 cW aJ cH;refine aV hs ?_;with_reducible repeat' first|apply OS.ok;constructor|refine IM.mk λ_=>?_
 all_goals try simp[ax,sN] at*
 all_goals first|omega|skip
 refine bX (l! w1) (λi x=>x.1=(i:Int)/\x.2.1=(w1,w2,w3,A,q,w6)/\x.2.2.2=(Q0 (w1,w2,w3,A,q,w6),(w1.take i).map (λc=>c.2.2.2.2),aA (l! A) 0,aA (l! q) 0)) ?_ ?_ ⟨rfl,rfl,rfl⟩
 .rintro i ⟨a,b,c,d,e,f,g⟩ hi ⟨e1,e2,I⟩;obtain⟨rfl,rfl,rfl,rfl⟩:=I;subst e1 e2;with_reducible repeat' first|apply OS.ok;constructor|refine IM.mk λ_=>?_
  all_goals try simp only[ax,sN] at*
  all_goals first|omega|(simp;omega)|skip
  exact⟨iC,by rw[lM (T:=mS) hi,b_];rfl⟩
 rintro⟨a,b,c,d,e,f,g⟩ ⟨e1,e2,I⟩;obtain⟨rfl,rfl,rfl,rfl⟩:=I;refine bF (λg4=>cf) λ_=>ak ?_
 rw[cO];rfl
def CN (l:Y ET) (c:η):Prop:=∀t:Int,0<=t->t<l! c->aE aO c t=(l! (fl l t):Int)
def jT {T:Ty} (xs:Y T.den) (j k:Int) (x:T.den) (hj:0<=j) (q:j<l! xs) (hk:0<=k):aE _ (bW xs j x) k=if k=j then x else aE _ xs k:=by
 unfold aE bW
 grind
def CN.next (h:CN L c) (e:ET) (h0:0<=e.1) (h1:e.1<l! c) (hl:l! L<1000000):CN (L++[e]) (bW c e.1 (aU .i64 (aE aO c e.1+1))):=λt A q=>by
 rw[bu]at q;have:=OT L e.1;rw[jT (T:=aO) _ _ _ _ h0 h1 A,tD];split;rename_i h2;subst h2;rw[yY rfl,h _ h0 h1,iC];simp;rename_i h2;rw[vx λI=>h2 I.symm,h _ A q];simp
def CN.bd (h:CN L c) (t:Int):(aE aO c t:Int)<=l! L:=by
 have key:∀z:Int,aE aO c t=z->z<=l! L:=by
  intro z e;rcases co t.toNat (l! c) with g|g;have h1:=h (t.toNat:Int) M M;have h2:=OT L ((t.toNat:Nat):Int);have q:aE aO c t=aE aO c ((t.toNat:Nat):Int):=by unfold aE;rw[dH]
  grind
  have:z=0:=by
   rw[<- e];unfold aE;rw[aC,eT g];rfl
  omega
 exact key _ rfl
structure EvF (w:WT) (e:ET):Prop where
 nm:NM w e.2.1 e.2.2.1
 t0:0<=e.1
 t1:e.1<l! w.2.2.2.2.1
 cd:∀c∈w.2.2.1,0<=c.2/\c.2<l! w.2.1
structure TP (t:η×Int):Prop where
 l0:l! t.1<=9223372036854775807
 by_:∀x∈t.1,0<=x/\x<=255
 a0:0<=t.2
 a1:t.2<=l! t.1
structure T3 (t t':η×Int):Prop where
 e:t'.1=t.1
 m:t.2<=t'.2
 p:TP t'
def T3.refl {t:p?} (h:TP t):T3 t t:=⟨rfl,cU _,h⟩
def T3.trans {a b c:p?} (h:T3 a b) (g:T3 b c):T3 a c:=⟨g.e.trans h.e,yd h.m g.m,g.p⟩
def oM (n:Int) (t:p?) (h:TP t):Ok (c6 (n,t)) λy=>T3 t y.2/\0<=y.1/\(1<=n->y.1<n)/\(t.2<l! t.1->1<=n->t.2<y.2.2):=by
 let⟨L,a⟩:=t;have hT:=h;let⟨I,q,A,a1⟩:=h;dsimp only at I q A a1;unfold c6 jO bT bM a8 aJ cH;refine a6 (λx=>x.2=(L,a)/\(x.1=J->a=l! L\/n<1)/\(x.1=af->a<l! L/\1<=n)) ?_ ?_;refine eX (λh=>ak ⟨rfl,λ_=>cf,nofun⟩) λh=>ak ⟨rfl,λh2=>?_,λh2=>?_⟩
 rw[uM]at h2;exact .inr h2;rw[jJ]at h2;dsimp [ax]at h h2;omega;rintro⟨b,x⟩ ⟨e,h1,h2⟩;subst e;refine aR (λh=>ak ⟨T3.refl hT,cU _,λh3=>M,λh3 h4=>?_⟩) λh=>?_
 grind
 let⟨q1,q2⟩:=h2 h;refine aX ?_;have e1:aU .i64 (a+1)=a+1:=iF;rw[e1,iF (n:=a+1-1) M M,show a+1-1=a by omega];have hz:=q _ (be (T:=.int .u8) (xs:=L) (j:=a) A q1);refine aS A q1 (aX ?_);generalize (aE _ _ a)=z at hz;rw[iF (n:=z) M M];refine zP M (ak ?_);dsimp only;refine ⟨⟨rfl,lX,⟨I,q,lX,lX⟩⟩,Int.tmod_nonneg _ hz.1,λ_=>?_,λ_ _=>M⟩;exact Int.tmod_lt_of_pos _ M
def IW (z:Int):Prop:= -9223372036854775808<=z/\z<=9223372036854775807
def IW.sm (h0: -1000000<=a) (h1:a<=1000000):IW a:=⟨M,M⟩
def Wq (z:Int):IW (aU .i64 z):=by
 rw[Ei];unfold Nh IW;dsimp only;split;rename_i h;rw[ar,tp,tp]at h;exact h;have e:kx .i64 z=if 9223372036854775808<=z%18446744073709551616 then z%18446744073709551616-18446744073709551616 else z%18446744073709551616:=by
  unfold kx;simp[IntKind.signed,IntKind.bits]
 rw[e];split<;>omega
def IW.tm (h:IW a) (b:Int):IW (vE a b):=by
 let⟨h0,h1⟩:=h;rcases Int.lt_or_le a 0 with q|q;have:=Int.tmod_nonneg b (a:= -a) M;have h2:=Int.natAbs_tmod a b;have A:=Nat.mod_le a.natAbs b.natAbs;rw[Int.neg_tmod]at this;exact⟨M,M⟩;have:=Int.tmod_nonneg b q;have h2:=Int.natAbs_tmod a b;have A:=Nat.mod_le a.natAbs b.natAbs;exact⟨M,M⟩
def EvS (e:ET):Prop:=l! e.2.2.2.2.2.1<=1000000/\l! e.2.2.2.2.2.2<=1000000
def IWe (e:ET):Prop:=e.2.1=4\/e.2.1=22->IW e.2.2.2.1
def C0:Y (ζ×k?):=[([120],0,0,af,0),([121],0,0,af,1),([118],0,0,J,0),([113],0,2,af,0),([113],1,2,af,0)]
def G5:Y v?:=[([109],af),([110],af),([114],J)]
def Uc:Y (ζ×Int):=[([99],0)]
def Z1:Y ζ:=[[102]]
def AK:Y ζ:=[[109,97,105,110],[116,49],[116,50],[116,51]]
structure WX (w:WT):Prop where
 c:w.1=C0
 l:w.2.1=G5
 d:w.2.2.1=Uc
 f:w.2.2.2.1=Z1
 t:∃n,1<=n/\n<=4/\w.2.2.2.2.1=AK.take n
 s:l! w.2.2.2.2.2<=60
 v:SV0 w
def ari {l:Y π} {s:π}:Ut a (l++[s])=siS a (Ut a l) s:=by unfold Ut;rw[dG];rfl
structure WB (w:WT):Prop where
 c:l! w.1<=12
 l:l! w.2.1<=4
 d:l! w.2.2.1<=2
 f:l! w.2.2.2.1<=2
 t:l! w.2.2.2.2.1<=4
 s:l! w.2.2.2.2.2<=60
def VL.wb {w:WT} (h:VL w):WB w:=⟨h.c,h.l,h.d,h.f,h.t,h.s⟩
structure TR (y:WT×List ET):Prop where
 wb:WB y.1
 vl:VL y.1
 ev:∀e∈y.2,EvF y.1 e
 len:l! y.2<=400
 ls:∀e∈y.2,EvS e
 wx:WX y.1
 ac:∃sy ce fu,Acw y.1 y.2 sy ce fu
 iw:∀e∈y.2,IWe e
abbrev IT:Type:=ω
abbrev CT:Type:=WT×Y (Int×Y IT)
def uL (a b:Int):kO (a,b)=Z (decide (0<=a/\a<b)):=by
 refine bZ ?_;unfold kO jO aJ;with_reducible repeat' first|apply OS.ok;constructor|refine IM.mk λ_=>?_
 by_cases h:a<b<;>simp[*,hY];simp;omega
def Kv (k:Int):sa k=Z (decide (1<=k/\k<=5)):=by
 refine bZ ?_;unfold sa jO aJ;with_reducible repeat' first|apply OS.ok;constructor|refine IM.mk λ_=>?_
 by_cases h:k<=5<;>simp[*,cN];simp;omega
def kr (i:IT):η:=
 if i.1=1\/i.1=6\/i.1=10\/i.1=27 then [i.2.1]
 else if i.1=2\/i.1=3 then [i.2.1,i.2.2.1]
 else if i.1=4 then [i.2.1,i.2.2.1,i.2.2.2.1]
 else if i.1=7 then [i.2.1,i.2.2.2.1]
 else if i.1=8\/i.1=26 then [i.2.2.1]
 else if i.1=9 then [i.2.2.1,i.2.2.2.1]
 else []
def wK (i:IT):lw i=Z (kr i):=by
 let⟨q,i2⟩:=i;unfold lw kr bf bB bN bp aJ;by_cases h1:q=1;subst h1;rfl;by_cases h2:q=6;subst h2;rfl;by_cases h3:q=10;subst h3;rfl;by_cases h4:q=27;subst h4;rfl;by_cases h5:q=2;subst h5;rfl;by_cases h6:q=3;subst h6;rfl;by_cases h7:q=4;subst h7;rfl;by_cases h8:q=7;subst h8;rfl;by_cases h9:q=8;subst h9;rfl;by_cases I:q=26;subst I;rfl;by_cases A:q=9;subst A;rfl;simp[h1,h2,h3,h4,h5,h6,h7,h8,h9,I,A,dI,bcF,jnr,fM,dQ]
def Ho (z:IT):l! (kr z)<=3:=by
 unfold kr
 (repeat' split)<;>simp
def an5 (l:Y IT) (a:Int) (A:l! l<=1000000):Ok (rL (l,a)) λ_=>True:=by
 unfold rL bp bO jO bM a8 cW aJ cH;refine sQ (λx=>((l! l:Int)+1-x.2).toNat) (λx=>0<=x.2/\x.2<=(l! l:Int)+1) ?_ ⟨lX,lX⟩;rintro⟨(a:Int),(n:Int)⟩ ⟨h0,h1⟩;refine eX (λg=>?_) λ_=>ak trivial
 dsimp [ax]at g;refine a6 (λ_=>True) ?_ λb _=>ak ?_
 refine a6 (λb=>b=af->0<=a/\a<(l! l:Int)) ?_ ?_;refine bF (λ_=>ak nofun) λI=>ak λh=>?_
 rw[jK]at h
 grind
 intro b q;refine aR (λ_=>ak trivial) λh=>?_
 let⟨q0,q1⟩:=q h;refine aS q0 M (aX ?_);refine aV (Kv _) ?_;refine dJ (λ_=>ak trivial) λ_=>?_
 refine aS q0 M (aX ?_);refine aN (λ_=>?_) λ_=>ak trivial
 exact aS q0 M (aX (ak trivial));dsimp only;rw[iF];omega
structure AR (w:WT) (b n:Int):Prop where
 b0:0<=b
 b1:b<l! w.1
 ix:(aE mS w.1 b).2.1=0
 sz:¬(aE mS w.1 b).2.2.1=0
 sn:(aE mS w.1 b).2.2.1=n
def Zs (w:WT) (b n:Int):Ok (rM (w,b,n)) λr=>r=J->AR w b n:=by
 refine h_ ?_;refine aV (uL _ _) ?_;refine aN (λh=>?_) λ_=>ak (ak nofun)
 refine aS h.1 h.2 (aX (aN (λh1=>?_) λ_=>ak (ak nofun)));refine aS h.1 h.2 (aX (bY (λh2=>?_) λ_=>ak (ak nofun)));exact aS h.1 h.2 (aX (ak (ak λq=>⟨h.1,h.2,h1,h2,a_ q⟩)))
def aaf (w:WT) (i:IT):Ok (nj (w,i)) λb=>b=J->(i.1=7->AR w i.2.2.1 i.2.2.2.2.1)/\(i.1=9->AR w i.2.1 i.2.2.2.2.1):=by
 have tr:∀{b:Bool},¬i.1=7->¬i.1=9->b=J->(i.1=7->AR w i.2.2.1 i.2.2.2.2.1)/\(i.1=9->AR w i.2.1 i.2.2.2.2.1):=λh1 h2 _=>⟨λh=>(h1 h).elim,λh=>(h2 h).elim⟩
 unfold nj bf bB bN cM gE bp jO bM a8 aJ;simp only[uL,UL];refine aN (λh6=>?_) λ_=>?_
 refine a6 (λ_=>True) ?_ λ_ _=>ak (tr M M)
 refine aN (λh=>?_) λ_=>ak trivial
 exact aS h.1 h.2 (aX (ak trivial));refine aN (λh8=>?_) λ_=>?_
 refine a6 (λ_=>True) ?_ λ_ _=>ak (tr M M)
 refine aN (λh=>?_) λ_=>ak trivial
 exact aS h.1 h.2 (aX (ak trivial));refine aN (λq=>?_) λA=>?_
 exact ay (Zs _ _ _) λ_ h=>ak λh2=>⟨λ_=>h h2,λh9=>by have q:i.1=7:=q;omega⟩
 refine aN (λh9=>?_) λI=>?_
 exact ay (Zs _ _ _) λ_ h=>ak λh2=>⟨λq=>(A q).elim,λ_=>h h2⟩
 have tr:∀{b:Bool},b=J->(i.1=7->AR w i.2.2.1 i.2.2.2.2.1)/\(i.1=9->AR w i.2.1 i.2.2.2.2.1):=tr A I;refine a6 (λx=>x.2=(w,i)) (aN (λ_=>ak rfl) λ_=>ak rfl) ?_;rintro⟨b,x⟩ e;subst e;refine aR (λ_=>?_) λ_=>?_
 refine a6 (λ_=>True) ?_ λ_ _=>ak tr
 refine aN (λh=>?_) λ_=>ak trivial
 exact aS h.1 h.2 (aX (ak trivial));refine a6 (λx=>x.2=(w,i)) (aN (λ_=>ak rfl) λ_=>aN (λ_=>ak rfl) λ_=>aN (λ_=>ak rfl) λ_=>ak rfl) ?_;rintro⟨b,x⟩ e;subst e;refine aR (λ_=>?_) λ_=>?_
 refine a6 (λ_=>True) ?_ λ_ _=>ak tr
 refine aN (λh=>?_) λ_=>ak trivial
 exact aS h.1 h.2 (aX (ak trivial));refine a6 (λx=>x.2=(w,i)) (aN (λ_=>ak rfl) λ_=>aN (λ_=>ak rfl) λ_=>ak rfl) ?_;rintro⟨b,x⟩ e;subst e;refine aR (λ_=>ak tr) λ_=>?_
 refine a6 (λx=>x.2=(w,i)) (aN (λ_=>ak rfl) λ_=>ak rfl) ?_;rintro⟨b,x⟩ e;with_reducible repeat' first|apply OS.ok;constructor|refine IM.mk λ_=>?_
 all_goals exact tr
structure VI (n:Int) (i:IT):Prop where
 o1:1<=i.1
 o2:i.1<=28
 r:∀j∈kr i,0<=j/\j<n
structure VT (t:Int×List IT):Prop where
 r0:0<=t.1
 r1:t.1<=32
 i:∀i∈t.2,VI t.1 i
structure VJ (w:WT) (k:Int) (i:IT):Prop where
 a7:i.1=7->AR w i.2.2.1 i.2.2.2.2.1
 a9:i.1=9->AR w i.2.1 i.2.2.2.2.1
 se:i.1=28->i.2.2.2.2.2= -1
 si:¬i.1=28->0<=i.2.2.2.2.2/\i.2.2.2.2.2<l! w.2.2.2.2.2/\(aE rZ w.2.2.2.2.2 i.2.2.2.2.2).1=k
def Nl (w:WT) (k:Int) (c:Int×Y IT) (hc:l! c.2<=1000000):Ok (jR (w,k,c)) λb=>b=J->VT c/\∀i∈c.2,VJ w k i:=by
 unfold jR bf bB bN cM cg dh xZ bp bO jP bM a8 cW aJ cH;refine a6 (λx=>x.2=(w,c)/\(x.1=af->0<=c.1/\c.1<=32)) ?_ ?_;refine bF (λ_=>ak ⟨rfl,nofun⟩) λh0=>bF (λ_=>ak ⟨rfl,nofun⟩) λh1=>ak ⟨rfl,λ_=>⟨h0,h1⟩⟩
 rintro⟨b,x⟩ ⟨e,I⟩;dsimp only at e I;subst e;refine aR (λ_=>ak nofun) λh=>?_
 let⟨r0,r1⟩:=I h;refine bX (l! c.2) (λi x=>x.1=(i:Int)/\x.2=(w,c)/\∀q:Nat,q<i->VI c.1 (aE tV c.2 (q:Int))/\VJ w k (aE tV c.2 (q:Int))) ?_ ?_ ⟨rfl,rfl,λk hk=>M⟩
 .rintro i ⟨a,x⟩ hi ⟨e1,e2,e3⟩;dsimp only at e1 e2 e3;subst e1 e2;refine cV ?_;refine bK (aX ?_);generalize hz:(aE _ _ _)=z;refine a6 (λx=>x.2=(w,c,z)/\(x.1=af->(1<=z.1/\z.1<=28)/\(z.1=7->AR w z.2.2.1 z.2.2.2.2.1)/\(z.1=9->AR w z.2.1 z.2.2.2.2.1))) ?_ ?_;refine bF (λ_=>ak ⟨rfl,nofun⟩) λh0=>bF (λ_=>ak ⟨rfl,nofun⟩) λh1=>?_
  refine aR (λ_=>ak ⟨rfl,nofun⟩) λ_=>?_
  refine ay (aaf w z) λy hy=>?_
  refine dJ (λ_=>ak ⟨rfl,nofun⟩) λhyt=>?_
  exact ay (an5 c.2 _ hc) λy _=>ak ⟨rfl,λ_=>⟨⟨h0,h1⟩,hy hyt⟩⟩
  rintro⟨b,x⟩ ⟨e,I⟩;dsimp only at e I;subst e;refine aR (λ_=>ak nofun) λh=>?_
  let⟨⟨o1,o2⟩,a7,a9⟩:=I h;refine a6 (λx=>x.2=(w,c,z)/\(x.1=af->(z.1=28->z.2.2.2.2.2= -1)/\(¬z.1=28->0<=z.2.2.2.2.2/\z.2.2.2.2.2<l! w.2.2.2.2.2/\(aE rZ w.2.2.2.2.2 z.2.2.2.2.2).1=k))) ?_ ?_;simp only[uL,UL];refine aN (λA=>?_) λA=>?_
  refine bY (λ_=>ak ⟨rfl,nofun⟩) λhm=>?_
  exact bY (λh=>(h A).elim) λ_=>ak ⟨rfl,λ_=>⟨λ_=>hm,λh=>(h A).elim⟩⟩
  refine bY (λ_=>?_) λh=>(A h).elim
  refine bY (λ_=>ak ⟨rfl,nofun⟩) λh=>?_
  exact aS h.1 h.2 (aX (ak ⟨rfl,λh2=>⟨λh3=>(A h3).elim,λ_=>⟨h.1,h.2,by simpa using h2⟩⟩⟩));rintro⟨b,x⟩ ⟨e,hsi⟩;dsimp only at e hsi;subst e;refine aR (λ_=>ak nofun) λhbs=>?_
  let⟨se,si⟩:=hsi hbs;refine a6 (λx=>x.2=(w,c,z)) ?_ ?_
  .simp only[uL,UL];with_reducible repeat' first|apply OS.ok;constructor|refine IM.mk λ_=>?_
   all_goals rfl
  rintro⟨b,x⟩ e;dsimp only at e;subst e;refine aR (λ_=>ak nofun) λ_=>?_
  refine aV (wK z) ?_;refine bX (l! (kr z)) (λj x=>x.1=(j:Int)/\x.2=(w,c)/\∀k:Nat,k<j->0<=aE aO (kr z) (k:Int)/\aE aO (kr z) (k:Int)<c.1) ?_ ?_ ⟨rfl,rfl,λk hk=>M⟩;rintro j ⟨a,x⟩ hj ⟨d1,d2,d3⟩;dsimp only at d1 d2 d3;subst d1 d2;refine cV ?_;refine bK (aX ?_);refine aV (uL _ _) ?_;refine bY (λ_=>ak nofun) λh=>ak ?_
  dsimp only at h ⊢;have hj32:l! (kr z)<=3:=Ho z;refine ⟨iC,rfl,λk hk=>?_⟩
  grind
  rintro⟨a,x⟩ ⟨d1,d2,d3⟩;dsimp only at d1 d2 d3;subst d1 d2;refine cK (ak ?_);dsimp only;refine ⟨iC,rfl,λk hk=>?_⟩;rcases co k i with h1|h1;exact e3 k h1;rw[show k=i by omega,hz];exact⟨⟨o1,o2,ij (T:=aO) d3⟩,⟨a7,a9,se,si⟩⟩
 rintro⟨a,x⟩ ⟨e1,e2,e3⟩;refine cK (ak λ_=>⟨⟨r0,r1,ij (T:=tV) (p:=VI c.1) λq hq=>(e3 q hq).1⟩,ij (T:=tV) (p:=VJ w k) λq hq=>(e3 q hq).2⟩)
structure VC (c:CT):Prop where
 vl:VL c.1
 tl:l! c.2=l! c.1.2.2.2.2.1
 t:∀t∈c.2,VT t
 sv:SV0 c.1
 j:∀k:Nat,k<l! c.2->∀i∈(aE AC c.2 (k:Int)).2,VJ c.1 (k:Int) i
structure CB (c:CT):Prop where
 th:l! c.2<=1000000
 ins:∀t∈c.2,l! t.2<=1000000
 rg:∀t∈c.2,1<=t.1
 wx:WX c.1
 ok:lq c=Z J
 cn:∀t∈c.2,∀i∈t.2,i.1=1->IW i.2.2.2.2.1
def ZB (c:CT) (h1:l! c.2<=1000000) (h2:∀t∈c.2,l! t.2<=1000000):Ok (lq c) λb=>b=J->VC c:=by
 let⟨w,l⟩:=c;dsimp only at h1 h2;unfold lq bN bO bM a8 cW aJ cH;refine a6 (λx=>x.2=(w,l)/\(x.1=af->(VL w/\SV0 w)/\l! l=l! w.2.2.2.2.1)) ?_ ?_;refine ay (R5 w) λb I=>?_
 refine dJ (λ_=>ak ⟨rfl,nofun⟩) λh=>ak ⟨rfl,λh3=>⟨I h,?_⟩⟩
 simp at h3;omega;rintro⟨b,x⟩ ⟨e,hx⟩;subst e;refine aR (λ_=>ak nofun) λh=>?_
 let⟨⟨hv,hsv⟩,hl⟩:=hx h;refine bX (l! l) (λi x=>x.1=(i:Int)/\x.2=(w,l)/\∀k:Nat,k<i->VT (aE AC l (k:Int))/\∀q∈(aE AC l (k:Int)).2,VJ w (k:Int) q) ?_ ?_ ⟨rfl,rfl,λk hk=>M⟩;rintro i ⟨a,x⟩ hi ⟨e1,e2,A⟩;subst e1 e2;refine cV ?_;refine bK (aX ?_);have hm:=be (T:=AC) (xs:=l) (j:=(i:Int)) M M;revert hm;generalize hz:(aE AC l (i:Int))=z;intro hm;refine ay (Nl w _ z (h2 z hm)) λb I=>?_
 refine dJ (λ_=>ak nofun) λh=>ak ?_
 refine ⟨iC,rfl,λk hk=>?_⟩
 grind
 rintro⟨a,x⟩ ⟨e1,e2,A⟩;subst e1 e2;refine cK (ak λ_=>⟨hv,hl,ij (T:=AC) (p:=VT) λk hk=>(A k hk).1,hsv,λk hk=>(A k hk).2⟩)
section
abbrev TT:Type:=Int×η×Y η×Int
structure TL (F:Int->Prop) (E:Nat) (l:η):Prop where
 a:LX l
 m:∀y∈l,0<=y/\y<(E:Int)
 f:∀y∈l,F y
variable {F:Int->Prop}
def TL.len (h:TL F i c):l! c<=i:=by
 have:=EK c 0 i h.a h.m;omega
def TL.nil (E:Nat):TL F E []:=⟨trivial,λy q=>(by cases q),λy q=>(by cases q)⟩
def TL.uni {b:η} (I:TL F i c) (A:TL F i b):TL F i (xR c b):=
 ⟨Wu c b,λy q=>by
   rcases mA.1 q with h|h;exact I.m y h;exact A.m y h,λy q=>(mA.1 q).elim (I.f y) (A.f y)⟩
variable {m:Nat}
def TL.mono {A:Int->Prop} (h:TL F i c) (hf:i<=m) (hF:∀y,F y->A y):TL A m c:=⟨h.a,λy q=>⟨(h.m y q).1,by have:=(h.m y q).2;omega⟩,λy q=>hF y (h.f y q)⟩
structure TH (F:Int->Prop) (E:Nat) (s:TT):Prop where
 r:l! s.2.1<=32
 t:l! s.2.2.1<=32
 l:∀l∈s.2.2.1,TL F E l
 e0:0<=s.2.2.2
 e1:s.2.2.2<=(E:Int)
 w:∀z∈s.2.1,IW z
def TH.zero (E:Nat):TH F E (0,[],[],0):=⟨b8,b8,λl A=>(by cases A),b8,b8,λz q=>(by cases q)⟩
def TH.mono {q:Int->Prop} {s:TT} (h:TH F i s) (hf:i<=m) (hF:∀y,F y->q y):TH q m s:=⟨h.r,h.t,λl I=>(h.l l I).mono hf hF,h.e0,by have:=h.e1;omega,h.w⟩
def AG (s:TT) (E:Nat) (hE:E<=100000) (h:TH F E s):cB s=Z ((s.1,s.2.2.2),s.2.1,s.2.2.1):=by
 let⟨h1,h2,h3,h4,h5,h6⟩:=h;refine bZ ?_;unfold cB bf bB bN cg dh bO bT bM a8 cW aJ cH;refine a! ?_;refine bX (l! s.2.2.1) (λi x=>x.1=(i:Int)/\x.2.1=s/\x.2.2.2.1=(s.1,s.2.2.2)/\x.2.2.2.2.1=s.2.1/\x.2.2.2.2.2=s.2.2.1.take i) ?_ ?_ ⟨rfl,rfl,rfl,rfl,rfl⟩;rintro i ⟨a,b,c,d,e,f⟩ hi ⟨e1,e2,I,A,q⟩;dsimp only at e1 e2 I A q;subst e1 e2 q;refine cV ?_;refine bK (aX ?_);have hz:=(h3 _ (be (T:=.sl (.int .i64)) (xs:=b.2.2.1) (j:=(i:Int)) M M)).len;refine dB (by simp only[jB,bV];exact cR hz M) M ?_;refine a! (ak ?_);dsimp only;refine ⟨iC,rfl,I,A,?_⟩;rw[lM (T:=.sl (.int .i64)) hi];rfl;rintro⟨a,b,c,d,e,f⟩ ⟨e1,e2,I,A,q⟩;dsimp only at e1 e2 I A q;subst e1 e2 q;refine cK (ak ?_);show (d,e,_)=_;rw[I,A,cO]
def zI (b:Bool):Ok (ie b) λy=>IW y:=by
 unfold ie;exact aR (λ_=>ak (IW.sm cr cr)) λ_=>ak (IW.sm cr cr)
def KH (n:Int):Ok (n_ n) λ_=>True:=by
 unfold n_ bO aJ;with_reducible repeat' first|apply OS.ok;constructor|refine IM.mk λ_=>?_
 all_goals trivial
def apy (x:ν):Ok (xl x) λy=>IW y.1:=by
 have q:IW 0:=IW.sm cr cr;unfold xl bp;refine aN (λ_=>ak (Wq _)) λ_=>aN (λ_=>?_) λ_=>ak q
 exact ay (zI _) λ_ h=>ak h
def aku (x:π) (h2:IW x.2.1):Ok (vi x) λy=>IW y.1:=by
 have A:IW 0:=IW.sm cr cr;unfold vi bp jP bT aJ;have q:∀b,Ok (aw (ie b) λy=>Z (y,J)) λy:Int×Bool=>IW y.1:=λb=>ay (zI _) λ_ h=>ak h
 refine aN (λ_=>ak (Wq _)) λ_=>aN (λ_=>ak (Wq _)) λ_=>aN (λ_=>ak (Wq _)) λ_=>?_
 refine aN (λ_=>aN (λ_=>ak A) λh=>zP h (ak (Wq _))) λ_=>?_
 refine aN (λ_=>aN (λ_=>ak A) λh=>zP h (ak (h2.tm _))) λ_=>?_
 refine aN (λ_=>q _) λ_=>aN (λ_=>q _) λ_=>aN (λ_=>q _) λ_=>aN (λ_=>q _) λ_=>aN (λ_=>q _) λ_=>aN (λ_=>q _) λ_=>?_
 refine aN (λ_=>a6 (λy:Int×Bool=>IW y.1) (bY (λ_=>ay (zI _) λ_ h=>ak h) λ_=>ay (zI _) λ_ h=>ak h) λ_ h=>ak h) λ_=>?_
 exact aN (λ_=>a6 (λy:Int×Bool=>IW y.1) (bY (λ_=>ay (zI _) λ_ h=>ak h) λ_=>ay (zI _) λ_ h=>ak h) λ_ h=>ak h) λ_=>ak A
def ahw (E:Nat) (hE:E<=100000) (i:IT) (p:ν) (R:η) (T:Y η) (I:∀j∈kr i,0<=j/\j<(l! R:Int)) (o1:1<=i.1) (o2:i.1<=5) (hR:l! R<=32) (q:l! T=l! R) (hl:∀l∈T,TL F E l) (hw:∀z∈R,IW z) (hN:i.1=1->IW i.2.2.2.2.1):Ok (zU ((i,p),R,T)) λy=>y.1.1.2=p.2/\l! y.2.1=l! R/\l! y.2.2=l! T/\(∀l∈y.2.2,TL F E l)/\∀z∈y.2.1,IW z:=by
 unfold zU bf bB bN ck bp bO bT bM nI a8 cW aJ cH;refine aV (wK i) ?_;have h3:=Ho i;refine bX (l! (kr i)) (λj x=>x.1=(j:Int)/\x.2.1=R/\x.2.2.1=T/\x.2.2.2.1=i/\x.2.2.2.2.1=p) ?_ ?_ ⟨rfl,rfl,rfl,rfl,rfl⟩;rintro j ⟨a,b,c,d,e⟩ hj ⟨e1,e2,e3,e4,e5⟩;dsimp only at e1 e2 e3 e4 e5;subst e1 e2 e3 e4;refine cV ?_;have hz:=I _ (be (T:=aO) (xs:=kr d) (j:=(j:Int)) M M);refine a6 (λx=>x.2=(b,c,d,e)/\x.1=af) ?_ ?_;refine bK (aX ?_);refine bF (λg=>?_) λ_=>?_
 dsimp only at g;omega;refine bK (aX (ak ⟨rfl,?_⟩));dsimp only;rw[jK];exact hz.2;rintro⟨b',x⟩ ⟨f1,f2⟩;dsimp only at f1 f2;subst f1 f2;refine aR nofun λ_=>ak ?_
 dsimp only;exact⟨iC,rfl,rfl,rfl,e5⟩
 .rintro⟨a,b,c,d,e⟩ ⟨e1,e2,e3,e4,e5⟩;dsimp only at e1 e2 e3 e4 e5;subst e1 e2 e3 e4;refine cK ?_;let⟨e,e'⟩:=e;dsimp only at e5;subst e5;refine ay (P:=λy=>y.1.1.2=e.2/\l! y.2.1=l! b/\l! y.2.2=l! c/\(∀l∈y.2.2,TL F E l)/\∀z∈y.2.1,IW z) ?_ λr I=>ak I
  have hA:d.1≠5->0<=d.2.1/\d.2.1<(l! b:Int):=λh5=>I _ (by
   unfold kr;(repeat' split)<;>simp<;>omega)
  have hB:2<=d.1->d.1≠5->0<=d.2.2.1/\d.2.2.1<(l! b:Int):=λh2 h5=>I _ (by
   unfold kr;(repeat' split)<;>simp<;>omega)
  have hC:d.1=4->0<=d.2.2.2.1/\d.2.2.2.1<(l! b:Int):=λh5=>I _ (by
   unfold kr;(repeat' split)<;>simp<;>omega)
  have hg:∀{j:Int},0<=j->j<(l! b:Int)->TL F E (aE (.sl (.int .i64)) c j):=λh0 h1=>hl _ (be (T:=.sl (.int .i64)) (xs:=c) h0 (by rw[q];exact h1))
  refine a6 (λx=>x.2.1=b/\x.2.2.1=c/\x.2.2.2.1=d/\x.2.2.2.2.1=e/\TL F E x.1.2.2/\d.1≠5/\IW x.1.1) ?_ ?_;refine aN (λ_=>ak ⟨rfl,rfl,rfl,hl,hw⟩) λA=>?_
  have hwg:∀{j:Int},0<=j->j<(l! b:Int)->IW (aE aO b j):=λh0 h1=>hw _ (be (T:=aO) h0 h1)
  refine aN (λq1=>ak ⟨rfl,rfl,rfl,rfl,TL.nil E,A,hN q1⟩) λn1=>?_
  dsimp only at n1 A;let⟨b0,b1⟩:=hB M A;refine aN (λ_=>?_) λn2=>?_
  refine aS b0 b1 (aS b0 b1 (aX ?_));refine aS b0 (by dsimp only;rw[q];exact b1) (aS b0 (by dsimp only;rw[q];exact b1) (aX ?_));exact ak ⟨rfl,rfl,rfl,rfl,hg b0 b1,A,hwg b0 b1⟩;refine aN (λ_=>?_) λn3=>?_
  refine ay (KH _) λy _=>?_
  refine aS b0 b1 (aS b0 b1 (aX ?_));refine ay (apy _) λy hy=>?_
  refine aS b0 (by dsimp only;rw[q];exact b1) (aS b0 (by dsimp only;rw[q];exact b1) (aX ?_));exact ak ⟨rfl,rfl,rfl,rfl,hg b0 b1,A,hy⟩;dsimp only at n2 n3;let⟨c0,c1⟩:=hC M;refine ay (KH _) λy _=>?_
  refine aS b0 b1 (aS b0 b1 (aX ?_));refine aS c0 c1 (aS c0 c1 (aX ?_));refine ay (aku _ (hwg b0 b1)) λy hy=>?_
  refine aS b0 (by dsimp only;rw[q];exact b1) (aS b0 (by dsimp only;rw[q];exact b1) (aX ?_));refine aS c0 (by dsimp only;rw[q];exact c1) (aS c0 (by dsimp only;rw[q];exact c1) (aX ?_));have g1:=hg b0 b1;have g2:=hg c0 c1;refine aV (ZC _ _ (cR g1.len M) (cR g2.len M)) ?_;exact ak ⟨rfl,rfl,rfl,rfl,g1.uni g2,A,hy⟩;rintro⟨⟨v,ok,tn⟩,b',c',d',e',e''⟩ ⟨f1,f2,f3,f4,f5,f6,f7⟩;dsimp only at f1 f2 f3 f4 f5 f6 f7;subst f1 f2 f3 f4;let⟨a0,a1⟩:=hA f6;have ht:=f5.len;refine a! ?_;refine aS a0 a1 (aS a0 a1 (aS a0 (by dsimp only;rw[q];exact a1) (aS a0 (by dsimp only;rw[q];exact a1) (ak ?_))));refine ⟨rfl,bu ..,bu ..,λl hm=>?_,λz hm=>?_⟩;rcases li hm with h|h;exact hl l h;rw[h];exact f5;rcases li hm with h|h;exact hw z h;rw[h];exact f7
def akc (E:Nat) (hE:E<=100000) (c:Int×Y IT) (hc:l! c.2<=1000000) (hv:VT c) (hN:∀i∈c.2,i.1=1->IW i.2.2.2.2.1) (s:TT) (h:TH F E s):Ok (o6 (c,s)) λy=>TH F E y.1/\(l! y.1.2.1=0\/y.1.2.2.2=s.2.2.2):=by
 unfold o6 bf bB bN cg dD dh bp bO jO jP bT bM a8 cW aJ cH;have I:=h;let⟨h1,h2,h3,h4,h5,h6⟩:=h;refine a6 (λx=>x.2.1=c/\x.2.2.1=s/\(x.1=af->(l! s.2.1:Int)=c.1/\(l! s.2.2.1:Int)=c.1)) ?_ ?_;refine bY (λ_=>ak ⟨rfl,rfl,nofun⟩) λg=>ak ⟨rfl,rfl,λh=>?_⟩
 simp at h;exact⟨g,h⟩;rintro⟨b,c',s',z⟩ ⟨e1,e2,A⟩;dsimp only at e1 e2 A;subst e1 e2;refine aR (λ_=>ak ⟨TH.zero E,.inl rfl⟩) λhb=>?_
 let⟨q1,q2⟩:=A hb;refine aV (AG s' E hE I) ?_;refine sQ (λx=>((l! c'.2:Int)+1-x.1).toNat) (λx=>0<=x.1/\x.1<=(l! c'.2:Int)+1/\x.2.1=c'/\x.2.2.1.2=s'.2.2.2/\l! x.2.2.2.2.1=l! s'.2.1/\l! x.2.2.2.2.2=l! s'.2.2.1/\(∀l∈x.2.2.2.2.2,TL F E l)/\∀z∈x.2.2.2.2.1,IW z) ?_ ⟨lX,lX,rfl,rfl,rfl,rfl,h3,h6⟩;rintro⟨(n:Int),c,⟨(q:Int),ev⟩,z',R,T⟩ ⟨n0,n1,e1,e2,A,e4,e5,e6⟩;dsimp only at n0 n1 e1 e2 A e4 e5 e6;subst e1 e2;refine eX (λg=>?_) λ_=>ak ⟨TH.zero E,.inl rfl⟩
 dsimp only[ax]at g;refine a6 (λx=>x.2=(c,(q,s'.2.2.2),z',R,T)/\(x.1=af->0<=q/\q<(l! c.2:Int))) ?_ ?_;refine bF (λ_=>ak ⟨rfl,nofun⟩) λg1=>ak ⟨rfl,λh=>?_⟩
 dsimp only at g1 h;rw[jK]at h;exact⟨g1,h⟩;rintro⟨b',x⟩ ⟨f1,f2⟩;dsimp only at f1 f2;subst f1;refine aR (λ_=>ak ⟨TH.zero E,.inl rfl⟩) λhb=>?_
 let⟨p0,p1⟩:=f2 hb;refine aS p0 p1 (aX ?_);have hi:=hv.i _ (be (T:=tV) (xs:=c.2) (j:=q) p0 p1);have hNi:=hN _ (be (T:=tV) (xs:=c.2) (j:=q) p0 p1);revert hi hNi;generalize (aE tV _ _)=i;intro hi hNi;refine aV (Kv _) ?_;refine bY (λ_=>ak ⟨⟨lX,lX,e5,h4,h5,e6⟩,.inr rfl⟩) λhsil=>?_
 refine aN (λ_=>ak ⟨TH.zero E,.inl rfl⟩) λhn=>?_
 dsimp only[ax]at hn;refine ay (ahw E hE i (q,s'.2.2.2) R T (λj hj=>by have:=hi.r j hj;omega) hsil.1 hsil.2 M M e5 e6 hNi) λy hy=>?_
 let⟨⟨⟨pc',ev'⟩,ok⟩,R',T'⟩:=y;let⟨k1,k2,k3,k4,k5⟩:=hy;dsimp only at k1 k2 k3 k4 k5;refine cq (ik k3.symm (cq (ik k2.symm (pX ?_))));refine dJ (λ_=>ak ⟨TH.zero E,.inl rfl⟩) λ_=>ak ?_
 dsimp only;rw[iF];exact⟨⟨M,M,rfl,k1,M,M,k4,k5⟩,M⟩
end
abbrev ST:Type:=SY×η×η×Y TT
structure TF (c:Int×List IT) (t:TT):Prop where
 p0:0<=t.1
 p1:t.1<(l! c.2:Int)
 r:(l! t.2.1:Int)=c.1
 t:(l! t.2.2.1:Int)=c.1
structure FSx (c:CT) (s:ST):Prop where
 vc:VC c
 cd:∀d∈c.1.2.2.1,0<=d.2/\d.2<(l! c.1.2.1:Int)
 e3:l! s.1.2.2.2=l! c.1.2.2.2.2.1
 ce:l! s.2.1=l! c.1.1
 fu:l! s.2.2.1=l! c.1.2.2.2.1
 th:l! s.2.2.2=l! c.2
 t:∀k:Nat,k<l! c.2->TF (aE AC c.2 (k:Int)) (aE gh s.2.2.2 (k:Int))
def FQ (L:Y ET) (k:Int) (y:Int):Prop:=1<=y/\T9 L k y
structure SV (n:Nat) (L:List ET) (s:ST):Prop where
 sb:SB n s.1
 ln:l! L=n
 t:∀k:Nat,k<l! s.2.2.2->TH (FQ L k) n (aE gh s.2.2.2 (k:Int))
 cw:∀z∈s.2.1,IW z
 fw:∀z∈s.2.2.1,IW z
def SV.ti {s:ST} (h:SV i L s) (h0:0<=a) (h1:a<(l! s.2.2.2:Int)):TH (FQ L a) i (aE gh s.2.2.2 a):=by
 have:=h.t a.toNat M
 grind
structure TG (c:CT) (L:List ET) (sy:SY) (k:Int) (t:TT):Prop where
 ev:t.2.2.2=(l! (fl L k):Int)
 wi:(aE iH sy.2.2.2 k).1=3\/(aE iH sy.2.2.2 k).1=4->(aE tV (aE AC c.2 k).2 t.1).1=21
 nw:l! (fl L k)=0->(aE iH sy.2.2.2 k).1=0\/(aE iH sy.2.2.2 k).1=1
structure SIv (c:CT) (L:List ET) (s:ST):Prop where
 ac:Acw c.1 L s.1 s.2.1 s.2.2.1
 t:∀k:Nat,k<l! s.2.2.2->(aE gh s.2.2.2 (k:Int)).2.1.length=0\/TG c L s.1 (k:Int) (aE gh s.2.2.2 (k:Int))
def at9 (c:CT) (s:ST) (I:CB c):Ok (zS (c,s)) λb=>b=J->FSx c s:=by
 unfold zS bf bB dD dh bO jO jP bM a8 cW aJ cH;refine a6 (λx=>x.2=(c,s)/\(x.1=af->VC c/\(∀d∈c.1.2.2.1,0<=d.2/\d.2<(l! c.1.2.1:Int))/\l! s.1.2.2.2=l! c.1.2.2.2.2.1/\l! s.2.1=l! c.1.1/\l! s.2.2.1=l! c.1.2.2.2.1/\l! s.2.2.2=l! c.2)) ?_ ?_;refine ay (ZB c I.th I.ins) λb A=>?_
 refine dJ (λ_=>ak ⟨rfl,nofun⟩) λh=>?_
 have q:=A h;refine ay (Wi c.1 s.1 (by have:=q.vl.d;omega)) λb2 hb2=>?_
 refine dJ (λ_=>ak ⟨rfl,nofun⟩) λh2=>?_
 let⟨g1,_,_,g4⟩:=hb2 h2;refine bY (λ_=>ak ⟨rfl,nofun⟩) λk1=>?_
 refine bY (λ_=>ak ⟨rfl,nofun⟩) λk2=>ak ⟨rfl,λk3=>⟨q,g1,g4,cf,cf,?_⟩⟩
 simp at k3;omega;rintro⟨b,x⟩ ⟨e,A⟩;subst e;refine aR (λ_=>ak nofun) λh=>?_
 let⟨q,hcd,h3,hce,hfu,hth⟩:=A h;have hcl:=I.th;refine bX (l! c.2) (λi x=>x.1=(i:Int)/\x.2=(c,s)/\∀k:Nat,k<i->TF (aE AC c.2 (k:Int)) (aE gh s.2.2.2 (k:Int))) ?_ ?_ ⟨rfl,rfl,λk hk=>M⟩;rintro i ⟨a,x⟩ hi ⟨e1,e2,e3⟩;subst e1 e2;refine cV ?_;have hin:((i:Nat):Int)<(l! c.2:Int):=M;refine bK (aX ?_);refine a6 (λx=>x.2=(c,s)/\(x.1=af->TF (aE AC c.2 (i:Int)) (aE gh s.2.2.2 (i:Int)))) ?_ ?_;refine bF (λ_=>ak ⟨rfl,nofun⟩) λg0=>?_
 refine aS b8 hin (aX ?_);refine eX (λ_=>ak ⟨rfl,nofun⟩) λg1=>?_
 refine aS b8 hin (aX ?_);refine bY (λ_=>ak ⟨rfl,nofun⟩) λg2=>?_
 refine aS b8 hin (aX (ak ⟨rfl,λg3=>⟨g0,g1,g2,?_⟩⟩));simp at g3;exact g3;rintro⟨b,x⟩ ⟨e,A⟩;subst e;refine aR (λ_=>ak nofun) λh=>ak ?_
 refine ⟨iC,rfl,λk hk=>?_⟩
 grind
 rintro⟨a,x⟩ ⟨e1,e2,e3⟩;subst e1 e2;refine cK (ak λ_=>⟨q,hcd,h3,hce,hfu,hth,e3⟩)
def aw7 {i:IT} (h:i.1=6\/i.1=7\/i.1=27\/i.1=10):i.2.1∈kr i:=by
 unfold kr;(repeat' split)<;>simp<;>omega
def aw6 {i:IT} (h:i.1=8\/i.1=9\/i.1=26):i.2.2.1∈kr i:=by
 unfold kr;(repeat' split)<;>simp<;>omega
def aCm {i:IT} (h:i.1=7\/i.1=9):i.2.2.2.1∈kr i:=by
 unfold kr;(repeat' split)<;>simp<;>omega
structure KD (op k:Int):Prop where
 ld:k=3->op=6\/op=7
 st:k=4->op=8\/op=9
 br:k=5->op=10
 se:k=22->op=26
 ge:k=23->op=27
 e1:k=2->op=28
 n1:¬k=1
 n17:¬k=17
 wt:k=16->op=21
 e2:¬k=0->op=28->k=2
 d7:¬k=0->op=7->k=3
 d8:¬k=0->op=8->k=4
 d9:¬k=0->op=9->k=4
 d10:¬k=0->op=10->k=5
 d26:¬k=0->op=26->k=22
def ash (op:Int):Ok (Et op) λk=>KD op k:=by
 refine a6 (λx=>x.2=[3,3,4,4,5,6,7,8,9,10,11,12,13,14,15,16,18,19,20,21,22,23,2]/\(x.1=af->6<=op/\op<=28)) ?_ ?_;refine bF (λ_=>ak ⟨rfl,nofun⟩) λg=>ak ⟨rfl,λh=>?_⟩
 rw[jJ]at h;exact⟨g,h⟩;rintro⟨b,x⟩ ⟨e,q⟩;subst e;refine aR (λ_=>ak (by constructor<;>first|decide|(intro h;first|(exact (h rfl).elim)|(cases h;done)))) λh=>?_
 let⟨h1,h2⟩:=q h;dsimp only;rw[iF (n:=op-6) M M];refine aS M ye (aS M ye (aX (ak ?_)));have:op=6\/op=7\/op=8\/op=9\/op=10\/op=11\/op=12\/op=13\/op=14\/op=15\/op=16\/op=17\/op=18\/op=19\/op=20\/op=21\/op=22\/op=23\/op=24\/op=25\/op=26\/op=27\/op=28:=M;rcases this with rfl|rfl|rfl|rfl|rfl|rfl|rfl|rfl|rfl|rfl|rfl|rfl|rfl|rfl|rfl|rfl|rfl|rfl|rfl|rfl|rfl|rfl|rfl;all_goals (constructor<;>decide)
def ZR (a n:Int):Ok (xm (a,n)) λr=>n=2->r=0\/r=1:=by
 refine bF (λ_=>ak λh=>b8) λh=>?_
 refine zP M ?_;have q:=Int.lt_tmod_of_pos a (b:=n) M;refine a6 (λr=>n=2->r=0\/r=1) (bF (λg=>ak λh2=>?_) λg=>ak λh2=>cf) λ_ h=>ak h
 dsimp only at g ⊢;rw[iF];omega
def Xi (i:IT) (t:TT) (hr:∀j∈kr i,0<=j/\j<(l! t.2.1:Int)):Ok (yi (i,t)) λo=>(i.1=7->i.2.2.1=3->i.2.2.2.2.1=2->o=3\/o=4)/\(i.1=9->i.2.1=3->i.2.2.2.2.1=2->o=3\/o=4):=by
 have q:i.1=7\/i.1=9->0<=i.2.2.2.1/\i.2.2.2.1<(l! t.2.1:Int):=λh=>hr _ (by
  unfold kr;(repeat' split)<;>simp<;>omega)
 have tr:∀{o:Int},¬i.1=7->¬i.1=9->(i.1=7->i.2.2.1=3->i.2.2.2.2.1=2->o=3\/o=4)/\(i.1=9->i.2.1=3->i.2.2.2.2.1=2->o=3\/o=4):=λh1 h2=>⟨λh=>(h1 h).elim,λh=>(h2 h).elim⟩
 have wk:∀{b r n:Int},b=3->n=2->(n=2->r=0\/r=1)->aU .i64 (b+r)=3\/aU .i64 (b+r)=4:=λh1 h2 A=>by
  rw[iF];omega
 refine a6 (λx=>x.2=(i,t)/\(x.1=J->i.1=6\/i.1=27)) (aN (λh=>ak ⟨rfl,λ_=>.inl h⟩) λ_=>ak ⟨rfl,λh=>.inr (a_ h)⟩) ?_;rintro⟨b,x⟩ ⟨e,hb⟩;subst e;refine aR (λh=>ak (tr cf cf)) λ_=>?_
 refine aN (λh=>?_) λI=>?_
 exact aS (q (.inl h)).1 (q (.inl h)).2 (aX (ay (ZR _ _) λy hy=>ak ⟨λ_ A h4=>wk A h4 hy,λh9=>by dsimp only at h;omega⟩));refine aN (λh=>?_) λn9=>?_
 exact aS (q (.inr h)).1 (q (.inr h)).2 (aX (ay (ZR _ _) λy hy=>ak ⟨λh7=>(I h7).elim,λ_ A h4=>wk A h4 hy⟩));refine a6 (λ_=>True) ?_ λx _=>aR (λ_=>ak (tr I n9)) λ_=>ak (tr I n9)
 with_reducible repeat' first|apply OS.ok;constructor|refine IM.mk λ_=>?_
 all_goals trivial
def ax2 {w:WT} (A:w.1=C0) {n:Int} (h:AR w a n):a=3/\n=2:=by
 let⟨b0,b1,ix,sz,q⟩:=h;rw[A]at b1 ix sz q;have b1:a<5:=b1;rcases (by omega:a=0\/a=1\/a=2\/a=3\/a=4) with rfl|rfl|rfl|rfl|rfl;exact (sz rfl).elim;exact (sz rfl).elim;exact (sz rfl).elim;exact⟨rfl,q.symm⟩;exact bi ix cr
def avz {w:WT} (q:w.1=C0) (h:a=3\/a=4):¬(aE mS w.1 a).2.2.1=0:=by
 rw[q];rcases h with rfl|rfl<;>decide
structure PE (n:Nat) (c:CT) (s:ST) (t:Int) (e:ET):Prop where
 fs:FSx c s
 t0:0<=t
 t1:t<(l! c.2:Int)
 et:e.1=t
 d:l! e.2.2.2.2.2.1<=n
 f:l! e.2.2.2.2.2.2<=n
 a:e.2.1=3\/e.2.1=23\/e.2.1=5->0<=(aE tV (aE AC c.2 t).2 (aE gh s.2.2.2 t).1).2.1/\(aE tV (aE AC c.2 t).2 (aE gh s.2.2.2 t).1).2.1<((aE gh s.2.2.2 t).2.1.length:Int)
 b:e.2.1=4\/e.2.1=22->0<=(aE tV (aE AC c.2 t).2 (aE gh s.2.2.2 t).1).2.2.1/\(aE tV (aE AC c.2 t).2 (aE gh s.2.2.2 t).1).2.2.1<((aE gh s.2.2.2 t).2.1.length:Int)
structure PS (c:CT) (L:List ET) (s:ST) (t:Int) (e:ET):Prop where
 tg:TG c L s.1 t (aE gh s.2.2.2 t)
 s1:e.2.1=1\/e.2.1=2->e.2.2.2.2.1= -1
 s2:¬(e.2.1=1\/e.2.1=2)->0<=e.2.2.2.2.1/\e.2.2.2.2.1<l! c.1.2.2.2.2.2/\(aE rZ c.1.2.2.2.2.2 e.2.2.2.2.1).1=t
 de:0<l! e.2.2.2.2.2.1->e.2.1=5\/(e.2.1=3\/e.2.1=4)/\¬(aE mS c.1.1 e.2.2.1).2.2.1=0
 fr:0<l! e.2.2.2.2.2.2->e.2.1=4\/e.2.1=22
 da:LX e.2.2.2.2.2.1
 dq:∀y∈e.2.2.2.2.2.1,FQ L t y
 fa:LX e.2.2.2.2.2.2
 fq:∀y∈e.2.2.2.2.2.2,FQ L t y
 wt:e.2.1=16->(aE tV (aE AC c.2 t).2 (aE gh s.2.2.2 t).1).1=21
def ae9 (n:Nat) (hn:n<=100000) (c:CT) (L:Y ET) (s:ST) (hc:CB c) (hs:SV n L s) (hI:SIv c L s) (t:Int):Ok (pC (c,s,t)) λy=>y.2=J->PE n c s t y.1/\PS c L s t y.1:=by
 unfold pC bf bB bN cg dD dh bp bO bT bM a8 aJ;refine a6 (λx=>x.2.1=c/\x.2.2.1=s/\(x.1=af->FSx c s/\0<=t/\t<(l! c.2:Int))) ?_ ?_;refine ay (at9 c s hc) λb hb=>?_
 refine dJ (λ_=>ak ⟨rfl,rfl,nofun⟩) λh=>?_
 refine bF (λ_=>ak ⟨rfl,rfl,nofun⟩) λg0=>ak ⟨rfl,rfl,λg1=>?_⟩
 dsimp only at g0 g1;rw[jK]at g1;exact⟨hb h,g0,g1⟩;rintro⟨b,A,s',z⟩ ⟨e1,e2,hb⟩;dsimp only at e1 e2 hb;subst e1 e2;refine aR (λ_=>ak nofun) λh=>?_
 let⟨hf,t0,t1⟩:=hb h;have hk:((t.toNat:Nat):Int)=t:=M;have htf:=hf.t t.toNat M;rw[hk]at htf;have hvt:=hf.vc.t _ (be (T:=AC) (xs:=A.2) (j:=t) t0 t1);have hth:=hs.ti t0 (by rw[hf.th];exact t1);have key:∀e:ET,e.1=t->l! e.2.2.2.2.2.1<=n->l! e.2.2.2.2.2.2<=n->(e.2.1=1\/e.2.1=17\/KD (aE tV (aE AC A.2 t).2 (aE gh s'.2.2.2 t).1).1 e.2.1)->PE n A s' t e:=by
  intro e h1 h2 h3 I;have hi:=hvt.i _ (be (T:=tV) (xs:=(aE AC A.2 t).2) (j:=(aE gh s'.2.2.2 t).1) htf.p0 htf.p1);refine ⟨hf,t0,t1,h1,h2,h3,λh5=>?_,λh5=>?_⟩;rw[htf.r];rcases I with I|I|I;omega;omega;refine hi.r _ ?_;have a1:=I.ld;have a2:=I.ge;have a3:=I.br;revert a1 a2 a3 h5;generalize (aE tV (aE AC A.2 t).2 (aE gh s'.2.2.2 t).1)=i;intro h5 a1 a2 a3;exact aw7 M;rw[htf.r];rcases I with I|I|I;omega;omega;refine hi.r _ ?_;have a1:=I.st;have a2:=I.se;revert a1 a2 h5;generalize (aE tV (aE AC A.2 t).2 (aE gh s'.2.2.2 t).1)=i;intro h5 a1 a2;exact aw6 M
 have hir:=(hvt.i _ (be (T:=tV) (xs:=(aE AC A.2 t).2) (j:=(aE gh s'.2.2.2 t).1) htf.p0 htf.p1)).r;rw[<- htf.r]at hir;have hrg:=hc.rg _ (be (T:=AC) (xs:=A.2) (j:=t) t0 t1);have htg:TG A L s'.1 t (aE gh s'.2.2.2 t):=by
  have:=hI.t t.toNat (by rw[hf.th];omega);rw[hk]at this;refine this.resolve_left λh=>?_
  have:=htf.r;omega
 have hvj:=hf.vc.j t.toNat M;rw[hk]at hvj;have hvj:=hvj _ (be (T:=tV) (xs:=(aE AC A.2 t).2) (j:=(aE gh s'.2.2.2 t).1) htf.p0 htf.p1);have hC0:=hc.wx.c;refine aS t0 (by dsimp only;rw[hf.th];exact t1) (aX ?_);refine aS t0 t1 (aX ?_);refine aS htf.p0 htf.p1 (aX ?_);have t4:t<(l! s'.1.2.2.2:Int):=by rw[hf.e3,<-hf.vc.tl];exact t1
 have tz:(aE gh s'.2.2.2 t).2.2.1.length=(aE gh s'.2.2.2 t).2.1.length:=by have:=htf.r;have:=htf.t;omega
 refine aS t0 t4 (aX ?_);refine aN (λ_=>ak λ_=>⟨key _ rfl (fE _) (fE _) (.inl rfl),⟨htg,λ_=>rfl,λh=>(h (.inl rfl)).elim,nofun,nofun,trivial,λy hy=>(by cases hy),trivial,λy hy=>(by cases hy),nofun⟩⟩) λ_=>?_
 refine aN (λI=>aS t0 t4 (aX (ak λ_=>⟨key _ rfl (fE _) (fE _) (.inr (.inl rfl)),⟨htg,λh=>(by rcases h with h|h<;>cases h),λ_=>hvj.si (by rw[htg.wi (.inr I)];decide),nofun,nofun,trivial,λy hy=>(by cases hy),trivial,λy hy=>(by cases hy),nofun⟩⟩))) λ_=>?_
 refine aN (λ_=>?_) λ_=>ak nofun
 refine ay (ash _) λk q=>?_
 refine ay (Xi _ _ hir) λo ho=>?_
 refine aN (λ_=>ak nofun) λhk0=>?_
 have fin:∀e:ET,e.1=t->e.2.1=k->e.2.2.1=o->e.2.2.2.2.1=(aE tV (aE AC A.2 t).2 (aE gh s'.2.2.2 t).1).2.2.2.2.2->(0<l! e.2.2.2.2.2.1->(aE tV (aE AC A.2 t).2 (aE gh s'.2.2.2 t).1).1=10\/(aE tV (aE AC A.2 t).2 (aE gh s'.2.2.2 t).1).1=7\/(aE tV (aE AC A.2 t).2 (aE gh s'.2.2.2 t).1).1=9)->(0<l! e.2.2.2.2.2.2->(aE tV (aE AC A.2 t).2 (aE gh s'.2.2.2 t).1).1=8\/(aE tV (aE AC A.2 t).2 (aE gh s'.2.2.2 t).1).1=9\/(aE tV (aE AC A.2 t).2 (aE gh s'.2.2.2 t).1).1=26)->TL (FQ L t) n e.2.2.2.2.2.1->TL (FQ L t) n e.2.2.2.2.2.2->PE n A s' t e/\PS A L s' t e:=by
  intro e h1 h2 h3 I h5 h6 h7 h8;refine ⟨key e h1 h7.len h8.len (.inr (.inr (h2▸q))),htg,λh=>?_,λh=>?_,λh=>?_,λh=>?_,h7.a,h7.f,h8.a,h8.f,λh=>q.wt (h2▸h)⟩;rw[I];rw[h2]at h;exact hvj.se (q.e1 (h.resolve_left q.n1));rw[I];rw[h2]at h;exact hvj.si λh9=>h (.inr (q.e2 hk0 h9))
  rw[h2,h3];rcases h5 h with g|g|g;exact .inl (q.d10 hk0 g);let⟨q1,q2⟩:=ax2 hC0 (hvj.a7 g);exact .inr ⟨.inl (q.d7 hk0 g),avz hC0 (ho.1 g q1 q2)⟩;let⟨q1,q2⟩:=ax2 hC0 (hvj.a9 g);exact .inr ⟨.inr (q.d9 hk0 g),avz hC0 (ho.2 g q1 q2)⟩;rw[h2];rcases h6 h with g|g|g;exact .inl (q.d8 hk0 g);exact .inl (q.d9 hk0 g);exact .inr (q.d26 hk0 g)
 clear key htg hvj ho hC0 hrg;revert fin htf hvt hth hir tz q;dsimp only;generalize (aE gh s'.2.2.2 t)=th;generalize (aE tV _ th.1)=i;intro htf hvt hth hir tz q fin;have hlen:∀{j:Int},0<=j->j<(l! th.2.2.1:Int)->TL (FQ L t) n (aE (.sl (.int .i64)) th.2.2.1 j):=λh0 h1=>hth.l _ (be (T:=.sl (.int .i64)) (xs:=th.2.2.1) h0 h1)
 have hA:i.1=10->0<=i.2.1/\i.2.1<(l! th.2.2.1:Int):=λh=>by
  rw[tz];exact hir _ (aw7 (.inr (.inr (.inr h))))
 have hB:i.1=8\/i.1=9\/i.1=26->0<=i.2.2.1/\i.2.2.1<(l! th.2.2.1:Int):=λh=>by
  rw[tz];exact hir _ (aw6 (h))
 have hC:i.1=7\/i.1=9->0<=i.2.2.2.1/\i.2.2.2.1<(l! th.2.2.1:Int):=λh=>by
  rw[tz];exact hir _ (aCm (h))
 refine a6 (λx=>x.2.1=th/\x.2.2.1=i/\(x.2.2.2.1.1=t/\x.2.2.2.1.2.1=k/\x.2.2.2.1.2.2.1=o/\x.2.2.2.1.2.2.2.2=i.2.2.2.2.2)/\TL (FQ L t) n x.2.2.2.2/\(0<l! x.2.2.2.2->i.1=10\/i.1=7\/i.1=9)) ?_ ?_;refine aN (λh=>?_) λ_=>?_
 let⟨a0,a1⟩:=hA h;refine aS a0 a1 (aX ?_);have:=hlen a0 a1;exact dB (cR this.len M) M (ak ⟨rfl,rfl,⟨rfl,rfl,rfl,rfl⟩,this,λ_=>.inl h⟩);refine a6 (λx=>x.2.2.1=th/\x.2.2.2.1=i/\(x.2.2.2.2.1=t/\x.2.2.2.2.2.1=k/\x.2.2.2.2.2.2.1=o/\x.2.2.2.2.2.2.2.2=i.2.2.2.2.2)/\(x.1=J->i.1=7\/i.1=9)) ?_ ?_;refine aN (λh=>ak ⟨rfl,rfl,⟨rfl,rfl,rfl,rfl⟩,λ_=>.inl h⟩) λ_=>ak ⟨rfl,rfl,⟨rfl,rfl,rfl,rfl⟩,λh=>.inr (a_ h)⟩
 rintro⟨b,z0,th',i',t',k',z1⟩ ⟨e1,e2,e3,hb9⟩;dsimp only at e1 e2 e3 hb9;subst e1 e2;refine aR (λh=>?_) λ_=>ak ⟨rfl,rfl,e3,TL.nil n,nofun⟩
 let⟨a0,a1⟩:=hC (hb9 h);refine aS a0 a1 (aX ?_);have:=hlen a0 a1;exact dB (cR this.len M) M (ak ⟨rfl,rfl,e3,this,λ_=>.inr (hb9 h)⟩);rintro⟨z0,th',i',⟨t',k',z1⟩,ds⟩ ⟨e1,e2,e3,hd,hd2⟩;dsimp only at e1 e2 e3 hd hd2;subst e1 e2;refine a6 (λx=>(x.2.1.1=t/\x.2.1.2.1=k/\x.2.1.2.2.1=o/\x.2.1.2.2.2.2=i'.2.2.2.2.2)/\x.2.2.1=ds/\TL (FQ L t) n x.2.2.2/\(0<l! x.2.2.2->i'.1=8\/i'.1=9\/i'.1=26)) ?_ ?_;refine a6 (λx=>x.2=(z0,th',i',(t',k',z1),ds)/\(x.1=J->i'.1=8\/i'.1=9\/i'.1=26)) ?_ ?_;exact aN (λh=>ak ⟨rfl,λ_=>.inl h⟩) λ_=>aN (λh=>ak ⟨rfl,λ_=>.inr (.inl h)⟩) λ_=>ak ⟨rfl,λh=>.inr (.inr (a_ h))⟩
 rintro⟨b,x⟩ ⟨e,hb9⟩;dsimp only at e hb9;subst e;refine aR (λh=>?_) λ_=>ak ⟨e3,rfl,TL.nil n,nofun⟩
 let⟨a0,a1⟩:=hB (hb9 h);refine aS a0 a1 (aX ?_);have:=hlen a0 a1;exact dB (cR this.len M) M (ak ⟨e3,rfl,this,λ_=>hb9 h⟩);rintro⟨z2,⟨t2,k2,o2,z3,si⟩,d2,f2⟩ ⟨e1,e2,h1,h2⟩;dsimp only at e1 e2 h1 h2;subst e2;let⟨g1,g2,g3,g4⟩:=e1;exact ak λ_=>fin _ g1 g2 g3 g4 hd2 h2 hd h1
def axo {n:Nat} {k:Int} (h0:0<=k) (h1:k<n):(aE iH (thP n) k).1=0\/(aE iH (thP n) k).1=1:=by
 have hm:=be (T:=iH) (xs:=thP n) h0 (by rw[Hc];exact h1);revert hm;generalize aE iH (thP n) k=z;intro hm;cases n with
 |zero=>cases hm
 |succ n=>
  rcases bc.1 hm with rfl|hm;exact .inr rfl
  grind
def ae8 (c:CT) (hwx:WX c.1) (hvt:lq c=Z J) (hv:VC c):Ok (xh c) λs=>SV 0 [] s/\SIv c [] s:=by
 unfold xh bf bB bN cM cg dD dh iD bO vI bT bM a8 cW aJ cH;refine aV hvt (dJ nofun λ_=>?_);let⟨vc,vl,vd,vf,_,vt,_⟩:=id hv.vl;have htl:=hv.tl;refine aV (Qr c.1 hv.vl) ?_;refine bX (l! c.1.1) (λi x=>x.1=(i:Int)/\x.2.1=c/\x.2.2.2.1=Q0 c.1/\x.2.2.2.2=(c.1.1.take i).map λc=>c.2.2.2.2) ?_ ?_ ⟨rfl,rfl,rfl,rfl⟩;rintro i ⟨a,c',z,y',l⟩ hi ⟨e1,e2,I,A⟩;dsimp only at e1 e2 I A;subst e1 e2 I A;refine cV ?_;refine bK (aX (a! (ak ?_)));dsimp only;exact⟨iC,rfl,rfl,by rw[lM (T:=mS) hi,b_];rfl⟩;rintro⟨a,c',z,y',l⟩ ⟨e1,e2,I,A⟩;dsimp only at e1 e2 I A;subst e1 e2 I;rw[cO]at A;subst A;refine cK ?_;refine ay (P:=λs=>SV 0 [] s/\SIv c' [] s) ?_ λr hr=>ak hr
 refine bX (l! c'.1.2.2.2.1) (λi x=>x.1=(i:Int)/\x.2.1=c'/\x.2.2.2.1=Q0 c'.1/\x.2.2.2.2.1=ce0 c'.1/\x.2.2.2.2.2=aA i 0) ?_ ?_ ⟨rfl,rfl,rfl,rfl,rfl⟩;rintro i ⟨a,c,z,y,l,f⟩ hi ⟨e1,e2,I,A,e5⟩;dsimp only at e1 e2 I A e5;subst e1 e2 I e5;refine cV ?_;refine a! (ak ?_);dsimp only;exact⟨iC,rfl,rfl,A,by rw[xN]⟩;rintro⟨a,c,z,y,l,f⟩ ⟨e1,e2,I,A,e5⟩;dsimp only at e1 e2 I A e5;subst e1 e2 I A e5;refine cK ?_;refine ay (P:=λs=>SV 0 [] s/\SIv c [] s) ?_ λr hr=>ak hr
 refine bX (l! c.2) (λi x=>x.1=(i:Int)/\x.2.1=c/\x.2.2.2.1=Q0 c.1/\x.2.2.2.2.1=ce0 c.1/\x.2.2.2.2.2.1=fu0 c.1/\l! x.2.2.2.2.2.2=i/\∀t∈x.2.2.2.2.2.2,(∀F,TH F 0 t)/\t.2.2.2=0) ?_ ?_ ⟨rfl,rfl,rfl,rfl,rfl,rfl,λt ht=>(by cases ht)⟩;rintro i ⟨a,c,z,y,l,f,th⟩ hi ⟨e1,e2,I,A,e4b,e5,e6⟩;dsimp only at e1 e2 I A e4b e5 e6;subst e1 e2 I;refine cV ?_;have hin:((i:Nat):Int)<(l! c.2:Int):=M;have hvt:=hv.t _ (be (T:=AC) (xs:=c.2) (j:=(i:Int)) M hin);have q0:=hvt.r0;have q1:=hvt.r1;refine aS lX hin (aX ?_);refine cq (cq (fB q0 (fB (cU _) (a! ?_))));refine aS lX hin (aX ?_);refine cq (cq (fB q0 (fB (cU _) (a! ?_))));refine a! (ak ?_);dsimp only;refine ⟨iC,rfl,rfl,A,e4b,ye,λt ht=>?_⟩;rcases bz.1 ht with h|h;exact e6 t h;rw[aG]at h;subst h;refine ⟨λF=>⟨?_,?_,λl hl=>?_,cU _,cU _,λz hz=>by rw[r7 hz];exact IW.sm cr cr⟩,rfl⟩;dsimp only;rw[cQ];omega;dsimp only;rw[cQ];omega;rw[r7 hl];exact TL.nil 0;rintro⟨a,c,z,y,l,f,th⟩ ⟨e1,e2,I,A,e4b,e5,e6⟩;dsimp only at e1 e2 I A e4b e5 e6;subst e1 e2 I A e4b;refine cK (ak ?_);have hm:∀k:Nat,k<l! th->_:=λk hk=>e6 _ (be (T:=gh) (xs:=th) (j:=(k:Int)) M M)
 refine ⟨⟨ay3 hv.vl,rfl,λk hk=>(hm k hk).1 _,λz hz=>?_,λz hz=>by rw[r7 hz];exact IW.sm cr cr⟩,⟨.nil,λk hk=>.inr ?_⟩⟩;have hz:z∈ce0 c.1:=hz;unfold ce0 at hz;rw[hwx.c]at hz;have:∀z:Int,z∈C0.map (λc=>c.2.2.2.2)-> -1000000<=z/\z<=1000000:=cr;exact IW.sm (this z hz).1 (this z hz).2;dsimp only at hk;have hst:=axo (n:=l! c.1.2.2.2.2.1) (k:=(k:Int)) M M;exact⟨(hm k hk).2,λh=>(by rcases hst with q|q<;>rcases h with h|h<;>exact bi (q.symm.trans h) cr),λ_=>hst⟩
def No {x j:Int} (h0:0<=a) (h1:a<l! Q) (hj:0<=j):(aE iH (xQ Q a x) j).1=if j=a then x else (aE iH Q j).1:=by
 unfold xQ;rw[jT (T:=iH) _ _ _ _ h0 h1 hj];split<;>rfl
def aww {x j:Int} (h0:0<=a) (h1:a<l! Q) (hj:0<=j):(aE iH (cdP Q a x) j).1=(aE iH Q j).1:=by
 unfold cdP;rw[jT (T:=iH) _ _ _ _ h0 h1 hj];split;rename_i h;rw[h];rfl
variable {b:Bool}
def ax0 {j:Int} (h0:0<=a) (h1:a<l! Q) (hj:0<=j):(aE iH (atP Q a b) j).1=(aE iH Q j).1:=by
 unfold atP;rw[jT (T:=iH) _ _ _ _ h0 h1 hj];split;rename_i h;rw[h];rfl
def awd (hj:0<=a):∀(l:η) (th:Y c!),(∀u:Int,u∈l->0<=u/\u<l! th)->(aE iH (GY th l) a).1=if a∈l then 4 else (aE iH th a).1
 |[],th,_=>by simp[GY]
 |x::r,th,h=>by
  have q:=h x (bU ..);have A:=awd hj r (xQ th x 4) λu I=>by unfold xQ;rw[bu];exact h u (bx _ I)
  have e:GY th (x::r)=GY (xQ th x 4) r:=rfl;rw[e,A,No q.1 q.2 hj]
  grind
def Zu {w:WT} {s:SY} {k o u v:Int} {A:SY} (h:(A,v)=ku w s a k o u):ku w s a k o v=(A,v):=by
 by_cases hk:k=18;subst hk;rw[D7]at h ⊢;by_cases q:l! (wl s.2.2.2 o (l! s.2.2.2))=0
 grind
 rw[av q]at h ⊢;have hm:=BH u q;generalize wl s.2.2.2 o (l! s.2.2.2)=l at h q hm ⊢;obtain⟨rfl,rfl⟩:=Prod.mk.inj h;have:CJ l (CJ l u)=CJ l u:=by
  rw[CJ,av q,aD (ca.2 hm)]
 rw[this];rw[TY _ _ _ _ _ _ u hk,<-h]
def azh {w:WT} {s:SY} {k o:Int} (u:Int) (he:EN w s a k o) (hr:FO w s a k o) {j:Int} (h0:0<=j):(¬j=a->(aE iH (ku w s a k o u).1.2.2.2 j).1=(aE iH s.2.2.2 j).1\/((aE iH s.2.2.2 j).1=3/\(aE iH (ku w s a k o u).1.2.2.2 j).1=4)\/((aE iH s.2.2.2 j).1=0/\(aE iH (ku w s a k o u).1.2.2.2 j).1=1))/\(j=a->¬k=16->¬(aE iH (ku w s a k o u).1.2.2.2 j).1=3/\¬(aE iH (ku w s a k o u).1.2.2.2 j).1=4):=by
 have t0:=he.t0;have t1:a<l! s.2.2.2:=by have:=he.t1;have:=he.e3;omega
 have A:=hr.r;have hml:∀u:Int,u∈wl s.2.2.2 o (l! s.2.2.2)->0<=u/\u<l! s.2.2.2:=λu hu=>⟨(oS.1 hu).1,(oS.1 hu).2.1⟩
 have h3:∀u:Int,u∈wl s.2.2.2 o (l! s.2.2.2)->(aE iH s.2.2.2 u).1=3:=λu hu=>by
  have:=(oS.1 hu).2.2;unfold FX at this;rw[ar]at this;exact a_ this.1
 have same:¬k=1->¬k=17->∀th:Y c!,(aE iH th j).1=(aE iH s.2.2.2 j).1->(¬j=a->(aE iH th j).1=(aE iH s.2.2.2 j).1\/((aE iH s.2.2.2 j).1=3/\(aE iH th j).1=4)\/((aE iH s.2.2.2 j).1=0/\(aE iH th j).1=1))/\(j=a->¬k=16->¬(aE iH th j).1=3/\¬(aE iH th j).1=4):=λt b th h=>⟨λ_=>.inl h,λh2 _=>by rw[h,h2,A t b];decide⟩
 have st:∀x:Int,¬x=3\/k=16->¬x=4->∀th:Y c!,(aE iH th j).1=(if j=a then x else (aE iH s.2.2.2 j).1)->(¬j=a->(aE iH th j).1=(aE iH s.2.2.2 j).1\/((aE iH s.2.2.2 j).1=3/\(aE iH th j).1=4)\/((aE iH s.2.2.2 j).1=0/\(aE iH th j).1=1))/\(j=a->¬k=16->¬(aE iH th j).1=3/\¬(aE iH th j).1=4):=λx hx hx4 th h=>⟨λhn=>.inl (by rw[h,av hn]),λh2 h16=>by rw[h,aD h2];exact⟨hx.resolve_right h16,hx4⟩⟩
 have I:∀x:Int,a<l! (xQ s.2.2.2 a x):=λx=>by unfold xQ;rw[bu];exact t1
 by_cases k1:k=1;subst k1;exact st 2 (.inl cr) cr _ (No t0 t1 h0);by_cases k2:k=2;subst k2;exact st 5 (.inl cr) cr _ (No t0 t1 h0);by_cases k16:k=16;subst k16;exact st 3 (.inr rfl) cr _ ((aww t0 (I _) h0).trans (No t0 t1 h0));by_cases k17:k=17;subst k17;exact st 2 (.inl cr) cr _ ((aww t0 (I _) h0).trans (No t0 t1 h0));by_cases k14:k=14;subst k14;exact same k1 k17 _ (ax0 t0 t1 h0);by_cases k15:k=15;subst k15;exact same k1 k17 _ (ax0 t0 t1 h0);by_cases k18:k=18;subst k18;rw[D7];by_cases hl:l! (wl s.2.2.2 o (l! s.2.2.2))=0;rw[aD hl];exact same k1 k17 _ rfl;rw[av hl];have hc:=BH u hl;have hc1:=hml _ hc;have q:=h3 _ hc;dsimp only;rw[No hc1.1 hc1.2 h0];generalize CJ (wl s.2.2.2 o (l! s.2.2.2)) u=c at q;by_cases hj:j=c;rw[aD hj,hj];exact⟨λ_=>.inr (.inl ⟨q,rfl⟩),λh _=>by rw[h,A k1 k17]at q;exact bi q cr⟩;rw[av hj];exact⟨λ_=>.inl rfl,λh _=>by rw[h,A k1 k17];decide⟩;by_cases k19:k=19;subst k19;show (_->(aE iH (GY _ _) j).1=_\/_/\(aE iH (GY _ _) j).1=_\/_/\(aE iH (GY _ _) j).1=_)/\(_->_->¬(aE iH (GY _ _) j).1=_/\¬(aE iH (GY _ _) j).1=_)
 rw[awd h0 _ _ hml];by_cases hj:j∈wl s.2.2.2 o (l! s.2.2.2);rw[aD hj];have q:=h3 _ hj;exact⟨λ_=>.inr (.inl ⟨q,rfl⟩),λh _=>by rw[h,A k1 k17]at q;exact bi q cr⟩;rw[av hj];exact⟨λ_=>.inl rfl,λh _=>by rw[h,A k1 k17];decide⟩;by_cases k20:k=20;subst k20;let⟨o0,o1⟩:=he.nm.th (.inl rfl);let⟨hot,ho0⟩:=hr.sp rfl;have o1':o<l! s.2.2.2:=by rw[he.e3];exact o1
 show (_->(aE iH (xQ _ _ _) j).1=_\/_/\(aE iH (xQ _ _ _) j).1=_\/_/\(aE iH (xQ _ _ _) j).1=_)/\(_->_->¬(aE iH (xQ _ _ _) j).1=_/\¬(aE iH (xQ _ _ _) j).1=_)
 rw[No o0 o1' h0];by_cases hj:j=o;rw[aD hj,hj];exact⟨λ_=>.inr (.inr ⟨ho0,rfl⟩),λh _=>(hot h).elim⟩;rw[av hj];exact⟨λ_=>.inl rfl,λh _=>by rw[h,A k1 k17];decide⟩;refine same k1 k17 _ ?_;unfold ku;rw[av k1,av k2];repeat' split
 all_goals first|rfl|omega
def at8 {e e':ET} (h1:e'.1=e.1) (h2:e'.2.1=e.2.1) (t:Int):fl [e'] t=fl [e] t:=by
 by_cases h:e.1=t;rw[yY h,yY (h1.trans h)];unfold UC;rw[h2];rw[vx h,vx (λg=>h (h1.symm.trans g))]
def avp {e e':ET} (h1:e'.1=e.1) (h2:e'.2.1=e.2.1) {y:Int} (h:FQ (L++[e]) a y):FQ (L++[e']) a y:=by
 unfold FQ T9 at h ⊢;rw[tD,at8 h1 h2,<-tD];exact h
def OD {T:Ty} (xs:Y T.den) (i k:Nat) (x:T.den) (hi:i<l! xs):aE _ (xs.set i x) (k:Int)=if k=i then x else aE _ xs (k:Int):=by
 refine (jT xs (i:Int) (k:Int) x M M M).trans ?_
 grind
abbrev B?:=ST×ET×Bool
def SQ (n:Nat) (c:CT) (L:Y ET) (y:B?):Prop:=y.2.2=J->SV (n+1) (L++[y.2.1]) y.1/\SIv c (L++[y.2.1]) y.1/\EvF c.1 y.2.1/\EvS y.2.1/\IWe y.2.1
variable {m:Nat}
def aut (hn:m+1<=100000) {ds:CT} {s:ST} {o v0 I:Int} {fs:η} {sy:SY} (hs:SV m L s) (hI:SIv ds L s) (hp:PE m ds s (i:Int) ((i:Int),a,o,v0,I,c,fs)) (hm:PS ds L s (i:Int) ((i:Int),a,o,v0,I,c,fs)) (he:EN ds.1 s.1 (i:Int) a o) (hr:FO ds.1 s.1 (i:Int) a o) (ha:AP m s.1 sy) (v':Int) (ce fu:η) (t':TT) (hap:(ku ds.1 s.1 (i:Int) a o v').1=sy) (hva:VA ds.1 s.1 s.2.1 s.2.2.1 (i:Int) a o v') (hce:ce=Zn s.2.1 ((i:Int),a,o,v',I,c,fs)) (hfu:fu=ZY s.2.2.1 ((i:Int),a,o,v',I,c,fs)) (ht:TH (FQ (L++[((i:Int),a,o,v0,I,c,fs)]) (i:Int)) (m+1) t') (hiw:IWe ((i:Int),a,o,v',I,c,fs)) (hg:l! t'.2.1=0\/t'.2.2.2=aU .i64 ((aE gh s.2.2.2 (i:Int)).2.2.2+1)/\(a=16->t'.1=(aE gh s.2.2.2 (i:Int)).1)):SQ m ds L ((sy,ce,fu,s.2.2.2.set i t'),((i:Int),a,o,v',I,c,fs),J):=by
 intro _;have q1:=hp.t1;have q2:=hp.fs.th;have q3:=hp.fs.e3;have q4:=hp.fs.vc.tl;have hil:i<l! s.2.2.2:=M;have hln:=hs.ln;refine ⟨⟨ha.toSB hs.sb hn,by simp[hln],λk hk=>?_,λz A=>?_,λz A=>?_⟩,⟨?_,λk hk=>?_⟩,⟨he.nm,he.t0,he.t1,he.cd⟩,⟨cR hp.d M,cR hp.f M⟩,hiw⟩;dsimp only at hk ⊢;rw[c_]at hk;rw[OD (T:=gh) _ _ _ _ hil];split;rename_i h;subst h;exact ht.mono (bg _) λy hy=>avp (e:=((k:Int),a,o,v0,I,c,fs)) (e':=((k:Int),a,o,v',I,c,fs)) rfl rfl hy
 exact (hs.t k hk).mono M λy hy=>⟨hy.1,hy.2.app _⟩
 dsimp only at A;rw[hce]at A;unfold Zn at A;split at A;rename_i q;rcases li A with A|A;exact hs.cw z A;rw[A];exact hiw (.inl q);exact hs.cw z A;dsimp only at A;rw[hfu]at A;unfold ZY at A;split at A;rename_i q;rcases li A with A|A;exact hs.fw z A;rw[A];exact hiw (.inr q);exact hs.fw z A;rw[<- hap,hce,hfu];exact hI.ac.snoc (e:=((i:Int),a,o,v',I,c,fs)) ⟨he,hr,hm.s1,hm.s2,hm.de,hm.fr,⟨hm.da,λx hx=>⟨(hm.dq x hx).1,(hm.dq x hx).2.lt⟩⟩,⟨hm.fa,λx hx=>⟨(hm.fq x hx).1,(hm.fq x hx).2.lt⟩⟩,λy hy=>(hm.dq y hy).2,λy hy=>(hm.fq y hy).2,hva⟩;dsimp only at hk ⊢;rw[c_]at hk;rw[OD (T:=gh) _ _ _ _ hil];let⟨Np,st2⟩:=azh v' he hr (j:=(k:Int)) M;rw[hap]at Np st2;have hfl:=OT L (i:Int);split;rename_i h;subst h;rcases hg with hg|⟨g1,g2⟩;exact .inl hg;refine .inr ⟨?_,λhw=>?_,λA=>?_⟩;rw[g1,hm.tg.ev,tD,yY rfl,iC];simp;have h16:a=16:=yJ λh=>hw.elim (st2 rfl h).1 (st2 rfl h).2
 rw[g2 h16];exact hm.wt h16;rw[tD,yY rfl]at A;simp at A;rename_i h;have hki:¬(k:Int)=(i:Int):=M;have hfo:∀e:ET,e.1=(i:Int)->fl (L++[e]) (k:Int)=fl L (k:Int):=λe h=>by
  rw[tD,vx (by rw[h];exact λh=>hki h.symm),cS]
 have Np:=Np hki;refine (hI.t k hk).imp id λg=>⟨by rw[hfo _ rfl];exact g.ev,λhw=>g.wi (by
  rcases Np with h1|⟨h1,_⟩|⟨_,h1⟩;rw[<- h1];exact hw;exact .inl h1;exact hw.elim (λh=>bi (h1.symm.trans h) cr) λh=>bi (h1.symm.trans h) cr),λA=>?_⟩
 rw[hfo _ rfl]at A;have g2:=g.nw A;rcases Np with h1|⟨h1,_⟩|⟨_,h1⟩;rw[h1];exact g2;exact (g2.elim (λh=>bi (h1.symm.trans h) cr) λh=>bi (h1.symm.trans h) cr);exact .inr h1
variable {R:Type}
def aag {α:Type} (o:aj α):aw o (λ_=>(U:aj R))=U:=by cases o<;>rfl
def ap2 (b:Bool):chk b (λ_=>(U:aj R))=U:=by cases b<;>rfl
def ase {α:Type} (x:α):lt x (λ_=>(U:aj R))=U:=rfl
def OkN (o:aj R) (Q:R->Prop):Prop:=o=U\/Ok o Q
def OkN.or {a b:aj R} {Q:R->Prop} (A:OkN a Q) (q:OkN b Q):OkN (orE a b) Q:=by
 rcases A with rfl|⟨y,rfl,h⟩;exact q;exact .inr ⟨y,rfl,h⟩
def Ok.orL {a b:aj R} {Q:R->Prop} (q:Ok a Q):Ok (orE a b) Q:=by
 obtain⟨y,rfl,h⟩:=q;exact⟨y,rfl,h⟩
def OkN.orR {a b:aj R} {Q:R->Prop} (A:OkN a Q) (q:Ok b Q):Ok (orE a b) Q:=by
 rcases A with rfl|⟨y,rfl,h⟩;exact q;exact⟨y,rfl,h⟩
def Nn (hn:i+1<=100000) {c:CT} {s:ST} {u:Int} (hc:CB c) (hs:SV i L s) (hI:SIv c L s) (G:aj B?->Prop) (hG:∀y,SQ i c L y->G (Z y)) (k:ET×Bool->SY×i?->aj B?)
 (hk:∀e v A,PE i c s a e->PS c L s a e->EN c.1 s.1 a e.2.1 e.2.2.1->FO c.1 s.1 a e.2.1 e.2.2.1->AP i s.1 A->(A,v)=ku c.1 s.1 a e.2.1 e.2.2.1 u->G (k (e,J) (A,v,J))):
 G (aw (pC (c,s,a)) λq=>aK (!q.2) (Z ((([],0,[],[]),[],[],[]),(0,0,0,0,0,[],[]),af)) (aw (rJ (c.1,s.1,a,q.1.2.1,q.1.2.2.1,u)) λI=>aK (!I.2.2) (Z ((([],0,[],[]),[],[],[]),(0,0,0,0,0,[],[]),af)) (k q I))):=by
 have hz:=hG ((([],0,[],[]),[],[],[]),(0,0,0,0,0,[],[]),af) nofun
 let⟨⟨e,b⟩,h1,h2⟩:=ae9 i M c L s hc hs hI a;rw[h1,UL];cases b with
 |false=>exact hz
 |true=>
  let⟨hp,hm⟩:=h2 rfl;have hcd:l! c.1.2.2.1<=1000:=by have:=hp.fs.vc.vl.d;omega
  let⟨⟨A,v,b⟩,h3,h4,_,_⟩:=QJ c.1 s.1 hs.sb hcd a e.2.1 e.2.2.1 u;have e0:∀{R:Type} (t b:aj R),aK (!J) t b=b:=λ_ _=>rfl
  rw[e0,h3,UL];cases b with
  |false=>exact hz
  |true=>grind
def kdx (k:Int):k=1\/k=16\/k=2\/k=3\/k=23\/k=4\/k=22\/k=5\/((k=1)=False/\(k=16)=False/\(k=2)=False/\(k=3)=False/\(k=23)=False/\(k=4)=False/\(k=22)=False/\(k=5)=False):=cf
def KR (n:Nat) (I:CT) (L:Y ET) (i:Nat) (u:Int) (l:Y TT) (z:R) (k:Int->(CT×SY×(ν)×Int×(υ)×ET×(ν)×(η)×(η)×R×(η)×Y η)->aj B?):Prop:=
 ∀(F:Int->Prop) (p:Int) (sy:SY) (kd o v si:Int) (ds fs ce fu A:η) (T:Y η) (ev:Int),
  (kd≠16->kd≠2->Ok (o6 (aE AC I.2 (i:Int),(p,A,T,aU .i64 (ev+1)))) λy=>TH F (n+1) y.1/\(l! y.1.2.1=0\/y.1.2.2.2=aU .i64 (ev+1)))->
  (kd=16\/kd=2->TH F (n+1) (p,A,T,aU .i64 (ev+1)))->
  (∀q,TH F (n+1) q->(l! q.2.1=0\/q.2.2.2=aU .i64 (ev+1)/\(kd=16->q.1=p))->SQ n I L ((sy,ce,fu,l.set i q),((i:Int),kd,o,v,si,ds,fs),J))->(i:Int)<(l! I.2:Int)->
  ∀pc,Ok (k p (I,sy,((i:Int),u),0,(0,0,0,0,0),((i:Int),kd,o,v,si,ds,fs),(pc,ev),ce,fu,z,A,T)) (SQ n I L)
def FN (N n:Nat) {cp:SY×(η)×(η)×Y TT->aj (Int×(Y (Int×η))×(θ)×(Y (Int×Int×Bool))×(η)×(η)×R×(η)×Y η)} {pc ev:R->Int} {k:Int->(CT×SY×(ν)×Int×(υ)×ET×(ν)×(η)×(η)×R×(η)×Y η)->aj B?} (hn:i+1<=100000) (q:CT) (L:Y ET) (s:ST) (t u:Int) (hc:CB q) (hs:SV i L s) (hI:SIv q L s)
 (h0:∀sy ce fu (l:Y TT),l! l<=4->l! l≠N->cp (sy,ce,fu,l)=U)
 (h1:∀sy ce fu (l:Y TT),SV i L (sy,ce,fu,l)->l! ce<=1000->l! fu<=1000->l! l=N->n<N/\∃y,cp (sy,ce,fu,l)=Z y/\y.2.2.2.2.1=ce/\y.2.2.2.2.2.1=fu/\y.2.2.2.2.2.2.2.1=(aE gh l (n:Int)).2.1/\y.2.2.2.2.2.2.2.2=(aE gh l (n:Int)).2.2.1/\pc y.2.2.2.2.2.2.1=(aE gh l (n:Int)).1/\ev y.2.2.2.2.2.2.1=(aE gh l (n:Int)).2.2.2/\KR i q L n u l y.2.2.2.2.2.2.1 k):
 OkN (SG (n:Int) cp pc ev k (q,s,t,u)) (SQ i q L)/\(l! s.2.2.2=N->t=(n:Int)->Ok (SG (n:Int) cp pc ev k (q,s,t,u)) (SQ i q L)):=by
 by_cases hz:l! s.2.2.2=N/\t=(n:Int)
 .obtain⟨hz1,rfl⟩:=hz;suffices h:Ok (SG (n:Int) cp pc ev k (q,s,(n:Int),u)) (SQ i q L) from ⟨.inr h,λ_ _=>h⟩
  unfold SG I4 Prod.q Prod.p bf bB bN cM gE qY Eb MJ Prod.s Prod.t Prod.D cg dD sL Prod.o ck bp bM nI aJ;refine Nn hn hc hs hI (λo=>Ok o (SQ i q L)) (λy h=>ak h) _ λe v sy hp hm he hr ha hq=>?_
  obtain⟨sy0,ce,fu,l⟩:=s;obtain⟨e1,kd,o,e4,site,ds,fs⟩:=e;have het:=hp.et;dsimp only at hz1 he hr ha hq het;subst het;have vl:=hp.fs.vc.vl;have hce:=hp.fs.ce;have hfu:=hp.fs.fu;dsimp only at hce hfu;obtain⟨hiN,⟨q1,q2,q3,q4,ce',fu',z,R0,T0⟩,hcp,g1,g2,g3,g4,hpc,hve,hk⟩:=h1 sy0 ce fu l hs (by have:=vl.c;omega) (by have:=vl.f;omega) hz1;dsimp only at g1 g2 g3 g4 hpc hve hk;rw[g1,g2,g3,g4]at hcp;obtain⟨_,_,nmce,_,_,_,nmfu,_,_,_⟩:=id he.nm;have t1:(n:Int)<(l! q.2:Int):=hp.t1;have htf:TF (aE AC q.2 (n:Int)) (aE gh l (n:Int)):=hp.fs.t n M;have hA:=hp.a;have hB:=hp.b;dsimp only at hA hB;have hvt:=hp.fs.vc.t _ (be (T:=AC) (xs:=q.2) (j:=(n:Int)) M t1);have hci:=hc.ins _ (be (T:=AC) (xs:=q.2) (j:=(n:Int)) M t1);have hcn:=hc.cn _ (be (T:=AC) (xs:=q.2) (j:=(n:Int)) M t1);have hcw:=hs.cw;have hfw:=hs.fw;dsimp only at hcw hfw;have hth:TH (FQ L (n:Int)) i (aE gh l (n:Int)):=hs.t n lX;have done:=aut hn hs hI hp hm he hr ha;have htg:=hm.tg;have hrun:=hr.r;dsimp only at done htg;have hgv:kd=3\/kd=23->FQ (L++[((n:Int),kd,o,e4,site,ds,fs)]) (n:Int) (aE gh l (n:Int)).2.2.2:=λh3=>by
   have h2:=hrun M M;have hn0:¬l! (fl L (n:Int))=0:=λh=>(htg.nw h).elim (λg=>bi (h2.symm.trans g) cr) λg=>bi (h2.symm.trans g) cr
   refine ⟨by rw[htg.ev];omega,T9.last (e:=((n:Int),kd,o,e4,site,ds,fs)) ?_ htg.ev⟩;unfold UC;rcases h3 with h|h;rw[aP h];rfl;simp[h]
  have vaA:¬kd=3->¬kd=23->¬kd=5->VA q.1 sy0 ce fu (n:Int) kd o v:=λa b c=>⟨λh=>(a h).elim,λh=>(b h).elim,λh=>(c h).elim,λ_ _ _ _ _=>by rw[Zu hq]⟩
  have apA:(ku q.1 sy0 (n:Int) kd o v).1=sy:=by rw[Zu hq]
  have apB:¬kd=18->∀v',(ku q.1 sy0 (n:Int) kd o v').1=sy:=λh v'=>by rw[TY _ _ _ _ _ _ u h,<-hq]
  have keep:∀x∈(aE gh l (n:Int)).2.2.1,TL (FQ (L++[((n:Int),kd,o,e4,site,ds,fs)]) (n:Int)) (i+1) x:=λx hx=>(hth.l x hx).mono M λy hy=>⟨hy.1,hy.2.app _⟩
  clear g3 g4 hm hI hrun htg;revert done hgv keep;generalize FQ (L++[((n:Int),kd,o,e4,site,ds,fs)]) (n:Int)=F;generalize aE gh l (n:Int)=th at hcp hpc hve htf hA hB hth ⊢;intro done hgv keep;refine aV hcp ?_;dsimp only;rw[hpc,hve];refine pY (aP rfl) ?_;refine aS M t1 (aX (aS htf.p0 htf.p1 (aX ?_)));have htz:l! th.2.2.1=l! th.2.1:=by have:=htf.r;have:=htf.t;omega
  have fin:∀(p:Int) (A:η) (T:Y η),l! A=l! th.2.1->l! T=l! th.2.2.1->(∀x∈T,TL F (i+1) x)->(∀z∈A,IW z)->Ok (o6 (aE AC q.2 (n:Int),(p,A,T,aU .i64 (th.2.2.2+1)))) λy=>TH F (i+1) y.1/\(l! y.1.2.1=0\/y.1.2.2.2=aU .i64 (th.2.2.2+1)):=λp A T h1 h2 h3 h4=>by
   have I:=hth.e0;have a2:=hth.e1;have a3:=hth.r;have a4:=hth.t;rw[iF (n:=th.2.2.2+1) M M];exact akc (i+1) hn _ hci hvt hcn _ ⟨lX,lX,h3,lX,lX,h4⟩
  have mark:kd=3\/kd=23->∀j:Int,∀x∈bW th.2.2.1 j [th.2.2.2],TL F (i+1) x:=λh3 j x hx=>by
   rcases li hx with h|h;exact keep x h;rw[h];exact⟨⟨λy hy=>(by cases hy),trivial⟩,λy hy=>by rw[aG]at hy;have:=hth.e0;have:=hth.e1;rw[hy];exact⟨M,M⟩,λy hy=>by rw[aG]at hy;rw[hy];exact hgv h3⟩
  have wset:∀{v:Int},IW v->∀{j:Int},∀z∈bW th.2.1 j v,IW z:=λ{v} hv {j} z hz=>by
   rcases li hz with h|h;exact hth.w z h;rw[h];exact hv
  have no4:∀{k:Int} {e:Int×u!} {o v:Int},¬k=4->¬k=22->IWe ((n:Int),k,o,v,e):=λh1 h2 h=>(h.elim h1 h2).elim
  have nopark:TH F (i+1) (th.1,th.2.1,th.2.2.1,aU .i64 (th.2.2.2+1)):=by
   have I:=hth.e0;have a2:=hth.e1;rw[iF (n:=th.2.2.2+1) M M];exact⟨hth.r,hth.t,keep,lX,lX,hth.w⟩
  clear hp hs hc h0 h1 hcp g1 g2 hr ha hq he;generalize (aE tV (aE AC q.2 (n:Int)).2 th.1)=ins at hA hB ⊢;rcases kdx kd with rfl|rfl|rfl|rfl|rfl|rfl|rfl|rfl|⟨k1,k2,k3,k4,k5,k6,k7,k8⟩
  case inr.inr.inr.inr.inr.inr.inr.inr=>
   simp only[k1,k2,k3,k4,k5,k6,k7,k8,bP,dP,QP];refine hk F _ _ _ _ _ _ _ _ _ _ _ _ _ (λ_ _=>fin _ _ _ rfl rfl keep hth.w) (λh=>by rw[k2,k3]at h;exact (h.elim id id).elim) (λt' h g=>?_) t1 _;exact done v ce fu t' apA (vaA (of_eq_false k4) (of_eq_false k5) (of_eq_false k8)) (av (of_eq_false k6)).symm (av (of_eq_false k7)).symm h (no4 (of_eq_false k6) (of_eq_false k7)) (g.imp id λh=>⟨h.1,λh2=>(of_eq_false k2 h2).elim⟩)
  all_goals simp only[bP,dP,QP]
  refine hk F _ _ _ _ _ _ _ _ _ _ _ _ _ (λ_ _=>fin _ _ _ rfl rfl keep hth.w) (λh=>M) (λt' h g=>?_) t1 _;exact done v ce fu t' apA (vaA cr cr cr) rfl rfl h (no4 cr cr) (g.imp id λh=>⟨h.1,nofun⟩);refine hk F _ _ _ _ _ _ _ _ _ _ _ _ _ (λh _=>(h rfl).elim) (λ_=>nopark) (λt' h g=>?_) t1 _;exact done v ce fu t' apA (vaA cr cr cr) rfl rfl h (no4 cr cr) g;refine hk F _ _ _ _ _ _ _ _ _ _ _ _ _ (λ_ h=>(h rfl).elim) (λ_=>nopark) (λt' h g=>?_) t1 _;exact done v ce fu t' apA (vaA cr cr cr) rfl rfl h (no4 cr cr) (g.imp id λh=>⟨h.1,nofun⟩);obtain⟨o0,o1⟩:=nmce (.inl rfl);rw[<- hce]at o1;obtain⟨a0,I⟩:=hA (.inl rfl);have a2:ins.2.1<(l! th.2.2.1:Int):=by rw[htz];exact I
  refine h_ (aS o0 o1 (aS o0 o1 (ak ?_)));simp only[bP,dP,QP];refine h_ (aS a0 I (aS a0 I (aS a0 a2 (aS a0 a2 (ak ?_)))));refine hk F _ _ _ _ _ _ _ _ _ _ _ _ _ (λ_ _=>fin _ _ _ (bu ..) (bu ..) (mark (.inl rfl) _) (wset (hcw _ (be (T:=aO) o0 o1)))) (λh=>M) (λt' h g=>?_) t1 _;exact done _ ce fu t' (apB cr _) ⟨λ_=>rfl,nofun,nofun,λh=>(h rfl).elim⟩ rfl rfl h (no4 cr cr) (g.imp id λh=>⟨h.1,nofun⟩);obtain⟨o0,o1⟩:=nmfu (.inr rfl);rw[<- hfu]at o1;obtain⟨a0,I⟩:=hA (.inr (.inl rfl));have a2:ins.2.1<(l! th.2.2.1:Int):=by rw[htz];exact I
  refine h_ (aS o0 o1 (aS o0 o1 (ak ?_)));simp only[bP,dP,QP];refine h_ (aS a0 I (aS a0 I (aS a0 a2 (aS a0 a2 (ak ?_)))));refine hk F _ _ _ _ _ _ _ _ _ _ _ _ _ (λ_ _=>fin _ _ _ (bu ..) (bu ..) (mark (.inr rfl) _) (wset (hfw _ (be (T:=aO) o0 o1)))) (λh=>M) (λt' h g=>?_) t1 _;exact done _ ce fu t' (apB cr _) ⟨nofun,λ_=>rfl,nofun,λ_ h=>(h rfl).elim⟩ rfl rfl h (no4 cr cr) (g.imp id λh=>⟨h.1,nofun⟩);obtain⟨o0,o1⟩:=nmce (.inr rfl);rw[<- hce]at o1;obtain⟨a0,I⟩:=hB (.inl rfl);refine h_ (aS a0 I (aS a0 I (aS o0 o1 (aS o0 o1 (ak ?_)))));simp only[bP,dP,QP];refine hk F _ _ _ _ _ _ _ _ _ _ _ _ _ (λ_ _=>fin _ _ _ rfl rfl keep hth.w) (λh=>M) (λt' h g=>?_) t1 _;exact done _ _ fu t' (apB cr _) ⟨nofun,nofun,nofun,λ_ _ _ h=>(h rfl).elim⟩ rfl rfl h (λ_=>hth.w _ (be (T:=aO) a0 I)) (g.imp id λh=>⟨h.1,nofun⟩);obtain⟨o0,o1⟩:=nmfu (.inl rfl);rw[<- hfu]at o1;obtain⟨a0,I⟩:=hB (.inr rfl);refine h_ (aS a0 I (aS a0 I (aS o0 o1 (aS o0 o1 (ak ?_)))));simp only[bP,dP,QP];refine hk F _ _ _ _ _ _ _ _ _ _ _ _ _ (λ_ _=>fin _ _ _ rfl rfl keep hth.w) (λh=>M) (λt' h g=>?_) t1 _;exact done _ ce _ t' (apB cr _) ⟨nofun,nofun,nofun,λ_ _ _ _ h=>(h rfl).elim⟩ rfl rfl h (λ_=>hth.w _ (be (T:=aO) a0 I)) (g.imp id λh=>⟨h.1,nofun⟩)
  .obtain⟨a0,I⟩:=hA (.inr (.inr rfl));refine h_ (aS a0 I (aS a0 I (aN (λ_=>ak ?_) λ_=>ak ?_)));all_goals
    simp only[bP,dP,QP];refine hk F _ _ _ _ _ _ _ _ _ _ _ _ _ (λ_ _=>fin _ _ _ rfl rfl keep hth.w) (λh=>M) (λt' h g=>?_) t1 _;exact done _ ce fu t' (apB cr _) ⟨nofun,nofun,λ_=>cr,λ_ _ h=>(h rfl).elim⟩ rfl rfl h (no4 cr cr) (g.imp id λh=>⟨h.1,nofun⟩)
 refine ⟨?_,λh1 h2=>(hz ⟨h1,h2⟩).elim⟩;unfold SG I4 Prod.q Prod.p bf bB bN cM gE qY Eb MJ Prod.s Prod.t Prod.D cg dD sL Prod.o ck bp bM nI aJ;refine Nn hn hc hs hI (λo=>OkN o (SQ i q L)) (λy h=>.inr (ak h)) _ λe v sy hp _ _ _ _ _=>.inl ?_
 obtain⟨sy0,ce,fu,l⟩:=s;have vl:=hp.fs.vc.vl;by_cases hl:l! l=N;have ht:¬t=(n:Int):=λh=>hz ⟨hl,h⟩
 dsimp only;cases cp (sy0,ce,fu,l) with
 |none=>rfl
 |some y=>rw[UL,bE ht];rfl
 show aw (cp (sy0,ce,fu,l)) _=U;rw[h0 sy0 ce fu l (by have h1:l! l=l! q.2:=hp.fs.th;have:=hp.fs.vc.tl;have:=vl.t;omega) hl];rfl
def aFp {W V:Type} {c0:CT} {l:Y TT} {z:R} {t1:R->η->Y η->W} {t2:W->V} {I:V->TT->Y TT} (h3:∀A T q,I (t2 (t1 z A T)) q=l.set i q):KR m c0 L i a l z (KG (i:Int) t1 t2 I):=by
 intro F p sy kd o v si ds fs ce fu A T ev fin park done ht pc;unfold KG I4 bf bB bN cM gE qY Eb MJ Prod.s Prod.t xZ bp jP bM aJ cH;have done:∀q,TH F (m+1) q->(l! q.2.1=0\/q.2.2.2=aU .i64 (ev+1)/\(kd=16->q.1=p))->SQ m c0 L ((sy,ce,fu,I (t2 (t1 z A T)) q),((i:Int),kd,o,v,si,ds,fs),J):=λq h g=>cf
 by_cases h1:kd=16;subst h1;exact h_ (h_ (gJ rfl (ak (gJ rfl (ak (pY (aP rfl) (ak (done _ (park (.inl rfl)) (.inr ⟨rfl,λ_=>rfl⟩)))))))));by_cases h2:kd=2;subst h2;exact h_ (h_ (pY rfl (ak (gJ rfl (ak (pY (aP rfl) (ak (done _ (park (.inr rfl)) (.inr ⟨rfl,nofun⟩)))))))));rw[bE h1,bE h2];exact h_ (h_ (pY rfl (ak (pY rfl (aS (fV i) ht (aX (ay (fin h1 h2) λy hy=>ak (pY (aP rfl) (ak (done _ hy.1 (hy.2.imp id λh=>⟨h,λh2=>(h1 h2).elim⟩)))))))))))
def SOx (n:Nat) (q:CT) (L:Y ET) (s:ST) (t u:Int) (N i:Nat) (f:CT×ST×g!->aj B?):Prop:=OkN (f (q,s,t,u)) (SQ n q L)/\(l! s.2.2.2=N->t=(i:Int)->Ok (f (q,s,t,u)) (SQ n q L))
def aq1 (I:i+1<=100000) (q:CT) (L:Y ET) (s:ST) (t u:Int) (hc:CB q) (A:SV i L s) (hI:SIv q L s):SOx i q L s t u 4 0 r_/\SOx i q L s t u 4 1 r9/\SOx i q L s t u 4 2 oZ/\SOx i q L s t u 4 3 mW/\SOx i q L s t u 3 0 mb/\SOx i q L s t u 3 1 kS/\SOx i q L s t u 3 2 kg/\SOx i q L s t u 2 0 jE/\SOx i q L s t u 2 1 iI/\SOx i q L s t u 1 0 iJ:=by
 refine ⟨FN 4 0 (cp:=u7) I q L s t u hc A hI ?_ ?_,FN 4 1 (cp:=u6) I q L s t u hc A hI ?_ ?_,FN 4 2 (cp:=u5) I q L s t u hc A hI ?_ ?_,FN 4 3 (cp:=u4) I q L s t u hc A hI ?_ ?_,FN 3 0 (cp:=vb) I q L s t u hc A hI ?_ ?_,FN 3 1 (cp:=u_) I q L s t u hc A hI ?_ ?_,FN 3 2 (cp:=u9) I q L s t u hc A hI ?_ ?_,FN 2 0 (cp:=vg) I q L s t u hc A hI ?_ ?_,FN 2 1 (cp:=ve) I q L s t u hc A hI ?_ ?_,FN 1 0 (cp:=vh) I q L s t u hc A hI ?_ ?_⟩;all_goals
  intro sy ce fu l;first|unfold u7 bf cg bO bT bM a8|unfold u6 bf cg bO bT bM a8|unfold u5 bf cg bO bT bM a8|unfold u4 bf cg bO bT bM a8|unfold vb bf cg bO bT bM a8|unfold u_ bf cg bO bT bM a8|unfold u9 bf cg bO bT bM a8|unfold vg bf cg bO bT bM a8|unfold ve bf cg bO bT bM a8|unfold vh bf cg bO bT bM a8
  rcases l with _|⟨a,_|⟨b,_|⟨c,_|⟨d,_|⟨e,l⟩⟩⟩⟩⟩;all_goals first
  |intro h h0
   first|(simp at h0;done)|(exfalso;simp only[gQ]at h;omega)|simp[hY,aag,ap2,ase,bcT,bcF]
   done
  |intro h hce hfu hl
   first|(simp at hl;done)|(exfalso;simp only[gQ]at hl;omega)|skip
   have hE:=h.sb.n1;refine ⟨cr,aV (ahr sy h.sb) (a! (a! (pY rfl (bI rfl (aX (aV (AG a i hE (h.t 0 b8)) ?_))))))⟩;try refine pY rfl (bI rfl (aX (aV (AG b i hE (h.t 1 b8)) ?_)))
   try refine pY rfl (bI rfl (aX (aV (AG c i hE (h.t 2 b8)) ?_)))
   try refine pY rfl (bI rfl (aX (aV (AG d i hE (h.t 3 b8)) ?_)))
   exact gJ rfl (ak ⟨rfl,rfl,rfl,rfl,rfl,rfl,aFp λR T t'=>rfl⟩)
def aka {n:Nat} (hn:n+1<=100000) (c:CT) (L:Y ET) (s:ST) (t u:Int) (hc:CB c) (hs:SV n L s) (hI:SIv c L s):Ok (Eu (c,s,t,u)) (SQ n c L):=by
 unfold Eu;let⟨a40,I,A,q,a30,a31,a32,a20,a21,a10⟩:=aq1 hn c L s t u hc hs hI;by_cases hz:l! s.2.2.2<=4/\0<=t/\t<(l! s.2.2.2:Int)
 .obtain⟨h1,h2,h3⟩:=hz;have:(l! s.2.2.2=4/\t=0)\/(l! s.2.2.2=4/\t=1)\/(l! s.2.2.2=4/\t=2)\/(l! s.2.2.2=4/\t=3)\/(l! s.2.2.2=3/\t=0)\/(l! s.2.2.2=3/\t=1)\/(l! s.2.2.2=3/\t=2)\/(l! s.2.2.2=2/\t=0)\/(l! s.2.2.2=2/\t=1)\/(l! s.2.2.2=1/\t=0):=M;rcases this with h|h|h|h|h|h|h|h|h|h;all_goals first|exact (a40.2 h.1 h.2).orL|refine a40.1.orR ?_
  all_goals first|exact (I.2 h.1 h.2).orL|refine I.1.orR ?_
  all_goals first|exact (A.2 h.1 h.2).orL|refine A.1.orR ?_
  all_goals first|exact (q.2 h.1 h.2).orL|refine q.1.orR ?_
  all_goals first|exact (a30.2 h.1 h.2).orL|refine a30.1.orR ?_
  all_goals first|exact (a31.2 h.1 h.2).orL|refine a31.1.orR ?_
  all_goals first|exact (a32.2 h.1 h.2).orL|refine a32.1.orR ?_
  all_goals first|exact (a20.2 h.1 h.2).orL|refine a20.1.orR ?_
  all_goals first|exact (a21.2 h.1 h.2).orL|refine a21.1.orR ?_
  exact a10.2 h.1 h.2
 refine Ok.orL ?_;unfold r_ bf bB dD;refine Nn hn hc hs hI (λo=>Ok o (SQ n c L)) (λy h=>ak h) _ λe v sy hp _ _ _ _ _=>(hz ?_).elim
 have h1:l! s.2.2.2=l! c.2:=hp.fs.th;have h2:l! c.2=l! c.1.2.2.2.2.1:=hp.fs.vc.tl;have h3:l! c.1.2.2.2.2.1<=4:=hp.fs.vc.vl.t;have h4:0<=t:=hp.t0;have h5:t<(l! c.2:Int):=hp.t1;exact⟨M,h4,M⟩
def at1 (c:CT) (s:ST) (l:Y ν) (hc:CB c) (hs:SV 0 [] s) (hI:SIv c [] s) (hl:l.length<=9223372036854775806):Ok (zR (c,s,l)) λy=>y.1.length<=400/\(∀e∈y.1,EvF c.1 e/\EvS e/\IWe e)/\∃sy ce fu,Acw c.1 y.1 sy ce fu:=by
 unfold zR bf bB dD bO bT bM a8 cW aJ cH;refine sQ (λx=>((l.length:Int)-x.1).toNat) (λx=>0<=x.1/\x.2.2.1=c/\SV x.2.1.length x.2.1 x.2.2.2.1/\SIv c x.2.1 x.2.2.2.1/\x.2.1.length<=400/\∀e∈x.2.1,EvF c.1 e/\EvS e/\IWe e) ?_ ⟨cU _,rfl,hs,hI,b8,λe he=>(by cases he)⟩;rintro⟨(i:Int),A,q,s',z⟩ ⟨i0,e1,e2,eI,e3,I⟩;dsimp only at i0 e1 e2 eI e3 I;subst e1;refine a6 (λx=>x.2=(A,q,s',z)/\(x.1=J->i<(l.length:Int)/\A.length<400)) ?_ ?_;refine bF (λg=>ak ⟨rfl,λh=>⟨g,?_⟩⟩) λ_=>ak ⟨rfl,nofun⟩
 dsimp only at h;rw[uM]at h;dsimp only[ax]at h;omega;rintro⟨b,x⟩ ⟨f1,f2⟩;dsimp only at f1 f2;subst f1;refine aR (λh=>?_) λ_=>ak ⟨e3,I,_,_,_,eI.ac⟩
 let⟨g1,g2⟩:=f2 h;refine a6 (λx=>x.2.1=q/\SV x.1.length x.1 x.2.2.1/\SIv q x.1 x.2.2.1/\x.1.length<=400/\∀e∈x.1,EvF q.1 e/\EvS e/\IWe e) ?_ ?_;refine aS i0 g1 (aX ?_);refine ay (aka (n:=A.length) M q A s' _ _ hc e2 eI) λy hy=>?_
 refine aR (λh=>?_) λ_=>ak ⟨rfl,e2,eI,e3,I⟩
 let⟨h1,hJ,h2,h3⟩:=hy h;refine a! (ak ⟨rfl,?_,hJ,ye,λe he=>?_⟩);dsimp only;rw[aQ,bJ];exact h1;rcases bz.1 he with he|he;exact I e he;rw[aG]at he;subst he;exact⟨h2,h3⟩;rintro⟨es',c2,s2,z2⟩ ⟨k1,k2,kI,k3,k4⟩;dsimp only at k1 k2 kI k3 k4;subst k1;refine ak ?_;dsimp only;rw[iF (n:=i+1) M M];exact⟨⟨M,rfl,k2,kI,k3,k4⟩,M⟩
def CB.vc {c:CT} (q:CB c):VC c:=by
 let⟨b,h1,h2⟩:=ZB c q.th q.ins;rw[q.ok]at h1;cases h1;exact h2 rfl
def aA7 (c:CT) (l:Y ν) (q:CB c) (hl:l! l<=9223372036854775806):Ok (C9 (c,l)) λy=>TR y.1:=by
 unfold C9;refine aV q.ok (dJ nofun λ_=>?_);have I:=q.vc;refine ay (ae8 c q.wx q.ok I) λs hs=>?_
 refine ay (at1 c s l q hs.1 hs.2 hl) λy A=>ak ?_
 exact⟨I.vl.wb,I.vl,λe he=>(A.2.1 e he).1,by have:=A.1;dsimp only;omega,λe he=>(A.2.1 e he).2.1,q.wx,A.2.2,λe he=>(A.2.1 e he).2.2⟩
def aeg (l:η) (q:l! l<=1000000):Ok (uK l) λy=>l! y=l! l:=by
 refine bX (l! l) (λi x=>x.1=(i:Int)/\l! x.2=i) ?_ ?_ ⟨rfl,rfl⟩;rintro i ⟨a,b⟩ hi ⟨e1,e2⟩;subst e1;refine cV ?_;refine bK (aX (bK (aX (dB cf M (ak ?_)))));exact⟨iC,ye⟩;rintro⟨a,b⟩ ⟨e1,e2⟩;exact cK (ak e2)
def gO (e:Xp):fm (Xp.op e,Xp.n e,Xp.name e,Xp.l e)=e:=by cases e;rfl
def CZ (s:Sx):pL (Sx.op s,Sx.line s,Sx.name s,Sx.arg s,Sx.index s,Sx.expr s,Sx.body s,Sx.els s)=s:=by cases s;rfl
abbrev NV:Y ζ:=[[97],[98],[120],[121],[118]]
def GE:Nat->Xp->Prop
 |0,_=>False
 |d+1,e=>(e.op=3->e.name=[113])/\(e.op≠1->e.op≠2->1<=l! e.l)/\l! e.l<=2/\(∀x∈e.l,GE d x)/\(e.op=2->e.name∈NV)/\(e.op=1->IW e.n)/\(e.op≠1->e.op≠2->e.op≠3->2<=l! e.l/\6<=e.op/\e.op<=18)
def GE.mono:∀{d:Nat} {e:Xp},GE d e->GE (d+1) e
 |0,_,h=>h.elim
 |_+1,_,h=>⟨h.1,h.2.1,h.2.2.1,λx q=>(h.2.2.2.1 x q).mono,h.2.2.2.2⟩
def GE.le {e:Xp} (h:GE i e) (hk:i<=m):GE m e:=by
 induction hk with
 |refl=>exact h
 |step _ q=>exact q.mono
def UO (n:Int):ux n=Z (.mk 1 n [] []):=rfl
def MU (s:ζ):rQ s=Z (.mk 2 0 s []):=rfl
def Kp (o:Int) (a b:Xp):pK (o,a,b)=Z (.mk o 0 [] [a,b]):=by
 cases a;cases b;rfl
def wW (s:ζ) (e:Xp):kQ (s,e)=Z (.mk 1 0 s [] [] e [] []):=by
 cases e;rfl
abbrev MK:Type:=U!
abbrev V_:Type:=p?
abbrev HD:Type:=Bool×Y ζ
def GE.num (A:IW a) (d:Nat):GE (d+1) (.mk 1 a [] []):=⟨nofun,λh=>(h rfl).elim,by simp[Xp.l],λx q=>(by cases q),nofun,λ_=>A,λh=>(h rfl).elim⟩
def GE.nm {s:ζ} (A:s∈NV) (d:Nat):GE (d+1) (.mk 2 0 s []):=⟨nofun,λ_ h=>(h rfl).elim,by simp[Xp.l],λx q=>(by cases q),λ_=>A,nofun,λ_ h=>(h rfl).elim⟩
def GE.bin {o b:Xp} (A:6<=a/\a<=18) (ha:GE i o) (I:GE i b):GE (i+1) (.mk a 0 [] [o,b]):=
 ⟨λh=>(by have h:a=3:=h;omega),λ_ _=>by simp[Xp.l],by simp[Xp.l],λx q=>by
   simp only[Xp.l,bc,cA,fM]at q;rcases q with rfl|rfl;exact ha;exact I,λh=>(by have h:a=2:=h;omega),λh=>(by have h:a=1:=h;omega),λ_ _ _=>⟨by simp[Xp.l],A⟩⟩
def GE.ix {a:Xp} (A:GE i a):GE (i+1) (.mk 3 0 [113] [a]):=
 ⟨λ_=>rfl,λ_ _=>by simp[Xp.l],by simp[Xp.l],λx q=>by
   simp only[Xp.l,bc,cA,fM]at q;rw[q];exact A,nofun,nofun,λ_ _ h=>(h rfl).elim⟩
def Ie:∀(n d:Nat),d<n->d<=10->∀(m:MK) (t:V_) (h:HD),TP t->Ok (jV n ((d:Int),m,t,h)) λy=>GE (d+1) y.1/\y.2.1=m/\T3 t y.2.2.1/\y.2.2.2=h
 |0,d,hd,_,_,_,_,_=>M
 |n+1,d,hd,h10,m,t,h,ht=>by
  rw[CD];unfold pR bf bB cg dD dh bp bO bT nI a8 aJ;refine ay (oM 10 t ht) λy q=>?_
  let⟨k,t1⟩:=y;let⟨I,k0,k1,_⟩:=q;have k1:=k1 cr;dsimp only at I k0 k1;refine a6 (λx=>x.2=(m,t1,h,(0,0,[]),[[97],[98],[120],[121],[118],[120],[121]])/\(x.1=af->2<=k/\(d=0->k<7))) ?_ ?_;refine bF (λ_=>ak ⟨rfl,nofun⟩) λg=>aN (λg2=>ak ⟨rfl,λg3=>⟨g,λ_=>?_⟩⟩) λg2=>ak ⟨rfl,λ_=>⟨g,λh=>(g2 lX).elim⟩⟩
  dsimp only at g3;rw[jK]at g3;exact g3;rintro⟨b,x⟩ ⟨e,hb⟩;dsimp only at e hb;subst e;refine aR (λ_=>?_) λg=>?_
  refine ay (oM 4 t1 I.p) λy q=>?_
  refine aV (UO _) (ak ?_);exact⟨GE.num (IW.sm (yd cr q.2.1) (yd (Int.le_of_lt (q.2.2.1 cr)) cr)) _,rfl,I.trans q.1,rfl⟩;let⟨q0,q1⟩:=hb g;refine bF (λg=>?_) λg=>?_
  refine ay (oM _ t1 I.p) λy q=>?_
  let⟨u1,u2,A,_⟩:=q;have A:=A (show (1:Int)<=7 by decide);refine aS u2 A (aS u2 A (aX ?_));refine aV (MU _) (ak ?_);have hnv:∀z∈([[97],[98],[120],[121],[118],[120],[121]]:Y ζ),z∈NV:=cr;exact⟨GE.nm (hnv _ (be (T:=.str) u2 A)) _,rfl,I.trans u1,rfl⟩;dsimp only at g;have hd0:d≠0:=λh=>by have:=q1 h;omega
  obtain⟨d,rfl⟩:∃k,d=k+1:=⟨d-1,M⟩
  refine aN (λg=>?_) λg=>?_
  refine ay (Ie n 0 M M m t1 h I.p) λy q=>?_
  let⟨e,m',t',h'⟩:=y;let⟨v1,v2,v3,v4⟩:=q;dsimp only at v1 v2 v3 v4;subst v2 v4;refine bI b8 (ak ?_);dsimp only;rw[gO];exact⟨(GE.ix (v1.le M:GE (d+1) e)),rfl,I.trans v3,rfl⟩;refine ay (oM _ t1 I.p) λy q=>?_
  let⟨k2,t2⟩:=y;let⟨u1,u2,A,_⟩:=q;have A:=A cr;dsimp only at u1 u2 A;refine aS u2 A (aS u2 A (aX ?_));have ho:(6:Int)<=aE aO [6,7,8,11,13,17] k2/\aE aO [6,7,8,11,13,17] k2<=(18:Int):=by
   have h1:=be (T:=aO) (xs:=([6,7,8,11,13,17]:η)) u2 A;have:∀z:Int,z∈([6,7,8,11,13,17]:η)->6<=z/\z<=18:=cr;exact this _ h1
  have ew:aU .i64 (((d+1:Nat):Int)-1)=(d:Int):=by rw[iF];omega
  dsimp only;rw[ew];refine ay (Ie n d M M m t2 h u1.p) λy q=>?_
  let⟨e,m',t',h'⟩:=y;let⟨v1,v2,v3,v4⟩:=q;dsimp only at v1 v2 v3 v4;subst v2 v4;refine bI b8 ?_;refine ay (Ie n d M M m' t' h' v3.p) λy q=>?_
  let⟨e2,m2,t2',h2⟩:=y;let⟨w1,w2,w3,w4⟩:=q;dsimp only at w1 w2 w3 w4;subst w2 w4;refine bI b8 ?_;refine aV (Kp _ _ _) (ak ?_);dsimp only;rw[gO];exact⟨GE.bin ho v1 w1,rfl,I.trans (u1.trans (v3.trans w3)),rfl⟩
def amy (d:Nat) (hd:d<=10) (m:MK) (t:V_) (h:HD) (ht:TP t):Ok (gC ((d:Int),m,t,h)) λy=>GE (d+1) y.1/\y.2.1=m/\T3 t y.2.2.1/\y.2.2.2=h:=Ie ii d (by rw[lH];omega) hd m t h ht
section
def NE (op:Int):Prop:=op=1\/op=2\/op=3\/op=14
def ZE (e:Xp):Prop:=GE 4 e\/e= .mk 0 0 [] []
structure NO (nT:Nat) (s:Sx):Prop where
 o0:1<=s.op
 o1:s.op<=15
 vr:s.op=1->s.index=[]->s.name∈NV
 lk:s.op=4->s.name=[109]\/s.name=[110]
 rw:s.op=5\/s.op=6->s.name=[114]
 cn:s.op=9\/s.op=10\/s.op=11->s.name=[99]
 sp:s.op=12\/s.op=13->s.name∈AK.take nT
 se:s.op=14->s.name=[102]
 ge:s.op=15->s.name=[97]/\s.arg=[102]
 el:¬s.op=2->s.els=[]
 bo:s.op=1\/9<=s.op->s.body=[]
variable {nT:Nat}
def GS (nT:Nat):Nat->Sx->Prop
 |0,_=>False
 |d+1,s=>(s.index≠[]->s.name=[113])/\l! s.index<=1/\(∀e∈s.index,GE 4 e)/\(NE s.op->GE 4 s.expr)/\ZE s.expr/\l! s.body<=8/\l! s.els<=8/\(∀x∈s.body,GS nT d x)/\(∀x∈s.els,GS nT d x)/\NO nT s
def GS.mono:∀{d:Nat} {s:Sx},GS nT d s->GS nT (d+1) s
 |0,_,h=>h.elim
 |_+1,_,⟨a,b,c,e,f,g,i,j,k,l⟩=>⟨a,b,c,e,f,g,i,λx q=>(j x q).mono,λx q=>(k x q).mono,l⟩
def GS.le {s:Sx} (h:GS nT i s) (hk:i<=m):GS nT m s:=by
 induction hk with
 |refl=>exact h
 |step _ q=>exact q.mono
def NO.asg {s a:ζ} {e:Xp} {i:Y Xp} (q:i=[]->s∈NV):NO nT (.mk 1 0 s a i e [] []):=by
 constructor<;>simp[Sx.op,Sx.name,Sx.index,Sx.els,Sx.body];exact λh=>by simpa using q h
def GS.asg {s:ζ} (A:s∈NV) {e:Xp} (h:GE 4 e):GS nT (i+1) (.mk 1 0 s [] [] e [] []):=
 ⟨λh=>(h rfl).elim,by simp[Sx.index],λe he=>(by cases he),λ_=>h,.inl h,by simp[Sx.body],by simp[Sx.els],λx q=>(by cases q),λx q=>(by cases q),NO.asg λ_=>A⟩
def GS.aix {d e:Xp} (hi:GE 4 d) (h:GE 4 e):GS nT (i+1) (.mk 1 0 [113] [] [d] e [] []):=
 ⟨λ_=>rfl,by simp[Sx.index],λe he=>(by simp[Sx.index,aG]at he;rw[he];exact hi),λ_=>h,.inl h,by simp[Sx.body],by simp[Sx.els],λx q=>(by cases q),λx q=>(by cases q),NO.asg nofun⟩
def GS.we {s op:ζ} {e:Xp} {b l:Y Sx} (h:GE 4 e) (I:l! b<=8) (A:l! l<=8) (gb:∀x∈b,GS nT i x) (gl:∀x∈l,GS nT i x) (q:NO nT (.mk a 0 s op [] e b l)):GS nT (i+1) (.mk a 0 s op [] e b l):=
 ⟨λh=>(h rfl).elim,by simp[Sx.index],λe he=>(by cases he),λ_=>h,.inl h,I,A,gb,gl,q⟩
def GS.wo {ln:Int} {s op:ζ} {b:Y Sx} (ho:4<=a/\a≠14) (I:l! b<=8) (gb:∀x∈b,GS nT i x) (A:NO nT (.mk a ln s op [] (.mk 0 0 [] []) b [])):GS nT (i+1) (.mk a ln s op [] (.mk 0 0 [] []) b []):=
 ⟨λh=>(h rfl).elim,by simp[Sx.index],λe he=>(by cases he),λh=>(by have h:a=1\/a=2\/a=3\/a=14:=h;omega),.inr rfl,I,by simp[Sx.els],gb,λx q=>(by cases q),A⟩
def QS (nT:Nat) (d:Nat) (n:Int) (t:V_) (h:HD) (y:MK×V_×HD×Y Sx):Prop:=(l! y.2.2.2:Int)<=max 0 n/\(∀s∈y.2.2.2,GS nT (d+1) s)/\T3 t y.2.1/\y.2.2.1.2=h.2
abbrev E!:=MK×V_×HD
def QT (nT:Nat) (d:Nat) (t:V_) (h:HD) (y:Sx×E!):Prop:=GS nT (d+1) y.1/\T3 t y.2.2.1/\y.2.2.2.2=h.2
def QB (nT:Nat) (d:Nat) (t:V_) (h:HD) (y:Y Sx×E!):Prop:=l! y.1<=2/\(∀s∈y.1,GS nT (d+1) s)/\T3 t y.2.2.1/\y.2.2.2.2=h.2
abbrev RS:Type:=(ν×E!)->aj (MK×V_×HD×Y Sx)
abbrev RT:Type:=(Int×E!)->aj (Sx×E!)
abbrev RBk:Type:=((ζ×Int)×E!)->aj (Y Sx×E!)
def SpS (nT:Nat) (q:RS) (d:Nat):Prop:=∀(n:Int) (m:MK) (t:V_) (h:HD),n<=3->TP t->l! h.2+d<=100->Ok (q (((d:Int),n),m,t,h)) (QS nT d n t h)
def SpT (nT:Nat) (q:RT) (d:Nat):Prop:=∀(m:MK) (t:V_) (h:HD),TP t->l! h.2+d<=100->Ok (q ((d:Int),m,t,h)) (QT nT d t h)
def SpB (nT:Nat) (q:RBk) (d:Nat):Prop:=∀(s:ζ) (m:MK) (t:V_) (h:HD),TP t->l! h.2+1+d<=100->Ok (q ((s,(d:Int)),m,t,h)) (QB nT d t h)
def aj2 (rs:RS) (I:RT) (rb:RBk) (d:Nat) (ht:SpT nT I d):SpS nT (oE rs I rb) d:=by
 intro n m t h hn hp hh;unfold oE bf bB bN cg dD dh bp bO bT cW aJ cH fo;refine sQ (λx=>(n-x.1).toNat) (λx=>0<=x.1/\(x.1<=n\/x.1=0)/\T3 t x.2.2.1/\(l! x.2.2.2.1:Int)<=x.1/\(∀s∈x.2.2.2.1,GS nT (d+1) s)/\x.2.2.2.2.2=h.2) ?_ ⟨cU _,.inr rfl,T3.refl hp,b8,λs hs=>(by cases hs),rfl⟩;rintro⟨(i:Int),m',A,l,h'⟩ ⟨i0,i1,e1,e2,e3,q⟩;dsimp only at i0 i1 e1 e2 e3 q;refine a6 (λx=>x.2=(m',A,l,h')/\(x.1=J->i<n)) ?_ ?_;refine bF (λg=>aN (λ_=>ak ⟨rfl,λ_=>g⟩) λ_=>ak ⟨rfl,λ_=>g⟩) λ_=>ak ⟨rfl,nofun⟩
 rintro⟨b,x⟩ ⟨f1,f2⟩;subst f1;refine aR (λhb=>?_) λ_=>ak ⟨lX,e3,e1,q⟩
 have g:=f2 hb;refine ay (ht m' A h' e1.p cf) λy hy=>?_
 let⟨s,m2,t2,h2⟩:=y;let⟨k1,k2,k3⟩:=hy;refine bI b8 (dB cf M (ak ?_));rw[gO,CZ,iF (n:=i+1) M M];refine ⟨⟨M,M,e1.trans k2,ye,λx hx=>?_,k3.trans q⟩,M⟩
 grind
def aj5 (I:RS) (rt:RT) (rb:RBk) (d:Nat) (hs:SpS nT I d):SpB nT (oF I rt rb) d:=by
 intro s m t h hp hh;unfold oF bf bB cg dD bT a8;refine dB cf M ?_;refine ay (oM 2 t hp) λy q=>?_
 let⟨k,t1⟩:=y;let⟨A,u2,u3,_⟩:=q;have ew:aU .i64 (1+k)=1+k:=iF;rw[ew];refine ay (hs (1+k) m t1 (h.1,h.2++[s]) M A.p cf) λy q=>?_
 let⟨m2,t2,h2,l⟩:=y;let⟨k1,k2,k3,k4⟩:=q;dsimp only at k1 k2 k3 k4;refine bI b8 ?_;rw[k4];have el:aU .i64 ((aZ (l! (h.2++[s])))-1)=(l! h.2:Int):=by
  rw[aQ,bJ,iF b8 cf];simp<;>omega
 refine cq (a? (rf cf (ak ?_)));refine ⟨lX,k2,A.trans k3,?_⟩;simp_all
def HW (s:ζ) (m:MK) (t:V_) (h:HD) (hh:l! h.2<=100):Ok (fY (s,m,t,h)) λy=>y.2=(m,t,h):=by
 unfold fY dD;exact ay (Cr h.2 s M) λy _=>ak rfl
def ao1 (rs:RS) (rt:RT) (rb:RBk) (d:Nat) (hd:d<=5) (h0:1<=d->SpS nT rs 0) (hS:1<=d->SpS nT rs (d-1)) (hB:1<=d->SpB nT rb (d-1)):SpT nT (pQ rs rt rb) d:=by
 intro m t h hp hh;unfold pQ bf bB bN cg dD dh bp bO bT nI aJ fo;refine ay (oM 18 t hp) λy A=>?_
 let⟨k,t1⟩:=y;let⟨I,k0,k1,_⟩:=A;have k1:=k1 cr;dsimp only at I k0 k1;have hE:∀(j:Nat) (m':MK) (t':V_) (h':HD),j<=1->TP t'->Ok (gC ((j:Int),m',t',h')) λy=>GE 4 y.1/\y.2.1=m'/\T3 t' y.2.2.1/\y.2.2.2=h':=λj m' t' h' hj ht'=>(amy j M m' t' h' ht').mono λy A=>⟨A.1.le M,A.2⟩
 have ed:aU .i64 ((d:Int)-1)=(d:Int)-1:=iF;have ed1:1<=d->(d:Int)-1=((d-1:Nat):Int):=λ_=>M
 refine a6 (λx=>x.2=((m.1,aU .i64 (m.2.1-1),m.2.2),t1,(0,0,[],[],0,0,[]),h)/\(x.1=J->1<=d)) ?_ ?_;refine bF (λg=>aX (bF (λ_=>ak ⟨rfl,λ_=>?_⟩) λ_=>ak ⟨rfl,nofun⟩)) λ_=>ak ⟨rfl,nofun⟩
 dsimp only at g;omega;generalize ((m.1,aU .i64 (m.2.1-1),m.2.2):MK)=m0;rintro⟨nest,x⟩ ⟨e,hn⟩;dsimp only at e hn;subst e;refine bF (λ_=>?_) λg4=>?_
 refine aS k0 (by dsimp only[ah];omega) (aS k0 (by dsimp only[ah];omega) (aX ?_));refine ay (hE 1 m0 t1 h M I.p) λy A=>?_
 let⟨e,m2,t2,h2⟩:=y;let⟨v1,v2,v3,v4⟩:=A;dsimp only at v1 v2 v3 v4;subst v2 v4;refine bI b8 (aV (wW _ _) (ak ?_));dsimp only;rw[gO,CZ];have hnv:∀z∈([[120],[121],[120],[118]]:Y ζ),z∈NV:=cr;exact⟨GS.asg (hnv _ (be (T:=.str) k0 (by dsimp only[ah];omega))) v1,I.trans v3,rfl⟩;dsimp only at g4;refine aN (λ_=>?_) λg5=>?_
 refine ay (oM 2 t1 I.p) λy A=>?_
 let⟨u1,u2,u3,_⟩:=A;have u3:=u3 cr;refine aS u2 u3 (aS u2 u3 (aX ?_));refine ay (hE 1 m0 y.2 h M u1.p) λz hz=>?_
 let⟨e,m2,t2,h2⟩:=z;let⟨v1,v2,v3,v4⟩:=hz;dsimp only at v1 v2 v3 v4;subst v2 v4;refine bI b8 (aV (wW _ _) (ak ?_));dsimp only;rw[gO,CZ];have hnv:∀z∈([[97],[98]]:Y ζ),z∈NV:=cr;exact⟨GS.asg (hnv _ (be (T:=.str) u2 u3)) v1,I.trans (u1.trans v3),rfl⟩;dsimp only at g5;refine aN (λ_=>?_) λg6=>?_
 refine ay (hE 0 m0 t1 h M I.p) λz hz=>?_
 let⟨e,m2,t2,h2⟩:=z;let⟨v1,v2,v3,v4⟩:=hz;dsimp only at v1 v2 v3 v4;subst v2 v4;refine bI b8 ?_;refine ay (hE 1 m2 t2 h2 M v3.p) λz hz=>?_
 let⟨e',m3,t3,h3⟩:=z;let⟨w1,w2,w3,w4⟩:=hz;dsimp only at w1 w2 w3 w4;subst w2 w4;refine bI b8 (ak ?_);dsimp only;rw[gO,gO];exact⟨GS.aix v1 w1,I.trans (v3.trans w3),rfl⟩;dsimp only at g6;have hz:∀(c:Prop),c->c:=λ_ h=>h
 have dd:1<=d->d-1+1=d:=λ_=>M
 have w8:8<=k->aU .i64 (k-8)=k-8:=λ_=>iF
 refine a6 (λx=>x.2=(m0,t1,(0,0,[],[],0,0,[]),h)/\(x.1=J->1<=d)) ?_ ?_;refine aN (λ_=>ak ⟨rfl,λg=>?_⟩) λ_=>ak ⟨rfl,nofun⟩
 dsimp only at g;rw[uM]at g;omega;rintro⟨b,x⟩ ⟨e,hb⟩;dsimp only at e hb;subst e;refine aR (λq=>?_) λ_=>?_
 have d1:=hb q;refine ay (hE 1 m0 t1 h M I.p) λz hz=>?_
 let⟨e,m2,t2,h2⟩:=z;let⟨v1,v2,v3,v4⟩:=hz;dsimp only at v1 v2 v3 v4;subst v2 v4;refine bI b8 ?_;dsimp only;rw[ed,ed1 d1];refine ay (hS d1 1 m2 t2 h2 M v3.p M) λz hz=>?_
 let⟨m3,t3,h3,l⟩:=z;let⟨w1,w2,w3,w4⟩:=hz;dsimp only at w1 w2 w3 w4;rw[dd d1]at w2;refine bI b8 ?_;refine a6 (λx=>x.2.2.2.1=(2,0,[],[],e.op,e.n,e.name,e.l)/\T3 t1 x.2.1/\x.2.2.2.2.1.2=h2.2/\x.2.2.2.2.2.1=l/\l! x.2.2.2.2.2.2<=8/\∀s∈x.2.2.2.2.2.2,GS nT d s) ?_ ?_;refine ay (oM 2 t3 w3.p) λy A=>?_
 refine aN (λ_=>?_) λ_=>ak ⟨rfl,v3.trans (w3.trans A.1),w4,rfl,b8,λs hs=>(by cases hs)⟩
 dsimp only;refine ay (hS d1 1 m3 y.2 h3 M A.1.p (by rw[w4];omega)) λz hz=>?_
 let⟨m4,t4,h4,l2⟩:=z;let⟨x1,x2,x3,x4⟩:=hz;dsimp only at x1 x2 x3 x4;rw[dd d1]at x2;exact bI b8 (ak ⟨rfl,v3.trans (w3.trans (A.1.trans x3)),x4.trans w4,rfl,lX,x2⟩);rintro⟨m5,t5,z5,e5,h5,l5,l6⟩ ⟨x1,x2,x3,x4,x5,x6⟩;dsimp only at x1 x2 x3 x4 x5 x6;subst x1 x4;refine ak ?_;dsimp only;rw[gO];exact⟨GS.we v1 faA x5 w2 x6 (by constructor<;>simp[Sx.op,Sx.name,Sx.index,Sx.arg,Sx.els,Sx.body]),I.trans x2,x3⟩;refine a6 (λx=>x.2=(m0,t1,(0,0,[],[],0,0,[]),h)/\(x.1=J->1<=d)) ?_ ?_;refine aN (λ_=>ak ⟨rfl,λg=>?_⟩) λ_=>ak ⟨rfl,nofun⟩
 dsimp only at g;rw[uM]at g;omega;rintro⟨b,x⟩ ⟨e,hb⟩;dsimp only at e hb;subst e;refine aR (λq=>?_) λ_=>?_
 have d1:=hb q;refine aV (MU _) (aV (UO _) (aV (Kp _ _ _) ?_));dsimp only;rw[ed,ed1 d1];refine ay (hS d1 1 _ t1 h M I.p M) λz hz=>?_
 let⟨m3,t3,h3,l⟩:=z;let⟨w1,w2,w3,w4⟩:=hz;dsimp only at w1 w2 w3 w4;rw[dd d1]at w2;refine bI b8 ?_;refine aV (MU _) (aV (UO _) (aV (Kp _ _ _) (aV (wW _ _) ?_)));refine a! (ak ?_);dsimp only;rw[gO,gO,CZ];refine ⟨GS.we (GE.bin M (GE.nm cr 2) (GE.num (IW.sm cr cr) 2)) ye b8 (λx hx=>?_) (λx hx=>(by cases hx)) (by constructor<;>simp[Sx.op,Sx.name,Sx.index,Sx.arg,Sx.els,Sx.body]),I.trans w3,w4⟩;rcases bz.1 hx with hx|hx;exact w2 x hx;rw[aG]at hx;subst hx;rw[<- dd d1];exact GS.asg cr (GE.bin M (GE.nm cr 2) (GE.num (IW.sm cr cr) 2));refine a6 (λx=>x.2=(m0,t1,(0,0,[],[],0,0,[]),h)/\(x.1=J->nest=J/\(k=8\/k=9))) ?_ ?_
 .refine aN (λg=>aR (λgn=>?_) λ_=>ak ⟨rfl,nofun⟩) λ_=>aN (λg=>aR (λgn=>?_) λ_=>ak ⟨rfl,nofun⟩) λ_=>ak ⟨rfl,nofun⟩
  all_goals
   dsimp only at g ⊢;rw[w8 M];refine aS M ye (aS M ye (aX ?_));refine ay (HW _ m0 t1 h M) λy A=>?_
   let⟨yb,y2⟩:=y;dsimp only at A;subst A;exact bI b8 (ak ⟨rfl,λ_=>⟨gn,M⟩⟩)
 rintro⟨b,x⟩ ⟨e,hb⟩;dsimp only at e hb;subst e;refine aR (λq=>?_) λ_=>?_
 let⟨q1,q2⟩:=hb q;have d1:=hn q1;have hnm:aE (.str) [[109],[110]] (k-8)=[109]\/aE (.str) [[109],[110]] (k-8)=[110]:=by rcases q2 with rfl|rfl<;>simp[aE]
 dsimp only;rw[w8 M,ed,ed1 d1];refine aS M ye (aS M ye (aX ?_));refine ay (hB d1 _ m0 t1 h I.p M) λz hz=>?_
 let⟨l,m3,t3,h3⟩:=z;let⟨w1,w2,w3,w4⟩:=hz;dsimp only at w1 w2 w3 w4;rw[dd d1]at w2;exact bI b8 (ak ⟨GS.wo M faA w2 (by constructor<;>simp[Sx.op,Sx.name,Sx.index,Sx.arg,Sx.els,Sx.body];exact hnm),I.trans w3,w4⟩);refine a6 (λx=>x.2=(m0,t1,(0,0,[],[],0,0,[]),h)/\(x.1=J->nest=J/\(k=10\/k=11))) ?_ ?_
 .refine aN (λg=>aR (λgn=>?_) λ_=>ak ⟨rfl,nofun⟩) λ_=>aN (λg=>aR (λgn=>?_) λ_=>ak ⟨rfl,nofun⟩) λ_=>ak ⟨rfl,nofun⟩
  all_goals
   dsimp only at g ⊢;refine ay (HW _ m0 t1 h M) λy A=>?_
   let⟨yb,y2⟩:=y;dsimp only at A;subst A;exact bI b8 (ak ⟨rfl,λ_=>⟨gn,M⟩⟩)
 rintro⟨b,x⟩ ⟨e,hb⟩;dsimp only at e hb;subst e;refine aR (λq=>?_) λ_=>?_
 let⟨q1,q2⟩:=hb q;have d1:=hn q1;dsimp only;rw[ed,ed1 d1,iF (n:=k-10) M M,iF (n:=k-10+5) M M];refine ay (hB d1 _ m0 t1 h I.p M) λz hz=>?_
 let⟨l,m3,t3,h3⟩:=z;let⟨w1,w2,w3,w4⟩:=hz;dsimp only at w1 w2 w3 w4;rw[dd d1]at w2;exact bI b8 (ak ⟨GS.wo M faA w2 (by constructor<;>simp[Sx.op,Sx.name,Sx.index,Sx.arg,Sx.els,Sx.body]<;>omega),I.trans w3,w4⟩);refine a6 (λx=>x.2=(m0,t1,(0,0,[],[],0,0,[]),h)/\(x.1=J->nest=J)) ?_ ?_;exact aN (λ_=>ak ⟨rfl,λg=>g⟩) λ_=>ak ⟨rfl,nofun⟩
 rintro⟨b,x⟩ ⟨e,hb⟩;dsimp only at e hb;subst e;refine aR (λq=>?_) λ_=>?_
 have d1:=hn (hb q);refine ay (oM 2 t1 I.p) λy A=>?_
 let⟨u1,u2,u3,_⟩:=A;have u3:=u3 cr;dsimp only;rw[iF (n:=1+y.1) M M];refine ay (h0 d1 (1+y.1) _ y.2 h M u1.p M) λz hz=>?_
 let⟨m3,t3,h3,l⟩:=z;let⟨w1,w2,w3,w4⟩:=hz;dsimp only at w1 w2 w3 w4;exact bI b8 (ak ⟨GS.wo M faA (λx hx=>(w2 x hx).le M) (by constructor<;>simp[Sx.op,Sx.name,Sx.index,Sx.arg,Sx.els,Sx.body]),I.trans (u1.trans w3),w4⟩);refine a6 (λx=>x.2=(m0,t1,(0,0,[],[],0,0,[]),h)/\(x.1=J->nest=J)) ?_ ?_;exact aN (λ_=>aR (λgn=>ak ⟨rfl,λ_=>gn⟩) λ_=>ak ⟨rfl,nofun⟩) λ_=>ak ⟨rfl,nofun⟩
 rintro⟨b,x⟩ ⟨e,hb⟩;dsimp only at e hb;subst e;refine aR (λq=>?_) λ_=>?_
 have d1:=hn (hb q);dsimp only;rw[ed,ed1 d1];refine ay (hS d1 2 _ t1 h M I.p M) λz hz=>?_
 let⟨m3,t3,h3,l⟩:=z;let⟨w1,w2,w3,w4⟩:=hz;dsimp only at w1 w2 w3 w4;rw[dd d1]at w2;exact bI b8 (ak ⟨GS.wo M faA w2 (by constructor<;>simp[Sx.op,Sx.name,Sx.index,Sx.arg,Sx.els,Sx.body]),I.trans w3,w4⟩);refine a6 (λx=>x.2=(m0,t1,(0,0,[],[],0,0,[]),h)/\(x.1=J->nest=J)) ?_ ?_;refine aN (λ_=>aR (λgn=>aR (λ_=>?_) λ_=>ak ⟨rfl,nofun⟩) λ_=>ak ⟨rfl,nofun⟩) λ_=>ak ⟨rfl,nofun⟩
 refine ay (HW _ m0 t1 h M) λy A=>?_
 let⟨yb,y2⟩:=y;dsimp only at A;subst A;exact bI b8 (ak ⟨rfl,λ_=>gn⟩);rintro⟨b,x⟩ ⟨e,hb⟩;dsimp only at e hb;subst e;refine aR (λq=>?_) λ_=>?_
 have d1:=hn (hb q);refine aV (MU _) (aV (wW _ _) (ak ?_));dsimp only;rw[gO,CZ];refine ⟨GS.wo M b8 (λx hx=>?_) (by constructor<;>simp[Sx.op,Sx.name,Sx.index,Sx.arg,Sx.els,Sx.body]),I,rfl⟩;simp only[bc,cA,fM]at hx;rw[<- dd d1];rcases hx with rfl|rfl;exact GS.wo M b8 (λx hx=>(by cases hx)) (by constructor<;>simp[Sx.op,Sx.name,Sx.index,Sx.arg,Sx.els,Sx.body]);exact GS.asg cr (GE.nm cr 3);refine a6 (λx=>x.2=(m0,t1,(0,0,[],[],0,0,[]),h)/\(x.1=J->nest=J)) ?_ ?_;refine aN (λ_=>aR (λgn=>?_) λ_=>ak ⟨rfl,nofun⟩) λ_=>ak ⟨rfl,nofun⟩
 refine ay (HW _ m0 t1 h M) λy A=>?_
 let⟨yb,y2⟩:=y;dsimp only at A;subst A;exact bI b8 (ak ⟨rfl,λ_=>gn⟩);rintro⟨b,x⟩ ⟨e,hb⟩;dsimp only at e hb;subst e;refine aR (λq=>?_) λ_=>?_
 have d1:=hn (hb q);refine ay (oM 2 t1 I.p) λy A=>ak ?_
 let⟨u1,u2,u3,_⟩:=A;have u3:=u3 cr;dsimp only;rw[iF (n:=10+y.1) M M];refine ⟨GS.wo M b8 (λx hx=>?_) (by constructor<;>simp[Sx.op,Sx.name,Sx.index,Sx.arg,Sx.els,Sx.body]),I.trans u1,rfl⟩;simp only[bc,cA,fM]at hx;rw[hx,<-dd d1];exact GS.wo M b8 (λx hx=>(by cases hx)) (by constructor<;>simp[Sx.op,Sx.name,Sx.index,Sx.arg,Sx.els,Sx.body]<;>omega);refine a6 (λx=>x.2=(m0,t1,(0,0,[],[],0,0,[]),h)) ?_ ?_;exact aN (λ_=>aR (λ_=>aR (λ_=>ak rfl) λ_=>ak rfl) λ_=>ak rfl) λ_=>ak rfl
 rintro⟨b,x⟩ e;dsimp only at e;subst e;refine aR (λq=>?_) λ_=>?_
 refine ay (hE 1 _ t1 h M I.p) λz hz=>?_
 let⟨e,m2,t2,h2⟩:=z;let⟨v1,v2,v3,v4⟩:=hz;dsimp only at v1 v2 v3 v4;subst v2 v4;refine bI b8 (ak ?_);dsimp only;rw[gO];exact⟨GS.we v1 b8 b8 (λx hx=>(by cases hx)) (λx hx=>(by cases hx)) (by constructor<;>simp[Sx.op,Sx.name,Sx.index,Sx.arg,Sx.els,Sx.body]),I.trans v3,rfl⟩;refine a6 (λx=>x.2.1=m0/\T3 t1 x.2.2.1/\x.2.2.2.2=h) ?_ ?_;refine aN (λ_=>aR (λ_=>?_) λ_=>ak ⟨rfl,T3.refl I.p,rfl⟩) λ_=>ak ⟨rfl,T3.refl I.p,rfl⟩
 exact ay (oM 2 t1 I.p) λy A=>ak ⟨rfl,A.1,rfl⟩
 rintro⟨b,m9,t9,z9,h9⟩ ⟨e1,e2,e3⟩;dsimp only at e1 e2 e3;subst e1 e3;refine aR (λq=>?_) λ_=>?_
 exact ak ⟨GS.wo M b8 (λx hx=>(by cases hx)) (by constructor<;>simp[Sx.op,Sx.name,Sx.index,Sx.arg,Sx.els,Sx.body]),I.trans e2,rfl⟩;refine ay (hE 1 _ t9 h9 M e2.p) λz hz=>?_
 let⟨e,m2,t2,h2⟩:=z;let⟨v1,v2,v3,v4⟩:=hz;dsimp only at v1 v2 v3 v4;subst v2 v4;refine bI b8 (aV (wW _ _) (ak ?_));dsimp only;rw[gO,CZ];exact⟨GS.asg cr v1,I.trans (e2.trans v3),rfl⟩
def S9:∀(n:Nat),(∀d:Nat,d<=5->3*d+1<=n->SpT nT (fU n) d)/\(∀d:Nat,d<=5->3*d+2<=n->SpS nT (ec n) d)/\(∀d:Nat,d<=5->3*d+3<=n->SpB nT (fd n) d)
 |0=>⟨λd _ h=>M,λd _ h=>M,λd _ h=>M⟩
 |n+1=>by
  let⟨A,q,I⟩:=S9 n;exact⟨λd h1 h2=>ao1 (ec n) (fU n) (fd n) d h1 (λh=>q 0 M M) (λh=>q (d-1) M M) (λh=>I (d-1) M M),λd h1 h2=>aj2 (ec n) (fU n) (fd n) d (A d h1 M),λd h1 h2=>aj5 (ec n) (fU n) (fd n) d (q d h1 M)⟩
def aib (d:Nat) (hd:d<=5):SpS nT s7 d:=(S9 ii).2.1 d hd (by rw[lH];omega)
end
def GX:Nat->Xp->Prop
 |0,_=>False
 |d+1,e=>l! e.l<=2/\∀x∈e.l,GX d x
def GE.x:∀{d:Nat} {e:Xp},GE d e->GX d e
 |0,_,h=>h.elim
 |_+1,_,h=>⟨h.2.2.1,λx q=>(h.2.2.2.1 x q).x⟩
def ZE.x {e:Xp} (h:ZE e):GX 4 e:=by
 rcases h with h|rfl;exact h.x;exact⟨by simp[Xp.l],λx q=>(by cases q)⟩
def GT:Nat->Sx->Prop
 |0,_=>False
 |d+1,s=>l! s.index<=1/\(∀e∈s.index,GX 4 e)/\GX 4 s.expr/\l! s.body<=8/\l! s.els<=8/\(∀x∈s.body,GT d x)/\(∀x∈s.els,GT d x)
def GS.t {nT:Nat}:∀{d:Nat} {s:Sx},GS nT d s->GT d s
 |0,_,h=>h.elim
 |_+1,_,⟨_,b,c,_,f,g,i,j,k,_⟩=>⟨b,λe he=>(c e he).x,f.x,g,i,λx q=>(j x q).t,λx q=>(k x q).t⟩
def BW (s:Sx):pL (Sx.op s,Sx.line s,Sx.name s,Sx.arg s,Sx.index s,fm (Xp.op (Sx.expr s),Xp.n (Sx.expr s),Xp.name (Sx.expr s),Xp.l (Sx.expr s)),Sx.body s,Sx.els s)=s:=by
 rw[gO,CZ]
def ZI (k:Int):Ok (oe k) λ_=>True:=by
 unfold oe bp jO aJ;with_reducible repeat' first|apply OS.ok;constructor|refine IM.mk λ_=>?_
 all_goals trivial
def tO (e:Xp):Ok (rN e) λ_=>True:=by
 unfold rN bp aJ;with_reducible repeat' first|apply OS.ok;constructor|refine IM.mk λ_=>?_
 all_goals trivial
def DB:∀(n d:Nat) (e:Xp),d<n->GX d e->Ok (jH n e) λ_=>True
 |0,_,_,h,_=>M
 |n+1,0,_,_,h=>h.elim
 |n+1,d+1,e,I,h=>by
  let⟨h1,h2⟩:=h;refine a6 (λx=>x.2=e) (aN (λ_=>ak (gO e)) λ_=>ak (gO e)) ?_;rintro⟨b,x⟩ A;dsimp only at A;subst A;refine a6 (λy=>y.2=x) ?_ ?_
  .refine ay (ZI _) λ_ _=>?_
   with_reducible repeat' first|refine bY (λ_=>?_) λ_=>?_|refine bF (λ_=>?_) λ_=>?_|refine dJ (λ_=>?_) λ_=>?_|refine aR (λ_=>?_) λ_=>?_|exact ak (gO x)|refine ay (jX _) λ_ _=>?_
  rintro⟨b2,y⟩ q;dsimp only at q;subst q;refine aR (λ_=>ak trivial) λ_=>?_
  refine bX (l! y.l) (λi x=>x.1=(i:Int)/\x.2=y) ?_ ?_ ⟨rfl,gO y⟩;rintro i ⟨a,z⟩ hi ⟨e1,e2⟩;dsimp only at e1 e2;subst e1 e2;refine cV ?_;refine bK (aX ?_);refine ay (DB n d _ M (h2 _ (be (T:=.ex) (xs:=z.l) (j:=(i:Int)) M M))) λ_ _=>?_
  refine dJ (λ_=>ak trivial) λ_=>ak ?_
  exact⟨iC,gO z⟩;rintro⟨a,z⟩ ⟨e1,e2⟩;dsimp only at e1 e2;subst e2;exact cK (ak trivial)
def iz (e:Xp) (h:GX 4 e):Ok (kD e) λ_=>True:=DB ii 4 e (by rw[lH];omega) h
abbrev T?:=Int×Int×ζ×Int×Int×ζ
def QY (d:T?):Ok (nM d) λ_=>True:=by
 refine a6 (λ_=>True) ?_ λx _=>aR (λ_=>ak trivial) λ_=>?_
 .with_reducible repeat' first|refine bY (λ_=>?_) λ_=>?_|refine bF (λ_=>?_) λ_=>?_|refine dJ (λ_=>?_) λ_=>?_|exact ak trivial|refine ay (jX _) λ_ _=>?_
 refine a6 (λ_=>True) ?_ λx _=>aR (λ_=>ak trivial) λ_=>?_
 .with_reducible repeat' first|refine bY (λ_=>?_) λ_=>?_|refine aN (λ_=>?_) λ_=>?_|refine dJ (λ_=>?_) λ_=>?_|exact ak trivial|refine ay (jX _) λ_ _=>?_
 with_reducible repeat' first|apply OS.ok;constructor|refine IM.mk λ_=>?_
 all_goals trivial
def Mj (q:Sx->aj Bool) (A:Y Sx->aj Bool) (l:Y Sx) (I:l! l<=1000) (h:∀s∈l,Ok (q s) λ_=>True):Ok (mM q A l) λ_=>True:=by
 refine bX (l! l) (λi x=>x=(i:Int)) ?_ ?_ rfl;rintro i x hi rfl;refine cV ?_;refine bK ?_;refine ay (h _ (be (T:=.sm) (xs:=l) (j:=(i:Int)) M M)) λ_ _=>?_
 exact dJ (λ_=>ak trivial) λ_=>ak iC
 rintro x rfl;exact cK (ak trivial)
def OL (I:Sx->aj Bool) (A:Y Sx->aj Bool) (s:Sx) (h1:∀e∈s.index,GX 4 e) (h2:GX 4 s.expr) (hb:Ok (A s.body) λ_=>True) (he:Ok (A s.els) λ_=>True):Ok (lZ I A s) λ_=>True:=by
 unfold lZ bp bO jO jP bM aJ fo;refine a6 (λx=>x.2=s) ?_ ?_
 .with_reducible repeat' first|refine bY (λ_=>?_) λ_=>?_|refine aN (λ_=>?_) λ_=>?_|refine bF (λ_=>?_) λ_=>?_|refine eX (λ_=>?_) λ_=>?_|refine dJ (λ_=>?_) λ_=>?_|refine aR (λ_=>?_) λ_=>?_|exact ak (BW _)|refine ay (jX _) λ_ _=>?_|refine ay (tO _) λ_ _=>?_|refine ay (iz _ h2x) λ_ _=>?_
 rintro⟨b,x⟩ q;have q:=q.symm;subst q;refine aR (λ_=>ak trivial) λ_=>?_
 refine a6 (λx=>x.2=s) ?_ ?_
 .with_reducible repeat' first|refine bY (λ_=>?_) λ_=>?_|refine aN (λ_=>?_) λ_=>?_|refine bF (λ_=>?_) λ_=>?_|refine eX (λ_=>?_) λ_=>?_|refine dJ (λ_=>?_) λ_=>?_|refine aR (λ_=>?_) λ_=>?_|exact ak (BW _)|refine ay (jX _) λ_ _=>?_|refine ay (tO _) λ_ _=>?_|refine ay (iz _ h2x) λ_ _=>?_
 rintro⟨b,x⟩ q;have q:=q.symm;subst q;refine a6 (λx=>x.2=s) ?_ ?_
 .with_reducible repeat' first|refine bY (λ_=>?_) λ_=>?_|refine aN (λ_=>?_) λ_=>?_|refine bF (λ_=>?_) λ_=>?_|refine eX (λ_=>?_) λ_=>?_|refine dJ (λ_=>?_) λ_=>?_|refine aR (λ_=>?_) λ_=>?_|exact ak (BW _)|refine ay (jX _) λ_ _=>?_|refine ay (tO _) λ_ _=>?_|refine ay (iz _ h2x) λ_ _=>?_
 rintro⟨b,x⟩ q;have q:=q.symm;subst q;refine aR (λ_=>ak trivial) λ_=>?_
 refine a6 (λx=>x.2=s) ?_ ?_
 .with_reducible repeat' first|refine bY (λ_=>?_) λ_=>?_|refine aN (λ_=>?_) λ_=>?_|refine bF (λ_=>?_) λ_=>?_|refine eX (λ_=>?_) λ_=>?_|refine dJ (λ_=>?_) λ_=>?_|refine aR (λ_=>?_) λ_=>?_|exact ak (BW _)|refine ay (jX _) λ_ _=>?_|refine ay (tO _) λ_ _=>?_|refine ay (iz _ h2x) λ_ _=>?_
 rintro⟨b,x⟩ q;have q:=q.symm;subst q;refine aR (λ_=>ak trivial) λ_=>?_
 refine a6 (λx=>x.2=s) ?_ ?_
 .with_reducible repeat' first|refine bY (λ_=>?_) λ_=>?_|refine aN (λ_=>?_) λ_=>?_|refine bF (λ_=>?_) λ_=>?_|refine eX (λ_=>?_) λ_=>?_|refine dJ (λ_=>?_) λ_=>?_|refine aR (λ_=>?_) λ_=>?_|exact ak (BW _)|refine ay (jX _) λ_ _=>?_|refine ay (tO _) λ_ _=>?_|refine ay (iz _ h2x) λ_ _=>?_
  all_goals
   rename_i g;dsimp [ax]at g;refine bK (aX ?_);refine ay (iz _ (h1 _ (be (T:=.ex) (xs:=Sx.index _) (j:=0) M M))) λ_ _=>ak (BW _)
 rintro⟨b,x⟩ q;have q:=q.symm;subst q;refine aR (λ_=>ak trivial) λ_=>?_
 refine a6 (λx=>x.2=s) ?_ ?_
 .with_reducible repeat' first|refine bY (λ_=>?_) λ_=>?_|refine aN (λ_=>?_) λ_=>?_|refine bF (λ_=>?_) λ_=>?_|refine eX (λ_=>?_) λ_=>?_|refine dJ (λ_=>?_) λ_=>?_|refine aR (λ_=>?_) λ_=>?_|exact ak (BW _)|refine ay (jX _) λ_ _=>?_|refine ay (tO _) λ_ _=>?_|refine ay (iz _ h2x) λ_ _=>?_
 rintro⟨b,x⟩ q;have q:=q.symm;subst q;refine a6 (λx=>x.2=s) ?_ ?_
 .have h2x:GX 4 (fm (Xp.op (Sx.expr s),Xp.n (Sx.expr s),Xp.name (Sx.expr s),Xp.l (Sx.expr s))):=by exact h2
  with_reducible repeat' first|refine bY (λ_=>?_) λ_=>?_|refine aN (λ_=>?_) λ_=>?_|refine bF (λ_=>?_) λ_=>?_|refine eX (λ_=>?_) λ_=>?_|refine dJ (λ_=>?_) λ_=>?_|refine aR (λ_=>?_) λ_=>?_|exact ak (BW _)|refine ay (jX _) λ_ _=>?_|refine ay (tO _) λ_ _=>?_|refine ay (iz _ h2x) λ_ _=>?_
 rintro⟨b,x⟩ q;have q:=q.symm;subst q;refine aR (λ_=>ak trivial) λ_=>?_
 refine a6 (λx=>x.2=s) ?_ ?_
 .with_reducible repeat' first|refine bY (λ_=>?_) λ_=>?_|refine aN (λ_=>?_) λ_=>?_|refine bF (λ_=>?_) λ_=>?_|refine eX (λ_=>?_) λ_=>?_|refine dJ (λ_=>?_) λ_=>?_|refine aR (λ_=>?_) λ_=>?_|exact ak (BW _)|refine ay (jX _) λ_ _=>?_|refine ay (tO _) λ_ _=>?_|refine ay (iz _ h2x) λ_ _=>?_
 rintro⟨b,x⟩ q;have q:=q.symm;subst q;refine a6 (λx=>x.2=s) ?_ ?_
 .with_reducible repeat' first|refine bY (λ_=>?_) λ_=>?_|refine aN (λ_=>?_) λ_=>?_|refine bF (λ_=>?_) λ_=>?_|refine eX (λ_=>?_) λ_=>?_|refine dJ (λ_=>?_) λ_=>?_|refine aR (λ_=>?_) λ_=>?_|exact ak (BW _)|refine ay (jX _) λ_ _=>?_|refine ay (tO _) λ_ _=>?_|refine ay (iz _ h2x) λ_ _=>?_
 rintro⟨b,x⟩ q;dsimp only at q;subst q;refine aR (λ_=>ak trivial) λ_=>?_
 refine a6 (λ_=>True) ?_ λ_ _=>ak trivial
 refine ay hb λ_ _=>aR (λ_=>ay he λ_ _=>ak trivial) λ_=>ak trivial
def OV:∀(n:Nat),(∀(d:Nat) (s:Sx),2*d<n->GT d s->Ok (fP n s) λ_=>True)/\(∀(d:Nat) (l:Y Sx),2*d+1<n->l! l<=1000->(∀s∈l,GT d s)->Ok (dY n l) λ_=>True)
 |0=>⟨λd _ h=>M,λd _ h=>M⟩
 |n+1=>by
  let⟨hT,q⟩:=OV n;refine ⟨λd s hd h=>?_,λd l hd I h=>Mj (fP n) (dY n) l I λs A=>hT d s M (h s A)⟩;cases d with
  |zero=>exact h.elim
  |succ d=>
   let⟨_,g2,g3,g4,g5,g6,g7⟩:=h;exact OL (fP n) (dY n) s g2 g3 (q d _ M M g6) (q d _ M M g7)
def Qs (d:Nat) (hd:d<=100) (l:Y Sx) (q:l! l<=1000) (h:∀s∈l,GT d s):Ok (pH l) λ_=>True:=(OV ii).2 d l (by rw[lH];omega) q h
abbrev DT:Type:=T?
abbrev HT:Type:=ζ×Int×Y ζ×Y Sx
abbrev PG:Type:=Y DT×Y HT
structure PX (p:PG):Prop where
 d:l! p.1<=100
 t:l! p.2<=8
 l:∀t∈p.2,l! t.2.2.1<=100
 b:∀t∈p.2,l! t.2.2.2<=100
 s:∀t∈p.2,∀s∈t.2.2.2,GT 5 s
def akb (p:PG) (h:PX p):Ok (sg p) λ_=>True:=by
 let⟨hd,ht,hl,hb,hs⟩:=h;unfold sg bf bN dh bO bM a8 cW aJ cH;refine bX (l! p.1) (λi x=>x.1=(i:Int)/\x.2=p) ?_ ?_ ⟨rfl,rfl⟩;rintro i ⟨a,x⟩ hi ⟨e1,e2⟩;dsimp only at e1 e2;subst e1 e2;refine cV ?_;refine bK (aX ?_);refine ay (QY _) λ_ _=>?_
 exact dJ (λ_=>ak trivial) λ_=>ak ⟨iC,rfl⟩
 rintro⟨a,x⟩ ⟨e1,e2⟩;dsimp only at e1 e2;subst e2;refine cK ?_;refine ay (P:=λ_=>True) ?_ λ_ _=>ak trivial
 refine bX (l! x.2) (λi y=>y.1=(i:Int)/\y.2=x) ?_ ?_ ⟨rfl,rfl⟩;rintro i ⟨a,x⟩ hi ⟨e1,e2⟩;subst e1;have e2:=e2.symm;subst e2;refine cV ?_;refine bK (aX ?_);have hm:=be (T:=vW) (xs:=x.2) (j:=(i:Int)) M M;have h1:=hl _ hm;have h2:=hb _ hm;have q:=hs _ hm;revert h1 h2 q;generalize (aE vW x.2 (i:Int))=t;intro h1 h2 q;refine bX (l! t.2.2.1) (λk y=>y.1=(k:Int)/\y.2=(x,t)) ?_ ?_ ⟨rfl,rfl⟩;rintro k ⟨a,z⟩ hk ⟨I,A⟩;subst I A;refine cV ?_;refine bK (aX ?_);refine ay (jX _) λ_ _=>?_
 exact dJ (λ_=>ak trivial) λ_=>ak ⟨iC,rfl⟩
 rintro⟨a,z⟩ ⟨I,A⟩;subst I A;refine cK ?_;refine ay (P:=λr=>match r with|.inl y=>y.1=((i+1:Nat):Int)/\y.2=x|.inr _=>True) ?_ ?_;refine a6 (λy=>y.2=x) ?_ ?_;refine ay (jX _) λ_ _=>dJ (λ_=>ak rfl) λ_=>?_
 exact ay (Qs 5 M _ cf q) λ_ _=>ak rfl
 rintro⟨b,y⟩ e;subst e;exact aR (λ_=>ak trivial) λ_=>ak ⟨iC,rfl⟩
 rintro (y|y) hy;exact ak hy;exact ak trivial;rintro⟨a,y⟩ ⟨e1,e2⟩;dsimp only at e1 e2;subst e2;exact cK (ak trivial)
def AF (l:Y DT) (s:ζ) (q:l! l<=1000):Ok (ki (l,s)) λr=> -1<=r/\r<(l! l:Int):=by
 refine bX (l! l) (λi x=>x=(i:Int)) ?_ ?_ rfl;rintro i x hi rfl;refine cV ?_;refine bK (aX ?_);exact aN (λ_=>ak ⟨M,M⟩) λ_=>ak iC
 rintro x rfl;exact cK (ak ⟨M,M⟩)
def vD (l:Y HT) (s:ζ) (q:l! l<=1000):Ok (j6 (l,s)) λr=> -1<=r/\r<(l! l:Int):=by
 refine bX (l! l) (λi x=>x=(i:Int)) ?_ ?_ rfl;rintro i x hi rfl;refine cV ?_;refine bK (aX ?_);exact aN (λ_=>ak ⟨M,M⟩) λ_=>ak iC
 rintro x rfl;exact cK (ak ⟨M,M⟩)
def DD (p:PG) (s:ζ):Prop:=∃v,ki (p.1,s)=Z v/\0<=v/\v<(l! p.1:Int)
def ako (p:PG) (h:PX p) (t:Int) (s:ζ):Ok (vj (p,t,s)) λk=>k≠0->k≠7->k≠8->DD p s:=by
 have hd:=h.d;have ht:=h.t;refine a6 (λx=>x.2=p) ?_ ?_;refine eX (λg0=>bF (λI=>?_) λ_=>ak rfl) λ_=>ak rfl
 refine aS g0 I (aX ?_);have hm:=h.l _ (be (T:=vW) (xs:=p.2) (j:=t) g0 I);exact ay (Cr _ s (cR hm M)) λ_ _=>ak rfl
 rintro⟨b,x⟩ e;have e:=e.symm;subst e;refine aR (λ_=>ak λ_ _ h=>(h rfl).elim) λ_=>?_
 let⟨v,A,v0,v1⟩:=AF p.1 s M;refine aV A ?_;refine bF (λ_=>?_) λg=>?_
 exact ay (vD p.2 s M) λ_ _=>eX (λ_=>ak λ_ h=>(h rfl).elim) λ_=>ak λh=>(h rfl).elim
 have q:DD p s:=⟨v,A,g,v1⟩
 refine aS g v1 (aX ?_);refine aN (λ_=>?_) λ_=>?_
 exact aS g v1 (aX (bY (λ_=>ak λ_ _ _=>q) λ_=>ak λ_ _ _=>q));refine aN (λ_=>ak λ_ _ _=>q) λ_=>?_
 refine a6 (λx=>x.2=p) (aN (λ_=>ak rfl) λ_=>aN (λ_=>ak rfl) λ_=>aN (λ_=>ak rfl) λ_=>ak rfl) ?_;rintro⟨b,x⟩ e;dsimp only at e;subst e;exact aR (λ_=>aS g v1 (aX (ak λ_ _ _=>q))) λ_=>ak λ_ _ _=>q
def re (p:PG) (h:PX p) (t:Int) (s:ζ) (a b:Int):Ok (ja (p,t,s,a,b)) λr=>r=0->(a≠7/\a≠8)->(b≠7/\b≠8)->DD p s:=by
 refine ay (ako p h t s) λk hk=>?_
 refine aN (λ_=>ak nofun) λg=>?_
 refine a6 (λx=>x=af->k=a\/k=b) ?_ ?_;refine bY (λ_=>ak λh=>?_) λh=>ak λ_=>.inl h
 simp at h;exact .inr h;rintro x q;exact aR (λ_=>ak nofun) λh=>ak λ_ h1 h2=>hk g cf cf
def Tc:∀(n d:Nat) (e:Xp),d<n->GX d e->Ok (pi n e) λ_=>True
 |0,_,_,h,_=>M
 |n+1,0,_,_,h=>h.elim
 |n+1,d+1,e,q,h=>by
  let⟨h1,h2⟩:=h;refine bX (l! e.l) (λi x=>x.1.2.2=(i:Int)/\x.2=e) ?_ ?_ ⟨rfl,gO e⟩;rintro i ⟨⟨a,b,c⟩,z⟩ hi ⟨e1,e2⟩;dsimp only at e1 e2;subst e1 e2;refine cV ?_;refine bK (aX ?_);refine ay (Tc n d _ M (h2 _ (be (T:=.ex) (xs:=z.l) (j:=(i:Int)) M M))) λ_ _=>ak ?_
  exact⟨iC,gO z⟩;rintro⟨⟨a,b,c⟩,z⟩ ⟨e1,e2⟩;dsimp only at e1 e2;subst e2;exact cK (ak trivial)
def K2 (p:PG) (hp:PX p) (t:Int):∀(n d:Nat) (e:Xp),d<n->GX d e->Ok (ph n (p,t,e)) λ_=>True
 |0,_,_,h,_=>M
 |n+1,0,_,_,h=>h.elim
 |n+1,d+1,e,hn,h=>by
  let⟨h1,h2⟩:=h;rw[B_];unfold xC bp bO bM cW aJ cH;refine a6 (λx=>x.2.1=p/\x.2.2=e) ?_ ?_;refine aN (λ_=>ay (re p hp t _ _ _) λ_ _=>ak ⟨rfl,gO e⟩) λ_=>aN (λ_=>ay (re p hp t _ _ _) λ_ _=>ak ⟨rfl,gO e⟩) λ_=>ak ⟨rfl,gO e⟩
  rintro⟨r,I,e'⟩ ⟨A,q⟩;have A:=A.symm;subst A;have q:=q.symm;subst q;refine sQ (λx=>((l! e.l:Int)-x.1.2).toNat) (λx=>0<=x.1.2/\x.2.1=p/\x.2.2=e) ?_ ⟨cU _,rfl,gO e⟩;rintro⟨⟨a,(b:Int)⟩,I,e'⟩ ⟨b0,A,q⟩;dsimp only at b0 A q;have A:=A.symm;subst A;have q:=q.symm;subst q;refine a6 (λx=>x.2.1=p/\x.2.2=e/\(x.1=J->b<(l! e.l:Int))) ?_ ?_;exact bF (λg=>ak ⟨rfl,gO e,λ_=>g⟩) λ_=>ak ⟨rfl,gO e,nofun⟩
  rintro⟨c,I,e'⟩ ⟨A,q,f3⟩;have A:=A.symm;subst A;have q:=q.symm;subst q;refine aR (λhc=>?_) λ_=>ak trivial
  have g:=f3 hc;refine aS b0 g (aX ?_);refine ay (K2 p hp t n d _ M (h2 _ (be (T:=.ex) (xs:=e.l) (j:=b) b0 g))) λ_ _=>ak ?_
  dsimp only;rw[iF (n:=b+1) M M];exact⟨⟨M,rfl,gO e⟩,M⟩
def AD (p:PG) (hp:PX p) (t:Int) (e:Xp) (h:GX 4 e):Ok (pG (p,t,e)) λ_=>True:=by
 have q:GX 4 (fm (Xp.op e,Xp.n e,Xp.name e,Xp.l e)):=by exact h
 refine ay (iz _ q) λ_ _=>dJ (λ_=>ak trivial) λ_=>?_
 refine ay (Tc ii 4 _ (by rw[lH];omega) q) λ_ _=>?_
 refine a6 (λx=>x.2.1=p/\x.2.2=e) (bF (λ_=>ak ⟨rfl,gO e⟩) λ_=>ak ⟨rfl,gO e⟩) ?_;rintro⟨r,p',e'⟩ ⟨A,I⟩;have A:=A.symm;subst A I;exact aR (λ_=>ak trivial) λ_=>ay (K2 p hp t ii 4 _ (by rw[lH];omega) q) λ_ _=>ak trivial
def gK (b:Bool):Ok (dt b) λ_=>True:=by
 unfold dt;exact aR (λ_=>ak trivial) λ_=>ak trivial
def w7 (x:ν):Ok (kA x) λr=>r=0->x.1=0/\x.2=0:=by
 unfold kA jP;exact bY (λh=>ak λh2=>(h h2).elim) λh=>ak λh2=>⟨h,h2⟩
abbrev WK:Type:=(Y DT×Y HT×Int)×(Bool×Y Sx)×Y ζ×Y ζ
def aik (a b:Int) (s:ζ) (w:WK) (h:l! w.2.1.2<=100):Ok (e9 ((a,b,s),w)) λy=>y.2=w:=by
 unfold e9 bf bp bO nI a8 cW aJ cH;refine bX (l! w.2.1.2) (λi x=>x.1=(i:Int)/\x.2=w) ?_ ?_ ⟨rfl,rfl⟩;rintro i ⟨c,x⟩ hi ⟨e1,e2⟩;subst e1;have e2:=e2.symm;subst e2;refine cV ?_;refine bK (bK (aX ?_));refine a6 (λx=>x.2=w) ?_ ?_;refine aN (λ_=>aN (λ_=>ak rfl) λ_=>ak rfl) λ_=>aN (λ_=>aN (λ_=>ak rfl) λ_=>ak rfl) λ_=>ak rfl
 rintro⟨c,x⟩ e;dsimp only at e;subst e;exact aR (λ_=>ak rfl) λ_=>ak ⟨iC,rfl⟩
 rintro⟨c,x⟩ ⟨e1,e2⟩;subst e1;have e2:=e2.symm;subst e2;exact cK (ak rfl)
def Wm:Nat->Sx->Nat
 |0,_=>0
 |d+1,s=>1+(s.body.map (Wm d)).sum+(s.els.map (Wm d)).sum
def py (d:Nat) (l:Y Sx):Nat:=(l.map (Wm d)).sum
def KS:Nat->Nat
 |0=>0
 |d+1=>1+16*KS d
def Uo {f:R->Nat} :∀{l:Y R},(∀x∈l,f x<=i)->(l.map f).sum<=l! l*i
 |[],_=>b8
 |x::r,h=>by
  have:=Uo (l:=r) λy q=>h y (bx _ q)
  have:=h x (bU ..);rw[d5,List.sum_cons,gQ,lD];omega
def ad8:∀{d:Nat} {s:Sx},GT d s->Wm d s<=KS d
 |0,_,h=>h.elim
 |d+1,s,⟨_,_,_,h4,h5,I,A⟩=>by
  have a:=Uo (f:=Wm d) (l:=s.body) λx q=>ad8 (I x q)
  have b:=Uo (f:=Wm d) (l:=s.els) λx q=>ad8 (A x q)
  have c:=cD (KS d) h4;have e:=cD (KS d) h5;show 1+_+_<=1+16*KS d;omega
def VN:∀{d:Nat} {s:Sx},GT d s->Wm (d+1) s=Wm d s
 |0,_,h=>h.elim
 |d+1,s,⟨_,_,_,_,_,I,A⟩=>by
  show 1+(s.body.map (Wm (d+1))).sum+(s.els.map (Wm (d+1))).sum=1+(s.body.map (Wm d)).sum+(s.els.map (Wm d)).sum;rw[zA λx q=>VN (I x q),zA λx q=>VN (A x q)]
def aov {l:Y Sx} (h:∀s∈l,GT i s):py i l<=l! l*KS i:=Uo λx q=>ad8 (h x q)
def Aq {l:Y Sx} (hi:i<l! l):py m (l.take (i+1))=py m (l.take i)+Wm m (aE (.sm) l (i:Int)):=by
 unfold py;rw[lM (T:=.sm) hi,b_,Ky];simp
def VO {d:Nat} (l:Y Sx) (i:Nat):py d (l.take i)<=py d l:=by
 conv=>rhs;rw[<- FR i l]
 unfold py;rw[b_,Ky];omega
def J6:∀(n d:Nat) (l:Y Sx),d<n->l! l<=1000->(∀s∈l,GT d s)->KS d<=100000->pj n l=Z ((py d l:Nat):Int)
 |0,_,_,h,_,_,_=>M
 |n+1,d,l,hn,q,h,I=>by
  refine bZ ?_;have hb:=aov h;have A:=Nat.mul_le_mul q I;refine bX (l! l) (λi x=>x.2=(i:Int)/\x.1=(l! l:Int)-i+(py d (l.take i):Nat)) ?_ ?_ ⟨rfl,by simp[py]⟩;rintro i ⟨a,b⟩ hi ⟨e1,e2⟩;subst e1 e2;have hp:=VO (d:=d) l (i+1);rw[Aq hi]at hp;refine cV ?_;refine bK (aX ?_);rw[Aq hi];have hm:=h _ (be (T:=.sm) (xs:=l) (j:=(i:Int)) M M);revert hm hp;generalize (aE (.sm) l (i:Int))=s;intro hp hm;cases d with
  |zero=>exact hm.elim
  |succ d=>
   let⟨_,_,_,g4,g5,g6,g7⟩:=hm;have hk:KS (d+1)=1+16*KS d:=rfl;have hc:Wm (d+1) s=1+py d s.body+py d s.els:=rfl;refine aV (J6 n d _ M M g6 M) ?_;refine bK (aX ?_);refine aV (J6 n d _ M M g7 M) (ak ⟨iC,?_⟩);rw[iF (n:=(l! l:Int)-i+(py (d+1) (l.take i):Nat)+(py d s.body:Nat)) M M,iF];omega
  rintro⟨a,b⟩ ⟨e1,e2⟩;subst e1 e2;exact cK (ak b8)
def ac8 (l:Y DT) (A:l! l<=100):Ok (ut l) λ_=>True:=by
 unfold ut bf bB bN cg dD iD bp bO jO jP bT bM a8 cW aJ cH;refine bX (l! l) (λi x=>x.2.2.2.2=(i:Int)) ?_ ?_ rfl;rintro i ⟨a,b,c,d,e⟩ hi e1;subst e1;refine cV ?_;refine a6 (λ_=>True) ?_ λx _=>ak iC
 refine bK (aX ?_);have htk:l! (cG (aL (i:Int)) l)<=100:=cf;refine cq (fB b8 (fB cf ?_));refine ay (AF _ _ (cR htk M)) λv q=>?_
 refine eX (λ_=>ak trivial) λ_=>bF (λ_=>ak trivial) λ_=>?_
 refine a6 (λ_=>True) ?_ λx _=>?_
 refine a6 (λ_=>True) (aN (λ_=>ak trivial) λ_=>ak trivial) λx _=>aR (λ_=>ak trivial) λ_=>?_
 refine a6 (λ_=>True) (aN (λ_=>ak trivial) λ_=>ak trivial) λx _=>aR (λ_=>ak trivial) λ_=>?_
 exact aN (λ_=>ak trivial) λ_=>ak trivial
 refine a6 (λ_=>True) (bF (λ_=>ak trivial) λ_=>bF (λ_=>ak trivial) λ_=>bF (λ_=>ak trivial) λ_=>ak trivial) λx _=>aR (λ_=>ak trivial) λ_=>?_
 refine aN (λ_=>?_) λ_=>ak trivial
 refine cq (fB b8 (fB cf ?_));refine ay (AF _ _ (cR htk M)) λv q=>?_
 refine bF (λ_=>ak trivial) λg=>?_
 have h2:=q.2;rw[bm]at h2;exact aS g M (aX (bY (λ_=>ak trivial) λ_=>ak trivial));rintro⟨a,b,c,d,e⟩ e1;subst e1;exact cK (ak trivial)
def Ul (p:PG) (h:PX p):Ok (pF p) λ_=>True:=by
 have hd:=h.d;have ht:=h.t;unfold pF bf bB bN bO jO bT bM a8 cW aJ cH;refine bX (l! p.2) (λi x=>x.1=(i:Int)/\x.2=p) ?_ ?_ ⟨rfl,rfl⟩;rintro i ⟨a,x⟩ hi ⟨e1,e2⟩;subst e1;have e2:=e2.symm;subst e2;refine cV ?_;refine bK (aX ?_);refine a6 (λx=>x.2.1=p) ?_ ?_;refine ay (AF _ _ cf) λv I=>eX (λ_=>ak rfl) λ_=>?_
 refine cq (fB b8 (fB cf ?_));exact ay (vD _ _ cf) λ_ _=>ak rfl
 rintro⟨b,x,z⟩ e;dsimp only at e;subst e;exact aR (λ_=>ak trivial) λ_=>ak ⟨iC,rfl⟩
 rintro⟨a,x⟩ ⟨e1,e2⟩;subst e1;have e2:=e2.symm;subst e2;refine cK ?_;refine ay (P:=λ_=>True) ?_ λ_ _=>ak trivial
 refine bX (l! p.2) (λi x=>x.1=(i:Int)/\x.2=p) ?_ ?_ ⟨rfl,rfl⟩;rintro i ⟨a,x⟩ hi ⟨e1,e2⟩;subst e1;have e2:=e2.symm;subst e2;refine cV ?_;refine bK (aX ?_);have hm:=h.l _ (be (T:=vW) (xs:=p.2) (j:=(i:Int)) M M);revert hm;generalize (aE vW p.2 (i:Int))=t;intro hm;refine bF (λ_=>ak trivial) λ_=>?_
 refine bX (l! t.2.2.1) (λk y=>y.1=(k:Int)/\y.2=(p,t)) ?_ ?_ ⟨rfl,rfl⟩;rintro k ⟨a,z⟩ hk ⟨A,q⟩;subst A q;refine cV ?_;refine bK (aX ?_);refine a6 (λx=>x.2=(p,t)) ?_ ?_;refine ay (AF _ _ cf) λv I=>eX (λ_=>ak rfl) λ_=>?_
 refine ay (vD _ _ cf) λv I=>eX (λ_=>ak rfl) λ_=>?_
 refine cq (fB b8 (fB cf ?_));exact ay (Cr _ _ cf) λ_ _=>ak rfl
 rintro⟨b,x⟩ e;subst e;exact aR (λ_=>ak trivial) λ_=>ak ⟨iC,rfl⟩
 rintro⟨a,z⟩ ⟨A,q⟩;subst A q;exact cK (ak ⟨iC,rfl⟩);rintro⟨a,x⟩ ⟨e1,e2⟩;subst e1;have e2:=e2.symm;subst e2;exact cK (ak trivial)
structure WQ (w:WK) (y:Int×WK):Prop where
 p:y.2.1=w.1
 a:y.2.2.1=w.2.1
 s:l! y.2.2.2.1<=l! w.2.2.1+1
 t:l! y.2.2.2.2<=l! w.2.2.2+1
def WQ.same (w:WK) (e:Int):WQ w (e,w):=⟨rfl,rfl,Nat.le_succ _,Nat.le_succ _⟩
def ay9 (s:Sx) (D:Y DT) (T:Y HT) (t:Int) (A:Bool×Y Sx) (sp q:Y ζ) (hp:PX (D,T)) (hA:l! A.2<=100) (h1:l! sp<=100000000) (h2:l! q<=100000000) (hx:∀e∈s.index,GX 4 e) (he:GX 4 s.expr):Ok (oc (s,((D,T,t),A,sp,q))) (WQ ((D,T,t),A,sp,q)):=by
 have hex:GX 4 (fm (Xp.op s.expr,Xp.n s.expr,Xp.name s.expr,Xp.l s.expr)):=by rw[gO];exact he
 have hin:∀(a b:Int) (n:ζ),Ok (e9 ((a,b,n),((D,T,t),A,sp,q))) λy=>y.2=((D,T,t),A,sp,q):=λa b n=>aik a b n _ hA
 have hth:l! T<=1000:=by have:=hp.t;dsimp only at this;omega
 have hdl:l! D<=1000:=by have:=hp.d;dsimp only at this;omega
 have sm:∀e,WQ ((D,T,t),A,sp,q) (e,((D,T,t),A,sp,q)):=WQ.same _;unfold oc bf bB bN cM cg dD dh iD bp jO jP bT bM aJ fo;refine ay (hin _ _ _) λy I=>?_
 let⟨b1,y2⟩:=y;dsimp only at I;subst I;refine bI b8 ?_;refine ay (hin _ _ _) λy I=>?_
 let⟨b2,y2⟩:=y;dsimp only at I;subst I;refine bI b8 ?_;refine ay (hin _ _ _) λy I=>?_
 let⟨b3,y2⟩:=y;dsimp only at I;subst I;refine bI b8 ?_;refine aN (λ_=>?_) λ_=>?_
 refine aN (λ_=>ay (re _ hp _ _ _ _) λ_ _=>ay (AD _ hp _ _ hex) λ_ _=>ay (w7 _) λ_ _=>ak (sm _)) λg=>?_
 refine ay (re _ hp _ _ _ _) λ_ _=>?_
 dsimp only[ax]at g;refine bK (aX ?_);refine ay (AD _ hp _ _ (hx _ (be (T:=.ex) (xs:=s.index) (j:=0) M M))) λ_ _=>?_
 exact ay (AD _ hp _ _ hex) λ_ _=>ay (w7 _) λ_ _=>ay (w7 _) λ_ _=>ak (sm _)
 refine a6 (λx=>x.2=((D,T,t),A,s,(D,T),sp,q)) (aN (λ_=>ak (by dsimp only;rw[BW])) λ_=>ak (by dsimp only;rw[BW])) ?_;rintro⟨b,x⟩ e;dsimp only at e;subst e;refine aR (λ_=>ay (AD _ hp _ _ hex) λ_ _=>ak (sm _)) λ_=>?_
 refine aN (λ_=>?_) λ_=>?_
 refine a6 (λx=>WQ ((D,T,t),A,sp,q) x) ?_ λx hx=>ak hx
 refine ay (re _ hp _ _ _ _) λ_ _=>aR (λ_=>ay (gK _) λ_ _=>ay (w7 _) λ_ _=>ak (sm _)) λ_=>?_
 refine ay (hin _ _ _) λy I=>?_
 let⟨b4,y2⟩:=y;dsimp only at I;subst I;exact bI b8 (ay (gK _) λ_ _=>ay (w7 _) λ_ _=>ak (sm _));refine a6 (λx=>x.2=((D,T,t),A,s,(D,T),sp,q)) (aN (λ_=>ak (by dsimp only;rw[BW])) λ_=>ak (by dsimp only;rw[BW])) ?_;rintro⟨b,x⟩ e;dsimp only at e;subst e;refine aR (λ_=>?_) λ_=>?_
 refine a6 (λx=>WQ ((D,T,t),A,sp,q) x) ?_ λx hx=>ak hx
 refine ay (re _ hp _ _ _ _) λ_ _=>aR (λ_=>?_) λ_=>?_
 exact ay (gK _) λ_ _=>ay (w7 _) λ_ _=>ak (sm _)
 refine ay (hin _ _ _) λy I=>?_
 let⟨b4,y2⟩:=y;dsimp only at I;subst I;exact bI b8 (ay (gK _) λ_ _=>ay (w7 _) λ_ _=>ak (sm _));refine aN (λ_=>ay (gK _) λ_ _=>ak (sm _)) λ_=>?_
 refine aN (λ_=>?_) λ_=>?_
 refine a6 (λx=>WQ ((D,T,t),A,sp,q) x) ?_ λx hx=>ak hx
 exact aR (λ_=>ay (gK _) λ_ _=>ak (sm _)) λ_=>ay (gK _) λ_ _=>ak (sm _)
 refine a6 (λx=>x.2=((D,T,t),A,s,(D,T),sp,q)) (aN (λ_=>ak (by dsimp only;rw[BW])) λ_=>aN (λ_=>ak (by dsimp only;rw[BW])) λ_=>ak (by dsimp only;rw[BW])) ?_;rintro⟨b,x⟩ e;dsimp only at e;subst e;refine aR (λ_=>?_) λ_=>?_
 refine ay (re _ hp _ _ _ _) λr hr=>bY (λ_=>ak (sm _)) λg=>?_
 let⟨v,hv,v0,v1⟩:=hr g M M;refine aV hv (aS v0 v1 (aX ?_));refine ay (hin _ _ _) λy I=>?_
 let⟨b4,y2⟩:=y;dsimp only at I;subst I;refine bI b8 ?_;refine a6 (λx=>WQ ((D,T,t),A,sp,q) x) ?_ λx hx=>ak hx
 refine aR (λ_=>ay (gK _) λ_ _=>ak (sm _)) λ_=>dJ (λ_=>ay (gK _) λ_ _=>ak (sm _)) λ_=>?_
 exact aN (λ_=>ay (gK _) λ_ _=>ak (sm _)) λ_=>ay (gK _) λ_ _=>ak (sm _)
 refine aN (λ_=>?_) λ_=>?_
 refine ay (re _ hp _ _ _ _) λr hr=>bY (λ_=>ak (sm _)) λg=>?_
 refine ay (vD T _ hth) λv hv=>?_
 refine a6 (λx=>x.2=((D,T,t),A,s,sp,q)) ?_ ?_;refine aR (λ_=>ak (by dsimp only;rw[BW])) λ_=>aR (λ_=>ak (by dsimp only;rw[BW])) λ_=>aR (λ_=>ak (by dsimp only;rw[BW])) λ_=>aN (λ_=>ak (by dsimp only;rw[BW])) λ_=>ak (by dsimp only;rw[BW])
 rintro⟨b,x⟩ e;dsimp only at e;subst e;refine aR (λ_=>ak (sm _)) λ_=>?_
 refine ay (Cr sp _ M) λ_ _=>eX (λ_=>ak (sm _)) λ_=>?_
 exact a! (ak ⟨rfl,rfl,b8,Nat.le_succ _⟩);refine aN (λ_=>?_) λ_=>?_
 refine a6 (λx=>WQ ((D,T,t),A,sp,q) x) ?_ λx hx=>ak hx
 refine ay (re _ hp _ _ _ _) λr hr=>?_
 refine aR (λ_=>ay (gK _) λ_ _=>ay (w7 _) λ_ _=>ak (sm _)) λ_=>?_
 refine aR (λ_=>ay (gK _) λ_ _=>ay (w7 _) λ_ _=>ak (sm _)) λ_=>?_
 exact ay (vD T _ hth) λv hv=>ay (gK _) λ_ _=>ay (w7 _) λ_ _=>ak (sm _)
 refine aN (λ_=>?_) λ_=>?_
 refine a6 (λx=>x.2=((D,T,t),A,s,(D,T),sp,q)) ?_ ?_;refine ay (re _ hp _ _ _ _) λr hr=>?_
 exact aR (λ_=>ay (gK _) λ_ _=>ay (w7 _) λ_ _=>ak (by dsimp only;rw[BW])) λ_=>ay (gK _) λ_ _=>ay (w7 _) λ_ _=>ak (by dsimp only;rw[BW])
 rintro⟨b,x⟩ e;dsimp only at e;subst e;refine a6 (λx=>x.2=((D,T,t),A,s,(D,T),sp,q)) ?_ ?_;refine a6 (λx=>x.2=((D,T,t),A,s,(D,T),sp,q)) ?_ ?_;exact aN (λ_=>ay (Cr q _ M) λ_ _=>ak (by dsimp only;rw[BW])) λ_=>ak (by dsimp only;rw[BW])
 rintro⟨b,x⟩ e;dsimp only at e;subst e;exact aR (λ_=>ak (by dsimp only;rw[BW])) λ_=>ak (by dsimp only;rw[BW])
 rintro⟨b,x⟩ e;dsimp only at e;subst e;refine a! ?_;exact ay (AD _ hp _ _ hex) λ_ _=>ay (w7 _) λ_ _=>ak ⟨rfl,rfl,Nat.le_succ _,b8⟩
 exact ay (re _ hp _ _ _ _) λ_ _=>ay (re _ hp _ _ _ _) λ_ _=>ay (gK _) λ_ _=>ay (w7 _) λ_ _=>ay (w7 _) λ_ _=>ak (sm _)
abbrev RA4:Type:=(Y Sx×WK)->aj (ν×WK)
structure QA (l:List Sx) (d:Nat) (w:WK) (y:ν×WK):Prop where
 p:y.2.1=w.1
 a:l! y.2.2.1.2=l! w.2.1.2
 s:l! y.2.2.2.1<=l! w.2.2.1+l! l*KS d
 t:l! y.2.2.2.2<=l! w.2.2.2+l! l*KS d
def SpA (rr:RA4) (d:Nat):Prop:=∀(l:Y Sx) (w:WK),l! l<=100->(∀s∈l,GT d s)->PX (w.1.1,w.1.2.1)->l! w.2.1.2+d<=50->l! w.2.2.1+l! l*KS d<=100000000->l! w.2.2.2+l! l*KS d<=100000000->Ok (rr (l,w)) (QA l d w)
def at0 (rr:RA4) (d:Nat) (hr:∀d',d=d'+1->SpA rr d'):SpA (ol rr) d:=by
 rintro l ⟨⟨D,T,t⟩,A,sp,se⟩ hl hg hp hA h1 h2;dsimp only at hp hA h1 h2;have hK:∀i:Nat,i<=l! l->i*KS d<=l! l*KS d:=λi hi=>cD _ hi
 unfold ol bf bB bN cg dD dh ck bp bO jP bT bM a8 cW aJ cH fo;refine bX (l! l) (λi x=>x.1=(i:Int)/\x.2.1=(D,T,t)/\l! x.2.2.1.2=l! A.2/\l! x.2.2.2.1<=l! sp+i*KS d/\l! x.2.2.2.2<=l! se+i*KS d) ?_ ?_ ⟨rfl,rfl,rfl,b8,b8⟩;rintro i ⟨a,P,A',sp',se'⟩ hi ⟨e1,e2,I,e4,e5⟩;dsimp only at e1 e2 I e4 e5;subst e1 e2;have hKi:=hK (i+1) M;have hKs:=lD i (KS d);rw[Nat.succ_eq_add_one]at hKs;refine cV ?_;refine bK (aX ?_);have hm:=hg _ (be (T:=.sm) (xs:=l) (j:=(i:Int)) M M);revert hm;generalize (aE (.sm) l (i:Int))=s;intro hm;cases d with
 |zero=>exact hm.elim
 |succ d=>
  have hR:=hr d rfl;let⟨_,g2,g3,g4,g5,g6,g7⟩:=hm;have hk:KS (d+1)=1+16*KS d:=rfl;have kb:l! s.body*KS d<=8*KS d:=cD _ g4;have ke:l! s.els*KS d<=8*KS d:=cD _ g5;dsimp only;rw[BW];refine ay (ay9 s D T t A' sp' se' hp M M M g2 g3) λy q=>?_
  let⟨e,P2,A2,sp2,se2⟩:=y;let⟨q1,q2,q3,q4⟩:=q;dsimp only at q1 q2 q3 q4;subst q1 q2;refine bI b8 ?_;refine a6 (λx=>x.2=((D,T,t),s,A2,sp2,se2)) (bF (λ_=>ak rfl) λ_=>ak rfl) ?_;rintro⟨e,x⟩ ex;dsimp only at ex;subst ex;refine bY (λ_=>ak ⟨rfl,I,lX,lX⟩) λ_=>?_
  refine a! (aS b8 ye (aS b8 ye ?_));dsimp only;rw[BW];refine ay (hR s.body ((D,T,t),(A2.1,bW (A2.2++[_]) _ s),sp2,se2) M g6 hp ?_ ?_ ?_) λy q=>?_
  dsimp only;rw[bu];simp;omega;dsimp only;omega;dsimp only;omega;let⟨e6,P6,A6,sp6,se6⟩:=y;let⟨q1,q2,q5,q6⟩:=q;dsimp only at q1 q2 q5 q6;subst q1;rw[bu,aQ,bJ]at q2;refine bI b8 ?_;refine a6 (λx=>x.2.1=(D,T,t)/\l! x.2.2.1.2=l! A2.2+1/\l! x.2.2.2.1<=l! sp2+16*KS d/\l! x.2.2.2.2<=l! se2+16*KS d) ?_ ?_;refine aN (λ_=>?_) λ_=>ak ⟨rfl,q2,lX,lX⟩
  refine ay (hR s.els ((D,T,t),A6,sp6,se6) M g7 hp lX lX lX) λy q=>?_
  let⟨e7,P7,A7,sp7,se7⟩:=y;let⟨r1,r2,r5,r6⟩:=q;dsimp only at r1 r2 r5 r6;subst r1;exact bI b8 (ak ⟨rfl,r2.trans q2,lX,lX⟩);rintro⟨e8,P8,A8,sp8,se8⟩ ⟨r1,r2,r5,r6⟩;dsimp only at r1 r2 r5 r6;subst r1;have el:aU .i64 ((aZ (l! A8.2))-1)=(l! A2.2:Int):=by
   rw[r2,iF (by simp<;>omega) (by simp<;>omega)];simp<;>omega
  dsimp only;rw[el];have tk:l! (cG (aL (l! A2.2:Int)) A8.2)=l! A2.2:=by rw[bm];omega
  refine cq (a? (rf (by rw[r2];omega) ?_));refine bY (λ_=>ak ⟨rfl,lX,lX,lX⟩) λ_=>ak ?_
  exact⟨iC,rfl,lX,lX,lX⟩
 rintro⟨a,P,A',sp',se'⟩ ⟨e1,e2,I,e4,e5⟩;dsimp only at e1 e2 I e4 e5;subst e1 e2;exact cK (ak ⟨rfl,I,e4,e5⟩)
def agt:∀(n d:Nat),d<n->SpA (j9 n) d
 |0,_,h=>M
 |n+1,d,h=>at0 (j9 n) d λq hd=>agt n q M
def I1 (p:PG) (h:PX p):Ok (g_ p) λr=>r.1=0->(p.2.map λt=>py 5 t.2.2.2).sum<=60:=by
 have hd:=h.d;have ht:=h.t;refine ay (akb p h) λ_ _=>dJ (λ_=>ak nofun) λ_=>?_
 refine ay (ac8 p.1 hd) λ_ _=>bY (λhn=>ak λh=>(hn h).elim) λ_=>bF (λ_=>ak nofun) λ_=>?_
 refine ay (Ul p h) λ_ _=>bY (λhn=>ak λh=>(hn h).elim) λ_=>?_
 have hk5:KS 5=69905:=rfl;refine bX (l! p.2) (λi x=>x.1.2=(i:Int)/\x.2=p/\x.1.1=((((p.2.take i).map λt=>py 5 t.2.2.2).sum:Nat):Int)/\(x.1.1:Int)<=((i*6990500:Nat):Int)) ?_ ?_ ⟨rfl,rfl,b8,b8⟩;rintro i ⟨⟨(c:Int),a⟩,x⟩ hi ⟨e1,e2,q,e4⟩;dsimp only at e1 e2 q e4;subst e1;have e2:=e2.symm;subst e2;refine cV ?_;refine bK (aX ?_);have hm:=be (T:=vW) (xs:=p.2) (j:=(i:Int)) M M;have I:=h.b _ hm;have hcb:=aov (h.s _ hm);have hcb2:=cD (KS 5) I;rw[hk5]at hcb hcb2;refine aV (J6 ii 5 _ (by rw[lH];omega) (cR I M) (h.s _ hm) M) (ak ⟨iC,rfl,?_,?_⟩);dsimp only;rw[lM (T:=vW) hi,b_,Ky,iF,q];simp;dsimp only;rw[iF];omega;rintro⟨⟨(c:Int),a⟩,x⟩ ⟨e1,e2,q,e4⟩;dsimp only at e1 e2 q e4;subst e1;have e2:=e2.symm;subst e2;rw[cO]at q;refine cK ?_;refine ay (P:=λr=>r.1=0->(p.2.map λt=>py 5 t.2.2.2).sum<=60) ?_ λ_ h=>ak h
 refine bF (λ_=>ak nofun) λg60=>?_
 have g60:c<=60:=g60;refine bX (l! p.2) (λi x=>x.1=(i:Int)/\x.2.1=p/\x.2.2.1.1=p.1/\x.2.2.1.2.1=p.2/\l! x.2.2.2.1.2=0/\l! x.2.2.2.2.1<=i*6990500/\l! x.2.2.2.2.2<=i*6990500) ?_ ?_ ⟨rfl,rfl,rfl,rfl,rfl,b8,b8⟩;rintro i ⟨a,x,⟨D,T,t⟩,A,sp,se⟩ hi ⟨e1,e2,q,e4,e5,e6,e7⟩;dsimp only at e1 e2 q e4 e5 e6 e7;subst e1;have e2:=e2.symm;subst e2 q e4;refine cV ?_;refine bK (aX ?_);have hm:=be (T:=vW) (xs:=p.2) (j:=(i:Int)) M M;have I:=h.b _ hm;have hs:=h.s _ hm;revert I hs;dsimp only;generalize (aE vW p.2 (i:Int))=th;intro I hs;have hk:KS 5=69905:=rfl;have hle:l! th.2.2.2*KS 5<=100*KS 5:=cD _ I;rw[hk]at hle;refine ay (agt ii 5 (by rw[lH];omega) th.2.2.2 ((p.1,p.2,(i:Int)),A,sp,se) I hs h cf cf cf) λy hy=>?_
 let⟨e,P2,A2,sp2,se2⟩:=y;let⟨q1,q2,q3,q4⟩:=hy;dsimp only at q1 q2 q3 q4;subst q1;rw[hk]at q3 q4;refine bI b8 (bY (λhn=>ak λh=>(hn h).elim) λ_=>ak ?_);exact⟨iC,rfl,rfl,rfl,lX,lX,lX⟩;rintro⟨a,x,P,w⟩ ⟨e1,e2,_⟩;dsimp only at e1 e2;subst e1;have e2:=e2.symm;subst e2;exact cK (ak λ_=>M)
def dv {o q:aj R} {Q:R->Prop} (h:o=q) (hk:Ok q Q):Ok o Q:=h▸hk
def D0:Y DT:=[(1,0,[120],0,0,[]),(1,0,[121],0,1,[]),(2,0,[118],0,0,[]),(1,0,[113],2,0,[]),(3,0,[109],0,0,[]),(3,0,[110],0,0,[]),(4,0,[114],0,0,[]),(5,0,[99],0,0,[109]),(6,0,[102],0,0,[])]
def L0:Y ζ:=[[97],[98]]
set_option maxHeartbeats 20000000 in
def aD7:∃r,g_ (D0,[([109,97,105,110],0,L0,[pL (1,0,[120],[],[],fm (1,1,[],[]),[],[])])])=Z r/\r.1=0:=by
 suffices h:Ok (g_ (D0,[([109,97,105,110],0,L0,[pL (1,0,[120],[],[],fm (1,1,[],[]),[],[])])])) λr=>r.1=0 by
  obtain⟨y,h1,h2⟩:=h;exact⟨y,h1,h2⟩
 unfold g_ bf bB bN cg dh bO jP bT bM a8 cW aJ cH;with_reducible repeat' first|exact ak rfl|refine afl ?_|refine afk ?_|refine afj ?_|refine afh ?_|refine Xe ?_|refine as2 ?_|refine aX ?_|refine pY rfl ?_|refine gJ rfl ?_|refine bI rfl ?_|refine afi ?_|refine Xf ?_|refine dv (sg.eq_1 ..) ?_|refine dv (nM.eq_1 ..) ?_|refine dv (gL.eq_1 ..) ?_|refine dv (mF.eq_1 ..) ?_|refine dv (me.eq_1 ..) ?_|refine dv (mY.eq_1 ..) ?_|refine dv (rP.eq_1 ..) ?_|refine dv (uu.eq_1 ..) ?_|refine dv (pH.eq_1 ..) ?_|refine dv (mM.eq_1 ..) ?_|refine dv (lZ.eq_1 ..) ?_|refine dv (rm.eq_1 ..) ?_|refine dv (kD.eq_1 ..) ?_|refine dv (oe.eq_1 ..) ?_|refine dv (rN.eq_1 ..) ?_|refine dv (ut.eq_1 ..) ?_|refine dv (ki.eq_1 ..) ?_|refine dv (pF.eq_1 ..) ?_|refine dv (j6.eq_1 ..) ?_|refine dv (kP.eq_1 ..) ?_|refine dv (Gf.eq_1 ..) ?_|refine dv (Bp.eq_1 ..) ?_|refine dv (yQ.eq_1 ..) ?_|refine dv (ol.eq_1 ..) ?_|refine dv (oc.eq_1 ..) ?_|refine dv (e9.eq_1 ..) ?_|refine dv (ja.eq_1 ..) ?_|refine dv (vj.eq_1 ..) ?_|refine dv (pG.eq_1 ..) ?_|refine dv (Ge.eq_1 ..) ?_|refine dv (Bo.eq_1 ..) ?_|refine dv (Gb.eq_1 ..) ?_|refine dv (xC.eq_1 ..) ?_|refine dv (kA.eq_1 ..) ?_|refine dv (dt.eq_1 ..) ?_|refine dv (ck.eq_1 ..) ?_|refine dv (congrFun (eZ dY lH) _) ?_|refine dv (CC _ _) ?_|refine dv (congrFun (eZ fP lH) _) ?_|refine dv (Dy _ _) ?_|refine dv (congrFun (eZ jH lH) _) ?_|refine dv (Dz _ _) ?_|refine dv (congrFun (eZ pj lH) _) ?_|refine dv (Mm _ _) ?_|refine dv (congrFun (eZ j9 lH) _) ?_|refine dv (Gr _ _) ?_|refine dv (congrFun (eZ pi lH) _) ?_|refine dv (Ml _ _) ?_|refine dv (congrFun (eZ ph lH) _) ?_|refine dv (B_ _ _) ?_
 all_goals trace_state
structure TM (nT:Nat) (t:HT):Prop where
 l:t.2.2.1=L0
 b:l! t.2.2.2<=8
 s:∀s∈t.2.2.2,GS nT 3 s
structure PJ (p:PG):Prop where
 d:p.1=D0
 t0:1<=l! p.2
 t:l! p.2<=4
 m:∀t∈p.2,TM (l! p.2) t
 n:p.2.map Prod.fst=AK.take (l! p.2)
def PJ.x {p:PG} (h:PJ p):PX p:=⟨by rw[h.d];decide,by have:=h.t;omega,λt ht=>by rw[(h.m t ht).l];decide,λt ht=>by have:=(h.m t ht).b;omega,λt ht s q=>((h.m t ht).s s q).le (by omega:3<=5) |>.t⟩
def Yz:vn ()=Z D0:=rfl
def aq0:∀m:Nat,m<5->∀j:Nat,j<m->aE (.str) AK (j:Int)∈AK.take m:=cr
def WH {nT:Nat} (op:Int) {n:ζ} (A:op=12\/op=13) (I:n∈AK.take nT):GS nT 3 (pL (op,0,n,[],[],fm (0,0,[],[]),[],[])):=GS.wo M b8 (λx q=>(by cases q)) (by rcases A with rfl|rfl<;>(constructor<;>simp[Sx.op,Sx.name,Sx.index,Sx.arg,Sx.els,Sx.body]<;>exact I))
def L9 (x:η) (hl:l! x<=9223372036854775807) (hx:∀z∈x,0<=z/\z<=255):Ok (qO x) λp=>PJ p/\∃r,g_ p=Z r/\r.1=0:=by
 unfold qO bf bB bN cM gE qY Eb cg iD sL xZ Prod.o bp bO jP bT nI cW aJ cH fo;refine aV Yz ?_;refine ay (oM 3 (x,0) ⟨hl,hx,lX,lX⟩) λy A=>?_
 let⟨n,t0⟩:=y;let⟨s0,n0,n1,_⟩:=A;have n1:=n1 cr;dsimp only at s0 n0 n1;have ew:aU .i64 (2+n)=2+n:=iF;obtain⟨nT,hnT⟩:∃m:Nat,2+n=(m:Int):=⟨(2+n).toNat,M⟩
 refine bX nT (λi x=>x.1=(i:Int)/\x.2.2.1=D0/\x.2.2.2.1=AK/\TP x.2.2.2.2.1/\x.2.2.2.2.2.1.2=[]/\x.2.2.2.2.2.2.map Prod.fst=AK.take i/\∀t∈x.2.2.2.2.2.2,TM nT t) ?_ ?_ ⟨rfl,rfl,rfl,s0.p,rfl,rfl,λt ht=>(by cases ht)⟩;rintro i ⟨a,m,D,N,t,h,th⟩ hi ⟨e1,e2,e3,e4,e5,e6,e7⟩;dsimp only at e1 e2 e3 e4 e5 e6 e7;subst e1 e2;refine bF (λg=>?_) λg=>(by dsimp only at g;rw[ew]at g;omega)
 have l4:l! N=4:=by rw[e3];rfl
 refine bK (bK (aX ?_));have hthl:l! th=i:=by have:=eZ ah e6;rw[bL,bm]at this;have q4:AK.length=4:=rfl;omega
 refine a6 (λx=>x.2.2.2.1.1=aE (.str) N (i:Int)/\x.2.1=D0/\x.2.2.1=AK/\TP x.2.2.2.2.1/\x.2.2.2.2.2.1.2=[]/\x.2.2.2.2.2.2.1=th/\x.2.2.2.2.2.2.2.1=L0/\l! x.2.2.2.2.2.2.2.2<=3/\∀s∈x.2.2.2.2.2.2.2.2,GS nT 3 s) ?_ ?_;refine aN (λ_=>?_) λ_=>ak ⟨rfl,rfl,e3,e4,e5,rfl,rfl,b8,λs q=>(by cases q)⟩
 refine bX (1+n).toNat (λk x=>x.2.2.2.2.1.1=aE (.str) N (i:Int)/\x.1=1+(k:Int)/\x.2.2.1=D0/\x.2.2.2.1=AK/\TP x.2.2.2.2.2.1/\x.2.2.2.2.2.2.1.2=[]/\x.2.2.2.2.2.2.2.1=th/\x.2.2.2.2.2.2.2.2.1=L0/\l! x.2.2.2.2.2.2.2.2.2<=k/\∀s∈x.2.2.2.2.2.2.2.2.2,GS nT 3 s) ?_ ?_ ⟨rfl,rfl,rfl,e3,e4,e5,rfl,rfl,b8,λs q=>(by cases q)⟩;rintro k ⟨c,m1,D1,N1,z1,t1,h1,th1,l1,b1⟩ hk ⟨fz,f1,f2,f3,f4,I,f6,f7,f8,f9⟩;dsimp only at fz f1 f2 f3 f4 I f6 f7 f8 f9;subst f1;refine bF (λ_=>?_) λg=>(by dsimp only at g;rw[ew]at g;omega)
 have l41:l! N1=4:=by rw[f3];rfl
 refine bK (bK (aX ?_));refine a! (ak ?_);dsimp only;rw[iF (n:=1+(k:Int)+1) M M];refine ⟨fz,M,f2,f3,f4,I,f6,f7,ye,λs q=>?_⟩;rcases bz.1 q with q|q;exact f9 s q;rw[aG]at q;rw[q];refine WH 12 (.inl rfl) ?_;rw[f3,show 1+(k:Int)=((1+k:Nat):Int) by omega];exact aq0 nT M (1+k) M;rintro⟨c,m1,D1,N1,z1,t1,h1,th1,l1,b1⟩ ⟨fz,f1,f2,f3,f4,I,f6,f7,f8,f9⟩;dsimp only at fz f1 f2 f3 f4 I f6 f7 f8 f9;subst f1;refine bF (λg=>(by dsimp only at g;rw[ew]at g;omega)) λ_=>ak ?_
 exact⟨fz,f2,f3,f4,I,f6,f7,lX,f9⟩;rintro⟨m1,D1,N1,z1,t1,h1,th1,l1,b1⟩ ⟨fz,f2,f3,f4,I,f6,f7,f8,f9⟩;dsimp only at fz f2 f3 f4 I f6 f7 f8 f9;subst f2 f6 f7;refine ay (oM 3 t1 f4) λy A=>?_
 let⟨k2,t2⟩:=y;let⟨u1,u2,u3,_⟩:=A;have u3:=u3 cr;dsimp only at u1 u2 u3;dsimp only;rw[iF (n:=1+k2) M M];refine ay (aib (nT:=nT) 2 M (1+k2) m1 t2 h1 M u1.p (by rw[I];simp)) λy A=>?_
 let⟨m3,t3,h3,l3⟩:=y;let⟨w1,w2,w3,w4⟩:=A;dsimp only at w1 w2 w3 w4;refine bI b8 (a! ?_);have hbody:∀s∈b1++l3,GS nT 3 s:=λs q=>by
  rcases bz.1 q with q|q;exact f9 s q;exact w2 s q
 have hlen:l! (b1++l3)<=6:=by rw[aQ];omega
 refine a6 (λx=>x.2.2.2.1.1=aE (.str) N (i:Int)/\x.2.1=D0/\x.2.2.1=AK/\TP x.2.2.2.2.1/\x.2.2.2.2.2.1.2=[]/\x.2.2.2.2.2.2.1=th1/\x.2.2.2.2.2.2.2.1=L0/\l! x.2.2.2.2.2.2.2.2<=8/\∀s∈x.2.2.2.2.2.2.2.2,GS nT 3 s) ?_ ?_;refine a6 (λx=>x.2.2.2.2.1.1=aE (.str) N (i:Int)/\x.2.2.1=D0/\x.2.2.2.1=AK/\TP x.2.2.2.2.2.1/\x.2.2.2.2.2.2.1.2=[]/\x.2.2.2.2.2.2.2.1=th1/\x.2.2.2.2.2.2.2.2.1=L0/\x.2.2.2.2.2.2.2.2.2=b1++l3) ?_ ?_;refine aN (λ_=>?_) λ_=>ak ⟨fz,rfl,f3,w3.p,w4.trans I,rfl,rfl,rfl⟩
 exact ay (oM 3 t3 w3.p) λy A=>ak ⟨fz,rfl,f3,A.1.p,w4.trans I,rfl,rfl,rfl⟩
 rintro⟨b,m4,D4,N4,z4,t4,h4,th4,l4,b4⟩ ⟨pz,p2,p3,p4,p5,p6,p7,p8⟩;dsimp only at pz p2 p3 p4 p5 p6 p7 p8;subst p2 p6 p7 p8;have l44:l! N4=4:=by rw[p3];rfl
 refine aR (λ_=>?_) λ_=>ak ⟨pz,rfl,p3,p4,p5,rfl,rfl,lX,hbody⟩
 refine bK (bK (aX ?_));refine dB (by simp at hlen ⊢;omega) M (ak ⟨pz,rfl,p3,p4,p5,rfl,rfl,by dsimp only;rw[aQ,bJ];omega,λs q=>?_⟩);rcases bz.1 q with q|q;exact hbody s q;rw[aG]at q;rw[q];refine WH 13 (.inr rfl) ?_;rw[p3];exact aq0 nT M 1 M;rintro⟨m4,D4,N4,z4,t4,h4,th4,l4,b4⟩ ⟨pz,p2,p3,p4,p5,p6,p7,p8,p9⟩;dsimp only at pz p2 p3 p4 p5 p6 p7 p8 p9;subst p2 p6 p7;refine a! (ak ?_);dsimp only;refine ⟨iC,rfl,p3,p4,p5,by rw[lM (T:=.str) (xs:=AK) (i:=i) (by have q4:AK.length=4:=rfl;omega),b_,e6,<-e3];show _++[z4.1]=_;rw[pz],λt ht=>?_⟩;rcases bz.1 ht with ht|ht;exact e7 t ht;rw[aG]at ht;rw[ht];exact⟨rfl,p8,p9⟩;rintro⟨a,m,D,N,t,h,th⟩ ⟨e1,e2,e3,e4,e5,e6,e7⟩;dsimp only at e1 e2 e3 e4 e5 e6 e7;subst e1 e2;refine bF (λg=>(by dsimp only at g;rw[ew]at g;omega)) λ_=>?_
 have hthl:l! th=nT:=by have:=eZ ah e6;rw[bL,bm]at this;have q4:AK.length=4:=rfl;omega
 have hpm:PJ (D0,th):=⟨rfl,lX,lX,by dsimp only;rw[hthl];exact e7,by dsimp only;rw[hthl];exact e6⟩
 refine ay (P:=λp=>PJ p/\∃r,g_ p=Z r/\r.1=0) ?_ λr hr=>ak hr
 let⟨y,A,_⟩:=I1 (D0,th) hpm.x;refine aV A (bY (λ_=>?_) λh=>ak ⟨hpm,y,A,h⟩);refine aV Yz (aV (UO _) (aV (wW _ _) (ak ?_)));refine ⟨⟨rfl,b8,b8,λt ht=>?_,rfl⟩,aD7⟩;simp only[aG]at ht;rw[ht];refine ⟨rfl,b8,λs q=>?_⟩;simp only[aG]at q;rw[q,gO,CZ];exact GS.asg cr (GE.num (IW.sm cr cr) 3)
abbrev iA (l:Y IT) (k:Nat):IT:=aE tV l (k:Int)
def JT (l:Y IT) (ρ:Nat->Nat) (a e k:Nat):Prop:=(iA l k).1=5->∃q:Nat,(iA l k).2.1=(q:Int)/\(q=e\/a<=q/\q<e/\ρ q<ρ k)
def tQ (l:Y IT) (a e:Nat):Prop:=a<=e/\∃ρ:Nat->Nat,∀k,a<=k->k<e->1<=ρ k/\ρ k<=e-a/\JT l ρ a e k/\((iA l k).1<5->k+1=e\/ρ (k+1)<ρ k)
def tQ.nil (l:Y IT) (a:Nat):tQ l a a:=⟨bg _,λ_=>0,λk h1 h2=>M⟩
def tQ.one {l:Y IT} (h:¬(iA l i).1=5):tQ l i (i+1):=⟨M,λ_=>1,λk h1 h2=>⟨bg 1,by show 1<=i+1-i;omega,λq=>by rw[show k=i by omega]at q;exact (h q).elim,λ_=>.inl M⟩⟩
def tQ.congr {l q:Y IT} (h:tQ l i m) (hc:∀k,i<=k->k<m->iA q k=iA l k):tQ q i m:=by
 let⟨h1,ρ,h2⟩:=h;exact⟨h1,ρ,λk I A=>by unfold JT;rw[hc k I A];exact h2 k I A⟩
def tQ.app {l:Y IT} {c:Nat} (h:tQ l i m) (k:tQ l m c):tQ l i c:=by
 let⟨h1,ρ,h2⟩:=h;let⟨k1,σ,k2⟩:=k;refine ⟨M,λk=>if k<m then ρ k+(c-m) else σ k,λk g1 g2=>?_⟩;by_cases hk:k<m;let⟨q1,q2,q3,q4⟩:=h2 k g1 hk;simp only[aD hk];refine ⟨M,M,?_,λq=>?_⟩;intro q;simp only[aD hk];let⟨A,e,r⟩:=q3 q;refine ⟨A,e,?_⟩;rcases r with r|⟨r1,r2,r3⟩;subst r;by_cases I:A=c;exact .inl I;have:=(k2 A (bg _) M).2.1;rw[av (G7 _)];exact .inr ⟨M,M,M⟩;rw[aD r2];exact .inr ⟨r1,M,M⟩;rcases q4 q with r|r;by_cases I:k+1=c;exact .inl I;have:=(k2 (k+1) M M).2.1;rw[av M];exact .inr M;by_cases hb:k+1<m;rw[aD hb];exact .inr M;rw[av hb];by_cases I:k+1=c;exact .inl I;have:=(k2 (k+1) M M).2.1;exact .inr M;let⟨q1,q2,q3,q4⟩:=k2 k M g2;simp only[av hk];refine ⟨q1,M,?_,λq=>?_⟩;intro q;simp only[av hk];let⟨A,e,r⟩:=q3 q;refine ⟨A,e,r.imp id λ⟨r1,r2,r3⟩=>⟨M,r2,?_⟩⟩;rw[av M];exact r3;rw[av M];exact q4 q
def tQ.ite {l:Y IT} {e:Nat} (h:tQ l i m) (hj:(iA l m).1=5) (hx:(iA l m).2.1=(e:Int)) (k:tQ l (m+1) e):tQ l i e:=by
 let⟨h1,ρ,h2⟩:=h;let⟨k1,σ,k2⟩:=k;refine ⟨M,λk=>if k<m then ρ k+(e-m) else if k=m then e-m else σ k,λk g1 g2=>?_⟩;by_cases hk:k<m;let⟨q1,q2,q3,q4⟩:=h2 k g1 hk;simp only[aD hk];refine ⟨M,M,?_,λq=>?_⟩;intro q;simp only[aD hk];let⟨A,e',r⟩:=q3 q;refine ⟨A,e',.inr ?_⟩;rcases r with r|⟨r1,r2,I⟩;rw[r,av (G7 _),aD rfl];exact⟨M,M,M⟩;rw[aD r2];exact⟨r1,M,M⟩;refine .inr ?_;by_cases hb:k+1<m;rw[aD hb];rcases q4 q with r|r<;>omega;rw[av hb,aD M];omega;by_cases hkj:k=m;subst hkj;simp only[av hk,aD];exact⟨M,M,λ_=>⟨e,hx,.inl rfl⟩,λq=>by rw[hj]at q;omega⟩;let⟨q1,q2,q3,q4⟩:=k2 k M g2;simp only[av hk,av hkj];refine ⟨q1,M,?_,λq=>?_⟩;intro q;simp only[av hk,av hkj];let⟨A,e',r⟩:=q3 q;refine ⟨A,e',r.imp id λ⟨r1,r2,I⟩=>⟨M,r2,?_⟩⟩;rw[av M,av M];exact I;rw[av M,av M];exact q4 q
def tQ.whl {l:Y IT} {j:Nat} (h:tQ l i m) (hc:(iA l m).1=10) (k:tQ l (m+1) j) (hj:(iA l j).1=5) (hx:(iA l j).2.1=(i:Int)):tQ l i (j+1):=by
 let⟨h1,ρ,h2⟩:=h;let⟨k1,σ,k2⟩:=k;refine ⟨M,λk=>if k<m then ρ k+1 else if k=m then 1 else if k<j then σ k+(m-i)+2 else m-i+2,λk g1 g2=>?_⟩;by_cases hk:k<m;let⟨q1,q2,q3,q4⟩:=h2 k g1 hk;simp only[aD hk];refine ⟨M,M,?_,λq=>?_⟩;intro q;simp only[aD hk];let⟨I,e',r⟩:=q3 q;refine ⟨I,e',.inr ?_⟩;rcases r with r|⟨r1,r2,r3⟩;rw[r,av (G7 _),aD rfl];exact⟨M,M,M⟩;rw[aD r2];exact⟨r1,M,M⟩;refine .inr ?_;by_cases A:k+1<m;rw[aD A];rcases q4 q with r|r<;>omega;rw[av A,aD M];omega;by_cases hkc:k=m;subst hkc;simp only[av hk,aD];exact⟨M,M,λq=>by rw[hc]at q;omega,λq=>by rw[hc]at q;omega⟩;simp only[av hk,av hkc];by_cases hkj:k<j;let⟨q1,q2,q3,q4⟩:=k2 k M hkj;simp only[aD hkj];refine ⟨M,M,?_,λq=>?_⟩;intro q;simp only[av hk,av hkc,aD hkj];let⟨I,e',r⟩:=q3 q;refine ⟨I,e',.inr ?_⟩;rcases r with r|⟨r1,r2,r3⟩;rw[r,av M,av M,av (G7 _)];exact⟨M,M,M⟩;rw[av M,av M,aD r2];exact⟨M,M,M⟩;refine .inr ?_;rw[av M,av M];by_cases A:k+1<j;rw[aD A];rcases q4 q with r|r<;>omega;rw[av A];omega;have hkj:k=j:=M;subst hkj;simp only[av (G7 _)];refine ⟨M,M,λ_=>⟨i,hx,.inr ⟨bg _,M,?_⟩⟩,λq=>by rw[hj]at q;omega⟩;simp only[av hk,av hkc,av (G7 _)];by_cases ha:i<m;rw[aD ha];have:=(h2 i (bg _) ha).2.1;omega;rw[av ha,aD M];omega
def OB (nT:Nat) (i:IT):Prop:=
 if i.1=6 then 0<=i.2.2.1/\i.2.2.1<=2 else if i.1=8 then 0<=i.2.1/\i.2.1<=2 else if i.1=7 then i.2.2.1=3/\i.2.2.2.2.1=2 else if i.1=9 then i.2.1=3/\i.2.2.2.2.1=2 else if i.1=11\/i.1=12 then i.2.1=0\/i.2.1=1 else if 13<=i.1/\i.1<=16 then i.2.1=2 else if 21<=i.1/\i.1<=23 then i.2.1=0 else if i.1=24\/i.1=25 then 0<=i.2.1/\i.2.1<(nT:Int) else if i.1=26 then i.2.1=0 else if i.1=27 then i.2.2.1=0 else if i.1=4 then 6<=i.2.2.2.2.1/\i.2.2.2.2.1<=18 else ¬i.1=3/\(i.1=1->IW i.2.2.2.2.1)
def OB.cn {nT:Nat} {i:IT} (q:OB nT i) (h:i.1=1):IW i.2.2.2.2.1:=by
 unfold OB at q;simp[h]at q;exact q
structure GO (nT:Nat) (i:IT):Prop where
 o1:1<=i.1
 o2:i.1<=27
 r:∀j:Int,j∈kr i->0<=j/\j<32
 b:OB nT i
def SO (ss:Y π) (t s:Int):Prop:=0<=s/\s<l! ss/\(aE rZ ss s).1=t
structure GI (nT:Nat) (ss:List π) (t:Int) (i:IT):Prop where
 o:GO nT i
 s:SO ss t i.2.2.2.2.2
def aaq (l:Y IT) (hl:l! l<=1000000) (h1:1<=l! l) (hb:tQ l 0 (l! l-1)) (he:(iA l (l! l-1)).1=28) (k:Nat) (hk:k<l! l):rL (l,(k:Int))=Z J:=by
 let⟨_,ρ,hρ⟩:=hb;refine bZ ?_;unfold rL bp bO jO bM a8 cW aJ cH;refine sQ (λx=>((l! l:Int)+1-x.2).toNat) (λx=>0<=x.2/\∃q:Nat,x.1=(q:Int)/\q<l! l/\((if q<l! l-1 then ρ q else 0:Nat):Int)+x.2<=(l! l:Int)) ?_ ⟨lX,k,rfl,hk,?_⟩;rintro⟨a,(n:Int)⟩ ⟨n0,q,e,hq,hr⟩;dsimp only at n0 e hr;subst e;refine eX (λ_=>?_) λg=>(by dsimp only[ax]at g;omega)
 refine h_ ?_;refine h_ (bF (λg=>by dsimp only at g;omega) λ_=>ak ?_);refine gJ (by rw[jK];dsimp only[ax];omega) ?_;refine bK (aX ?_);refine aV (Kv _) ?_;refine dJ (λ_=>ak rfl) λhs=>?_
 have hs:1<=(iA l q).1/\(iA l q).1<=5:=a_ hs;have I:q<l! l-1:=yJ λh=>by rw[show q=l! l-1 by omega]at hs;rw[he]at hs;omega
 let⟨r1,r2,r3,r4⟩:=hρ q (fE _) I;rw[aD I]at hr;refine bK (aX ?_);have fin:∀A:Nat,A=l! l-1\/A<l! l-1/\ρ A<ρ q->0<=n+1/\∃q2:Nat,(A:Int)=(q2:Int)/\q2<l! l/\((if q2<l! l-1 then ρ q2 else 0:Nat):Int)+(n+1)<=(l! l:Int):=λA h=>⟨M,A,rfl,M,by
  rcases h with h|⟨h,h'⟩;rw[av M];omega;rw[aD h];omega⟩
 refine aN (λh5=>?_) λh5=>ak (ak ?_)
 let⟨A,e,hq'⟩:=r3 h5;refine aS (fV _) lX (aX (ak (ak ?_)));dsimp only;rw[iF (n:=n+1) M M];have:=fin A (hq'.imp id λh=>⟨h.2.1,h.2.2⟩);rw[<- e]at this;exact⟨this,M⟩;dsimp only;have h5:¬(iA l q).1=5:=h5;rw[iF (n:=n+1) M M,iC];refine ⟨fin (q+1) ?_,M⟩;rcases r4 M with h|h;exact .inl h;by_cases hb:q+1=l! l-1;exact .inl hb;exact .inr ⟨M,h⟩;dsimp only;split;rename_i h;have:=(hρ k (fE _) h).2.1;omega;omega
def Qi (w:WT) (q:w.1=C0):rM (w,3,2)=Z J:=by
 refine bZ ?_;have h0:(0:Int)<=3:=cr;have h1:(3:Int)<(l! w.1:Int):=by rw[q];decide
 have A:aE mS w.1 3=([113],0,2,af,0):=by rw[q];rfl
 unfold rM bp jP bM a8 aJ;refine h_ (aV (uL _ _) (aN (λ_=>?_) λh=>(h ⟨h0,h1⟩).elim));rw[A];refine aS h0 h1 (aX (aN (λ_=>?_) λh=>(h rfl).elim));refine aS h0 h1 (aX (bY (λ_=>?_) λh=>bi h cr));exact aS h0 h1 (aX (ak (ak rfl)))
def UM {nT:Nat} (w:WT) (i:IT) (hw:WX w) (hT:l! w.2.2.2.2.1=nT) (q:OB nT i):nj (w,i)=Z J:=by
 let⟨A,hl,hd,hf,_,_,_⟩:=hw;refine bZ ?_;unfold nj bf bB bN cM gE bp jO bM a8 aJ;unfold OB at q;simp only[uL,UL];refine aN (λh=>?_) λn6=>?_
 rw[aD h]at q;have hz:(aE mS w.1 i.2.2.1).2.2.1=(0:Int):=by
  rw[A];rcases (by omega:i.2.2.1=0\/i.2.2.1=1\/i.2.2.1=2) with h|h|h<;>rw[h]<;>rfl
 have hi:0<=i.2.2.1/\i.2.2.1<(l! w.1:Int):=⟨q.1,by rw[A];have:=q.2;show i.2.2.1<5;omega⟩
 exact h_ (aN (λ_=>aS hi.1 hi.2 (aX (ak (ak (aP hz))))) λh=>(h hi).elim);rw[av n6]at q;refine aN (λh=>?_) λn8=>?_
 rw[aD h]at q;have hz:(aE mS w.1 i.2.1).2.2.1=(0:Int):=by
  rw[A];rcases (by omega:i.2.1=0\/i.2.1=1\/i.2.1=2) with h|h|h<;>rw[h]<;>rfl
 have hi:0<=i.2.1/\i.2.1<(l! w.1:Int):=⟨q.1,by rw[A];have:=q.2;show i.2.1<5;omega⟩
 exact h_ (aN (λ_=>aS hi.1 hi.2 (aX (ak (ak (aP hz))))) λh=>(h hi).elim);rw[av n8]at q;refine aN (λh=>?_) λn7=>?_
 rw[aD h]at q;rw[q.1,q.2];exact aV (Qi w A) (ak rfl);rw[av n7]at q;refine aN (λh=>?_) λn9=>?_
 rw[aD h]at q;rw[q.1,q.2];exact aV (Qi w A) (ak rfl);rw[av n9]at q;refine a6 (λx=>x.2=(w,i)/\(x.1=J↔i.1=11\/i.1=12)) (aN (λh=>ak ⟨rfl,λ_=>.inl h,λ_=>aP h⟩) λh=>ak ⟨rfl,λh2=>.inr (a_ h2),λh2=>aP (h2.resolve_left h)⟩) ?_;rintro⟨b,x⟩ ⟨e,hx⟩;dsimp only at e hx;subst e;refine aR (λh=>?_) λh=>?_
 rw[aD (hx.1 h)]at q;have hz:(aE tY w.2.1 i.2.1).2=af:=by
  rw[hl];rcases q with h|h<;>rw[h]<;>rfl
 have hi:0<=i.2.1/\i.2.1<(l! w.2.1:Int):=⟨M,by rw[hl];show i.2.1<3;omega⟩
 exact h_ (aN (λ_=>aS hi.1 hi.2 (aX (ak (ak (by dsimp only;rw[hz];rfl))))) λh=>(h hi).elim);rw[av λh2=>by rw[hx.2 h2]at h;cases h]at q;have hj:∀{p:Prop} {b:Bool},(b=J->p)->(p->b=J)->b=af->¬p:=λ_ h2 h3 I=>by rw[h2 I]at h3;cases h3
 refine a6 (λx=>x.2=(w,i)/\(x.1=J->13<=i.1/\i.1<=16)/\(13<=i.1/\i.1<=16->x.1=J)) (aN (λh=>ak ⟨rfl,λ_=>by first|omega|(dsimp only at h;omega),λ_=>aP h⟩) λ_=>aN (λh=>ak ⟨rfl,λ_=>by first|omega|(dsimp only at h;omega),λ_=>aP h⟩) λ_=>aN (λh=>ak ⟨rfl,λ_=>by first|omega|(dsimp only at h;omega),λ_=>aP h⟩) λ_=>ak ⟨rfl,λh=>by have:=a_ h;first|omega|(dsimp only at this;omega),λh=>aP (by first|omega|(dsimp only at *;omega))⟩) ?_;rintro⟨b,x⟩ ⟨e,h1,h2⟩;dsimp only at e h1 h2;subst e;refine aR (λh=>?_) λh=>?_
 rw[aD (h1 h)]at q;have hi:0<=i.2.1/\i.2.1<(l! w.2.1:Int):=⟨M,by rw[hl];show i.2.1<3;omega⟩
 exact h_ (aN (λ_=>aS hi.1 hi.2 (aX (ak (ak (by dsimp only;rw[q,hl];rfl))))) λh=>(h hi).elim);rw[av (hj h1 h2 h)]at q;refine a6 (λx=>x.2=(w,i)/\(x.1=J->21<=i.1/\i.1<=23)/\(21<=i.1/\i.1<=23->x.1=J)) (aN (λh=>ak ⟨rfl,λ_=>by first|omega|(dsimp only at h;omega),λ_=>aP h⟩) λ_=>aN (λh=>ak ⟨rfl,λ_=>by first|omega|(dsimp only at h;omega),λ_=>aP h⟩) λ_=>ak ⟨rfl,λh=>by have:=a_ h;first|omega|(dsimp only at this;omega),λh=>aP (by first|omega|(dsimp only at *;omega))⟩) ?_;rintro⟨b,x⟩ ⟨e,h1,h2⟩;dsimp only at e h1 h2;subst e;refine aR (λh=>?_) λh=>?_
 rw[aD (h1 h)]at q;exact ak (aP ⟨lX,by dsimp only;rw[hd];show i.2.1<1;omega⟩);rw[av (hj h1 h2 h)]at q;refine a6 (λx=>x.2=(w,i)/\(x.1=J->i.1=24\/i.1=25)/\(i.1=24\/i.1=25->x.1=J)) (aN (λh=>ak ⟨rfl,λ_=>.inl h,λ_=>aP h⟩) λh=>ak ⟨rfl,λh2=>.inr (a_ h2),λh2=>aP (h2.resolve_left h)⟩) ?_;rintro⟨b,x⟩ ⟨e,h1,h2⟩;dsimp only at e h1 h2;subst e;refine aR (λh=>?_) λh=>?_
 rw[aD (h1 h)]at q;exact ak (aP ⟨q.1,by dsimp only;rw[hT];exact q.2⟩);rw[av (hj h1 h2 h)]at q;refine aN (λh=>?_) λn=>?_
 rw[aD h]at q;exact ak (aP ⟨lX,by dsimp only;rw[hf];show i.2.1<1;omega⟩);rw[av n]at q;refine aN (λh=>?_) λn=>?_
 rw[aD h]at q;exact ak (aP ⟨lX,by dsimp only;rw[hf];show i.2.2.1<1;omega⟩);rw[av n]at q;by_cases I:i.1=4;rw[aD I]at q;refine aN (λh=>by have h:i.1=3:=h;omega) λ_=>aN (λ_=>?_) λh=>(h I).elim
 refine h_ (eX (λ_=>ak (ak (tp.2 q.2))) λh=>by dsimp only at h;omega);rw[av I]at q;exact aN (λh=>(q.1 h).elim) λ_=>aN (λh=>(I h).elim) λ_=>ak rfl
structure GC (nT:Nat) (ss:List π) (k:Int) (c:Int×List IT):Prop where
 r0:1<=c.1
 r1:c.1<=32
 n:1<=l! c.2
 u:l! c.2<=1000000
 e:(iA c.2 (l! c.2-1)).1=28/\(iA c.2 (l! c.2-1)).2.2.2.2.2= -1
 b:tQ c.2 0 (l! c.2-1)
 i:∀q:Nat,q<l! c.2-1->GI nT ss k (iA c.2 q)
 r:∀q:Nat,q<l! c.2-1->(iA c.2 q).1=10->0<=(iA c.2 q).2.2.1/\(iA c.2 q).2.2.1<(l! c.2:Int)
 g:∀q:Nat,q<l! c.2-1->∀j:Int,j∈kr (iA c.2 q)->j<c.1
def Je {nT:Nat} {w:WT} {c:Int×Y IT} (hw:WX w) (hT:l! w.2.2.2.2.1=nT) (hc:GC nT w.2.2.2.2.2 a c):jR (w,a,c)=Z J:=by
 let⟨r0,r1,n1,hu,he,hb,hi,hr,hg⟩:=hc;refine bZ ?_;unfold jR bf bB bN cM cg dh xZ bp bO jP bM a8 cW aJ cH;refine a6 (λx=>x.2=(w,c)/\x.1=af) ?_ ?_;refine bF (λh=>by have h:c.1<0:=h;omega) λ_=>bF (λh=>by have h:32<c.1:=h;omega) λ_=>ak ⟨rfl,bE λh=>by have h:aZ (l! c.2)=0:=h;dsimp only[ax]at h;omega⟩
 rintro⟨b,x⟩ ⟨e,hb'⟩;dsimp only at e hb';subst e hb';refine ia ?_;refine bX (l! c.2) (λi x=>x.1=(i:Int)/\x.2=(w,c)) ?_ ?_ ⟨rfl,rfl⟩;rintro i ⟨k,x⟩ hi2 ⟨e1,e2⟩;dsimp only at e1 e2;subst e1 e2;have hla:=aaq c.2 hu n1 hb he.1 i hi2;have hz:∀z:IT,z=iA c.2 i->(i<l! c.2-1->GI nT w.2.2.2.2.2 a z/\(z.1=10->0<=z.2.2.1/\z.2.2.1<(l! c.2:Int))/\(z.1=5->0<=z.2.1/\z.2.1<(l! c.2:Int))/\∀j:Int,j∈kr z->j<c.1)/\(i=l! c.2-1->z.1=28/\z.2.2.2.2.2= -1):=λz hz=>by
  subst hz;refine ⟨λh=>⟨hi i h,hr i h,λh5=>?_,hg i h⟩,λh=>by rw[h];exact he⟩;let⟨_,ρ,hρ⟩:=hb;let⟨q',e,hq'⟩:=(hρ i (fE _) h).2.2.1 h5;rw[e];omega
 refine cV ?_;refine bK (aX ?_);generalize hzz:(aE tV c.2 (i:Int))=z;let⟨q,A⟩:=hz z hzz.symm;have hcs:i<l! c.2-1\/i=l! c.2-1:=M;have o1:1<=z.1:=by
  rcases hcs with h|h;exact (q h).1.o.o1;rw[(A h).1];decide
 have o2:z.1<=28:=by
  rcases hcs with h|h;exact yd (q h).1.o.o2 cr;rw[(A h).1];decide
 have o28:z.1=28->i=l! c.2-1:=λh=>hcs.resolve_left λg=>by have:=(q g).1.o.o2;rw[h]at this;exact bi this cr
 have hob:OB nT z:=by
  rcases hcs with h|h;exact (q h).1.o.b;unfold OB;rw[(A h).1];simp
 have hrg:∀j:Int,j∈kr z->0<=j/\j<c.1:=λj hj=>by
  rcases hcs with h|h;exact⟨((q h).1.o.r j hj).1,(q h).2.2.2 j hj⟩;unfold kr at hj;rw[(A h).1]at hj;simp at hj
 have hwr:aU .i64 (aZ (l! c.2)-1)=((l! c.2-1:Nat):Int):=by rw[iF Ja Ja];dsimp only[ax];omega
 have hcd:((decide (z.1=28)==decide ((i:Int)=aU .i64 (aZ (l! c.2)-1))) !=J)=af:=cf;refine a6 (λx=>x=(af,w,c,z)) ?_ ?_;refine bF (λh=>bi h (iZ.2 o1)) λ_=>bF (λh=>bi h (iZ.2 o2)) λ_=>gJ hcd ?_
 refine aV (UM w z hw hT hob) (gJ rfl (aV hla (ak rfl)));rintro x rfl;refine ia (a6 (λx=>x=(af,w,c,z)) ?_ ?_);simp only[uL,UL];refine aN (λh=>?_) λh=>?_
 have h5:=(A (o28 h)).2;exact bY (λg=>(g h5).elim) λ_=>bY (λg=>(g h).elim) λ_=>ak rfl
 have hsi:=(q (hcs.resolve_right λg=>h (A g).1)).1.s;refine bY (λ_=>bY (λg=>(g ⟨hsi.1,hsi.2.1⟩).elim) λg=>aS g.1 g.2 (aX (ak ?_))) λg=>(h g).elim
 rw[aP hsi.2.2];rfl;rintro x rfl;refine ia (a6 (λx=>x=(af,w,c,z)) ?_ ?_);simp only[uL,UL];have I:z.1=5\/z.1=10->i<l! c.2-1:=λh=>hcs.resolve_right λg=>by rw[(A g).1]at h;exact bi h cr
 refine aN (λh=>?_) λh=>?_
 have h2:=(q (I (.inl h))).2.2.1 h;refine bY (λg=>(g h2).elim) λ_=>aN (λg=>?_) λ_=>ak rfl
 rw[h]at g;exact bi g cr;refine aN (λg=>ak ?_) λ_=>ak rfl
 have h2:=(q (I (.inr g))).2.1 g;rw[aP (show 0<=z.2.2.1/\z.2.2.1<aZ (l! c.2) from h2)];rfl;rintro x rfl;refine ia (aV (wK z) ?_);have hrl:=Ho z;refine bX (l! (kr z)) (λj x=>x=((j:Int),w,c)) ?_ ?_ rfl;rintro j x hj rfl;refine cV ?_;refine bK (aX ?_);refine aV (uL _ _) (bY (λg=>(g (hrg _ (be (T:=aO) (xs:=kr z) (j:=(j:Int)) M M))).elim) λ_=>ak ?_);dsimp only;rw[iC];rintro x rfl;exact cK (ak ⟨iC,rfl⟩);rintro⟨k,x⟩ ⟨e1,e2⟩;dsimp only at e1 e2;subst e1 e2;exact cK (ak rfl)
section
abbrev GN:Type:=Y (ζ×Int×Int×Bool×Int)×Y (ζ×Bool)×Y (ζ×Int)×Y ζ×Y ζ×Y π×Y ζ×g!
def SX (l:Y v?) (s:ζ) (A:l! l<=1000):Ok (mX (l,s)) λr=> -1<=r/\r<l! l/\(0<=r->(aE tY l r).1=s)/\(r<0->∀c∈l,c.1≠s):=by
 refine bX (l! l) (λi x=>x=(i:Int)/\∀k:Nat,k<i->(aE tY l (k:Int)).1≠s) ?_ ?_ ⟨rfl,λk hk=>M⟩;rintro i x hi ⟨rfl,q⟩;refine cV ?_;refine bK (aX ?_);refine aN (λh=>ak ⟨M,M,λ_=>h,λh=>M⟩) λh=>ak ⟨iC,λk hk=>?_⟩
 grind
 rintro x ⟨rfl,q⟩;exact cK (ak ⟨M,M,λh=>M,λ_=>ij (T:=tY) (p:=λc=>c.1≠s) q⟩)
def awf {s:ζ} (h: -1<=a/\a<G5.length/\(0<=a->(aE tY G5 a).1=s)/\(a<0->∀c∈G5,c.1≠s)):(s=[109]->a=0)/\(s=[110]->a=1)/\(s=[114]->a=2):=by
 let⟨h0,h1,h2,q⟩:=h;have h1:a<3:=h1;rcases (by omega:a= -1\/a=0\/a=1\/a=2) with rfl|rfl|rfl|rfl;have q:=q cr;exact⟨λh=>(q ([109],af) cr h.symm).elim,λh=>(q ([110],af) cr h.symm).elim,λh=>(q ([114],J) cr h.symm).elim⟩;have h2:[109]=s:=h2 cr
 grind
 have h2:[110]=s:=h2 cr
 grind
 have h2:[114]=s:=h2 cr
 grind
def EM (w:WT) (s:ζ) (I:w.1=C0):Ok (o7 (w,s)) λr=>(s∈NV->s∉L0->0<=r/\r<=2)/\(s=[113]->r=3):=by
 have hl:l! w.1=5:=by rw[I];rfl
 refine bX (l! w.1) (λi x=>x.1=(i:Int)/\x.2=w/\∀k:Nat,k<i->(aE mS w.1 (k:Int)).1≠s) ?_ ?_ ⟨rfl,rfl,λk hk=>M⟩;rintro i ⟨a,x⟩ hi ⟨e1,e2,A⟩;subst e1;have e2:=e2.symm;subst e2;refine cV ?_;refine bK (aX ?_);refine aN (λh=>ak ?_) λg=>ak ?_
 rw[I]at h A;rcases (by omega:i=0\/i=1\/i=2\/i=3\/i=4) with rfl|rfl|rfl|rfl|rfl;have h:[120]=s:=h
 grind
 have h:[121]=s:=h
 grind
 have h:[118]=s:=h
 grind
 have h:[113]=s:=h
 grind
 have h:[113]=s:=h;exact (A 3 M h).elim;refine ⟨iC,rfl,λk hk=>?_⟩
 grind
 rintro⟨a,x⟩ ⟨e1,e2,A⟩;subst e1;have e2:=e2.symm;subst e2;refine cK (ak ?_);have q:=ij (T:=mS) (p:=λc=>c.1≠s) A;rw[I]at q;have a1:=q ([120],0,0,af,0) cr;have a2:=q ([121],0,0,af,1) cr;have a3:=q ([118],0,0,J,0) cr;have a4:=q ([113],0,2,af,0) cr;refine ⟨λh hx=>?_,λh=>(a4 h.symm).elim⟩;simp[bc,cA,fM,L0]at h hx
 grind
def Nu (i:IT) (g:GN) (out:Y IT) (h:l! out<=100000000):Ok (cJ (i,g,out)) λy=>y.1=g/\y.2=out++[(i.1,i.2.1,i.2.2.1,i.2.2.2.1,i.2.2.2.2.1,g.2.2.2.2.2.2.2.1)]:=by
 exact dB cf M (ak ⟨rfl,rfl⟩)
def VE:Nat->Nat
 |0=>0
 |d+1=>1+2*VE d
def Od {l m:Y IT} (h:i<l! l):iA (l++m) i=iA l i:=by
 unfold iA;rw[sD,sD,aC,aC,cZ h]
def Bk (l:Y IT) (x:IT):iA (l++[x]) (l! l)=x:=by
 unfold iA;rw[sD,aC,cL (bg _)];simp
structure QC (nT:Nat) (ss:List π) (t:Int) (n:Nat) (out o:List IT):Prop where
 l:l! out<=l! o
 u:l! o<=l! out+n
 p:∀k:Nat,k<l! out->iA o k=iA out k
 b:tQ o (l! out) (l! o)
 i:∀k:Nat,l! out<=k->k<l! o->GI nT ss t (iA o k)
 r:∀k:Nat,l! out<=k->k<l! o->(iA o k).1=10->0<=(iA o k).2.2.1/\(iA o k).2.2.1<=(l! o:Int)
variable {nT:Nat} {ss:Y π} {t:Int}
def QC.nil (n:Nat) (out:Y IT):QC nT ss t n out out:=⟨bg _,M,λ_ _=>rfl,tQ.nil _ _,λk h1 h2=>M,λk h1 h2=>M⟩
def QC.trans {c:Nat} {x y z:Y IT} (h:QC nT ss t i x y) (k:QC nT ss t m y z) (hc:i+m<=c):QC nT ss t c x z:=by
 let⟨h1,h2,h3,I,h5,h6⟩:=h;let⟨k1,k2,k3,k4,k5,k6⟩:=k;exact⟨M,M,λq A=>(k3 q M).trans (h3 q A),(I.congr λq _ A=>k3 q A).app k4,λq g1 g2=>cf,λq g1 g2 g3=>cf⟩
def QC.one {out:Y IT} {i:IT} (h:GI nT ss t i) (q:¬i.1=5/\¬i.1=10):QC nT ss t 1 out (out++[i]):=by
 have I:l! (out++[i])=l! out+1:=b8;refine ⟨M,M,λk hk=>Od hk,?_,λk h1 h2=>?_,λk h1 h2 A=>?_⟩;rw[I];exact tQ.one (by rw[Bk];exact q.1);rw[show k=l! out by omega,Bk];exact h;rw[show k=l! out by omega,Bk]at A;exact (q.2 A).elim
structure GK (ss:List π) (t:Int) (g:GN):Prop where
 c:g.1=C0
 l:g.2.2.2.2.2.2.1=L0
 s:SO ss t g.2.2.2.2.2.2.2.1
def goI {nT:Nat} {A B C N y:Int} (h1:1<=a) (h2:a<=27) (q:∀j:Int,j∈kr (a,A,B,C,N,y)->0<=j/\j<32) (I:OB nT (a,A,B,C,N,y)):GO nT (a,A,B,C,N,y):=⟨h1,h2,q,I⟩
def Jn {r:υ} {g:GN} {out:Y IT} (h:l! out<=100000000) (A:GK ss t g) (hi:GO nT (a,r)) (I:¬a=5/\¬a=10):Ok (cJ ((a,r),g,out)) λy=>y.1=g/\QC nT ss t 1 out y.2:=(Nu (a,r) g out h).mono λy q=>⟨q.1,by rw[q.2];exact QC.one ⟨⟨hi.o1,hi.o2,hi.r,hi.b⟩,A.s⟩ I⟩
abbrev w!:=GN×Y IT
def S7:∀(n d:Nat),d<n->∀(e:Xp) (k:Int) (g:GN) (out:Y IT),GE d e->GK ss t g->0<=k->k+d<=31->l! out+VE d<=100000000->Ok (kl n ((e,k),g,out)) λy=>y.1=g/\QC nT ss t (VE d) out y.2
 |0,_,h,_,_,_,_,_,_,_,_,_=>M
 |n+1,0,_,e,_,_,_,h,_,_,_,_=>h.elim
 |n+1,d+1,hn,e,k,g,out,h,I,k0,k1,hb=>by
  obtain⟨h1,h2,h3,h4,h5,hc,h6⟩:=h;obtain⟨gc,gl,gs⟩:=id I;have hv:VE (d+1)=1+2*VE d:=rfl;rw[E9];unfold tw bf bB bN cM gE bp jO bT bM aJ cH;refine a6 (λy=>y.1=g/\QC nT ss t (VE (d+1)) out y.2) ?_ λx hx=>ak hx
  have fin:∀{y:w!},(y.1=g/\QC nT ss t 1 out y.2)->y.1=g/\QC nT ss t (VE (d+1)) out y.2:=λh=>⟨h.1,(QC.nil 0 out).trans h.2 M⟩
  refine aN (λn1=>?_) λn1=>?_
  refine ay (Jn (nT:=nT) M I (goI cr cr (by simp[kr];omega) (⟨(by decide:¬(1:Int)=3),λ_=>hc n1⟩)) cr) λy q=>bI b8 (ak (fin q))
  refine aN (λn2=>?_) λn2=>?_
  refine ay (Cr _ _ (by dsimp only;rw[gl];decide)) λv hv=>eX (λg0=>?_) λg0=>?_
  have v1:=hv.2.1;dsimp only at v1 g0;rw[gl]at v1;have v1:v<2:=v1;refine ay (Jn (nT:=nT) M I (goI cr cr (by simp[kr];omega) (⟨(by decide:¬(2:Int)=3),nofun⟩)) cr) λy q=>bI b8 (ak (fin q))
  have v1:=hv.2.2.2 g0;dsimp only at v1;rw[gl]at v1;refine ay (EM _ _ gc) λv A=>?_
  have v2:=A.1 (h5 n2) v1;refine ay (Jn (nT:=nT) M I (goI cr cr (by simp[kr];omega) (v2)) cr) λy q=>bI b8 (ak (fin q))
  have hl:=h2 n1 n2;have hrec:∀(j:Nat),j<l! e.l->∀(k':Int) (o:Y IT),0<=k'->k'+d<=31->l! o+VE d<=100000000->Ok (kl n ((aE (.ex) e.l (j:Int),k'),g,o)) λy=>y.1=g/\QC nT ss t (VE d) o y.2:=λj hj k' o q0 q1 ho=>S7 n d M _ k' g o (h4 _ (be (T:=.ex) (xs:=e.l) (j:=(j:Int)) M M)) I q0 q1 ho
  refine aN (λn3=>?_) λn3=>?_
  refine bK (aX ?_);refine ay (hrec 0 hl k out k0 M M) λy q=>?_
  obtain⟨g2,o2⟩:=y;obtain⟨q1,q2⟩:=q;dsimp only at q1 q2;subst q1;have q3:=q2.u;refine bI b8 ?_;refine ay (EM _ _ gc) λv A=>?_
  have v3:=A.2 (h1 n3);have v3:v=3:=v3;subst v3;refine aS cr (by dsimp only;rw[gc];decide) (aX ?_);refine ay (Jn (nT:=nT) M I (goI cr cr (by simp[kr];omega) (⟨rfl,by dsimp only;rw[gc];rfl⟩)) cr) λy q=>bI b8 (ak ⟨q.1,q2.trans q.2 M⟩)
  obtain⟨h7,h8,h9⟩:=h6 n1 n2 n3;refine aN (λn4=>?_) λn4=>?_
  dsimp only[ax]at n4;omega;have hl2:1<l! e.l:=M;refine bK (aX ?_);refine ay (hrec 0 hl k out k0 M M) λy q=>?_
  obtain⟨g2,o2⟩:=y;obtain⟨q1,q2⟩:=q;dsimp only at q1 q2;subst q1;have q3:=q2.u;refine bI b8 ?_;refine bK (aX ?_);dsimp only;rw[iF (n:=k+1) M M];refine ay (hrec 1 hl2 _ o2 M M M) λy q=>?_
  obtain⟨g3,o3⟩:=y;obtain⟨r1,r2⟩:=q;dsimp only at r1 r2;subst r1;have r3:=r2.u;refine bI b8 ?_;refine ay (Jn (nT:=nT) M I (goI cr cr (by simp[kr];omega) (⟨h8,h9⟩)) cr) λy q=>bI b8 (ak ⟨q.1,(q2.trans r2 (bg _)).trans q.2 M⟩)
def Z6 (e:Xp) (k:Int) (g:GN) (out:Y IT) (he:GE 4 e) (A:GK ss t g) (q:0<=k) (k1:k<=27) (h:l! out<=99999900):Ok (kh ((e,k),g,out)) λy=>y.1=g/\QC nT ss t 15 out y.2:=S7 ii 4 (by rw[lH];omega) e k g out he A q M (by have:VE 4=15:=rfl;omega)
end
section
structure GB (nT:Nat) (g:GN):Prop where
 c:g.1=C0
 l:g.2.1=G5
 d:g.2.2.1=Uc
 f:g.2.2.2.1=Z1
 t:g.2.2.2.2.1=AK.take nT
 h:g.2.2.2.2.2.2.1=L0
structure GQ (g y:GN):Prop where
 a:y.1=g.1
 b:y.2.1=g.2.1
 c:y.2.2.1=g.2.2.1
 d:y.2.2.2.1=g.2.2.2.1
 e:y.2.2.2.2.1=g.2.2.2.2.1
 h:y.2.2.2.2.2.2.1=g.2.2.2.2.2.2.1
def GQ.refl (g:GN):GQ g g:=⟨rfl,rfl,rfl,rfl,rfl,rfl⟩
def GQ.trans {a b c:GN} (h:GQ a b) (k:GQ b c):GQ a c:=⟨k.a.trans h.a,k.b.trans h.b,k.c.trans h.c,k.d.trans h.d,k.e.trans h.e,k.h.trans h.h⟩
variable {nT:Nat} {ss:Y π} {t:Int}
def GB.of {g y:GN} (h:GB nT g) (q:GQ g y):GB nT y:=⟨q.a.trans h.c,q.b.trans h.l,q.c.trans h.d,q.d.trans h.f,q.e.trans h.t,q.h.trans h.h⟩
def GQ.site (g:GN) (x:Y π) (a b:Int):GQ g (g.1,g.2.1,g.2.2.1,g.2.2.2.1,g.2.2.2.2.1,x,g.2.2.2.2.2.2.1,a,b):=⟨rfl,rfl,rfl,rfl,rfl,rfl⟩
abbrev gS (g:GN):Int:=g.2.2.2.2.2.2.2.1
abbrev gN (g:GN):Int:=g.2.2.2.2.2.2.2.2
structure QG (nT:Nat) (ss:List π) (t:Int) (n m:Nat) (g:GN) (out:List IT) (y:GN×List IT):Prop where
 q:GQ g y.1
 c:QC nT ss t n out y.2
 x:gN y.1=gN g+(m:Int)
def AX {r:υ} {g:GN} {out:Y IT} (h:l! out<=100000000) (q:GB nT g) (A:SO ss t (gS g)) (hi:GO nT (a,r)) (I:¬a=5/\¬a=10):Ok (cJ ((a,r),g,out)) λy=>y.1=g/\QC nT ss t 1 out y.2:=Jn h ⟨q.c,q.h,A⟩ hi I
def Hb (e:Xp) (k:Int) (g:GN) (out:Y IT) (he:GE 4 e) (q:GB nT g) (I:SO ss t (gS g)) (A:0<=k) (k1:k<=27) (h:l! out<=99999000):Ok (kh ((e,k),g,out)) λy=>y.1=g/\QC nT ss t 15 out y.2:=Z6 e k g out he ⟨q.c,q.h,I⟩ A k1 M
def GB.len {g:GN} (h:GB nT g):aZ (ah g.2.2.2.2.2.2.1)=2:=by rw[h.h];rfl
def adx (s:Sx) (g:GN) (out:Y IT) (h1:s.index≠[]->s.name=[113]) (h2:∀e∈s.index,GE 4 e) (h3:GE 4 s.expr) (h4:s.index=[]->s.name∈NV) (q:GB nT g) (hs:SO ss t (gS g)) (h:l! out<=99990000):Ok (nL (s,g,out)) λy=>y.1=g/\QC nT ss t 40 out y.2:=by
 have hex:GE 4 (fm (Xp.op s.expr,Xp.n s.expr,Xp.name s.expr,Xp.l s.expr)):=by rw[gO];exact h3
 have e3:aU .i64 ((2:Int)+1)=3:=iF cr cr;unfold nL bf bB bN cM gE bO jO bT bM a8;refine bF (λI=>?_) λI=>?_
 dsimp only[ax]at I;refine bK (aX ?_);refine ay (Hb _ _ g out (h2 _ (be (T:=.ex) (xs:=s.index) (j:=0) M M)) q hs (by rw[q.len];decide) (by rw[q.len];decide) M) λy A=>?_
 let⟨g2,o2⟩:=y;let⟨q1,q2⟩:=A;dsimp only at q1 q2;subst q1;have q3:=q2.u;refine bI b8 ?_;dsimp only;rw[q.len,e3];refine ay (Hb _ _ g2 o2 hex q hs cr cr M) λy A=>?_
 let⟨g3,o3⟩:=y;let⟨r1,r2⟩:=A;dsimp only at r1 r2;subst r1;have r3:=r2.u;refine bI b8 ?_;refine ay (EM _ _ q.c) λv hv=>?_
 have v3:=hv.2 (h1 (λh=>by rw[h]at I;simp at I));have v3:v=3:=v3;subst v3;refine aS cr (by dsimp only;rw[q.c];decide) (aX ?_);refine ay (AX M q hs (goI cr cr (by simp[kr,q.h,L0]) (⟨rfl,by dsimp only;rw[q.c];rfl⟩)) cr) λy A=>bI b8 (ak ⟨A.1,(q2.trans r2 (bg _)).trans A.2 M⟩)
 have hi0:s.index=[]:=gg.1 (by dsimp only[ax]at I;omega);refine ay (Hb _ _ g out hex q hs (by rw[q.len];decide) (by rw[q.len];decide) M) λy A=>?_
 let⟨g2,o2⟩:=y;let⟨q1,q2⟩:=A;dsimp only at q1 q2;subst q1;have q3:=q2.u;refine bI b8 ?_;refine ay (Cr _ _ (by dsimp only;rw[q.h];decide)) λv hv=>eX (λI=>?_) λI=>?_
 have v1:=hv.2.1;dsimp only at v1 I;rw[q.h]at v1;have v1:v<2:=v1;refine ay (AX M q hs (goI cr cr (by simp[kr,q.h,L0];omega) (⟨(by decide:¬(2:Int)=3),nofun⟩)) cr) λy A=>bI b8 (ak ⟨A.1,q2.trans A.2 M⟩)
 have v1:=hv.2.2.2 I;dsimp only at v1;rw[q.h]at v1;refine ay (EM _ _ q.c) λv hv2=>?_
 have v2:=hv2.1 (h4 hi0) v1;refine ay (AX M q hs (goI cr cr (by simp[kr,q.h,L0]) (v2)) cr) λy A=>bI b8 (ak ⟨A.1,q2.trans A.2 M⟩)
def aou (s:ζ) (g:GN) (out:Y IT) (q:GB nT g):Ok (kU (s,g,out)) λy=>y.2=(g,out)/\(s=[99]->y.1=0):=by
 have hd:l! g.2.2.1=1:=by rw[q.d];rfl
 unfold kU bf bO bM a8 cW aJ cH;refine bX 1 (λi x=>x.1=(i:Int)/\x.2=(g,out)/\(s=[99]->i=0)) ?_ ?_ ⟨rfl,rfl,λ_=>rfl⟩;rintro i ⟨a,x⟩ hi ⟨e1,e2,A⟩;subst e1 e2;refine cV ?_;refine bK (aX ?_);refine aN (λ_=>ak ⟨rfl,λ_=>lX⟩) λh=>ak ⟨iC,rfl,λh2=>?_⟩
 refine (h ?_).elim;rw[q.d,show i=0 by omega,h2];rfl;rintro⟨a,x⟩ ⟨e1,e2,A⟩;subst e1 e2;exact cK (ak ⟨rfl,λh=>by have:=A h;omega⟩)
def ME:Nat->Nat
 |0=>0
 |d+1=>50+16*ME d
def SR (ss:Y π) (t a:Int) (m:Nat):Prop:=0<=a/\a+m<=1000/\∀i:Int,a<=i->i<a+m->SO ss t i
def SpG (nT:Nat) (ss:Y π) (t:Int) (q:Sx×w!->aj w!) (d:Nat):Prop:=∀(s:Sx) (g:GN) (out:Y IT),GS nT d s->GB nT g->SR ss t (gN g) (Wm d s)->l! out+ME d<=90000000->Ok (q (s,g,out)) (QG nT ss t (ME d) (Wm d s) g out)
def aq4 (nT:Nat) (ss:Y π) (t:Int) (q:Y Sx×w!->aj w!) (d:Nat):Prop:=∀(l:Y Sx) (g:GN) (out:Y IT),l! l<=100->(∀s∈l,GS nT d s)->GB nT g->SR ss t (gN g) (py d l)->l! out+l! l*ME d<=90000000->Ok (q (l,g,out)) (QG nT ss t (l! l*ME d) (py d l) g out)
end
section
abbrev FS6:Type:=Y Sx×w!->aj w!
abbrev FT6:Type:=Sx×w!->aj w!
abbrev FA6:Type:=(Sx×Int×Int×Int)×w!->aj w!
variable {nT:Nat} {ss:Y π} {t:Int}
def aA0 (nT:Nat) (ss:Y π) (t:Int) (q:FT6) (d:Nat):Prop:=∀(s:Sx) (g:GN) (out:Y IT),s.op=2\/s.op=3->GE 4 s.expr->l! s.body<=8->l! s.els<=8->(∀x∈s.body,GS nT d x)->(∀x∈s.els,GS nT d x)->(¬s.op=2->s.els=[])->GB nT g->SO ss t (gS g)->SR ss t (gN g) (py d s.body+py d s.els)->l! out+ME (d+1)<=90000000->Ok (q (s,g,out)) (QG nT ss t (17+16*ME d) (py d s.body+py d s.els) g out)
def aA1 (nT:Nat) (ss:Y π) (t:Int) (q:FA6) (d:Nat):Prop:=∀(s:Sx) (a b c:Int) (g:GN) (out:Y IT),l! s.body<=8->(∀x∈s.body,GS nT d x)->GO nT (a,c,0,0,0,0)->GO nT (b,c,0,0,0,0)->¬a=5/\¬a=10->¬b=5/\¬b=10->GB nT g->SO ss t (gS g)->SR ss t (gN g) (py d s.body)->l! out+ME (d+1)<=90000000->Ok (q ((s,a,b,c),g,out)) (QG nT ss t (17+16*ME d) (py d s.body) g out)
def SR.sub {b:Int} {n:Nat} (h:SR ss t a m) (h1:a<=b) (h2:b+n<=a+m):SR ss t b n:=⟨by have:=h.1;omega,by have:=h.2.1;omega,λi A q=>h.2.2 i M M⟩
def aby (rs:FS6) (I:FT6) (rb:FT6) (ra:FA6) (d:Nat) (ht:SpG nT ss t I d):aq4 nT ss t (xB rs I rb ra) d:=by
 intro l g out hl hs hg hso hb;refine bX (l! l) (λi x=>x.1=(i:Int)/\QG nT ss t (i*ME d) (py d (l.take i)) g out x.2) ?_ ?_ ⟨rfl,GQ.refl g,QC.nil _ _,by simp[py]⟩;rintro i ⟨a,g2,o2⟩ hi ⟨e1,q1,q2,q3⟩;dsimp only at e1 q1 q2 q3;subst e1;have hK:(i+1)*ME d<=l! l*ME d:=cD _ M;have hKs:=lD i (ME d);rw[Nat.succ_eq_add_one]at hKs;have hp:=VO (d:=d) l (i+1);rw[Aq hi]at hp;have q4:=q2.u;refine cV ?_;refine bK (aX ?_);refine ay (ht _ g2 o2 (hs _ (be (T:=.sm) (xs:=l) (j:=(i:Int)) M M)) (hg.of q1) (hso.sub M cf) M) λy A=>bI b8 (ak ?_)
 rw[Aq hi];exact⟨iC,q1.trans A.q,q2.trans A.c M,by rw[A.x,q3];dsimp only;omega⟩;rintro⟨a,g2,o2⟩ ⟨e1,q⟩;rw[cO]at q;exact cK (ak q)
def X7 (rs:FS6) (rt:FT6) (rb:FT6) (ra:FA6) (d:Nat) (hS:aq4 nT ss t rs d):aA1 nT ss t (vP rs rt rb ra) d:=by
 intro s a b c g out h1 h2 ga gb na nb A hs hso hb;have hm:ME (d+1)=50+16*ME d:=rfl;have kb:l! s.body*ME d<=8*ME d:=cD _ h1;refine ay (AX M A hs ga na) λy q=>?_
 let⟨g2,o2⟩:=y;let⟨q1,q2⟩:=q;dsimp only at q1 q2;subst q1;have q3:=q2.u;refine bI b8 ?_;refine ay (hS s.body g2 o2 M h2 A hso M) λy q=>?_
 let⟨I,o3⟩:=y;let⟨r1,r2,r3⟩:=q;have r4:=r2.u;refine bI b8 ?_;have qs:=r1.trans (GQ.site I I.2.2.2.2.2.1 g2.2.2.2.2.2.2.2.1 I.2.2.2.2.2.2.2.2);refine ay (AX cf (A.of qs) hs gb nb) λy q=>bI b8 (ak ⟨?_,(q2.trans r2 (bg _)).trans q.2 M,?_⟩)
 rw[q.1];exact qs;rw[q.1];exact r3
def Dm {l:Y IT} {x:IT} (h:i<l! l):iA (bW l (i:Int) x) m=if m=i then x else iA l m:=OD (T:=tV) l i m x h
abbrev ptB (l:Y IT) (j:Nat) (b:Int):Y IT:=bW l (j:Int) ((iA l j).1,(iA l j).2.1,b,(iA l j).2.2.2.1,(iA l j).2.2.2.2.1,(iA l j).2.2.2.2.2)
abbrev ptA (l:Y IT) (j:Nat) (a:Int):Y IT:=bW l (j:Int) ((iA l j).1,a,(iA l j).2.2.1,(iA l j).2.2.2.1,(iA l j).2.2.2.2.1,(iA l j).2.2.2.2.2)
def GI.pb {i:IT} (h:GI nT ss t i) (h1:i.1=10):GI nT ss t (i.1,i.2.1,a,i.2.2.2.1,i.2.2.2.2.1,i.2.2.2.2.2):=by
 let⟨i1,i2,i3,I,A,q⟩:=i;dsimp only at h1;subst h1;exact⟨⟨h.o.o1,h.o.o2,h.o.r,⟨(by decide:¬(10:Int)=3),nofun⟩⟩,h.s⟩
def QC.cbr {out q o2 I:Y IT} {A:IT} (h1:QC nT ss t i out q) (h2:o2=q++[A]) (hb:GI nT ss t A) (h10:A.1=10) (h3:QC nT ss t m o2 I) (F:Y IT) (hl:l! I<=l! F) (hF:∀k:Nat,k<l! I->¬k=l! q->iA F k=iA I k) (hFb:∃b:Int,(0<=b/\b<=(l! F:Int))/\iA F (l! q)=(A.1,A.2.1,b,A.2.2.2.1,A.2.2.2.2.1,A.2.2.2.2.2)):(∀k:Nat,k<l! out->iA F k=iA out k)/\tQ F (l! out) (l! q)/\(iA F (l! q)).1=10/\tQ F (l! q+1) (l! I)/\(∀k:Nat,l! out<=k->k<l! I->GI nT ss t (iA F k))/\∀k:Nat,l! out<=k->k<l! I->(iA F k).1=10->0<=(iA F k).2.2.1/\(iA F k).2.2.1<=(l! F:Int):=by
 have l2:l! o2=l! q+1:=cf;have l1:=h1.l;have l3:=h3.l;have e1:∀k:Nat,k<l! q->iA F k=iA q k:=λk hk=>by rw[hF k M M,h3.p k M,h2,Od hk]
 let⟨b,hb0,eb⟩:=hFb;refine ⟨λk hk=>(e1 k M).trans (h1.p k hk),h1.b.congr λk _ hk=>e1 k hk,by rw[eb];exact h10,?_,λk g1 g2=>?_,λk g1 g2 g3=>?_⟩;have:=h3.b;rw[l2]at this;exact this.congr λk g1 g2=>hF k g2 M
 rcases Ee k (l! q) with hk|hk|hk;rw[e1 k hk];exact h1.i k g1 hk;rw[hk,eb];exact hb.pb h10;rw[hF k g2 M];exact h3.i k M g2;rcases Ee k (l! q) with hk|hk|hk;rw[e1 k hk]at g3 ⊢;have:=h1.r k g1 hk g3;omega;rw[hk,eb];exact hb0;rw[hF k g2 M]at g3 ⊢;have:=h3.r k M g2 g3;omega
def Rt (rs:FS6) (rt:FT6) (rb:FT6) (ra:FA6) (d:Nat) (hS:aq4 nT ss t rs d):aA0 nT ss t (oC rs rt rb ra) d:=by
 intro s g out hop he h1 h2 h3 h4 hel hg hs hso hb;have hm:ME (d+1)=50+16*ME d:=rfl;have kb:l! s.body*ME d<=8*ME d:=cD _ h1;have ke:l! s.els*ME d<=8*ME d:=cD _ h2;have hex:GE 4 (fm (Xp.op s.expr,Xp.n s.expr,Xp.name s.expr,Xp.l s.expr)):=by rw[gO];exact he
 unfold oC bf bB bN cM gE qY xZ ck bp bT a8;refine ay (Hb _ _ g out hex hg hs (by rw[hg.len];decide) (by rw[hg.len];decide) M) λy hy=>?_
 let⟨g1,o1⟩:=y;let⟨p1,p2⟩:=hy;dsimp only at p1 p2;subst p1;have p3:=p2.u;have p4:=p2.l;refine bI b8 ?_;refine ay (Nu _ g1 o1 M) λy hy=>?_
 let⟨A,o2⟩:=y;let⟨q1,q2⟩:=hy;dsimp only at q1 q2;subst q1;rw[hg.len]at q2;have hbr:GI nT ss t ((10,2,0,0,0,A.2.2.2.2.2.2.2.1):IT):=⟨goI cr cr (by simp[kr]) ⟨(by decide:¬(10:Int)=3),nofun⟩,hs⟩
 have l2:l! o2=l! o1+1:=by rw[q2,aQ];rfl
 refine bI b8 ?_;refine ay (hS s.body A o2 M h3 hg (hso.sub (cU _) M) M) λy hy=>?_
 let⟨g3,q⟩:=y;let⟨r1,r2,r3⟩:=hy;dsimp only at r1 r2 r3;have r4:=r2.u;have r5:=r2.l;have ebr:iA q (l! o1)=(10,2,0,0,0,A.2.2.2.2.2.2.2.1):=by rw[r2.p _ M,q2,Bk]
 refine bI b8 ?_;have qs:=r1.trans (GQ.site g3 g3.2.2.2.2.2.1 A.2.2.2.2.2.2.2.1 g3.2.2.2.2.2.2.2.2);refine aN (λh3w=>?_) λh3w=>?_
 have hels:py d s.els=0:=by rw[hel (by have h3w:s.op=3:=h3w;omega)];rfl
 rw[hels,dR];refine ay (Nu _ _ q M) λy hy=>?_
 let⟨g4,I⟩:=y;let⟨w1,w2⟩:=hy;dsimp only at w1 w2;have l4:l! I=l! q+1:=by rw[w2,aQ];rfl
 refine bI b8 (aS (fV _) Ja (aS (fV _) Ja (ak ?_)));have hat:l! o1<l! I:=M;have ej:iA I (l! q)=(5,(l! out:Int),0,0,0,A.2.2.2.2.2.2.2.1):=by rw[w2,Bk];rfl
 have e43:∀k:Nat,k<l! q->iA I k=iA q k:=λk hk=>by rw[w2,Od hk]
 refine ⟨by dsimp only;rw[w1];exact qs,?_,by dsimp only;rw[w1];exact r3⟩;dsimp only;have eF:∀{z:IT} {k:Nat},¬k=l! o1->iA (bW I ((l! o1:Nat):Int) z) k=iA I k:=λh=>by rw[Dm hat,av h]
 let⟨f1,f2,f3,f4,f5,f6⟩:=p2.cbr q2 hbr rfl r2 (ptB I (l! o1) (aZ (l! I))) (by rw[bu];omega) (λk hk hn=>(eF hn).trans (e43 k hk)) ⟨_,⟨fV _,by rw[bu];exact cU _⟩,by rw[Dm hat,aD rfl,e43 _ M,ebr];rfl⟩;show QC nT ss t _ out (ptB I (l! o1) (aZ (l! I)));have ejF:iA (ptB I (l! o1) (aZ (l! I))) (l! q)=(5,(l! out:Int),0,0,0,A.2.2.2.2.2.2.2.1):=(eF (by omega:¬l! q=l! o1)).trans ej;refine ⟨by rw[bu];omega,by rw[bu];omega,f1,?_,λk g1 A=>?_,λk g1 A g3=>?_⟩;rw[(bu _ _ _).trans l4];exact f2.whl f3 f4 (by rw[ejF]) (by rw[ejF]);rw[bu,l4]at A;by_cases hk:k<l! q;exact f5 k g1 hk;rw[show k=l! q by omega,ejF];exact⟨goI cr cr (by simp[kr]) ⟨(by decide:¬(5:Int)=3),nofun⟩,hs⟩;have g2':=A;rw[bu,l4]at g2';by_cases hk:k<l! q;exact f6 k g1 hk g3;rw[show k=l! q by omega,ejF]at g3;cases g3;refine aN (λhz=>?_) λ_=>?_
 have hels:py d s.els=0:=by rw[gg.1 (by dsimp only[ax]at hz;omega:l! s.els=0)];rfl
 rw[hels,dR];refine aS (fV _) Ja (aS (fV _) Ja (ak ⟨qs,?_,r3⟩));dsimp only;have hat:l! o1<l! q:=M;let⟨f1,f2,f3,f4,f5,f6⟩:=p2.cbr q2 hbr rfl r2 (ptB q (l! o1) (aZ (l! q))) (by rw[bu];omega) (λk hk hn=>by rw[Dm hat,av hn]) ⟨_,⟨fV _,by rw[bu];exact cU _⟩,by rw[Dm hat,aD rfl,ebr];rfl⟩;show QC nT ss t _ out (ptB q (l! o1) (aZ (l! q)));refine ⟨by rw[bu];omega,by rw[bu];omega,f1,?_,λk g1 A=>?_,λk g1 A g3=>f6 k g1 (by rw[bu]at A;exact A) g3⟩;rw[bu];exact (f2.app (tQ.one (by rw[f3];decide))).app f4;rw[bu]at A;exact f5 k g1 A;refine ay (Nu _ _ q M) λy hy=>?_
 let⟨g4,I⟩:=y;let⟨w1,w2⟩:=hy;dsimp only at w1 w2;have l4:l! I=l! q+1:=by rw[w2,aQ];rfl
 have qs4:GQ A g4:=by rw[w1];exact qs
 have x4:gN g4=gN A+(py d s.body:Nat):=by rw[w1];exact r3
 have hat:l! o1<l! I:=M;have ej:iA I (l! q)=(5,0,0,0,0,A.2.2.2.2.2.2.2.1):=by rw[w2,Bk]
 have e43:∀k:Nat,k<l! q->iA I k=iA q k:=λk hk=>by rw[w2,Od hk]
 refine bI b8 (aS (fV _) Ja (aS (fV _) Ja ?_));have eF:∀{z:IT} {k:Nat},¬k=l! o1->iA (bW I ((l! o1:Nat):Int) z) k=iA I k:=λh=>by rw[Dm hat,av h]
 refine ay (hS s.els g4 (ptB I (l! o1) (aZ (l! I))) M h4 (hg.of qs4) (hso.sub (by rw[x4];omega) (by rw[x4];omega)) (by rw[bu];omega)) λy hy=>?_
 let⟨g5,o5⟩:=y;let⟨z1,z2,z3⟩:=hy;dsimp only at z1 z2 z3;have z4:=z2.l;have z5:=z2.u;have zp:=z2.p;have zb:=z2.b;have zi:=z2.i;have zr:=z2.r;rw[bu]at z4 z5 zp zb zi zr;have hj5:l! q<l! o5:=M;refine bI b8 (aS (fV _) Ja (aS (fV _) Ja (ak ⟨qs4.trans z1,?_,by dsimp only;rw[z3,x4];omega⟩)));dsimp only;show QC nT ss t _ out (ptA o5 (l! q) (aZ (l! o5)));have eG:∀{z:IT} {k:Nat},¬k=l! q->iA (bW o5 ((l! q:Nat):Int) z) k=iA o5 k:=λh=>by rw[Dm hj5,av h]
 have ej5:iA o5 (l! q)=(5,0,0,0,0,A.2.2.2.2.2.2.2.1):=by rw[zp _ M,eF M,ej]
 let⟨f1,f2,f3,f4,f5,f6⟩:=p2.cbr q2 hbr rfl r2 (ptA o5 (l! q) (aZ (l! o5))) (by rw[bu];omega) (λk hk hn=>by rw[eG M,zp k M,eF hn,e43 k hk]) ⟨aZ (l! I),⟨fV _,by rw[bu];dsimp only[ax];omega⟩,by rw[eG M,zp _ M,Dm hat,aD rfl,e43 _ M,ebr]⟩;have ejF:iA (ptA o5 (l! q) (aZ (l! o5))) (l! q)=(5,aZ (l! o5),0,0,0,A.2.2.2.2.2.2.2.1):=by rw[Dm hj5,aD rfl,ej5]
 refine ⟨by rw[bu];omega,by rw[bu];omega,f1,?_,λk g1 A=>?_,λk g1 A g3=>?_⟩;rw[bu];refine ((f2.app (tQ.one (by rw[f3];decide))).app f4).ite (by rw[ejF]) (by rw[ejF];rfl) ?_;rw[l4]at zb;exact zb.congr λk g1 A=>eG M
 rw[bu]at A;rcases Ee k (l! q) with hk|hk|hk;exact f5 k g1 hk;rw[hk,ejF];exact⟨goI cr cr (by simp[kr]) ⟨(by decide:¬(5:Int)=3),nofun⟩,hs⟩;rw[eG M];exact zi k M A;have g2':=A;rw[bu]at g2';rcases Ee k (l! q) with hk|hk|hk;exact f6 k g1 hk g3;rw[hk,ejF]at g3;cases g3;rw[eG M]at g3 ⊢;rw[bu];exact zr k M g2' g3
def aj3 (rs:FS6) (rt:FT6) (rb:FT6) (ra:FA6) (d:Nat) (hB:aA0 nT ss t rb d) (hA:aA1 nT ss t ra d):SpG nT ss t (uN rs rt rb ra) (d+1):=by
 intro s g out hs hg hso hb;have hm:ME (d+1)=50+16*ME d:=rfl;let⟨i1,i2,i3,i4,i5,i6,i7,i8,i9,hN⟩:=hs;have hcn:Wm (d+1) s=1+py d s.body+py d s.els:=rfl;rw[hcn]at hso ⊢;let⟨so0,so1,so2⟩:=id hso;have so0:0<=g.2.2.2.2.2.2.2.2:=so0;have so1:g.2.2.2.2.2.2.2.2+((1+py d s.body+py d s.els:Nat):Int)<=1000:=so1;have ew:aU .i64 (g.2.2.2.2.2.2.2.2+1)=g.2.2.2.2.2.2.2.2+1:=iF;have gs:=GQ.site g g.2.2.2.2.2.1 g.2.2.2.2.2.2.2.2 (aU .i64 (g.2.2.2.2.2.2.2.2+1));unfold uN bf bB bN cM gE cg xZ bp bT a8 aJ cH fo;refine a6 (λx=>QG nT ss t (ME (d+1)) (1+py d s.body+py d s.els) g out x) ?_ λx hx=>ak hx
 dsimp only;have hs1:SO ss t (gS ((g.1,g.2.1,g.2.2.1,g.2.2.2.1,g.2.2.2.2.1,g.2.2.2.2.2.1,g.2.2.2.2.2.2.1,g.2.2.2.2.2.2.2.2,aU .i64 (g.2.2.2.2.2.2.2.2+1)):GN)):=so2 _ (cU _) (by show g.2.2.2.2.2.2.2.2<g.2.2.2.2.2.2.2.2+((1+py d s.body+py d s.els:Nat):Int);omega);have hn1:gN ((g.1,g.2.1,g.2.2.1,g.2.2.2.1,g.2.2.2.2.1,g.2.2.2.2.2.1,g.2.2.2.2.2.2.1,g.2.2.2.2.2.2.2.2,aU .i64 (g.2.2.2.2.2.2.2.2+1)):GN)=gN g+1:=ew;revert gs hs1 hn1;generalize ((g.1,g.2.1,g.2.2.1,g.2.2.2.1,g.2.2.2.2.1,g.2.2.2.2.2.1,g.2.2.2.2.2.2.1,g.2.2.2.2.2.2.2.2,aU .i64 (g.2.2.2.2.2.2.2.2+1)):GN)=g1;intro gs hs1 hn1;have hg1:=hg.of gs;have hso1:=hso.sub (b:=gN g1) (n:=py d s.body+py d s.els) (by rw[hn1];omega) (by rw[hn1];omega);have fin:∀(n m:Nat) (y:w!),QG nT ss t n m g1 out y->n<=ME (d+1)->m=py d s.body+py d s.els->QG nT ss t (ME (d+1)) (1+py d s.body+py d s.els) g out y:=λn m y I hn hm=>⟨gs.trans I.q,(QC.nil 0 out).trans I.c M,by rw[I.x,hn1];omega⟩
 have fin0:s.op=1\/9<=s.op->∀(n:Nat) (y:w!),y.1=g1/\QC nT ss t n out y.2->n<=ME (d+1)->QG nT ss t (ME (d+1)) (1+py d s.body+py d s.els) g out y:=λA n y I hn=>fin n 0 y ⟨by rw[I.1];exact GQ.refl g1,I.2,by rw[I.1];simp⟩ hn (by rw[hN.bo A,hN.el M];rfl)
 refine aN (λA=>?_) λ_=>?_
 refine ay (adx (pL _) g1 out ?_ ?_ ?_ ?_ hg1 hs1 M) λy I=>bI b8 (ak (fin0 (.inl A) _ _ I M))
 rw[BW];exact i1;rw[BW];exact i3;rw[BW];exact i4 (.inl A);rw[BW];exact hN.vr A;refine a6 (λx=>x.2=(g1,s,out)/\(x.1=J↔s.op=2\/s.op=3)) ?_ ?_;exact aN (λh=>ak ⟨by dsimp only;rw[BW],λ_=>.inl h,λ_=>aP h⟩) λh=>ak ⟨by dsimp only;rw[BW],λh2=>.inr (a_ h2),λh2=>aP (h2.resolve_left h)⟩
 rintro⟨b,x⟩ ⟨e,hb2⟩;dsimp only at e hb2;subst e;refine aR (λhb3=>?_) λhbf=>?_
 dsimp only;rw[BW];refine ay (hB s g1 out (hb2.1 hb3) (i4 (by rcases hb2.1 hb3 with h|h;exact .inr (.inl h);exact .inr (.inr (.inl h)))) i6 i7 i8 i9 hN.el hg1 hs1 hso1 hb) λy I=>bI b8 (ak (fin _ _ _ I M rfl))
 have har:∀(a b c:Int),4<=s.op->GO nT (a,c,0,0,0,0)->GO nT (b,c,0,0,0,0)->¬a=5/\¬a=10->¬b=5/\¬b=10->Ok (ra ((s,a,b,c),g1,out)) λy=>QG nT ss t (ME (d+1)) (1+py d s.body+py d s.els) g out y:=λa b c h4 ga gb na nb=>(hA s a b c g1 out i6 i8 ga gb na nb hg1 hs1 (hso1.sub (cU _) M) hb).mono λy I=>fin _ _ _ I M (by rw[hN.el M];rfl)
 have hput:∀{op:Int} {r:υ},9<=s.op->GO nT (op,r)->¬op=5/\¬op=10->Ok (cJ ((op,r),g1,out)) (QG nT ss t (ME (d+1)) (1+py d s.body+py d s.els) g out):=λh9 hi h5=>(AX M hg1 hs1 hi h5).mono λy I=>fin0 (.inr h9) _ _ I M
 have hlk:∀n:ζ,Ok (mX (g1.2.1,n)) λr=>(n=[109]->r=0)/\(n=[110]->r=1)/\(n=[114]->r=2):=λn=>(SX g1.2.1 n (by rw[hg1.l];decide)).mono λr h=>awf (by rw[hg1.l]at h;exact h)
 have hcond:∀(n:ζ),Ok (kU (n,g1,out)) λy=>y.2=(g1,out)/\(n=[99]->y.1=0):=λn=>aou n g1 out hg1
 have hth:Ok (kP (g1.2.2.2.2.1,s.name)) λr=>s.op=12\/s.op=13->0<=r/\r<(nT:Int):=(Cr g1.2.2.2.2.1 s.name (by rw[hg1.t,bm];have q4:AK.length=4:=rfl;omega)).mono λr hr A=>by
  have hn:=hN.sp A;have hl:l! (AK.take nT)<=nT:=sM ..;let⟨_,h2,_,h4⟩:=hr;rw[hg1.t]at h2 h4;exact⟨iZ.1 λh=>h4 h hn,M⟩
 have hft:∀n:ζ,Ok (kP (g1.2.2.2.1,n)) λr=>n=[102]->r=0:=λn=>(Cr g1.2.2.2.1 n (by rw[hg1.f];decide)).mono λr hr hn=>by
  let⟨h1,h2,_,h4⟩:=hr;rw[hg1.f]at h2 h4;have h2:r<1:=h2;have:¬r<0:=λh=>h4 h (by rw[hn];decide)
  omega
 dsimp only;rw[BW];have gor:∀{a c:Int},1<=a->a<=27->kr (a,c,0,0,0,0)=[]->OB nT (a,c,0,0,0,0)->GO nT (a,c,0,0,0,0):=λh1 h2 h3 h4=>⟨h1,h2,by rw[h3];exact λj hj=>(by cases hj),h4⟩
 refine aN (λA=>ay (hlk _) λv hv=>ay (har _ _ _ (by have A:s.op=4:=A;omega) (gor cr cr rfl ?_) (gor cr cr rfl ?_) cr cr) λy I=>bI b8 (ak I)) λ_=>?_
 exact (hN.lk A).imp hv.1 hv.2.1;exact (hN.lk A).imp hv.1 hv.2.1;refine aN (λA=>ay (hlk _) λv hv=>ay (har _ _ _ (by have A:s.op=5:=A;omega) (gor cr cr rfl ?_) (gor cr cr rfl ?_) cr cr) λy I=>bI b8 (ak I)) λ_=>?_
 exact hv.2.2 (hN.rw (.inl A));exact hv.2.2 (hN.rw (.inl A));refine aN (λA=>ay (hlk _) λv hv=>ay (har _ _ _ (by have A:s.op=6:=A;omega) (gor cr cr rfl ?_) (gor cr cr rfl ?_) cr cr) λy I=>bI b8 (ak I)) λ_=>?_
 exact hv.2.2 (hN.rw (.inr A));exact hv.2.2 (hN.rw (.inr A));refine aN (λA=>ay (har _ _ _ (by have A:s.op=7:=A;omega) (gor cr cr rfl ⟨(by decide:¬(17:Int)=3),nofun⟩) (gor cr cr rfl ⟨(by decide:¬(18:Int)=3),nofun⟩) cr cr) λy I=>bI b8 (ak I)) λ_=>?_
 refine aN (λA=>ay (har _ _ _ (by have A:s.op=8:=A;omega) (gor cr cr rfl ⟨(by decide:¬(19:Int)=3),nofun⟩) (gor cr cr rfl ⟨(by decide:¬(20:Int)=3),nofun⟩) cr cr) λy I=>bI b8 (ak I)) λ_=>?_
 refine aN (λA=>ay (hcond _) λy I=>?_) λ_=>?_
 let⟨v,y2⟩:=y;let⟨y3,y4⟩:=I;dsimp only at y3;subst y3;exact bI b8 (ay (hput (by have A:s.op=9:=A;omega) (gor cr cr rfl (y4 (hN.cn (.inl A)))) cr) λy I=>bI b8 (ak I));refine aN (λA=>ay (hcond _) λy I=>?_) λ_=>?_
 let⟨v,y2⟩:=y;let⟨y3,y4⟩:=I;dsimp only at y3;subst y3;exact bI b8 (ay (hput (by have A:s.op=10:=A;omega) (gor cr cr rfl (y4 (hN.cn (.inr (.inl A))))) cr) λy I=>bI b8 (ak I));refine aN (λA=>ay (hcond _) λy I=>?_) λ_=>?_
 let⟨v,y2⟩:=y;let⟨y3,y4⟩:=I;dsimp only at y3;subst y3;exact bI b8 (ay (hput (by have A:s.op=11:=A;omega) (gor cr cr rfl (y4 (hN.cn (.inr (.inr A))))) cr) λy I=>bI b8 (ak I));refine aN (λA=>ay hth λv hv=>ay (hput (by have A:s.op=12:=A;omega) (gor cr cr rfl (hv (.inl A))) cr) λy I=>bI b8 (ak I)) λ_=>?_
 refine aN (λA=>ay hth λv hv=>ay (hput (by have A:s.op=13:=A;omega) (gor cr cr rfl (hv (.inr A))) cr) λy I=>bI b8 (ak I)) λ_=>?_
 refine aN (λA=>?_) λn14=>?_
 have hex:GE 4 (fm (Xp.op s.expr,Xp.n s.expr,Xp.name s.expr,Xp.l s.expr)):=by rw[gO];exact i4 (.inr (.inr (.inr A)))
 refine ay (Hb _ _ g1 out hex hg1 hs1 (by rw[hg.len];decide) (by rw[hg.len];decide) M) λy I=>?_
 let⟨g2,o2⟩:=y;let⟨q1,q2⟩:=I;dsimp only at q1 q2;subst q1;have q3:=q2.u;refine bI b8 (ay (hft _) λv hv=>?_);refine ay (AX M hg1 hs1 (goI cr cr (by simp[kr,hg.h,L0]) (hv (hN.se A))) cr) λy I=>bI b8 (ak (fin0 (.inr (by have A:s.op=14:=A;omega)) 16 _ ⟨I.1,q2.trans I.2 (bg _)⟩ M))
 refine aN (λA=>?_) λn15=>?_
 refine ay (Cr _ _ (by rw[hg1.h];decide)) λv hv=>ay (hft _) λv2 hv2=>?_
 have hge:=hN.ge A;have hl:(0:Int)<=v/\v<2:=by
  let⟨_,h2,_,h4⟩:=hv;rw[hg1.h]at h2 h4;exact⟨iZ.1 λh=>h4 h (by rw[hge.1];decide),h2⟩
 exact ay (hput (by have A:s.op=15:=A;omega) (goI cr cr (by simp[kr];omega) (hv2 hge.2)) cr) λy I=>bI b8 (ak I)
 exfalso;have h1:=hN.o0;have h2:=hN.o1;have h3:¬(s.op=2\/s.op=3):=λh=>by have hbf:b=af:=hbf;rw[hb2.2 h]at hbf;cases hbf
 omega
end
section
variable {nT:Nat} {ss:Y π} {t:Int}
def agp:∀(n:Nat),(∀d:Nat,3*d<n->SpG nT ss t (f_ n) d)/\(∀d:Nat,3*d+1<n->aq4 nT ss t (ep n) d)/\(∀d:Nat,3*d+2<n->aA0 nT ss t (dy n) d)/\(∀d:Nat,3*d+2<n->aA1 nT ss t (d_ n) d)
 |0=>⟨λd h=>M,λd h=>M,λd h=>M,λd h=>M⟩
 |n+1=>by
  let⟨I,q,hB,hA⟩:=agp n;refine ⟨λd h=>?_,λd h=>aby (ep n) (f_ n) (dy n) (d_ n) d (I d M),λd h=>Rt (ep n) (f_ n) (dy n) (d_ n) d (q d M),λd h=>X7 (ep n) (f_ n) (dy n) (d_ n) d (q d M)⟩;cases d with
  |zero=>exact λs g out A=>A.elim
  |succ d=>exact aj3 (ep n) (f_ n) (dy n) (d_ n) d (hB d M) (hA d M)
def Vg (d:Nat) (hd:d<=100):aq4 nT ss t xj d:=(agp ii).2.1 d (by rw[lH];omega)
structure SL (t k:Int) (m:Nat) (S:List π):Prop where
 l:l! S=m
 v:∀i:Nat,i<m->(aE rZ S (i:Int)).1=t/\(aE rZ S (i:Int)).2.1=k+i
def OF {T:Ty} {l m:Y T.den} (h:i<l! l):aE _ (l++m) (i:Int)=aE _ l (i:Int):=by
 rw[sD,sD,aC,aC,cZ h]
def OE {T:Ty} {l m:Y T.den} (h:l! l<=i):aE _ (l++m) (i:Int)=aE _ m ((i-l! l:Nat):Int):=by
 rw[sD,sD,aC,aC,cL h]
def SL.nil (t k:Int):SL t k 0 []:=⟨rfl,λi h=>M⟩
def SL.one (t k z:Int):SL t k 1 [(t,k,z)]:=⟨rfl,λi h=>by rw[show i=0 by omega];exact⟨rfl,by show k=k+((0:Nat):Int);omega⟩⟩
def SL.app {q:Int} {k:Nat} {S S':Y π} (h:SL t a k S) (h':SL t q i S') (hk:q=a+k):SL t a (k+i) (S++S'):=by
 let⟨h1,h2⟩:=h;let⟨h3,I⟩:=h';refine ⟨by rw[aQ];omega,λb hi=>?_⟩;by_cases A:b<l! S;rw[OF (T:=rZ) A];exact h2 b M;rw[OE (T:=rZ) M]
 grind
def J2:∀(n d:Nat),d<n->∀(t k:Int) (l:Y Sx) (out:Y π),l! l<=100->(∀s∈l,GT d s)->0<=k->k+py d l<=100000000->l! out+py d l<=100000000->Ok (rV n ((t,k,l),out)) λy=>y.1=k+py d l/\∃S,y.2=out++S/\SL t k (py d l) S
 |0,_,h,_,_,_,_,_,_,_,_,_=>M
 |n+1,d,hn,t,k,l,out,hl,hs,k0,hkb,hb=>by
  rw[Mk];unfold Bn bO vI bT a8 cW aJ cH;refine bX (l! l) (λi x=>x.1.2=(i:Int)/\x.1.1=k+py d (l.take i)/\∃S,x.2=out++S/\SL t k (py d (l.take i)) S) ?_ ?_ ⟨rfl,by simp[py],[],b8,by simp[py];exact SL.nil t k⟩;rintro i ⟨⟨a,b⟩,o⟩ hi ⟨e1,e2,S,q,e4⟩;subst e1 e2 q;have hp:=VO (d:=d) l (i+1);rw[Aq hi]at hp;rw[Aq hi];refine cV ?_;have hin:((i:Nat):Int)<(l! l:Int):=M;have hm:=hs _ (be (T:=.sm) (xs:=l) (j:=(i:Int)) M M);have hSl:=e4.l;cases d with
  |zero=>exact hm.elim
  |succ d=>
   let⟨_,_,_,g4,g5,g6,g7⟩:=hm;have hc:Wm (d+1) (aE (.sm) l (i:Int))=1+py d (Sx.body (aE (.sm) l (i:Int)))+py d (Sx.els (aE (.sm) l (i:Int))):=rfl;rw[hc]at hp ⊢;dsimp only;refine aS M hin (aX (dB cf M (aS M hin (aX ?_))));rw[iF (n:=k+(py (d+1) (l.take i):Nat)+1) M M];refine ay (J2 n d M _ _ _ _ M g6 M M cf) λy A=>bI b8 ?_
   let⟨a2,o2⟩:=y;let⟨y1,S2,y2,I⟩:=A;subst y1 y2;have hSl2:=I.l;refine aS M hin (aX ?_);refine ay (J2 n d M _ _ _ _ M g7 M M cf) λy A=>bI b8 (ak ?_)
   let⟨a3,o3⟩:=y;let⟨z1,S3,z2,z3⟩:=A;subst z1 z2;refine ⟨iC,lX,S++([_]++(S2++S3)),by simp[bw];rfl,?_⟩;refine e4.app ?_ rfl;rw[mw];exact (SL.one t _ _).app (I.app z3 rfl) b8
  rintro⟨⟨a,b⟩,o⟩ ⟨e1,e2,q⟩;subst e1 e2;rw[cO]at q ⊢;exact cK (ak ⟨rfl,q⟩)
def aev {A I k:Int} {l S:Y π} (h:Ut a l=Z (A,I)) (hS:SL t k m S) (hk:(A=t/\I=k)\/(A<t/\t<a/\k=0)):∀i:Nat,i<=m->Ut a (l++S.take i)=Z (if i=0 then (A,I) else (t,k+i))
 |0,_=>cf
 |i+1,hi=>by
  have ih:=aev h hS hk i M;rw[lM (T:=rZ) (xs:=S) (i:=i) (by rw[hS.l];omega),<-bw,ari,ih];let⟨v1,v2⟩:=hS.v i M;by_cases q:i=0;subst q;unfold siS
  grind
  rw[av q];unfold siS
  grind
end
abbrev CE6:Type:=ζ×k?
abbrev W4T:Type:=Y CE6×Y (ζ×Bool)×Y (ζ×Int)×Y ζ
def ceD (z:DT):Y CE6:=(dV (aL (mJ z.2.2.2.1 1))).map λ(k:Nat)=>(z.2.2.1,(k:Int),z.2.2.2.1,decide (z.1=2),z.2.2.2.2.1)
def adD (y:W4T) (z:DT):W4T:=
 if z.1=1\/z.1=2 then (y.1++ceD z,y.2) else if z.1=3\/z.1=4 then (y.1,y.2.1++[(z.2.2.1,decide (z.1=4))],y.2.2) else if z.1=5 then (y.1,y.2.1,y.2.2.1++[(z.2.2.1,0)],y.2.2.2) else (y.1,y.2.1,y.2.2.1,y.2.2.2++[z.2.2.1])
def W4 (i:Nat):W4T:=(D0.take i).foldl adD ([],[],[],[])
def W4_9:W4 9=(C0,G5,Uc,Z1):=rfl
def W4_s (hi:i<9):W4 (i+1)=adD (W4 i) (aE LS D0 (i:Int)):=by
 unfold W4;rw[lM (T:=LS) (xs:=D0) hi,dG];rfl
def D0_c:∀i:Nat,i<9->(aE LS D0 (i:Int)).1=5->i=7:=cr
def aDl:∀i:Nat,i<9->(W4 i).1.length<=5/\(W4 i).2.1.length<=3/\(W4 i).2.2.1.length<=1/\(W4 i).2.2.2.length<=1/\mJ (aE LS D0 (i:Int)).2.2.2.1 1<=2/\1<=mJ (aE LS D0 (i:Int)).2.2.2.1 1:=cr
def bsN (p:PG) (i:Nat):Nat:=((p.2.take i).map λt=>py 5 t.2.2.2).sum
def boN (p:PG) (i:Nat):Nat:=py 5 (aE vW p.2 (i:Int)).2.2.2
def awy {p:PG} (hi:i<l! p.2):bsN p (i+1)=bsN p i+boN p i:=by
 unfold bsN boN;rw[lM (T:=vW) hi,b_,Ky];simp
def ads {p:PG} (i:Nat) (h:(p.2.map λt=>py 5 t.2.2.2).sum<=60):bsN p i<=60:=by
 refine cR ?_ h
 conv=>rhs;rw[<- FR i p.2]
 unfold bsN;rw[b_,Ky];omega
structure SW (p:PG) (i:Nat) (S:List π):Prop where
 l:l! S=bsN p i
 f:∃a b,Ut (l! p.2) S=Z (a,b)/\(a<i\/a=0/\b=0)
 s:∀j:Nat,j<i->SR S (j:Int) (bsN p j:Nat) (boN p j)
structure WW (p:PG) (w:WT):Prop where
 x:WX w
 t:w.2.2.2.2.1=AK.take (l! p.2)
 s:∀j:Nat,j<l! p.2->SR w.2.2.2.2.2 (j:Int) (bsN p j:Nat) (boN p j)
def SO.app {S S':Y π} {t:Int} (h:SO S t a):SO (S++S') t a:=by
 let⟨h0,h1,h2⟩:=h;obtain⟨a,rfl⟩:∃n:Nat,a=(n:Int):=⟨a.toNat,M⟩
 exact⟨h0,by rw[aQ];omega,by rw[OF (T:=rZ) M];exact h2⟩
def ae6 (p:PG) (hp:PJ p) (r:ν) (hr:g_ p=Z r) (h0:r.1=0) (hc:(p.2.map λt=>py 5 t.2.2.2).sum<=60):Ok (xk p) (WW p):=by
 have hpt:=hp.t;unfold xk bf bB bN cM gE cg dD dh iD sL bp bO jP bT bM a8 cW aJ cH;refine aV hr (bY (λh=>(h h0).elim) λ_=>?_);have hD:p.1=D0:=hp.d;have hlen:l! p.1=9:=by rw[hD];rfl
 refine bX 9 (λi x=>x.1=(i:Int)/\x.2.1=p/\x.2.2=W4 i) ?_ ?_ ⟨rfl,rfl,rfl⟩;rintro i ⟨a,p',y⟩ hi ⟨e1,e2,e3⟩;dsimp only at e1 e2 e3;subst e1;have e2:=e2.symm;subst e2;let⟨b1,b2,b3,b4,b5,b6⟩:=aDl i hi;rw[<- e3]at b1 b2 b3 b4;have hW:=W4_s hi;rw[<- e3]at hW;have hcd:=D0_c i hi;have hlk:i=7->y.2.1=G5/\(aE LS D0 (i:Int)).2.2.2.2.2=[109]:=λh=>by subst h;rw[e3];exact⟨rfl,rfl⟩
 refine cV ?_;refine bK (aX ?_);dsimp only;rw[hD];revert hW hcd hlk b5 b6;generalize (aE LS D0 (i:Int))=z;intro b5 b6 hW hcd hlk;refine a6 (λx=>x=(p,W4 (i+1))) ?_ ?_;rw[hW];unfold adD;refine a6 (λx=>x.2=(p,z,y)/\(x.1=J↔(z.1=1\/z.1=2))) ?_ ?_;exact aN (λh=>ak ⟨rfl,λ_=>.inl h,λ_=>aP h⟩) λh=>ak ⟨rfl,λh2=>.inr (a_ h2),λh2=>aP (h2.resolve_left h)⟩
 rintro⟨b,x⟩ ⟨e,hb⟩;dsimp only at e hb;subst e;refine aR (λA=>?_) λA=>?_
 rw[aD (hb.1 A)];unfold ceD;obtain⟨m,hm⟩:∃m:Nat,mJ z.2.2.2.1 1=(m:Int):=⟨(mJ z.2.2.2.1 1).toNat,M⟩
 rw[hm,dH];refine bX m (λk x=>x=((k:Int),p,z,y.1++(dV k).map (λ(k:Nat)=>(z.2.2.1,(k:Int),z.2.2.2.1,decide (z.1=2),z.2.2.2.2.1)),y.2)) ?_ ?_ b8;rintro k x hk rfl;refine bF (λ_=>?_) λg=>(by dsimp only at g;rw[hm]at g;omega)
 refine a! (ak ?_);dsimp only;rw[iC,List.range_succ,b_,<-bw];rfl;rintro x rfl;exact bF (λg=>(by dsimp only at g;rw[hm]at g;omega)) λ_=>ak rfl
 rw[av λh=>by have A:b=af:=A;rw[hb.2 h]at A;cases A];refine a6 (λx=>x.2=(p,z,y)/\(x.1=J↔(z.1=3\/z.1=4))) ?_ ?_;exact aN (λh=>ak ⟨rfl,λ_=>.inl h,λ_=>aP h⟩) λh=>ak ⟨rfl,λh2=>.inr (a_ h2),λh2=>aP (h2.resolve_left h)⟩
 rintro⟨c,x⟩ ⟨e,hc2⟩;dsimp only at e hc2;subst e;refine aR (λh=>?_) λh=>?_
 rw[aD (hc2.1 h)];exact a! (ak rfl);rw[av λh2=>by have h:c=af:=h;rw[hc2.2 h2]at h;cases h];refine aN (λh5=>?_) λh5=>?_
 let⟨l1,l2⟩:=hlk (hcd h5);rw[aD h5];refine ay (SX _ _ (by dsimp only;rw[l1];decide)) λv hv=>?_
 have hv:=(awf (by dsimp only at hv;rw[l1]at hv;exact hv)).1 l2;subst hv;exact a! (ak rfl);rw[av h5];exact a! (ak rfl);rintro x rfl;exact ak ⟨iC,rfl,rfl⟩;rintro⟨a,p',y⟩ ⟨e1,e2,j⟩;dsimp only at e1 e2 j;subst e1;have e2:=e2.symm;subst e2;rw[W4_9]at j;subst j;refine cK ?_;refine ay (P:=WW p) ?_ λr hr=>ak hr
 refine bX (l! p.2) (λi x=>x.1=(i:Int)/\x.2.1=p/\x.2.2.1=C0/\x.2.2.2.1=G5/\x.2.2.2.2.1=Uc/\x.2.2.2.2.2.1=Z1/\x.2.2.2.2.2.2.1=AK.take i/\SW p i x.2.2.2.2.2.2.2) ?_ ?_ ⟨rfl,rfl,rfl,rfl,rfl,rfl,rfl,rfl,⟨0,0,rfl,.inr ⟨rfl,rfl⟩⟩,λj hj=>M⟩;rintro i ⟨a,p2,c2,l2,d2,f2,t2,s2⟩ hi ⟨e1,e2,e3,e4,e5,e6,e7,hl8,⟨fa,fb,f8,f9⟩,I⟩;dsimp only at e1 e2 e3 e4 e5 e6 e7 hl8 f8 I;subst e1;have e2:=e2.symm;subst e2;have hb8:=ads (i+1) hc;have hbs:=awy hi;refine cV ?_;have hin:((i:Nat):Int)<(l! p.2:Int):=M;have hm:=hp.m _ (be (T:=vW) (xs:=p.2) (j:=(i:Int)) M hin);have hnm:(aE vW p.2 (i:Int)).1=aE (.str) AK (i:Int):=by
  have h1:=lM (T:=vW) hi;have h2:=eZ (List.map Prod.fst) h1;rw[b_,lh,lh,hp.n,Ef,Ef,AM M,AM M,lM (T:=.str) (xs:=AK) (i:=i) (by have q4:AK.length=4:=rfl;omega)]at h2;exact ((G8 (List.append_cancel_left h2)).1).symm
 have htl:l! t2=i:=by rw[e7,bm];have q4:AK.length=4:=rfl;omega
 dsimp only;refine aS M hin (aX (a! (aS M hin (aX ?_))));refine ay (J2 ii 5 (by rw[lH];omega) _ _ _ s2 (by have:=hm.b;omega) (λs hs=>((hm.s s hs).le (by omega:3<=5)).t) (cU _) ?_ ?_) λy hy=>bI b8 (ak ?_)
 show (0:Int)+(boN p i:Nat)<=_;omega;show (l! s2)+boN p i<=_;omega;let⟨_,S,h2,h3⟩:=hy;have h3:SL (i:Int) 0 (boN p i) S:=h3;refine ⟨iC,rfl,e3,e4,e5,e6,?_,?_⟩;dsimp only;rw[e7,hnm,<-lM (T:=.str) (xs:=AK) (i:=i) (by have q4:AK.length=4:=rfl;omega)];dsimp only;rw[h2];refine ⟨by rw[aQ,h3.l,hl8,hbs],?_,λj hj=>?_⟩;have hr:=aev f8 h3 (by rcases f9 with h|⟨h,h'⟩;exact .inr ⟨h,M,rfl⟩;rcases Nat.eq_zero_or_pos i with hi0|hi0;exact .inl ⟨M,h'⟩;exact .inr ⟨M,M,rfl⟩) (boN p i) (bg _);rw[<- h3.l,cO]at hr;rw[hr];split;exact⟨_,_,rfl,f9.imp (λh=>M) id⟩;exact⟨_,_,rfl,.inl M⟩;rcases co j i with h1|h1;let⟨g1,g2,g3⟩:=I j h1;exact⟨g1,g2,λq q1 q2=>(g3 q q1 q2).app⟩;have hj:j=i:=M;subst hj;refine ⟨M,M,λq q1 q2=>?_⟩;obtain⟨q,rfl⟩:∃n:Nat,q=(n:Int):=⟨q.toNat,M⟩
 refine ⟨M,by rw[aQ,h3.l];omega,?_⟩;rw[OE (T:=rZ) M];exact (h3.v _ M).1;rintro⟨a,p2,c2,l2,d2,f2,t2,s2⟩ ⟨e1,e2,e3,e4,e5,e6,e7,hl8,⟨fa,fb,f8,f9⟩,I⟩;dsimp only at e1 e2 e3 e4 e5 e6 e7 hl8 f8 I;subst e1;have e2:=e2.symm;subst e2 e3 e4 e5 e6 e7;refine cK (ak ?_);have hb8:=ads (l! p.2) hc;refine ⟨⟨rfl,rfl,rfl,rfl,⟨l! p.2,hp.t0,hp.t,rfl⟩,lX,?_⟩,rfl,I⟩;unfold SV0;have hTl:l! (AK.take (l! p.2))=l! p.2:=by rw[bm];have q4:AK.length=4:=rfl;omega
 dsimp only;rw[hTl,f8];simp
def NM9:Y ζ:=[[120],[121],[118],[113],[109],[110],[114],[99],[102]]
set_option maxHeartbeats 20000000 in
def amr (t:Y ζ) (ht:l! t<=4) (s:Y π):rK (C0,G5,Uc,Z1,t,s)=Z (NM9++t,J):=by
 refine bZ ?_;unfold rK bf bB bN cM dD sL bp bO jP bT bM a8 cW aJ cH;with_reducible repeat' first|exact ak rfl|refine afl ?_|refine afk ?_|refine afj ?_|refine afh ?_|refine as2 ?_|refine aX ?_|refine pY rfl ?_|refine gJ rfl ?_|refine bI rfl ?_|refine afi ?_|refine Xf ?_|refine Xe ?_
 refine dB (by show 9+l! t<=1073741824;omega) cr ?_;with_reducible repeat' first|exact ak rfl|refine afl ?_|refine afk ?_|refine afj ?_|refine afh ?_|refine as2 ?_|refine aX ?_|refine pY rfl ?_|refine gJ rfl ?_|refine bI rfl ?_|refine afi ?_|refine Xf ?_|refine Xe ?_
def ZP:∀x∈NM9++AK,Ok (gL x) λb=>b=J:=by
 intro x q;simp only[NM9,AK,gj,lP,bc,cA,fM]at q;rcases q with rfl|rfl|rfl|rfl|rfl|rfl|rfl|rfl|rfl|rfl|rfl|rfl|rfl;all_goals with_reducible repeat' first|exact ak rfl|refine afl ?_|refine afk ?_|refine afj ?_|refine afh ?_|refine Xe ?_|refine as2 ?_|refine aX ?_|refine pY rfl ?_|refine gJ rfl ?_|refine bI rfl ?_|refine afi ?_|refine Xf ?_|refine dv (gL.eq_1 ..) ?_|refine dv (mF.eq_1 ..) ?_|refine dv (me.eq_1 ..) ?_|refine dv (mY.eq_1 ..) ?_|refine dv (rP.eq_1 ..) ?_|refine dv (uu.eq_1 ..) ?_
def GT.up:∀{d:Nat} {s:Sx},GT d s->GT (d+1) s
 |0,_,h=>h.elim
 |_+1,_,⟨a,b,c,e,f,g,i⟩=>⟨a,b,c,e,f,λx q=>GT.up (g x q),λx q=>GT.up (i x q)⟩
def az8 {l:Y Sx} (h:∀s∈l,GT 3 s):py 5 l=py 3 l:=by
 unfold py;rw[zA λx q=>(VN (GT.up (h x q))).trans (VN (h x q))]
def aA9:∀i:Nat,i<13->∀r:Nat,r<i->aE (.str) (NM9++AK) (r:Int)≠aE (.str) (NM9++AK) (i:Int):=cr
def F6 {b:Int} {t f:aj R} {Q:R->Prop} (h:b<=a) (hf:Ok f Q):Ok (aK (hY a b) t f) Q:=gJ (jJ.2 h) hf
def Co {w:WT} (hx:WX w):jF w=Z J:=by
 let⟨w1,w2,w3,w4,q,A⟩:=w;let⟨hc,hl,hd,hf,⟨n,n1,n4,ht⟩,hs,hv⟩:=hx;dsimp only at hc hl hd hf ht hs;subst hc hl hd hf;have hT:l! q=n:=by rw[ht,bm];have q4:AK.length=4:=rfl;omega
 have hv:Ut (l! q) A≠U:=hv;refine bZ ?_;unfold jF bf bB bN cM dh iD bp bO jO jP bT bM a8 cW aJ cH;refine a6 (λx=>x=(af,C0,G5,Uc,Z1,q,A)) ?_ ?_;refine F6 (show (5:Int)<=12 by decide) (F6 (show (3:Int)<=4 by decide) (F6 (show (1:Int)<=2 by decide) (F6 (show (1:Int)<=2 by decide) (F6 (show (1:Int)<=(l! q:Int) by omega) (F6 (show (l! q:Int)<=4 by omega) (ak ?_))))));dsimp only[ax];rw[jJ.2 (show (l! A:Int)<=60 by omega)];rintro x rfl;refine ia (aV (amr q M A) (gJ rfl ?_));have hN:NM9++q=(NM9++AK).take (9+n):=by rw[ht];rcases (by omega:n=1\/n=2\/n=3\/n=4) with rfl|rfl|rfl|rfl<;>rfl
 have hNl:l! (NM9++q)=9+n:=by rw[aQ,hT];rfl
 have hNg:∀i:Nat,i<9+n->aE (.str) (NM9++q) (i:Int)=aE (.str) (NM9++AK) (i:Int):=λi hi=>by
  rw[hN,sD,sD,aC,aC,List.getElem?_take_of_lt hi]
 refine bX (9+n) (λi x=>x=((i:Int),C0,G5,Uc,Z1,q,A)) ?_ ?_ rfl;rintro i x hi rfl;refine bF (λ_=>?_) λg=>(by dsimp only[ax]at g;rw[hNl]at g;omega)
 refine a6 (λx=>x=(af,C0,G5,Uc,Z1,q,A)) ?_ ?_;refine aS lX (by dsimp only;rw[hNl];omega) (aX ?_);have hmem:aE (.str) (NM9++q) (i:Int)∈NM9++AK:=by rw[hNg i hi];exact be (T:=.str) M (by have:l! (NM9++AK)=13:=rfl;omega)
 refine ay (ZP _ hmem) λb hb=>?_
 refine gJ (by rw[hb];rfl) (cq (a? (fB (by dsimp only;rw[hNl];omega) ?_)));refine aS lX (by dsimp only;rw[hNl];omega) (aX ?_);refine ay (Cr _ _ (by dsimp only;rw[bm,hNl];omega)) λr hr=>ak ?_
 let⟨_,h2,h3,_⟩:=hr;dsimp only at h2 h3;rw[bm,hNl]at h2;have hr0:¬0<=r:=λh0=>by
  have h3:=h3 h0;obtain⟨r,rfl⟩:∃m:Nat,r=(m:Int):=⟨r.toNat,M⟩
  rw[sD,aC,List.getElem?_take_of_lt M,<-aC,<-sD (T:=.str),hNg r M,hNg i hi]at h3;exact aA9 i M r M h3
 rw[jK.2 M];rintro x rfl;exact ia (ak (by dsimp only;rw[iC]));rintro x rfl;refine bF (λg=>(by dsimp only[ax]at g;rw[hNl]at g;omega)) λ_=>?_
 refine ay (P:=λb=>b=J) ?_ λy hy=>ak hy
 refine bX 1 (λi x=>x=((i:Int),C0,G5,Uc,Z1,q,A)) ?_ ?_ rfl;rintro i x hi rfl;have hi0:i=0:=M;subst hi0;refine pY rfl (bI rfl (aX (a6 (λx=>x=(af,C0,G5,Uc,Z1,q,A)) (gJ rfl (gJ rfl (bI rfl (aX (ak rfl))))) ?_)));rintro x rfl;exact ia (ak (by dsimp only;rw[iC]));rintro x rfl;refine bF (λg=>(by have g:(1:Int)<1:=g;omega)) λ_=>?_
 refine ay (P:=λb=>b=J) ?_ λy hy=>ak hy
 refine bX (l! A) (λi x=>x=((i:Int),C0,G5,Uc,Z1,q,A)/\∃t k:Int,Ut (l! q) (A.take i)=Z (t,k)/\0<=t/\t<(l! q:Int)/\(i=0->t=0/\k=0)/\(¬i=0->(aE rZ A ((i-1:Nat):Int)).1=t/\(aE rZ A ((i-1:Nat):Int)).2.1+1=k/\0<k/\k<=i)) ?_ ?_ ⟨rfl,0,0,rfl,M,M,λ_=>⟨rfl,rfl⟩,λh=>(h rfl).elim⟩;rintro i x hi ⟨rfl,t,k,hF,t0,tT,hz,hp⟩;have hw:¬(i:Int)=0->aU .i64 ((i:Int)-1)=((i-1:Nat):Int):=λh=>by rw[iF];omega
 have hnx:=Nq (T:=l! q) hi;have hne:=aew hv (i+1);rw[hnx,hF]at hne;let⟨hs1,I⟩:=alz hne;rw[hF,hs1]at hnx;refine cV ?_;refine a6 (λx=>x=(C0,G5,Uc,Z1,q,A)) ?_ ?_;refine bK (aX ?_);revert I;generalize (aE rZ A (i:Int))=z;obtain⟨(z1:Int),(z2:Int),z3⟩:=z;intro I;dsimp only at I;refine a6 (λx=>x=(af,(C0,G5,Uc,Z1,q,A),z1,z2,z3)) ?_ ?_;refine F6 (show (0:Int)<=z1 by omega) (ak ?_);dsimp only[ax];rw[jK.2 (show z1<(l! q:Int) by omega)];rintro x rfl;refine ia (a6 (λx=>x.2=((C0,G5,Uc,Z1,q,A),z1,z2,z3)/\(x.1=J->i=0\/¬t=z1)/\(x.1=af->¬i=0/\t=z1)) ?_ ?_);refine aN (λh=>ak ⟨rfl,λ_=>.inl (by have h:((i:Nat):Int)=0:=h;omega),nofun⟩) λh=>?_
 have h:¬((i:Nat):Int)=0:=h;dsimp only;rw[hw h];have hq:=(hp M).1;exact aS M faA (aX (ak ⟨rfl,λh2=>.inr (by rw[<- hq];simpa using h2),λh2=>⟨M,by rw[<- hq];simpa using h2⟩⟩));rintro⟨c,x⟩ ⟨e,hc1,hc⟩;dsimp only at e hc1 hc;subst e;refine aR (λhct=>?_) λhcf=>?_
 have hz2:z2=0:=by
  rcases hc1 hct with h|h;have:=hz h;omega;omega
 refine a6 (λx=>x=(af,C0,G5,Uc,Z1,q,A)) ?_ ?_;refine bY (λh=>(h hz2).elim) λ_=>bF (λh=>?_) λ_=>ak rfl
 have h:(0:Int)<((i:Nat):Int):=h;dsimp only;rw[hw M];have hq:=(hp M).1;refine aS M faA (aX (ak ?_));dsimp only;rw[hq,jJ.2 (show t<=z1 by omega)];rintro x rfl;exact ia (ak rfl);let⟨h1,h2⟩:=hc hcf;let⟨_,p2,p3,p4⟩:=hp h1;dsimp only;rw[hw M];refine aS M faA (aX ?_);refine bY (λh=>(h ?_).elim) λ_=>ak rfl
 try dsimp only
 rw[p2,iF];omega;rintro x rfl;refine ak ⟨by dsimp only;rw[iC],_,_,hnx,?_⟩;revert I;rw[show i+1-1=i by omega];generalize (aE rZ A (i:Int))=z;obtain⟨(z1:Int),(z2:Int),z3⟩:=z;intro I;dsimp only at I ⊢;refine ⟨M,M,λh=>M,λ_=>⟨rfl,rfl,?_,?_⟩⟩;by_cases h0:i=0;have:=hz h0;omega;have:=hp h0;omega;by_cases h0:i=0;have:=hz h0;omega;have:=hp h0;omega;rintro x ⟨rfl,_⟩;exact cK (ak rfl)
def ae7 {c:CT} (q:WX c.1) (A:l! c.2=l! c.1.2.2.2.2.1) (h:∀k:Nat,k<l! c.2->GC (l! c.2) c.1.2.2.2.2.2 (k:Int) (aE AC c.2 (k:Int))):lq c=Z J:=by
 let⟨w,l⟩:=c;have h4:l! l<=4:=by
  let⟨n,_,I,ht⟩:=q.t
  grind
 refine bZ ?_;unfold lq bN bO bM a8 cW aJ cH;refine a6 (λx=>x=(af,w,l)) ?_ ?_;refine aV (Co q) (gJ rfl (ak ?_));rw[A];simp;rintro x rfl;refine ia (bX (l! l) (λi x=>x=((i:Int),w,l)) ?_ ?_ rfl);rintro i x hi rfl;refine cV ?_;refine bK (aX (aV (Je q A.symm (h i hi)) (gJ rfl (ak ?_))));rw[iC];rintro x rfl;exact cK (ak rfl)
def Wb (p:PG) (hp:PJ p) (hr4:∃r,g_ p=Z r/\r.1=0):Ok (sZ p) λy=>CB y.1:=by
 have hpt:=hp.t;let⟨r,hr,h0⟩:=hr4;let⟨r',hr',h60⟩:=I1 p hp.x;rw[hr]at hr';cases hr';have h60:=h60 h0;unfold sZ bf bB bN cM gE cg dh iD xZ bO jP bT bM nI a8 cW aJ cH;refine aV hr (bY (λh=>(h h0).elim) λ_=>?_);refine ay (ae6 p hp r hr h0 h60) λw hw=>?_
 have hwT:l! w.2.2.2.2.1=l! p.2:=by rw[hw.t,bm];have q4:AK.length=4:=rfl;omega
 refine bX (l! p.2) (λi x=>x.1.1=((bsN p i:Nat):Int)/\x.1.2=(i:Int)/\x.2.1=p/\x.2.2.1=w/\l! x.2.2.2=i/\∀j:Nat,j<i->GC (l! p.2) w.2.2.2.2.2 (j:Int) (aE AC x.2.2.2 (j:Int))) ?_ ?_ ⟨rfl,rfl,rfl,rfl,rfl,λj hj=>M⟩;rintro i ⟨⟨a,b⟩,p2,w2,cs⟩ hi ⟨e0,e1,e2,e3,e4,e5⟩;dsimp only at e0 e1 e2 e3 e4 e5;subst e0 e1;have e2:=e2.symm;subst e2;have e3:=e3.symm;subst e3;have hin:((i:Nat):Int)<(l! p.2:Int):=M;refine cV ?_;have hm:=hp.m _ (be (T:=vW) (xs:=p.2) (j:=(i:Int)) M hin);have hsr:=hw.s i hi;have hbs:=awy hi;have hb1:=ads (i+1) h60;have hbo:boN p i=py 3 (aE vW p.2 (i:Int)).2.2.2:=az8 λs hs=>(hm.s s hs).t
 rw[hbo]at hsr hbs;dsimp only;refine aS M hin (aX (aS M hin (aX ?_)));revert hm hsr hbs;generalize (aE vW p.2 (i:Int))=t;intro hm hsr hbs;have hk:ME 3=50+16*(50+16*50):=rfl;have hle:=cD (ME 3) hm.b;rw[hk]at hle;have hll:l! t.2.2.1=2:=by rw[hm.l];rfl
 refine ay (Vg (nT:=l! p.2) (ss:=w.2.2.2.2.2) (t:=(i:Int)) 3 M _ _ [] (by have:=hm.b;omega) hm.s ⟨hw.x.c,hw.x.l,hw.x.d,hw.x.f,hw.t,hm.l⟩ hsr (by rw[hk,jB];omega)) λy hy=>bI b8 ?_
 let⟨g2,o2⟩:=y;let⟨q1,q2,q3⟩:=hy;dsimp only at q1 q2 q3;have q4:=q2.u;rw[hk,jB]at q4;refine ay (Nu _ _ o2 M) λy hy=>bI b8 ?_
 let⟨g3,A⟩:=y;let⟨hg3,ho3⟩:=hy;dsimp only at hg3 ho3;have hL:aZ (ah g3.2.2.2.2.2.2.1)=2:=by
  rw[hg3];show aZ (ah g2.2.2.2.2.2.2.1)=2;rw[q1.h];show aZ (ah t.2.2.1)=2;rw[hll];rfl
 have l3:l! A=l! o2+1:=by rw[ho3,aQ];rfl
 have l31:l! A-1=l! o2:=M;have iq:∀q:Nat,q<l! o2->iA A q=iA o2 q:=λq I=>by rw[ho3,Od I]
 have iend:iA A (l! o2)=(28,0,0,0,0,-1):=by rw[ho3,Bk]
 have hreg:∀q:Nat,q<l! A->∀j:Int,j∈kr (iA A q)->0<=j/\j<32:=λq I j hj=>by
  by_cases h:q<l! o2;rw[iq q h]at hj;exact (q2.i q (fE _) h).o.r j hj;rw[show q=l! o2 by omega,iend]at hj;simp[kr]at hj
 dsimp only;rw[hL];refine bX (l! A) (λk x=>∃rg:Int,x=((k:Int),p,w,g3,rg,cs,A)/\2<=rg/\rg<=32/\∀q:Nat,q<k->∀j:Int,j∈kr (iA A q)->j<rg) ?_ ?_ ⟨2,rfl,M,M,λq I=>M⟩;rintro k x hk2 ⟨rg,rfl,r0,r1,r2⟩;refine cV ?_;dsimp only;refine bK (bK (aX (aV (wK _) ?_)));have hrk:=hreg k hk2;have hrl:=Ho (iA A k);revert hrk hrl;generalize hins:(aE tV A (k:Int))=ins;rw[show iA A k=ins from hins];intro hrk hrl;refine bX (l! (kr ins)) (λj x=>∃rg':Int,x=((j:Int),p,w,g3,rg',cs,A)/\rg<=rg'/\rg'<=32/\∀q:Nat,q<j->rg'>aE aO (kr ins) (q:Int)) ?_ ?_ ⟨rg,rfl,cU _,r1,λq I=>M⟩;rintro j x hj ⟨rg',rfl,s0,s1,s2⟩;refine cV ?_;refine bK (aX (ak ?_));have hz:=hrk _ (be (T:=aO) (xs:=kr ins) (j:=(j:Int)) M M);dsimp only;obtain⟨z,hzj⟩:∃z:Int,aE aO (kr ins) (j:Int)=z:=⟨_,rfl⟩
 rw[hzj]at hz ⊢;have hz0:(0:Int)<=z:=hz.1;have hz1:(32:Int)>z:=hz.2;rw[iC,iF (n:=z+1) M M];have him:rg'<=mJ rg' (z+1)/\z+1<=mJ rg' (z+1)/\mJ rg' (z+1)<=32:=by
  unfold mJ;split;rename_i h;have h:=uM.1 h;omega;rename_i h;have h:=jJ.1 (Ue.2 h);omega
 refine ⟨_,rfl,M,him.2.2,λq I=>?_⟩;rcases co q j with h1|h1;have:=s2 q h1;omega;rw[show q=j by omega,hzj];exact Int.lt_of_lt_of_le (show z<z+1 by omega) him.2.1;rintro x ⟨rg',rfl,s0,s1,s2⟩;refine cK (ak ?_);refine ⟨rg',by dsimp only;rw[iC],M,s1,λq I j hj=>?_⟩;rcases co q k with h1|h1;have:=r2 q h1 j hj;omega;rw[show q=k by omega,show iA A k=ins from hins]at hj;exact ij (T:=aO) (p:=λc=>rg'>c) s2 j hj;rintro x ⟨rg,rfl,r0,r1,r2⟩;refine cK (Xf (a! (Xe (ak ?_))));dsimp only;have q3':(g2.2.2.2.2.2.2.2.2:Int)=(bsN p i:Nat)+(py 3 t.2.2.2:Nat):=q3;refine ⟨by rw[q3',hbs];omega,iC,rfl,rfl,ye,λj hj=>?_⟩;rcases co j i with h1|h1;rw[OF (T:=AC) (by rw[e4];exact h1)];exact e5 j h1;rw[show j=i by omega,OE (T:=AC) (by rw[e4];omega),e4,Nat.sub_self];refine ⟨show (1:Int)<=rg by omega,r1,show 1<=l! A by omega,show (l! A)<=1000000 by omega,?_,?_,?_,?_,λq I j hj=>r2 q (show q<l! A by have I:q<l! A-1:=I;omega) j hj⟩;show (iA A (l! A-1)).1=28/\(iA A (l! A-1)).2.2.2.2.2= -1;rw[l31,iend];exact⟨rfl,rfl⟩;show tQ A 0 (l! A-1);rw[l31];exact q2.b.congr λq _ I=>iq q I
 show ∀q:Nat,q<l! A-1->GI (l! p.2) w.2.2.2.2.2 (i:Int) (iA A q);rw[l31];exact λq I=>by rw[iq q I];exact q2.i q (fE _) I
 show ∀q:Nat,q<l! A-1->(iA A q).1=10->0<=(iA A q).2.2.1/\(iA A q).2.2.1<(l! A:Int)
 rw[l31];intro q I h10;rw[iq q I]at h10 ⊢;have:=q2.r q (fE _) I h10;omega;rintro⟨⟨a,b⟩,p2,w2,cs⟩ ⟨e0,e1,e2,e3,e4,e5⟩;dsimp only at e0 e1 e2 e3 e4 e5;subst e1 e2 e3;refine cK (ak ?_);have hgc:∀t∈cs,∃k:Nat,GC p2.2.length w2.2.2.2.2.2 (k:Int) t:=ij (T:=AC) λk hk=>⟨k,e5 k M⟩
 refine ⟨lX,λt ht=>?_,λt ht=>?_,hw.x,ae7 hw.x ?_ ?_,λt ht=>?_⟩;let⟨k,hk⟩:=hgc t ht;exact hk.u;let⟨k,hk⟩:=hgc t ht;exact hk.r0;dsimp only;rw[e4,hwT];dsimp only;rw[e4];exact e5;let⟨k,hk⟩:=hgc t ht;refine ij (T:=tV) (p:=λi=>i.1=1->IW i.2.2.2.2.1) λq I h1=>?_
 rcases co q (l! t.2-1) with g|g;exact (hk.i q g).o.b.cn h1;have h28:=hk.e.1;rw[show (l! t.2)-1=q by omega]at h28;exact bi (h28.symm.trans h1) cr
def Q7 (a b:η) (ha:l! a<=9223372036854775807) (A:∀z∈a,0<=z/\z<=255) (hb:l! b<=1000000):Ok (yk (a,b)) TR:=by
 refine ay (P:=CB) ?_ λc I=>ay (aeg b hb) λl hl=>ay (aA7 c l I M) λy q=>ak q
 unfold Bb;exact ay (L9 a ha A) λp hp=>ay (Wb p hp.1 hp.2) λy q=>ak q
def HS.zero (w:zG):HS:=⟨aA (l! w.2.2.2.2.1) [],aA (l! w.2.2.2.2.1) [],aA (l! w.2.1) [],aA (l! w.2.1) [],aA (l! w.1) [],aA (l! w.2.2.2.1) [],[],aA (l! w.2.2.2.2.1) [],aA (l! w.2.2.2.2.1) (-1)⟩
def HS.zero_ok {w:zG} (h1:l! w.1<=1000) (h2:l! w.2.1<=1000) (A:l! w.2.2.2.1<=1000) (q:l! w.2.2.2.2.1<=1000):HOK 0 (HS.zero w):=by
 have z:(0:Int)<=0:=M;exact⟨z,M,FP.repl z _,FP.repl z _,FP.repl z _,FP.repl z _,FP.repl z _,FP.repl z _,En.nil z,FP.repl z _,by simpa[HS.zero] using q,by simp[HS.zero],by simp[HS.zero],by simp[HS.zero],by simpa[HS.zero] using h2,by simp[HS.zero],by simpa[HS.zero] using h1,by simpa[HS.zero] using A⟩
structure Fit (w:zG) (h:HS):Prop where
 T:l! h.T=l! w.2.2.2.2.1
 L:l! h.L=l! w.2.1
 C:l! h.C=l! w.1
 F:l! h.F=l! w.2.2.2.1
def Fit.zero (w:zG):Fit w (HS.zero w):=⟨by simp[HS.zero],by simp[HS.zero],by simp[HS.zero],by simp[HS.zero]⟩
def Fit.ent {w:zG} {h:HS} (f:Fit w h) (e:EV) (x:η):Fit w (lK w h e x):=by
 let⟨a,b,c,d,g,i,j,k⟩:=K3 w h e x;exact⟨a.trans f.T,c.trans f.L,g.trans f.C,i.trans f.F⟩
def Fit.step {w:zG} {h:HS} (f:Fit w h) (e:EV):Fit w (Wy w h e).1:=f.ent e _
def evP (e:ET):EV:=⟨e.1.toNat,e.2.1.toNat,e.2.2.1.toNat,e.2.2.2.1⟩
def aDa {w:WT} {e:ET} (f:EvF w e):EvT (evP e) e:=by
 obtain⟨⟨k1,k2,ce,A,cd,th,fu⟩,q,_,_⟩:=f;refine ⟨(zE q).symm,(zE M).symm,λh=>(zE ?_).symm,rfl⟩;unfold evP at h;simp[bc,cA,fM]at h;by_cases h1:e.2.1=3\/e.2.1=4;exact (ce h1).1;by_cases h2:6<=e.2.1/\e.2.1<=11;exact (A h2).1;by_cases h3:16<=e.2.1/\e.2.1<=19;exact (cd h3).1;by_cases h4:e.2.1=20\/e.2.1=21;exact (th h4).1;by_cases I:e.2.1=22\/e.2.1=23;exact (fu I).1;omega
def aog {w:WT} {e:ET} (f:EvF w e) (wb:WB w) {h:HS} (A:Fit w h):EOK w h (evP e):=by
 obtain⟨⟨k1,k2,ce,lk,cd,th,fu⟩,t0,t1,I⟩:=f;have b5:=wb.t;have f1:=A.T;have f2:=A.L;have f3:=A.C;have f4:=A.F;unfold evP;refine ⟨lX,lX,lX,lX,λq=>?_,λq=>?_,λq=>?_,λq=>cf,λq=>?_⟩<;>dsimp only at q ⊢;omega;omega;have g:=cd M;have hl:e.2.2.1.toNat<l! w.2.2.1:=M;have hm:=I (w.2.2.1.getD e.2.2.1.toNat ([],0)) cf;unfold UQ;omega;omega
def Ej (a b:Int):gp (a,b)=Z (decide (0<=a/\a<b)):=by
 refine bZ ?_;unfold gp jO aJ;with_reducible repeat' first|apply OS.ok;constructor|refine IM.mk λ_=>?_
 by_cases h:a<b<;>simp[*,hY];simp;omega
def D' (l:η) (t:Int) (I:l! l<=1000):fZ (l,t)=Z (l.contains t):=by
 refine bZ ?_;unfold fZ kF xD bp bO bM a8 cW aJ cH;refine ay (P:=λy:Int=>0<=y↔t∈l) ?_ λy q=>ak ?_
 refine kz (l! l) M (λi x=>x=(i:Int)/\∀j,j<i->¬l.getD j 0=t) ?_ ?_ ⟨rfl,λj hj=>M⟩;rintro i x hi ⟨rfl,A⟩;refine cV ?_;refine bK (aX (aN (λh=>ak ?_) λh=>ak ?_));refine ⟨λ_=>?_,λ_=>M⟩;have h:t=aE aO l (i:Int):=h;rw[h];exact be (T:=aO) (xs:=l) M M;refine ⟨iC,λj hj=>?_⟩;have h:¬t=l.getD i 0:=h
 grind
 rintro x ⟨rfl,A⟩;refine cK (ak ?_);refine ⟨λg=>M,λg=>?_⟩;let⟨j,hj,e⟩:=zB g
 grind
 by_cases h:t∈l;have:=q.2 h;simp[cN,h,this];have:¬0<=y:=λg=>h (q.1 g)
 simp[cN,h,this]
def axi (w:WT) (s:SY) (A:l! w.2.2.1<=1000) (q:∀c∈w.2.2.1,0<=c.2/\c.2<l! w.2.1) (e1:l! s.1=l! w.2.1) (e2:l! s.2.2.1=l! w.2.2.2.1) (I:l! s.2.2.2=l! w.2.2.2.2.1):j7 (w,s)=Z J:=by
 refine bZ ?_;unfold j7 tC bf bB bN dD bO jP bM a8 cW aJ cH;refine a6 (λx=>x=(af,w)) ?_ ?_;refine bY (λh=>(h cf).elim) λ_=>bY (λh=>(h cf).elim) λ_=>ak ?_
 grind
 rintro x rfl;refine ia (kz (l! w.2.2.1) M (λi x=>x=((i:Int),w)) ?_ ?_ rfl);rintro i x hi rfl;refine cV ?_;refine bK (aX (aV (Ej _ _) (bY (λh=>(h (q _ (be (T:=itK) (xs:=w.2.2.1) (j:=(i:Int)) M M))).elim) λ_=>ak ?_)));rw[iC];rintro x rfl;exact cK (ak rfl)
def apq (w:WT) (k o:Int) (h:NM w k o):kE (w,k,o)=Z J:=by
 refine bZ ?_;let⟨k1,k2,ce,A,cn,th,I,no,q,rw_⟩:=h;unfold kE bf bB bN cM bp bM a8 aJ;cases kdI k
 case no hk _=>omega
 all_goals simp only[bP,dP,QP,Ej]
 all_goals with_reducible repeat' first|apply OS.ok;constructor|refine IM.mk λ_=>?_
 all_goals try simp[ax,sN] at*
 all_goals first|omega|exact rw_ ⟨cr,cr⟩|(simp [*,Bool.not_false,eY];done)
def ay5 (w:WT) (s:SY) (hs:SB i s) (hn:i<=1000) (t k o:Int) (he:EN w s t k o) (hr:FO w s t k o):mf (w,s,t,k,o)=Z J:=by
 refine bZ ?_;let⟨nm,I,t1,cd,e1,e2,e3⟩:=id he;let⟨_,_,ce,lk,cn,th,fu,no,mu,rw_⟩:=nm;let⟨_,_,_,q,wr,ra,rl,rr,xb,xe,ab,ae,nt,sp,jo,se,ge⟩:=hr;have hm:16<=k/\k<=19->0<=(aE itK w.2.2.1 o).2/\(aE itK w.2.2.1 o).2<l! w.2.1:=λh=>cd _ (be (cn h).1 (cn h).2)
 have hH:6<=k/\k<=11->fZ ((aE dU s.1 o).2,t)=Z ((aE dU s.1 o).2.contains t):=λh=>D' _ _ (by
  have:=hs.rd _ (be (T:=dU) (lk h).1 cf);omega)
 have lk1:6<=k/\k<=11->0<=o/\o<(l! s.1:Int):=λh=>cf
 have A:t<(l! s.2.2.2:Int):=M;have fu1:k=22\/k=23->0<=o/\o<(l! s.2.2.1:Int):=λh=>by have:=fu h;omega
 have th1:k=20\/k=21->0<=o/\o<(l! s.2.2.2:Int):=λh=>by have:=th h;omega
 have tr:∀{p:Prop} [Decidable p],p->decide p=J:=λh=>aP h
 unfold mf bf bB bN dD dh bp jP bM a8 aJ;refine aN (λh=>?_) λn6=>?_
 have h:k=6:=h;exact aS (lk1 M).1 (lk1 M).2 (aX (ak (tr (q (.inl h)))));refine aN (λh=>?_) λn10=>?_
 have h:k=10:=h;refine h_ (aS (lk1 M).1 (lk1 M).2 (aX (aN (λ_=>?_) λg=>(g (q (.inr (.inr h)))).elim)));refine aS (lk1 M).1 (lk1 M).2 (aX (ak (ak (tr ?_))))
 grind
 refine aN (λh=>?_) λn8=>?_
 have h:k=8:=h;refine h_ (aS (lk1 M).1 (lk1 M).2 (aX (aN (λ_=>?_) λg=>(g (q (.inr (.inl h)))).elim)));refine aS (lk1 M).1 (lk1 M).2 (aX (aV (hH M) (ak (ak ?_))));rw[ra h];rfl;refine a6 (λx=>x.2=(w,s)/\(x.1=J↔k=7\/k=11)) (aN (λh=>ak ⟨rfl,λ_=>.inl h,λ_=>tr h⟩) λh=>ak ⟨rfl,λh2=>.inr (a_ h2),λh2=>tr (h2.resolve_left h)⟩) ?_;rintro⟨b,x⟩ ⟨e,hb⟩;dsimp only at e hb;subst e;refine aR (λh=>?_) λ_=>?_
 have h:=hb.1 h;exact aS (lk1 M).1 (lk1 M).2 (aX (ak (tr (rl h))));refine aN (λh=>?_) λn9=>?_
 have h:k=9:=h;refine aS (lk1 M).1 (lk1 M).2 (aX (aV (hH M) (ak (rr h))));refine aN (λh=>ak (tr (xb h))) λ_=>aN (λh=>ak (tr (xe h))) λ_=>?_
 refine aN (λh=>aS I A (aX (ak cf))) λ_=>aN (λh=>aS I A (aX (ak (ae h)))) λ_=>?_
 refine a6 (λx=>x.2=(w,s)/\(x.1=J->k=16\/k=18\/k=19)) (aN (λh=>ak ⟨rfl,λ_=>.inl h⟩) λ_=>aN (λh=>ak ⟨rfl,λ_=>.inr (.inl h)⟩) λ_=>ak ⟨rfl,λh=>.inr (.inr (a_ h))⟩) ?_;rintro⟨c,x⟩ ⟨e,hc⟩;dsimp only at e hc;subst e;refine aR (λh=>?_) λ_=>?_
 have h:=hc h;have hq:=hm M;exact aS (cn M).1 (cn M).2 (aX (aS hq.1 cf (aX (ak (tr (nt h))))));refine aN (λh=>?_) λ_=>?_
 have h:k=20:=h;exact h_ (bY (λ_=>aS (th1 (.inl h)).1 (th1 (.inl h)).2 (aX (ak (ak (tr (sp h).2))))) λg=>((sp h).1 g).elim);refine aN (λh=>?_) λ_=>?_
 have h:k=21:=h;exact h_ (bY (λ_=>aS (th1 (.inr h)).1 (th1 (.inr h)).2 (aX (ak (ak (tr (jo h).2))))) λg=>((jo h).1 g).elim);refine aN (λh=>aS (fu1 (.inl h)).1 (fu1 (.inl h)).2 (aX (ak cf))) λ_=>aN (λh=>aS (fu1 (.inr h)).1 (fu1 (.inr h)).2 (aX (ak (ge h)))) λ_=>ak rfl
def AE (w:WT) (s:SY) (hs:SB i s) (hn:i<=1000) (hw:l! w.2.2.1<=1000) (t k o:Int) (he:EN w s t k o) (q:FO w s t k o):gq (w,s,t,k,o)=Z J:=by
 refine bZ ?_;let⟨nm,I,t1,cd,e1,e2,e3⟩:=id he;have hrd:=ay5 w s hs hn t k o he q;have t2:t<(l! s.2.2.2:Int):=M;refine a6 (λx=>x=(af,w,s)) ?_ ?_;refine aV (axi w s hw cd e1 e2 e3) (gJ rfl (aV (Ej _ _) ?_));refine bY (λh=>(h ⟨I,t1⟩).elim) λ_=>aV (apq w k o nm) (ak rfl)
 rintro x rfl;refine ia (aS I t2 (aX ?_));refine aN (λh=>ak (aP (q.b h))) λn1=>?_
 refine aN (λh=>?_) λA=>?_
 have h:k=17:=h;let⟨a1,a2,a3⟩:=q.wk h;let⟨c0,c1⟩:=nm.cd M;have hq:=cd _ (be (T:=itK) (xs:=w.2.2.1) (j:=o) c0 c1);refine h_ (aN (λ_=>aN (λ_=>?_) λg=>(g a2).elim) λg=>(g a1).elim);exact aS c0 c1 (aX (aS hq.1 cf (aX (ak (ak (aP a3))))));refine h_ (aN (λ_=>aV hrd (ak (ak rfl))) λg=>(g (q.r n1 A)).elim)
def arz (w:WT) (e:ET) (h1:e.2.1=1\/e.2.1=2->e.2.2.2.2.1= -1) (h2:¬(e.2.1=1\/e.2.1=2)->0<=e.2.2.2.2.1/\e.2.2.2.2.1<l! w.2.2.2.2.2/\(aE rZ w.2.2.2.2.2 e.2.2.2.2.1).1=e.1):nh (w,e)=Z J:=by
 refine bZ ?_;refine a6 (λx=>x.2=(w,e)/\(x.1=J↔e.2.1=1\/e.2.1=2)) (aN (λh=>ak ⟨rfl,λ_=>.inl h,λ_=>rfl⟩) λh=>ak ⟨rfl,λh2=>.inr (a_ h2),λh2=>aP (h2.resolve_left h)⟩) ?_;rintro⟨b,x⟩ ⟨e1,q⟩;subst e1;refine aR (λh=>ak (aP (h1 (q.1 h)))) λh=>?_
 let⟨a1,I,A⟩:=h2 λg=>cf
 exact h_ (eX (λ_=>cV (aS a1 I (aX (ak (ak (aP A)))))) λg=>cf)
def apj (h:LX c) (i:Nat) (hi:i<l! c):∀z∈c.drop (i+1),c.getD i 0<z:=by
 induction c generalizing i with
 |nil=>cases hi
 |cons a c q=>
  cases i with
  |zero=>exact λz A=>h.1 z cf
  |succ i=>exact q h.2 i cf
def Yy (w:WT) (s:SN) (e:ET) (I:e.2.1=3\/e.2.1=4->0<=e.2.2.1/\e.2.2.1<l! w.1) (de:0<l! e.2.2.2.2.2.1->e.2.1=5\/(e.2.1=3\/e.2.1=4)/\¬(aE mS w.1 e.2.2.1).2.2.1=0) (fr:0<l! e.2.2.2.2.2.2->e.2.1=4\/e.2.1=22) (t0:0<=e.1) (t1:e.1<l! s.2.2.2) (nd:AN (aE aO s.2.2.2 e.1) e.2.2.2.2.2.1) (nf:AN (aE aO s.2.2.2 e.1) e.2.2.2.2.2.2) (ld:l! e.2.2.2.2.2.1<=1000000) (lf:l! e.2.2.2.2.2.2<=1000000):gZ (w,s,e)=Z J:=by
 refine bZ ?_;refine a6 (λx=>x.2=(s,e)/\((e.2.1=3\/e.2.1=4)/\¬(aE mS w.1 e.2.2.1).2.2.1=0->x.1=J)) ?_ ?_;exact aN (λh=>aS (I (.inl h)).1 (I (.inl h)).2 (aX (ak ⟨rfl,λg=>by simpa using g.2⟩))) λn3=>aN (λh=>aS (I (.inr h)).1 (I (.inr h)).2 (aX (ak ⟨rfl,λg=>by simpa using g.2⟩))) λn4=>ak ⟨rfl,λg=>(g.1.elim n3 n4).elim⟩
 rintro⟨b,x⟩ ⟨e1,hb⟩;dsimp only at e1 hb;subst e1;refine a6 (λx=>x.1=s/\x.2.1=e/\(0<l! e.2.2.2.2.2.1->x.2.2.1=J)/\(0<l! e.2.2.2.2.2.2->x.2.2.2=J)) ?_ ?_;exact aN (λh5=>aN (λh4=>ak ⟨rfl,rfl,λ_=>rfl,λ_=>rfl⟩) λh4=>ak ⟨rfl,rfl,λ_=>rfl,λg=>cf⟩) λh5=>aN (λh4=>ak ⟨rfl,rfl,λg=>cf,λ_=>rfl⟩) λh4=>ak ⟨rfl,rfl,λg=>cf,λg=>cf⟩
 rintro⟨s',e',a,b'⟩ ⟨e1,e2,h1,h2⟩;dsimp only at e1 e2 h1 h2;subst e1 e2;have key:∀(r:η),l! r<=1000000->AN (aE aO s'.2.2.2 e'.1) r->∀j:Nat,j<l! r->∀z∈r.drop (j+1),aE aO r (j:Int)<z:=λr _ h j hj z hz=>apj h.a j hj z hz
 refine kz 2 M (λi x=>x=((i:Int),s',e',a,b')) ?_ ?_ rfl;rintro i x hi rfl;refine cV ?_;refine cq (fB b8 (rf M (aX ?_)));have hr:∃r:η,aE (.sl (.int .i64)) [e'.2.2.2.2.2.1,e'.2.2.2.2.2.2] (i:Int)=r/\AN (aE aO s'.2.2.2 e'.1) r/\l! r<=1000000/\(0<l! r->aE (.bool) [a,b'] (i:Int)=J):=by
  match i,hi with
  |0,_=>exact⟨_,rfl,nd,ld,h1⟩
  |1,_=>exact⟨_,rfl,nf,lf,h2⟩
 let⟨r,er,hA,hl,hb'⟩:=hr;have er':aE (.sl aO) [e'.2.2.2.2.2.1,e'.2.2.2.2.2.2] (i:Int)=r:=er;dsimp only at er' ⊢;rw[er'];refine a6 (λx=>x=(af,s',e',a,b')) ?_ ?_;refine bF (λg=>?_) λ_=>ak rfl
 have g':0<l! r:=cf;refine cq (a? (rf M (bK (aX (ak ?_)))));rw[hb' g'];rfl;rintro x rfl;refine ia ?_;refine kz (l! r) M (λj x=>x.1.2=(j:Int)/\x.2=(s',e',a,b')/\∀z∈r.drop j,x.1.1<z) ?_ ?_ ⟨rfl,rfl,λz hz=>?_⟩;rintro j ⟨⟨la,ix⟩,x⟩ hj ⟨A,q,g3⟩;dsimp only at A q g3;subst A q;have m:aE aO r (j:Int)∈r:=be (T:=aO) (xs:=r) M M;have m2:aE aO r (j:Int)∈r.drop j:=by
  have:aE aO r (j:Int)=r[j]:=by
   show r.getD j 0=_
   grind
  rw[this,List.drop_eq_getElem_cons hj];exact bU
 refine cV ?_;refine bK (aX (a6 (λx=>x=(af,s',e',a,b')) ?_ ?_));refine eX (λg=>cf) λ_=>aS t0 t1 (aX (ak ?_))
 have:=(hA.m _ m).2;rw[jK.2 (show aE aO r (j:Int)<aE aO s'.2.2.2 e'.1 from this)];rintro x rfl;exact ia (ak ⟨iC,rfl,key r hl hA j hj⟩);rintro⟨⟨la,ix⟩,x⟩ ⟨A,q,_⟩;dsimp only at A q;subst A q;exact cK (ak (eZ (·,s',e',a,b') iC));have:=(hA.m z cf).1;dsimp only;omega;rintro x rfl;exact cK (ak rfl)
def aD5 (w:WT) (s:SN) (q:l! w.2.2.1<=1000) (t k o:Int) (he:EN w s.1 t k o) (hf:F16 w s):mB (w,s)=Z J:=by
 let⟨_,_,_,I,e1,e2,A⟩:=he;let⟨f1,f2,f3⟩:=hf;refine bZ ?_;unfold mB bf bB bN dD bp a8 aJ;refine h_ (aV (axi w s.1 q I e1 e2 A) (afm (aN (λ_=>aN (λ_=>ak (ak (aP ?_))) λg=>(g ?_).elim) λg=>(g ?_).elim)));all_goals dsimp [ax];omega
def G_ (th:Y c!) (c:Int) (i:Nat):wl th c (i+1)=if FX c (aE iH th (i:Int)) then wl th c i++[(i:Int)] else wl th c i:=rfl
def ar8 (w:WT) (s:SN) (hs:SB i s.1) (e:ET) (hf:F16 w s) (he:EN w s.1 e.1 e.2.1 e.2.2.1) (va:VA w s.1 s.2.1 s.2.2.1 e.1 e.2.1 e.2.2.1 e.2.2.2.1):iG (s,e)=Z J:=by
 refine bZ ?_;let⟨t,k,o,v,si,de,fr⟩:=e;let⟨q,s2,s3,s4⟩:=s;let⟨nm,t0,t1,cd,e1,e2,e3⟩:=he;let⟨_,_,ce,lk,cn,th,fu,_,_,_⟩:=nm;let⟨f1,f2,f3⟩:=hf;have hth:=hs.th;let⟨v3,v23,v5,vel⟩:=va;dsimp only at*
 unfold iG nC bf bB bN cM cg bp bO bM a8 cW aJ cH;refine aN (λh=>?_) λn3=>?_
 have h:k=3:=h;let⟨c0,c1⟩:=ce (.inl h);exact aS c0 (by rw[f1];exact c1) (aX (ak (aP (v3 h))));refine aN (λh=>?_) λn23=>?_
 have h:k=23:=h;let⟨c0,c1⟩:=fu (.inr h);exact aS c0 (by rw[f2];exact c1) (aX (ak (aP (v23 h))));refine aN (λh=>?_) λn5=>?_
 have h:k=5:=h;exact h_ (aN (λ_=>ak (ak rfl)) λg=>ak (ak (aP ((v5 h).resolve_left g))));refine a6 (λx=>x.2=((q,s2,s3,s4),t,k,o,v,si,de,fr)/\(x.1=af->¬k=4/\¬k=22)) (aN (λh=>ak ⟨rfl,λh2=>(by rw[aP h]at h2;cases h2)⟩) λh=>ak ⟨rfl,λh2=>⟨h,m8 h2⟩⟩) ?_;rintro⟨b,x⟩ ⟨e,hb⟩;dsimp only at e hb;subst e;refine aR (λh=>ak rfl) λh=>?_
 let⟨n4,n22⟩:=hb h;have vel:=vel n3 n23 n5 n4 n22;have hWl:=vH q.2.2.2 o (l! q.2.2.2);refine aN (λh=>?_) λn18=>?_
 have h:k=18:=h;subst h;rw[D7]at vel;refine kz (l! q.2.2.2) M (λn x=>x.1.2.2=(n:Int)/\x.2=(t,18,o,v,si,de,fr)/\x.1.1=(l! (wl q.2.2.2 o n):Int)/\(x.1.2.1=J↔v∈wl q.2.2.2 o n)) ?_ ?_ ⟨rfl,rfl,rfl,by simp[wl]⟩;rintro n ⟨⟨c,hit,ix⟩,x⟩ hi ⟨I,A,g3,g4⟩;dsimp only at I A g3 g4;subst I A g3;have hl:=vH q.2.2.2 o n;refine cV ?_;refine a6 (λx=>x.2=(t,18,o,v,si,de,fr)/\x.1.1=(l! (wl q.2.2.2 o (n+1)):Int)/\(x.1.2=J↔v∈wl q.2.2.2 o (n+1))) ?_ ?_;refine bK (aX (a6 (λx=>x=(FX o (aE iH q.2.2.2 (n:Int)),t,18,o,v,si,de,fr)) ?_ ?_));unfold FX;refine aN (λh=>ak ?_) λh=>ak ?_
 dsimp only at h ⊢;rw[h];rfl;dsimp only at h ⊢;rw[bE h];rfl;rintro x rfl;rw[G_];dsimp only;cases hw:FX o (aE iH q.2.2.2 (n:Int)) with
 |true=>
  refine afm (aR (λh=>ak ⟨rfl,?_,?_⟩) λh=>ak ⟨rfl,?_,?_⟩);dsimp only;rw[iC];simp;simp[g4.1 h];dsimp only;rw[iC];simp;have:¬v∈wl q.2.2.2 o n:=λg=>by rw[g4.2 g]at h;cases h
  simp[this]
 |false=>exact ia (ak ⟨rfl,rfl,g4⟩)
 rintro⟨⟨c,hit'⟩,x⟩ ⟨I,A,g3⟩;dsimp only at I A g3;subst I A;exact ak ⟨iC,rfl,rfl,g3⟩;rintro⟨⟨c,hit,ix⟩,x⟩ ⟨I,A,g3,g4⟩;dsimp only at I A g3 g4;subst I A g3;refine cK (ay (P:=λy=>y=J) (h_ (aR (λ_=>ak (ak rfl)) λh=>?_)) λy hy=>ak hy);have hn:¬v∈wl q.2.2.2 o (l! q.2.2.2):=λg=>by rw[g4.2 g]at h;cases h
 by_cases h0:l! (wl q.2.2.2 o (l! q.2.2.2))=0;rw[aD h0]at vel;refine aN (λ_=>ak (ak (aP vel))) λg=>(g lX).elim
 rw[av h0]at vel;have vel:v=CJ (wl q.2.2.2 o (l! q.2.2.2)) v:=vel;exact (hn (vel▸BH v h0)).elim;refine aN (λh=>?_) λn19=>?_
 have h:k=19:=h;subst h;rw[apo]at vel;refine kz (l! q.2.2.2) M (λn x=>x.1.2=(n:Int)/\x.2=(t,19,o,v,si,de,fr)/\x.1.1=(l! (wl q.2.2.2 o n):Int)) ?_ ?_ ⟨rfl,rfl,rfl⟩;rintro n ⟨⟨c,ix⟩,x⟩ hi ⟨I,A,g3⟩;dsimp only at I A g3;subst I A g3;have hl:=vH q.2.2.2 o n;refine cV ?_;refine a6 (λx=>x.2=(t,19,o,v,si,de,fr)/\x.1=(l! (wl q.2.2.2 o (n+1)):Int)) ?_ ?_;refine bK (aX (a6 (λx=>x=(FX o (aE iH q.2.2.2 (n:Int)),t,19,o,v,si,de,fr)) ?_ ?_));unfold FX;refine aN (λh=>ak ?_) λh=>ak ?_
 dsimp only at h ⊢;rw[h];rfl;dsimp only at h ⊢;rw[bE h];rfl;rintro x rfl;rw[G_];dsimp only;cases hw:FX o (aE iH q.2.2.2 (n:Int)) with
 |true=>
  refine afm (ak ⟨rfl,?_⟩);dsimp only;rw[iC];simp
 |false=>exact ia (ak ⟨rfl,rfl⟩)
 rintro⟨c,x⟩ ⟨I,A⟩;dsimp only at I A;subst I A;exact ak ⟨iC,rfl,rfl⟩;rintro⟨⟨c,ix⟩,x⟩ ⟨I,A,g3⟩;dsimp only at I A g3;subst I A g3;exact cK (ak (aP vel));exact ak (aP (by rw[apm _ _ _ _ _ _ n18 n19]at vel;exact vel))
def alc (x:c!) (c:Int):og (x,c)=Z (FX c x):=by
 refine bZ ?_;unfold og FX bp aJ;exact h_ (aN (λh=>ak (ak cf)) λh=>ak (ak cf))
def aoy (s:SY) (A:SB i s):mg s=Z (s.2.1,s.1,s.2.2.1,s.2.2.2):=by
 refine bZ ?_;let⟨q,s2,s3,I⟩:=s;have hn:=A.n1;have hlk:=A.lk;have hdn:=A.dn;have hth:=A.th;have hrd:=A.rd;dsimp only at hlk hdn hth hrd;unfold mg uO bf cg ck bO bT bM a8 cW cH;dsimp [ax];refine cq (cq (a? (a? (a! ?_))));refine kz (l! q) M (λn x=>∃c d,x=((n:Int),(q,s2,s3,I),c,d)/\l! d=l! q/\∀j,j<n->d.getD j (0,[])=q.getD j (0,[])) ?_ ?_ ⟨_,_,rfl,b8,λj hj=>M⟩;rintro n x hi ⟨c,d,rfl,hd,he⟩;have hr:=hrd _ (be (T:=dU) (xs:=q) (j:=(n:Int)) M M);refine cV ?_;refine bK (aX (aV (x:=(aE dU q (n:Int)).2) (bZ ?_) ?_));exact dB cf M (ak rfl);refine bK (bK (ak ⟨c,d.set n (aE dU q (n:Int)),?_,by simp[hd],λj hj=>?_⟩));rw[iC];rfl;by_cases e:n=j;subst e;rw[aC,List.getElem?_set_self M];rfl
 grind
 rintro x ⟨c,d,rfl,hd,he⟩;have:d=q:=by
  refine eQ hd λj g1 g2=>?_
  grind
 subst this;refine cK (ay (P:=λy=>y=(s2,d,s3,I)) ?_ λy hy=>ak hy);refine aV (x:=s3) (bZ (dB cf M (ak rfl))) (aV (x:=I) (bZ (dB cf M (ak rfl))) (ak rfl))
def ah5 (l:η) (i u:Int):CJ (l++[i]) u=if (l! l)=0 then i else if i=u then i else CJ l u:=by
 unfold CJ;cases l with
 |nil=>
  by_cases h:u=i;subst h;simp;simp[h];rfl
 |cons a r=>
  have e1:¬l! (a::r++[i])=0:=b8;have e2:¬l! (a::r)=0:=b8;by_cases h:i=u;subst h;simp;have h':¬u=i:=λg=>h g.symm
  rw[av h];have:(a::r++[i]).contains u=(a::r).contains u:=by simp[h']
  rw[this];rfl
def VW {u:Int} (h:¬l! (wl Q a i)=0):0<=CJ (wl Q a i) u/\CJ (wl Q a i) u<i:=by
 have:=oS.1 (BH u h);exact⟨this.1,this.2.1⟩
def P' {u:Int} (h:l! c=0):CJ c u= -1:=by unfold CJ;rw[aD h]
def as6 (s:SY) (o u:Int) (hs:l! s.2.2.2<=1000):lx ((s.2.1,o,u),s.1,s.2.2.1,s.2.2.2)=Z (CJ (wl s.2.2.2 o (l! s.2.2.2)) u,s.1,s.2.2.1,if (l! (wl s.2.2.2 o (l! s.2.2.2)))=0 then s.2.2.2 else xQ s.2.2.2 (CJ (wl s.2.2.2 o (l! s.2.2.2)) u) 4):=by
 refine bZ ?_;let⟨s1,s2,I,A⟩:=s;dsimp only at hs ⊢;unfold lx tB bf bB cg ck bO jO nI a8 cW aJ cH;refine kz (l! A) M (λi x=>x=((CJ (wl A o i) u,(i:Int)),s1,I,A,s2)) ?_ ?_ rfl;rintro i x hi rfl;refine cV ?_;refine a6 (λx=>x=(CJ (wl A o (i+1)) u,s1,I,A,s2)) ?_ ?_;refine bK (bK (aX ?_));refine a6 (λx=>x=(decide (FX o (aE iH A (i:Int))=J/\(l! (wl A o i)=0\/(i:Int)=u)),s1,I,A,s2)) ?_ ?_;refine aV (alc _ _) (aR (λh=>?_) λh=>ak cf);have h:FX o (aE iH A (i:Int))=J:=h;refine bF (λg=>ak ?_) λg=>ak ?_
 have:l! (wl A o i)=0:=yJ λq=>by have:=(VW (u:=u) q).1;dsimp only at g;omega
 simp[h,this];have:¬l! (wl A o i)=0:=λq=>by have:=P' (u:=u) q;dsimp only at g;omega
 simp[h,this];rintro x rfl;rw[G_];refine aN (λh=>ak ?_) λh=>ak ?_
 rw[aD h.1,ah5]
 grind
 by_cases g:FX o (aE iH A (i:Int))=J;rw[aD g,ah5,av λq=>h ⟨g,.inl q⟩,av λq=>h ⟨g,.inr q⟩];rw[av g];rintro x rfl;exact ak (by dsimp only;rw[iC]);rintro x rfl;refine cK (ay (P:=λy=>y=(CJ (wl A o (l! A)) u,s1,I,if (l! (wl A o (l! A)))=0 then A else xQ A (CJ (wl A o (l! A)) u) 4)) ?_ λy hy=>ak hy);refine a6 (λx=>x=(s1,I,if (l! (wl A o (l! A)))=0 then A else xQ A (CJ (wl A o (l! A)) u) 4)) ?_ ?_;refine eX (λg=>?_) λg=>ak ?_
 have h0:¬l! (wl A o (l! A))=0:=λq=>by have:=P' (u:=u) q;dsimp only at g;omega
 have hp:=VW (u:=u) h0;refine aS hp.1 hp.2 (aS hp.1 hp.2 (ak ?_));rw[av h0];rfl;have:l! (wl A o (l! A))=0:=yJ λq=>by have:=(VW (u:=u) q).1;dsimp only at g;omega
 rw[aD this];rintro x rfl;exact ak rfl
def asa (th:Y c!) (l:η) (i:Int):GY th (l++[i])=xQ (GY th l) i 4:=by unfold GY;rw[dG];rfl
def as9 (l:η):∀(th:Y c!) (j:Int),0<=j->(∀z∈l,0<=z/\z<l! th/\¬z=j)->aE iH (GY th l) j=aE iH th j:=by
 induction l with
 |nil=>intro th j _ _;rfl
 |cons x r I=>
  intro th j hj h;have A:=h x b8;refine (I (xQ th x 4) j hj λz hz=>?_).trans ?_;have:=h z cf;unfold xQ;rw[bu];exact this;unfold xQ;rw[jT (T:=iH) th x j _ A.1 A.2.1 hj,av λq=>A.2.2 q.symm]
def aak (s:SY) (o:Int) (hs:l! s.2.2.2<=1000):iT ((s.2.1,o),s.1,s.2.2.1,s.2.2.2)=Z ((l! (wl s.2.2.2 o (l! s.2.2.2)):Int),s.1,s.2.2.1,GY s.2.2.2 (wl s.2.2.2 o (l! s.2.2.2))):=by
 refine bZ ?_;let⟨s1,I,A,q⟩:=s;dsimp only at hs ⊢;unfold iT oD bf bB cg dD ck bO nI a8 cW aJ cH;refine kz (l! q) M (λi x=>x=(((l! (wl q o i):Int),(i:Int)),s1,A,GY q (wl q o i),I)) ?_ ?_ rfl;rintro i x hi rfl;have hl:=vH q o i;have hg:aE iH (GY q (wl q o i)) (i:Int)=aE iH q (i:Int):=as9 _ _ _ M λz hz=>by have:=oS.1 hz;exact⟨this.1,M,M⟩
 have hq:=Es (wl q o i) q;refine cV ?_;refine a6 (λx=>x=((l! (wl q o (i+1)):Int),s1,A,GY q (wl q o (i+1)),I)) ?_ ?_;refine bK (bK (aX (aV (alc _ _) ?_)));rw[G_];refine aR (λh=>?_) λh=>ak cf
 have h:FX o (aE iH q (i:Int))=J:=hg▸h;refine bK (bK (ak ?_));rw[aD h,asa];rw[iC];simp[aQ,gQ,jB];rfl;rintro x rfl;exact ak (by dsimp only;rw[iC]);rintro x rfl;exact cK (ak rfl)
def avs (w:WT) (s:SY) (q:SB i s) (hn:i<=1000) (hw:l! w.2.2.1<=1000) (t k o u:Int) (he:EN w s t k o) (hr:FO w s t k o) (I:¬k=8) (A:¬k=9):iU (w,s,t,k,o,u)=Z ((ku w s t k o u).1,(ku w s t k o u).2,J):=by
 refine bZ ?_;unfold iU bf bB bN cM gE cg dD dh iD sL ck bp bT bM nI aJ;refine aV (AE w s q hn hw t k o he hr) (gJ rfl (aV (aoy s q) ?_));suffices hmain:Ok _ _ from a6 (λx=>((x.2.2.2.1,x.2.1,x.2.2.2.2),x.1)=ku w s t k o u) hmain λx hx=>ak (by rw[<- hx])
 obtain⟨nm,t0,t1,cd,e1,e2,e3⟩:=id he;obtain⟨_,_,ce,lk,cn,th,fu⟩:=nm;have hm:16<=k/\k<=19->0<=(aE itK w.2.2.1 o).2/\(aE itK w.2.2.1 o).2<l! w.2.1:=λh=>cd _ (be (cn h).1 (cn h).2)
 cases kdI k
 case no hk _=>omega
 all_goals first|exact (I rfl).elim|exact (A rfl).elim|skip
 all_goals simp only[bP,dP,QP]
 all_goals with_reducible repeat' first|apply OS.ok;constructor|refine IM.mk λ_=>?_
 all_goals try simp only[ax,sN] at*
 all_goals try rw[bu]
 all_goals first|omega|exact (hm ⟨cr,cr⟩).1|exact e1▸(hm ⟨cr,cr⟩).2|exact rfl|skip
 refine aV (as6 s o u q.th) (bI ?_ (ak ?_));have:ah (if (l! (wl s.2.2.2 o (l! s.2.2.2)))=0 then s.2.2.2 else xQ s.2.2.2 (CJ (wl s.2.2.2 o (l! s.2.2.2)) u) 4)=l! s.2.2.2:=by
  split;rfl;exact bu ..
 dsimp only;rw[this];simp;rw[D7];by_cases h:l! (wl s.2.2.2 o (l! s.2.2.2))=0;rw[aD h,aD h,P' h];rw[av h,av h];refine aV (aak s o q.th) (bI ?_ (ak rfl));dsimp only;rw[Es];simp
def Fj:Nat->Y η
 |0=>[[]]
 |m+1=>Fj m++(Fj m).map ((3-(m:Int))::·)
def Sk:∀m,[]∈Fj m
 |0=>by simp[Fj]
 |m+1=>by simp[Fj,Sk m]
def Jf:∀(m:Nat) (l:η),LX l->(∀z∈l,4-(m:Int)<=z/\z<4)->l∈Fj m
 |m,[],_,_=>Sk m
 |0,a::r,_,h=>by have:=h a b8;omega
 |m+1,a::r,hA,h=>by
  have A:=h a b8;rw[Fj,bz];by_cases e:a=3-(m:Int)
  refine .inr (cF.2 ⟨r,Jf m r hA.2 λz q=>?_,by rw[e]⟩);have:=h z cf;have:=hA.1 z q;omega;refine .inl (Jf m (a::r) hA λz q=>?_);have:=h z q;rcases bc.1 q with rfl|q;omega;have:=hA.1 z q;omega
def aw0 (h:LX c) (h2:∀z∈c,0<=z/\z<4):c∈Fj 4:=Jf 4 c h λz q=>by have:=h2 z q;omega
def in4:η:=[0,1,2,3]
def ag6 {t:Int} (h0:0<=t) (h1:t<4):t∈in4:=by
 have:t=0\/t=1\/t=2\/t=3:=M;rcases this with rfl|rfl|rfl|rfl<;>simp[in4]
def aCi (l:η) (t:Int):Bool:=l.contains t||((zY (l++[t])==Z (xR l [t]))&&(nu (xR l [t])==Z (xR l [t]))&&aB (l! (xR l [t])) (l! (l++[t])))
def aDg (l:η) (t:Int):Bool:= !l.contains t||(kG (l,t)==Z (t,wo l t))
def are:((Fj 4).all λl=>in4.all λt=>aCi l t)=J:=by kernel_rfl
def atk:((Fj 4).all λl=>in4.all λt=>aDg l t)=J:=by kernel_rfl
def srt8 {t:Int} (h:LX c) (h2:∀z∈c,0<=z/\z<4) (h0:0<=t) (h1:t<4) (q:¬t∈c):zY (c++[t])=Z (xR c [t])/\nu (xR c [t])=Z (xR c [t])/\l! (xR c [t])=l! (c++[t]):=by
 have:=eS.1 (eS.1 are c (aw0 h h2)) t (ag6 h0 h1);unfold aCi at this;simp_all
def del8 {t:Int} (h:LX c) (h2:∀z∈c,0<=z/\z<4) (h0:0<=t) (h1:t<4) (q:c.contains t=J):kG (c,t)=Z (t,wo c t):=by
 have:=eS.1 (eS.1 atk c (aw0 h h2)) t (ag6 h0 h1);unfold aDg at this
 grind
def atu (I A q:Int) (r0 r1 r2:η) (h:Int) (d:θ) (th:Y c!) (h0:l! r0<=1000) (h1:l! r1<=1000) (h2:l! r2<=1000) (hd:l! d<=1000) (ht:l! th<=1000):s5 ([(I,r0),(A,r1),(q,r2)],h,d,th)=Z ((h,d,th),(I,A,q),r0,r1,r2):=by
 refine bZ ?_;have cl:∀l:η,l! l<=1000->ny l=Z l:=λl hl=>bZ (a! (ak rfl))
 refine bI rfl (a6 (λx=>x=(([(I,r0),(A,r1),(q,r2)],h,d,th),0,(I,A,q),r0,r1,r2)) ?_ ?_);exact pY rfl (bI rfl (aX (aV (cl _ h0) (pY rfl (bI rfl (aX (aV (cl _ h1) (pY rfl (bI rfl (aX (aV (cl _ h2) (gJ rfl (ak rfl)))))))))))));rintro x rfl;refine aV (x:=d) (bZ (dB cf M (ak rfl))) (aV (x:=th) (bZ (dB cf M (ak rfl))) (ak rfl))
def avt (w:WT) (s:SY) (q:SB i s) (hn:i<=1000) (A:l! w.2.2.1<=1000) (t k o u:Int) (he:EN w s t k o) (I:FO w s t k o) (hk:k=8\/k=9):iU (w,s,t,k,o,u)=U:=by
 have h1:=AE w s q hn A t k o he I;have h2:=aoy s q;rcases hk with rfl|rfl;unfold iU bf bB bN cM gE cg dD dh iD sL ck bp bT bM nI aJ;simp[h1,h2,bP,dP,QP];cases fO o (ah s.1)<;>rfl;unfold iU bf bB bN cM gE cg dD dh iD sL ck bp bT bM nI aJ;simp[h1,h2,bP,dP,QP];cases fO o (ah s.1)<;>rfl
def avr (w:WT) (s:SY) (q:SB i s) (hn:i<=900) (hw:l! w.2.2.1<=1000) (t k u:Int) (he:EN w s t k 2) (hr:FO w s t k 2) (hk:k=8\/k=9) (h3:l! s.1=3) (hA:LX (aE dU s.1 2).2) (h4:∀z∈(aE dU s.1 2).2,0<=z/\z<4) (t4:t<4):mG (w,s,t,k,2,u)=Z ((ku w s t k 2 u).1,(ku w s t k 2 u).2,J):=by
 have h1:=AE w s q M hw t k 2 he hr;have t0:=he.t0;have ra:=hr.ra;have rr:=hr.rr;have hrd:=q.rd;have hdn:=q.dn;have hth:=q.th;let⟨s1,h,d,th⟩:=s
 match s1,h3 with
 |[(a0,r0),(I,r1),(A,r2)],_=>
  have g0:l! r0<=i:=hrd (a0,r0) b8;have g1:l! r1<=i:=hrd (I,r1) b8;have g2:l! r2<=i:=hrd (A,r2) b8;have hA:LX r2:=hA;have hc:=atu a0 I A r0 r1 r2 h d th M M M hdn hth;refine bZ ?_;unfold mG bf bB bN cM gE qY dD dh iD xZ bp vI bT aJ;rcases hk with rfl|rfl;have ra:r2.contains t=af:=ra rfl;let⟨q1,q2,q3⟩:=srt8 hA h4 t0 t4 cf;simp[h1,hc,bP,dP,QP];refine a6 (λx=>x=(0,(h,d,th),0,(((a0,r0),(I,r1),A)),J,xR r2 [t])) ?_ ?_;refine dB cf M (aV q1 (bI ?_ (aV q2 (bI b8 (ak rfl)))));rw[q3];simp;rintro x rfl;exact ak rfl;have rr:r2.contains t=J:=rr rfl;have q1:=del8 hA h4 t0 t4 rr;simp[h1,hc,bP,dP,QP];refine a6 (λx=>x=(0,(h,d,th),0,(((a0,r0),(I,r1),A)),af,wo r2 t)) ?_ ?_;exact aV q1 (bI b8 (ak rfl));rintro x rfl;exact ak rfl
def aeh (w:WT) (s:SY) (A:SB i s) (hn:i<=900) (q:l! w.2.2.1<=1000) (t k o u:Int) (he:EN w s t k o) (I:FO w s t k o) (h2:k=8\/k=9->o=2) (h3:l! s.1=3) (hA:∀l∈s.1,LX l.2/\∀z∈l.2,0<=z/\z<4) (t4:t<4):mh (w,s,t,k,o,u)=Z ((ku w s t k o u).1,(ku w s t k o u).2,J):=by
 unfold mh;by_cases hk:k=8\/k=9;have:=h2 hk;subst this;have hg:=hA _ (be (T:=dU) (xs:=s.1) (j:=2) M M);rw[avt w s A M q t k 2 u he I hk,avr w s A hn q t k u he I hk h3 hg.1 hg.2 t4];rfl;rw[avs w s A M q t k o u he I (λh=>hk (.inl h)) λh=>hk (.inr h)];rfl
def ah3 (l:η) (h:l! l<=100000):Dc l=Z l:=bZ (a! (ak rfl))
def atv (l:η) (h:l! l<=100000):ny l=Z l:=bZ (a! (ak rfl))
def aEa {n:Nat} (w:WT) (s:SN) (e:ET) (A:NB n s) (hn:n<=900) (hw:l! w.2.2.1<=1000) (hF:F16 w s) (hE:EN w s.1 e.1 e.2.1 e.2.2.1) (hS:S16 w s e) (ld:l! e.2.2.2.2.2.1<=1000000) (lf:l! e.2.2.2.2.2.2<=1000000) (h2:e.2.1=8\/e.2.1=9->e.2.2.1=2) (h3:l! s.1.1=3) (hA:∀l∈s.1.1,LX l.2/\∀z∈l.2,0<=z/\z<4) (t4:e.1<4):mC (w,s,e)=Z (nxP w s e,J):=by
 refine bZ ?_;let⟨rd,q1,q2,de,fr,nd,nf,va⟩:=id hS;let⟨nm,I,t1,cd,e1,e2,e3⟩:=id hE;let⟨k1,k2,ce,lk,cn,th,fu,_,_,_⟩:=nm;let⟨f1,f2,f3⟩:=id hF;have hsc:=A.c;have hsf:=A.f;have hsk:=A.k;refine a6 (λx=>x=(af,w,s,e,0)) ?_ ?_;refine aV (aD5 w s hw _ _ _ hE hF) (gJ rfl (cK (eX (λg=>cf) λ_=>cK (ak ?_))));rw[jJ.2 (show e.2.1<=23 by omega)];rintro x rfl;refine ia (a6 (λx=>x=(af,w,s,e,0)) ?_ ?_);exact aV (AE w s.1 A.sb M hw _ _ _ hE rd) (gJ rfl (aV (arz w e q1 q2) (gJ rfl (aV (Yy w s e (λh=>ce h) de fr I M nd nf ld lf) (gJ rfl (aV (ar8 w s A.sb e hF hE va) (ak rfl)))))));rintro x rfl;refine ia (a6 (λx=>x.2=(w,s,e,0)/\ku w s.1 e.1 e.2.1 e.2.2.1 x.1=ku w s.1 e.1 e.2.1 e.2.2.1 e.2.2.2.1) ?_ ?_);exact aN (λ_=>ak ⟨rfl,rfl⟩) λh=>ak ⟨rfl,TY _ _ _ _ _ _ _ h⟩
 rintro⟨u,x⟩ ⟨hx,hu⟩;dsimp only at hx hu;subst hx;refine aV (aeh w s.1 A.sb hn hw _ _ _ u hE rd h2 h3 hA t4) (gJ rfl (aV (ah3 _ cf) (aV (ah3 _ cf) (aV (atv _ cf) ?_))));rw[hu];refine a6 (λx=>x.1=e/\x.2.2.1=(ku w s.1 e.1 e.2.1 e.2.2.1 e.2.2.2.1).1/\x.2.2.2.1=Zn s.2.1 e/\x.2.2.2.2.1=ZY s.2.2.1 e/\x.2.2.2.2.2=s.2.2.2) ?_ ?_;unfold Zn ZY;refine aN (λh=>?_) λh=>aN (λh'=>?_) λh'=>ak ⟨rfl,rfl,(av h).symm,(av h').symm,rfl⟩
 have h:e.2.1=4:=h;have q:=ce (.inr h);exact aS q.1 cf (aS q.1 cf (ak ⟨rfl,rfl,(aD h).symm,(av M).symm,rfl⟩));have h:e.2.1=22:=h';have q:=fu (.inl h);exact aS q.1 cf (aS q.1 cf (ak ⟨rfl,rfl,(av M).symm,(aD h).symm,rfl⟩));rintro⟨x1,x2,x3,x4,x5,x6⟩ ⟨h1,h2,h4,h5,h6⟩;simp only at h1 h2 h4 h5 h6;subst h1 h2 h4 h5 h6;have t2:x1.1<(l! s.2.2.2:Int):=M;exact aS I t2 (aS I t2 (aX (aS I t2 (aS I t2 (ak rfl)))))
def arq {rows:Y θ} {t:Int} {e:ET} (I:0<=t) (A:t<l! rows) (h1:∀y∈e.2.2.2.2.2.1,0<=y/\(BX (T:=.bool) rows t).getD y.toNat af=J) (h2:∀y∈e.2.2.2.2.2.2,0<=y/\(BX (T:=.bool) rows t).getD y.toNat af=J) (ld:l! e.2.2.2.2.2.1<=1000000) (lf:l! e.2.2.2.2.2.2<=1000000):fH (((t,aZ (l! (BX (T:=.bool) rows t))),e),rows)=Z (J,rows):=by
 refine bZ ?_;unfold fH lG gE sL bO jO vI bT bM a8 cW aJ cH;refine kz 2 M (λi x=>x=(((t,aZ (l! (BX (T:=.bool) rows t))),(i:Int)),rows)) ?_ ?_ rfl;rintro i x hi rfl;refine bF (λ_=>?_) λg=>(by dsimp only at g;omega)
 refine cq (a? (rf lX (aX ?_)));have hr:∃l:η,aE (.sl aO) [e.2.2.2.2.2.1,e.2.2.2.2.2.2] (i:Int)=l/\(∀y∈l,0<=y/\(BX (T:=.bool) rows t).getD y.toNat af=J)/\l! l<=1000000:=by
  match i,hi with
  |0,_=>exact⟨_,rfl,h1,ld⟩
  |1,_=>exact⟨_,rfl,h2,lf⟩
 let⟨l,er,hA,hl⟩:=hr;dsimp only;rw[er];generalize hR:BX (T:=.bool) rows t=r at*
 refine kz (l! l) M (λj x=>x=(((t,aZ (l! r)),(j:Int)),rows)) ?_ ?_ rfl;rintro j x hj rfl;refine cV ?_;have m:=hA _ (be (T:=aO) (xs:=l) (j:=(j:Int)) M M);refine bK (aX (a6 (λx=>x=(((t,aZ (l! r)),af),rows)) ?_ ?_));obtain⟨z,hze⟩:∃z:Int,aE aO l (j:Int)=z:=⟨_,rfl⟩
 have m:0<=z/\r.getD z.toNat af=J:=by rw[<- hze];exact m
 dsimp only;rw[hze];have hz:z.toNat<l! r:=by
  rcases co z.toNat (l! r) with g|g;exact g;have:=m.2;rw[aC,eT g]at this;cases this
 have q:(0:Int)<=z:=m.1;have hzi:(z:Int)<(l! r:Int):=M;refine bF (λg=>bi q (Int.not_le.2 g)) λ_=>eX (λg=>bi hzi (iZ.2 g)) λ_=>aS q hzi (aS I A ?_)
 rw[hR];refine aS q hzi (aX (ak ?_));have:aE (.bool) r z=J:=m.2;dsimp only;rw[this];rfl;rintro x rfl;refine ia (ak ?_);dsimp only;rw[iC];rfl;rintro x rfl;refine cK (ak ?_);dsimp only;rw[iC];rfl;rintro x rfl;exact bF (λg=>(by dsimp only at g;omega)) λ_=>ak rfl
abbrev W8 (n:Nat) (s:Y π):WT:=(C0,G5,Uc,Z1,AK.take n,s)
def WX.w8 {w:WT} (q:WX w):∃n,(n=1\/n=2\/n=3\/n=4)/\w=W8 n w.2.2.2.2.2:=by
 let⟨h1,h2,h3,h4,⟨n,I,A,h5⟩,_,_⟩:=q
 grind
abbrev MN (w:WT):SN:=(Q0 w,ce0 w,fu0 w,aA (l! w.2.2.2.2.1) 0)
def Np (s:Y π):fX (W8 1 s)=Z (MN (W8 1 s)):=by kernel_rfl
def st2 (s:Y π):fX (W8 2 s)=Z (MN (W8 2 s)):=by kernel_rfl
def st3 (s:Y π):fX (W8 3 s)=Z (MN (W8 3 s)):=by kernel_rfl
def st4 (s:Y π):fX (W8 4 s)=Z (MN (W8 4 s)):=by kernel_rfl
def azz {w:WT} (q:WX w):fX w=Z (MN w):=by
 let⟨n,A,e⟩:=q.w8;rw[e];rcases A with rfl|rfl|rfl|rfl;exact Np _;exact st2 _;exact st3 _;exact st4 _
abbrev VN4:Y ζ:=[[120],[121],[118],[113]]
def vc8:je C0=Z (VN4,J):=by kernel_rfl
def vn1 (s:Y π):eK (W8 1 s,VN4)=Z J:=by kernel_rfl
def vn2 (s:Y π):eK (W8 2 s,VN4)=Z J:=by kernel_rfl
def vn3 (s:Y π):eK (W8 3 s,VN4)=Z J:=by kernel_rfl
def vn4 (s:Y π):eK (W8 4 s,VN4)=Z J:=by kernel_rfl
def vs8 {w:WT} (A:WX w) (hb:VL w):ig w=Z J:=by
 have hv:=A.v;have hs:=A.s;have ht:=hb.t0;refine bZ ?_;unfold ig mz bf bB cM dh bO jP bM a8 cW aJ cH;refine kz (l! w.2.2.2.2.2) M (λi x=>∃t n:Int,x=((t,n,(i:Int)),w)/\Ut (l! w.2.2.2.2.1) (w.2.2.2.2.2.take i)=Z (t,n)/\0<=t/\t<l! w.2.2.2.2.1/\0<=n/\n<=i) ?_ ?_ ⟨0,0,rfl,rfl,M,M,M,M⟩;rintro i x hi ⟨t,n,rfl,h1,t0,I,n0,n1⟩;refine cV ?_;refine bK (aX ?_);have h2:=aew hv (i+1);have q:Ut (l! w.2.2.2.2.1) (w.2.2.2.2.2.take (i+1))=siS (l! w.2.2.2.2.1) (Z (t,n)) (aE rZ w.2.2.2.2.2 (i:Int)):=by rw[Nq hi,h1]
 rw[q]at h2;revert h2 q;generalize aE rZ w.2.2.2.2.2 (i:Int)=z;intro h2 q;obtain⟨(a:Int),(b:Int),(c:Int)⟩:=z;have h5:(a=t/\b=n)\/(t<a/\a<l! w.2.2.2.2.1/\b=0):=by
  simp[siS]at h2
  grind
 refine a6 (λx=>x=(af,w,a,b,c)) ?_ ?_;refine cK (ak ?_);rw[jK.2 cf];rintro x rfl;rcases h5 with ⟨rfl,rfl⟩|⟨q1,q2,rfl⟩;refine a6 (λx=>x=((a,b),w,a,b,c)) (cK (ak rfl)) ?_;rintro x rfl;refine bY (λg=>(g rfl).elim) λ_=>ak ⟨a,b+1,?_,?_,t0,I,M,M⟩
 rw[iF (n:=b+1) M M,iC];rw[q];simp[siS];refine a6 (λx=>x=((a,0),w,a,0,c)) (cV (ak rfl)) ?_;rintro x rfl;refine bY (λg=>(g rfl).elim) λ_=>ak ⟨a,1,?_,?_,M,q2,M,M⟩
 rw[iF (n:=0+1) M M,iC];rfl;rw[q];show (if a=t/\(0:Int)=n then Z (t,n+1) else if t<a/\a<_/\(0:Int)=0 then Z (a,1) else U)=Z (a,1)
 grind
 rintro x ⟨t,n,rfl,_⟩;exact cK (ak rfl)
def VW8 {w:WT} (q:WX w) (hb:VL w):ji w=Z J:=by
 have hs:=vs8 q hb;have hvn:eK (w,VN4)=Z J:=by
  let⟨n,hn,e⟩:=q.w8;rw[e];rcases hn with rfl|rfl|rfl|rfl;exact vn1 _;exact vn2 _;exact vn3 _;exact vn4 _
 have hc:=q.c;have hd:=q.d;have hl:=q.l;let⟨w1,w2,w3,w4,I,A⟩:=w;let⟨b1,b2,b3,b4,b0,b5,b6⟩:=hb;subst hc hd hl;refine bZ ?_;have f:∀n m:Nat,n<=m->hY (m:Int) (aZ n)=af:=λn m h=>jJ.2 cf
 refine a6 (λx=>x=(af,C0,G5,Uc,w4,I,A)) ?_ ?_;refine gJ rfl (gJ rfl (gJ rfl (gJ (f _ 2 b4) (ak ?_))))
 grind
 rintro x rfl;refine ia (a6 (λx=>x=(af,C0,G5,Uc,w4,I,A)) ?_ ?_);refine gJ (jJ.2 cf) (ak ?_)
 grind
 rintro x rfl;refine ia (aV vc8 (a6 (λx=>x=(af,C0,G5,Uc,w4,I,A)) ?_ ?_));exact ia (aV hvn (ak rfl));rintro x rfl;refine ia (kz 1 M (λi x=>x=((i:Int),C0,G5,Uc,w4,I,A)) ?_ ?_ rfl);rintro i x hi rfl;have:i=0:=M;subst this;refine pY rfl (bI rfl (aX (aV (x:=J) ?_ (ia (ak rfl)))));rfl;rintro x rfl;exact gJ rfl (aV (x:=J) (by rw[hs];rfl) (ak rfl))
abbrev eN (l:Y ET) (i:Nat):ET:=aE iP l (i:Int)
def DE {l:Y ET} (h:i<l! l):eN l i∈l:=be (T:=iP) M M
def az4 {e:ET} (h:i<l! L):eN (L++[e]) i=eN L i:=by
 unfold eN;rw[sD,sD,aC,aC,cZ h]
def atj (l:Y ET) (e:ET):eN (l++[e]) (l! l)=e:=by
 unfold eN;rw[sD,aC,cL (bg _),Nat.sub_self];rfl
def GD (w:WT) (l:Y ET):SY×u!:=l.foldl (λs e=>((ku w s.1 e.1 e.2.1 e.2.2.1 e.2.2.2.1).1,Zn s.2.1 e,ZY s.2.2 e)) (Q0 w,ce0 w,fu0 w)
def D8 (w:WT) (h:i<l! L):GD w (L.take (i+1))=((ku w (GD w (L.take i)).1 (eN L i).1 (eN L i).2.1 (eN L i).2.2.1 (eN L i).2.2.2.1).1,Zn (GD w (L.take i)).2.1 (eN L i),ZY (GD w (L.take i)).2.2 (eN L i)):=by
 rw[lM (T:=iP) h];unfold GD;rw[dG];rfl
def Acw.all {w:WT} {q:SY} {A:η} (h:Acw w L q c A):GD w L=(q,c,A)/\∀i,i<l! L->SCx w (L.take i) (GD w (L.take i)).1 (GD w (L.take i)).2.1 (GD w (L.take i)).2.2 (eN L i):=by
 induction h with
 |nil=>exact⟨rfl,λi hi=>bi hi (fJ _)⟩
 |snoc h hs ih=>
  rename_i L q c A e;let⟨h1,h2⟩:=ih;refine ⟨by unfold GD at h1 ⊢;rw[dG,h1];rfl,λi hi=>?_⟩;rw[aQ,bJ]at hi;rcases co i (l! L) with g|g;rw[I8 M,az4 g];exact h2 i g;have:i=l! L:=M;subst this;rw[I8 (bg _),cO,atj,h1];exact hs
def TR.sc {w:WT} (tr:TR (w,L)) (h:i<l! L):SCx w (L.take i) (GD w (L.take i)).1 (GD w (L.take i)).2.1 (GD w (L.take i)).2.2 (eN L i):=by
 let⟨q,I,A,ac⟩:=tr.ac;exact ac.all.2 i h
def QU (w:WT) (l:Y ET):HS:=l.foldl (λh e=>(Wy w h (evP e)).1) (HS.zero w)
def dc (l:Y ET) (i:Nat):EV:=evP (eN l i)
def sJ (w:WT) (l:Y ET) (i:Nat):η:=My w (QU w (l.take i)) (dc l i)
def Dn (w:WT) (h:i<l! L):QU w (L.take (i+1))=lK w (QU w (L.take i)) (dc L i) (sJ w L i):=by
 rw[lM (T:=iP) h];unfold QU;rw[dG];rfl
def JR {w:WT} (tr:TR (w,L)):∀i:Nat,i<=l! L->HOK (i:Int) (QU w (L.take i))/\Fit w (QU w (L.take i))
 |0,_=>by
  have wb:=tr.wb;dsimp only at wb;exact⟨HS.zero_ok (by have:=wb.c;omega) (by have:=wb.l;omega) (by have:=wb.f;omega) (by have:=wb.t;omega),Fit.zero w⟩
 |i+1,h=>by
  let⟨o,q⟩:=JR tr i M;have A:=tr.len;dsimp only at A;have ok:=aog (tr.ev _ (DE (l:=L) (i:=i) M)) tr.wb q;rw[Dn w M];exact⟨alu (w:=w) (e:=dc L i) o M ok.th4,q.step (dc L i)⟩
def OY {w:WT} (tr:TR (w,L)) (h:i<l! L):EOK w (QU w (L.take i)) (dc L i):=aog (tr.ev _ (DE h)) tr.wb (JR tr i M).2
def mc {w:WT} (tr:TR (w,L)) (h:i<l! L):EvT (dc L i) (eN L i):=aDa (tr.ev _ (DE h))
def LE (a b:η):Prop:=l! a<=l! b/\∀k,a.getD k 0<=b.getD k 0
def LE.refl (a:η):LE a a:=⟨bg _,λ_=>cU _⟩
def LE.trans {a b:η} (h:LE a b) (g:LE b c):LE a c:=⟨cR h.1 g.1,λk=>yd (h.2 k) (g.2 k)⟩
def LE.jl {b:η} (h:LE c b):jl c b=b:=aif (by rw[Ey];have:=h.1;omega) λi=>by rw[JJ,Dk];have:=h.2 i;omega
def avf (a b:η):LE a (jl a b):=⟨by rw[Ey];omega,λk=>by rw[JJ,Dk];omega⟩
def ave (a b:η):LE b (jl a b):=⟨by rw[Ey];omega,λk=>by rw[JJ,Dk];omega⟩
def aqf (a:η) (t:Nat):LE a (tk a t):=⟨by rw[Sj];omega,λk=>by rw[Nm];split<;>(try subst k)<;>omega⟩
def Nc:∀(l:Y η) (c:η),LE c (l.foldl jl c)
 |[],c=>LE.refl c
 |x::r,c=>(avf c x).trans (Nc r _)
def aqg:∀(l:Y η) (c x:η),x∈l->LE x (l.foldl jl c)
 |y::r,c,x,h=>by
  rcases bc.1 h with rfl|h;exact (ave c x).trans (Nc r _);exact aqg r _ x h
def aoz (w:zG) (h:HS) (e:EV):LE (h.T.getD e.th []) (My w h e):=(Nc _ _).trans (aqf _ _)
def tN {w:zG} {h:HS} {e:EV} (q:c∈uh w h e):LE c (My w h e):=(aqg _ _ _ q).trans (aqf _ _)
def vw (l:Y R) (i j:Nat) (x d:R):(l.set i x).getD j d=if i=j/\i<l! l then x else l.getD j d:=cf
structure qW (P:η->Prop) (h:HS):Prop where
 T:∀u,P (h.T.getD u [])
 S:∀u,P (h.S.getD u [])
 L:∀u,P (h.L.getD u [])
 R:∀u,P (h.R.getD u [])
 C:∀u,P (h.C.getD u [])
 F:∀u,P (h.F.getD u [])
 X:P h.X
 N:∀u,P (h.N.getD u [])
def qW.mono {P Q:η->Prop} {h:HS} (a:qW P h) (g:∀x,P x->Q x):qW Q h:=⟨λu=>g _ (a.T u),λu=>g _ (a.S u),λu=>g _ (a.L u),λu=>g _ (a.R u),λu=>g _ (a.C u),λu=>g _ (a.F u),g _ a.X,λu=>g _ (a.N u)⟩
def qW.set {P:η->Prop} {l:Y η} (h:∀u,P (l.getD u [])) (q:P c) (i:Nat):∀u,P ((l.set i c).getD u []):=λu=>by
 rw[vw];split;exact q;exact h u
def qW.repl {P:η->Prop} (h:P []) (n:Nat):∀u,P ((aA n []).getD u []):=λu=>cf
def qW.zero {P:η->Prop} (h:P []) (w:zG):qW P (HS.zero w):=⟨qW.repl h _,qW.repl h _,qW.repl h _,qW.repl h _,qW.repl h _,qW.repl h _,h,qW.repl h _⟩
def qW.step {P:η->Prop} (hj:∀a b,P a->P b->P (jl a b)) {w:zG} {h:HS} (a:qW P h) (e:EV) (q:P c):qW P (lK w h e c):=by
 have b:qW P {h with T:=h.T.set e.th c}:={a with T:=qW.set a.T q _}
 unfold lK;simp only[];repeat' split
 exact {b with S:=qW.set a.S q _};exact {b with L:=qW.set a.L (hj _ _ (a.L _) q) _};exact {b with R:=qW.set a.R (hj _ _ (a.R _) q) _};exact {b with L:=qW.set a.L (hj _ _ (a.L _) q) _};exact {b with C:=qW.set a.C (hj _ _ (a.C _) q) _};exact b;exact {b with F:=qW.set a.F (hj _ _ (a.F _) q) _};exact {b with X:=hj _ _ a.X q};exact {b with N:=qW.set a.N q _};exact b;refine {b with N:=λu=>?_};have:=a.N u;simp only[G'];rw[aC]at this ⊢;rw[List.getElem?_mapIdx];cases A:h.N[u]? with
 |none=>rw[A]at this;exact this
 |some x=>grind
 exact b
def qW.src {P:η->Prop} {w:zG} {h:HS} (a:qW P h) (e:EV):∀x∈uh w h e,P x:=by
 intro c q;unfold uh at q;repeat' (split at q)
 all_goals simp[bc,cA,fM]at q
 subst q;exact a.S _;subst q;exact a.T _;rcases q with rfl|rfl;exact a.L _;exact a.R _;subst q;exact a.L _;rcases q with rfl|rfl|rfl;exact a.L _;exact a.R _;exact a.N _;subst q;exact a.C _;subst q;exact a.F _;subst q;exact a.X
def ao7 {P:η->Prop} (hj:∀a b,P a->P b->P (jl a b)):∀(l:Y η) (c:η),P c->(∀x∈l,P x)->P (l.foldl jl c)
 |[],_,q,_=>q
 |x::r,_,q,h=>ao7 hj r _ (hj _ _ q (h x (bU ..))) λy A=>h y (bx _ A)
def aol (w:zG) (h:HS) (e:EV) (c:η):(lK w h e c).T=h.T.set e.th c:=by
 unfold lK;simp[];repeat' split
 all_goals rfl
def FM (l:Y ET) (u:Nat):Nat->Nat
 |0=>0
 |i+1=>if (dc l i).th=u then FM l u i+1 else FM l u i
def Y' (l:Y ET) (u i:Nat):∀j,FM l u i<=FM l u (i+j)
 |0=>bg _
 |j+1=>by
  have:=Y' l u i j;show FM l u i<=FM l u (i+j+1);rw[FM];split<;>omega
def VM (l:Y ET) (u:Nat) (h:i<=m):FM l u i<=FM l u m:=by
 obtain⟨k,rfl⟩:∃k,m=i+k:=⟨m-i,M⟩
 exact Y' l u i k
def M5 (l:Y ET) (i:Nat):FM l (dc l i).th (i+1)=FM l (dc l i).th i+1:=by rw[FM,aD rfl]
structure Gd (w:WT) (l:List ET) (i:Nat) (x:η):Prop where
 le:∀u,x.getD u 0<=(FM l u i:Int)
 dn:∀k,k<i->(FM l (dc l k).th k:Int)+1<=x.getD (dc l k).th 0->LE (sJ w l k) x
def Gd.nil (w:WT) (l:Y ET) (i:Nat):Gd w l i []:=⟨λu=>b8,λk _ h=>by simp at h;omega⟩
def Gd.jl {w:WT} (a b:η) (A:Gd w L i a) (q:Gd w L i b):Gd w L i (jl a b):=by
 refine ⟨λu=>?_,λk hk h=>?_⟩;rw[JJ,Dk];have:=A.le u;have:=q.le u;omega;rw[JJ,Dk]at h;by_cases g:(FM L (dc L k).th k:Int)+1<=a.getD (dc L k).th 0;exact (A.dn k hk g).trans (avf _ _);exact (q.dn k hk M).trans (ave _ _)
def Gd.succ {w:WT} (h:Gd w L i c):Gd w L (i+1) c:=by
 refine ⟨λu=>?_,λk hk g=>?_⟩;have:=h.le u;have:=VM L u (show i<=i+1 by omega);omega;by_cases e:k=i;subst e;have:=h.le (dc L k).th;omega;exact h.dn k M g
structure GS1 (w:WT) (l:List ET) (i:Nat) (h:HS):Prop where
 a:qW (Gd w l i) h
 t:∀u,(h.T.getD u []).getD u 0=(FM l u i:Int)
def M6 {w:WT} (g:GS1 w L i (QU w (L.take i))):Gd w L (i+1) (sJ w L i)/\(sJ w L i).getD (dc L i).th 0=(FM L (dc L i).th i:Int)+1:=by
 have hJ:Gd w L i ((uh w (QU w (L.take i)) (dc L i)).foldl AI.jl ((QU w (L.take i)).T.getD (dc L i).th [])):=ao7 Gd.jl _ _ (g.a.T _) (g.a.src (w:=w) _);have hT:=g.t (dc L i).th;have hL:=Nc (uh w (QU w (L.take i)) (dc L i)) ((QU w (L.take i)).T.getD (dc L i).th []);have hD:=(g.a.T (dc L i).th).dn;have I:=aoz w (QU w (L.take i)) (dc L i);have e:(sJ w L i).getD (dc L i).th 0=(FM L (dc L i).th i:Int)+1:=by
  unfold sJ My;rw[Nm,aD rfl];have:=hL.2 (dc L i).th;have:=hJ.le (dc L i).th;omega
 refine ⟨⟨λu=>?_,λk hk h=>?_⟩,e⟩;by_cases A:(dc L i).th=u;subst A;rw[e,M5];omega;have:=hJ.le u;unfold sJ My;rw[Nm,av λq=>A q.symm,FM,av A];exact this;by_cases hki:k=i;subst hki;exact LE.refl _;have hk:k<i:=M;by_cases A:(dc L k).th=(dc L i).th;refine (hD k hk ?_).trans I;rw[A,hT];have:=VM L (dc L k).th (show k+1<=i from hk);rw[M5,A]at this;omega;refine (hJ.dn k hk ?_).trans (aqf _ _);unfold sJ My at h;rw[Nm,av A]at h;exact h
def HU {w:WT} (tr:TR (w,L)):∀i:Nat,i<=l! L->GS1 w L i (QU w (L.take i))
 |0,_=>⟨qW.zero (Gd.nil w L 0) w,λu=>by have:=qW.repl (P:=λx=>x.getD u 0=0) b8 (l! w.2.2.2.2.1) u;exact this⟩
 |i+1,h=>by
  have g:=HU tr i M;let⟨g1,I⟩:=M6 g;have ht:=(OY tr (show i<l! L by omega)).th;rw[Dn w M];refine ⟨qW.step Gd.jl (g.a.mono λx h=>h.succ) _ g1,λu=>?_⟩;rw[aol,vw];by_cases A:(dc L i).th=u;subst A;rw[aD ⟨rfl,ht⟩,I,M5];omega;rw[av λq=>A q.1,g.t u,FM,av A]
def ah4 {w:WT} (tr:TR (w,L)) (h:i<l! L):(sJ w L i).getD (dc L i).th 0=(FM L (dc L i).th i:Int)+1:=(M6 (HU tr i M)).2
def ap1 {w:WT} (tr:TR (w,L)) (h:i<l! L):Gd w L (i+1) (sJ w L i):=(M6 (HU tr i M)).1
def Cov (w:WT) (l:Y ET) (k j:Nat):Prop:=(FM l (dc l k).th k:Int)+1<=(sJ w l j).getD (dc l k).th 0
def Cov.le {w:WT} (tr:TR (w,L)) (hk:i<=m) (hj:m<l! L) (h:Cov w L i m):LE (sJ w L i) (sJ w L m):=(ap1 tr hj).dn i M h
def Cov.of {w:WT} (tr:TR (w,L)) (hk:i<l! L) (h:LE (sJ w L i) (sJ w L m)):Cov w L i m:=by
 have:=h.2 (dc L i).th;rw[ah4 tr hk]at this;exact this
def Cov.own {w:WT} (tr:TR (w,L)) (hk:i<m) (hj:m<l! L) (h:(dc L i).th=(dc L m).th):Cov w L i m:=by
 unfold Cov;rw[h,ah4 tr hj];have:=VM L (dc L i).th (show i+1<=m from hk);rw[M5,h]at this;omega
def Cov.trans {w:WT} (tr:TR (w,L)) {k:Nat} (hi:i<=m) (hj:m<=k) (hk:k<l! L) (h:Cov w L i m) (g:Cov w L m k):Cov w L i k:=Cov.of tr M ((h.le tr hi M).trans (g.le tr hj hk))
abbrev gT (th:Y c!) (u:Int):c!:=aE iH th u
variable {S:Ty}
def J1 (xs:Y S.den) (j k:Int) (x:S.den) (hj:0<=j) (hk:0<=k) (h2:k<l! xs):aE _ (bW xs j x) k=if k=j then x else aE _ xs k:=by
 by_cases h:j<l! xs;exact jT xs j k x hj h hk;rw[av M];unfold aE bW
 grind
def pA {t:Int} (s:Int) (I:0<=t) (A:0<=a) (q:a<l! Q):gT (xQ Q t s) a=if a=t then (s,(gT Q a).2) else gT Q a:=by
 unfold xQ gT;rw[J1 _ _ _ _ I A q];split
 grind
 rfl
def M7 {t:Int} (s:Int) (I:0<=t) (A:0<=a) (q:a<l! Q):gT (cdP Q t s) a=if a=t then ((gT Q a).1,s,(gT Q a).2.2) else gT Q a:=by
 unfold cdP gT;rw[J1 _ _ _ _ I A q];split
 grind
 rfl
def M9 {t:Int} (s:Bool) (I:0<=t) (A:0<=a) (q:a<l! Q):gT (atP Q t s) a=if a=t then ((gT Q a).1,(gT Q a).2.1,s) else gT Q a:=by
 unfold atP gT;rw[J1 _ _ _ _ I A q];split
 grind
 rfl
def aye (q:0<=a):∀(l:η) (th:Y c!),(∀x∈l,0<=x)->a<l! th->gT (GY th l) a=if a∈l then (4,(gT th a).2) else gT th a
 |[],th,_,_=>by simp[GY]
 |x::r,th,h,h2=>by
  have e:GY th (x::r)=GY (xQ th x 4) r:=rfl;rw[e,aye q r _ (λy A=>h y (bx _ A)) (by unfold xQ;rw[bu];exact h2),pA 4 (h x (bU ..)) q h2]
  grind
structure TH1 (k o v t u:Int) (g g':Int×Int×Bool):Prop where
 a:u=t->g.1≠0/\g.1≠3/\(k=16->g'.1=3/\g'.2.1=o)/\(k≠16->g'.1≠0/\g'.1≠3/\g'.1≠4)/\(k≠1->k≠17->g.1=2)
 b:u≠t->k=18->v=u->g.1=3/\g.2.1=o/\g'.1=4/\g'.2.1=o
 c:u≠t->k=19->g.1=3->g.2.1=o->g'.1=4/\g'.2.1=o
 d:u≠t->¬(k=18/\v=u)->¬(k=19/\g.1=3/\g.2.1=o)->g'.2.1=g.2.1/\(g'.1=g.1\/k=20/\o=u/\g.1=0/\g'.1=1)
 e:k=20->o=u->g'.1≠0
def TH1.same {o v t u:Int} {g g':c!} (h2:a≠1->a≠17->u=t->g.1=2) (e1:g'.1=g.1) (e2:g'.2.1=g.2.1) (n1:a≠1) (n2:a≠17) (n3:a≠16) (A:a≠20) (n4:a=18->v=u->u=t) (I:a=19->g.1=3->g.2.1=o->u=t):TH1 a o v t u g g':=
 ⟨λh=>cf,λh h1 q=>(h (n4 h1 q)).elim,λh h1 q h4=>(h (I h1 q h4)).elim,λ_ _ _=>⟨e2,.inl e1⟩,λh=>(A h).elim⟩
def azg (w:WT) (s:SY) (t k o v:Int) (en:EN w s t k o) (rd:FO w s t k o) (A:k=18->v=(ku w s t k o v).2) (u:Int) (u0:0<=u) (I:u<l! s.2.2.2):TH1 k o v t u (gT s.2.2.2 u) (gT (ku w s t k o v).1.2.2.2 u):=by
 have t0:=en.t0;have r2:k≠1->k≠17->u=t->(gT s.2.2.2 u).1=2:=λh1 h2 h3=>by subst h3;exact rd.r h1 h2
 have nm:=en.nm;have k1:=nm.k1;have k2:=nm.k2;let⟨s1,s2,s3,th⟩:=s;dsimp only at I r2;change TH1 k o v t u (gT th u) (gT (ku w (s1,s2,s3,th) t k o v).1.2.2.2 u);by_cases a1:k=1;subst a1;have e:gT (ku w (s1,s2,s3,th) t 1 o v).1.2.2.2 u=if u=t then (2,(gT th u).2) else gT th u:=pA 2 t0 u0 I
 rw[e];refine ⟨λh=>?_,λ_ h=>M,λ_ h=>M,λh _ _=>by rw[av h];exact⟨rfl,.inl rfl⟩,λh=>M⟩;have b:=rd.b rfl;rw[aD h];subst h;have b:(gT th u).1=1:=b;dsimp only;omega;by_cases a2:k=2;subst a2;have e:gT (ku w (s1,s2,s3,th) t 2 o v).1.2.2.2 u=if u=t then (5,(gT th u).2) else gT th u:=pA 5 t0 u0 I
 rw[e];refine ⟨λh=>?_,λ_ h=>M,λ_ h=>M,λh _ _=>by rw[av h];exact⟨rfl,.inl rfl⟩,λh=>M⟩;have:=r2 M M h;rw[aD h];dsimp only;omega;by_cases a14:k=14\/k=15;have e:∃b,gT (ku w (s1,s2,s3,th) t k o v).1.2.2.2 u=if u=t then ((gT th u).1,(gT th u).2.1,b) else gT th u:=by
  rcases a14 with rfl|rfl;exact⟨J,M9 J t0 u0 I⟩;exact⟨af,M9 af t0 u0 I⟩
 let⟨b,e⟩:=e;rw[e];refine TH1.same r2 (by split<;>rfl) (by split<;>rfl) a1 M M M (λh=>M) λh=>M
 by_cases a16:k=16;subst a16;have e:gT (ku w (s1,s2,s3,th) t 16 o v).1.2.2.2 u=if u=t then (3,o,(gT th u).2.2) else gT th u:=by
  have:gT (cdP (xQ th t 3) t o) u=_:=M7 o t0 u0 (by unfold xQ;rw[bu];exact I);refine Eq.trans this ?_;rw[pA 3 t0 u0 I];split<;>rfl
 rw[e];refine ⟨λh=>?_,λ_ h=>M,λ_ h=>M,λh _ _=>by rw[av h];exact⟨rfl,.inl rfl⟩,λh=>M⟩;have:=r2 M M h;rw[aD h];exact⟨M,M,λ_=>⟨rfl,rfl⟩,λh=>(h rfl).elim,λ_ _=>this⟩;by_cases a17:k=17;subst a17;have e:gT (ku w (s1,s2,s3,th) t 17 o v).1.2.2.2 u=if u=t then (2,0,(gT th u).2.2) else gT th u:=by
  have:gT (cdP (xQ th t 2) t 0) u=_:=M7 0 t0 u0 (by unfold xQ;rw[bu];exact I);refine Eq.trans this ?_;rw[pA 2 t0 u0 I];split<;>rfl
 rw[e];refine ⟨λh=>?_,λ_ h=>M,λ_ h=>M,λh _ _=>by rw[av h];exact⟨rfl,.inl rfl⟩,λh=>M⟩;have b:=(rd.wk rfl).1;rw[aD h];subst h;have b:(gT th u).1=4:=b;dsimp only;omega;by_cases a18:k=18;subst a18;have A:=A rfl;rw[D7]at A ⊢;dsimp only at A ⊢;by_cases hl:l! (wl th o (l! th))=0;rw[aD hl]at A ⊢;dsimp only at A ⊢;exact TH1.same r2 rfl rfl a1 M M M (λ_ h=>M) λh=>M
 rw[av hl]at A ⊢;dsimp only at A ⊢;have hv:v∈wl th o (l! th):=by
  unfold CJ at A;rw[av hl]at A;split at A;rename_i h;simpa using h;rw[A];exact be (T:=aO) M M
 rw[<- A];let⟨v0,v1,v2⟩:=oS.1 hv;unfold FX at v2;simp only[ar,bl]at v2;rw[pA 4 v0 u0 I];refine ⟨λh=>?_,λh _ h2=>?_,λ_ h=>M,λh h2 _=>?_,λh=>M⟩;have:=r2 M M h;rw[av (λq=>by rw[q]at this;exact bi (this.symm.trans v2.1) cr)];omega;subst h2;rw[aD rfl];exact⟨v2.1,v2.2,rfl,v2.2⟩;rw[av λq=>h2 ⟨rfl,q.symm⟩];exact⟨rfl,.inl rfl⟩;by_cases a19:k=19;subst a19;have e:gT (ku w (s1,s2,s3,th) t 19 o v).1.2.2.2 u=if u∈wl th o (l! th) then (4,(gT th u).2) else gT th u:=aye u0 _ th (λx hx=>(oS.1 hx).1) I
 rw[e];have hm:u∈wl th o (l! th)↔(gT th u).1=3/\(gT th u).2.1=o:=by
  rw[oS];unfold FX;simp only[ar,bl];exact⟨λh=>h.2.2,λh=>⟨u0,I,h⟩⟩
 refine ⟨λh=>?_,λ_ h=>M,λh _ h3 h4=>?_,λh _ h3=>?_,λh=>M⟩;have:=r2 M M h;rw[av (λq=>by have:=(hm.1 q).1;omega)];omega;rw[aD (hm.2 ⟨h3,h4⟩)];exact⟨rfl,h4⟩;rw[av λq=>h3 ⟨rfl,hm.1 q⟩];exact⟨rfl,.inl rfl⟩;by_cases a20:k=20;subst a20;have sp:=rd.sp rfl;have o0:=(nm.th (.inl rfl)).1;have e:gT (ku w (s1,s2,s3,th) t 20 o v).1.2.2.2 u=if u=o then (1,(gT th u).2) else gT th u:=pA 1 o0 u0 I
 rw[e];refine ⟨λh=>?_,λ_ h=>M,λ_ h=>M,λh _ _=>?_,λ_ h=>?_⟩;have:=r2 M M h;rw[av (λq=>sp.1 M)];omega;by_cases q:u=o;subst q;rw[aD rfl];exact⟨rfl,.inr ⟨rfl,rfl,sp.2,rfl⟩⟩;rw[av q];exact⟨rfl,.inl rfl⟩;rw[aD h.symm];show (1:Int)≠0;omega;have e:(ku w (s1,s2,s3,th) t k o v).1.2.2.2=th:=by
  unfold ku;rw[av a1,av a2];repeat' split
  all_goals first|rfl|omega
 rw[e];exact TH1.same r2 rfl rfl a1 a17 a16 a20 (λh=>(a18 h).elim) λh=>(a19 h).elim
def Q2 (l:Y ET) (u:Nat):Nat->Int
 |0=> -1
 |i+1=>if (dc l i).th=u then (i:Int) else Q2 l u i
def mtN (l:Y ET) (u i:Nat) (p:Int):Prop:=0<=p/\(dc l p.toNat).k=16/\((dc l i).k=18/\(dc l i).va=u\/(dc l i).k=19/\(dc l i).ob=(dc l p.toNat).ob)
def EO (l:Y ET) (u:Nat):Nat->Int
 |0=> -1
 |i+1=>if (dc l i).th=u then -1 else if 0<=EO l u i then EO l u i else @ite _ (mtN l u i (Q2 l u i)) (gU _) (i:Int) (-1)
def ar5 (h:(dc L i).th=m):EO L m (i+1)= -1:=by rw[EO,aD h]
def aek (h:¬(dc L i).th=m) (g:0<=EO L m i):EO L m (i+1)=EO L m i:=by rw[EO,av h,aD g]
def ar7 (h:¬(dc L i).th=m) (g:EO L m i= -1) (u:mtN L m i (Q2 L m i)):EO L m (i+1)=i:=by rw[EO,av h,av M,aD u]
def ar6 (h:¬(dc L i).th=m) (g:EO L m i= -1) (u:¬mtN L m i (Q2 L m i)):EO L m (i+1)= -1:=by rw[EO,av h,av M,av u]
def aDc (w:zG) (h:HS) (e:EV) (c:η) (u:Nat) (q:u<l! h.W) (A:l! h.N=l! h.W):(lK w h e c).W.getD u 0=if e.k=16/\e.th=u then (e.ob:Int) else if e.k=18/\e.va=u\/e.k=19/\h.W.getD u 0=e.ob then -1 else h.W.getD u 0:=by
 let⟨th,k,ob,va⟩:=e;dsimp only;by_cases k16:k=16;subst k16;have e:(lK w h ⟨th,16,ob,va⟩ c).W=h.W.set th ob:=rfl
 grind
 rw[av λx=>k16 x.1];by_cases k18:k=18;subst k18;have e:lK w h ⟨th,18,ob,va⟩ c=if 0<=va/\va<l! h.N then {h with T:=h.T.set th c,N:=h.N.set va.toNat c,W:=h.W.set va.toNat (-1)} else {h with T:=h.T.set th c}:=rfl
 grind
 by_cases k19:k=19;subst k19;have e:(lK w h ⟨th,19,ob,va⟩ c).W=h.W.mapIdx λu x=>if decide (h.W.getD u 0=(ob:Int))=J then -1 else x:=rfl
 grind
 rw[av M];have e:(lK w h ⟨th,k,ob,va⟩ c).W=h.W:=by
  unfold lK
  grind
 rw[e]
def aDd (w:zG) (h:HS) (e:EV) (c:η) (u:Nat) (q:u<l! h.N):(lK w h e c).N.getD u []=if e.k=18/\e.va=u\/e.k=19/\h.W.getD u 0=e.ob then c else h.N.getD u []:=by
 let⟨th,k,ob,va⟩:=e;dsimp only;by_cases k18:k=18;subst k18;have e:lK w h ⟨th,18,ob,va⟩ c=if 0<=va/\va<l! h.N then {h with T:=h.T.set th c,N:=h.N.set va.toNat c,W:=h.W.set va.toNat (-1)} else {h with T:=h.T.set th c}:=rfl
 grind
 by_cases k19:k=19;subst k19;have e:(lK w h ⟨th,19,ob,va⟩ c).N=h.N.mapIdx λu x=>if decide (h.W.getD u 0=(ob:Int))=J then c else x:=rfl
 grind
 rw[av M];have e:(lK w h ⟨th,k,ob,va⟩ c).N=h.N:=by
  unfold lK
  grind
 rw[e]
abbrev Wl (w:WT) (l:Y ET) (i u:Nat):c!:=gT (GD w (l.take i)).1.2.2.2 (u:Int)
abbrev pS (l:Y ET) (u k:Nat):Bool:=decide ((dc l k).k=20/\(dc l k).ob=u)
structure WI (w:WT) (l:List ET) (cl:Nat->η) (i:Nat) (h:HS) (u:Nat) (g:Int×Int×Bool):Prop where
 W:h.W.getD u 0=if g.1=3 then g.2.1 else -1
 p:g.1=3\/g.1=4->0<=Q2 l u i/\(dc l (Q2 l u i).toNat).k=16/\((dc l (Q2 l u i).toNat).ob:Int)=g.2.1
 a:g.1=3->EO l u i= -1
 n:g.1=4->0<=EO l u i/\h.N.getD u []=cl (EO l u i).toNat
 s:g.1=0->∀k,k<i->pS l u k=af
def axp:∀n,∀x∈thP n,x.1=0\/x.1=1
 |0,x,h=>by cases h
 |n+1,x,h=>by
  rcases bc.1 h with rfl|h;exact .inr rfl
  grind
def WI.zero (w:WT) (l:Y ET) (cl:Nat->η) (u:Nat) (q:u<l! w.2.2.2.2.1):WI w l cl 0 (HS.zero w) u (Wl w l 0 u):=by
 have h1:(Wl w l 0 u).1=0\/(Wl w l 0 u).1=1:=axp _ _ (be (T:=iH) (xs:=thP (l! w.2.2.2.2.1)) (j:=(u:Int)) M (by rw[Hc];omega));have hW:(HS.zero w).W.getD u 0= -1:=by
  have:(aA (l! w.2.2.2.2.1) (-1:Int)).getD u 0= -1:=cf;exact this
 exact⟨by rw[hW,av M],λh=>M,λh=>M,λh=>M,λ_ k hk=>M⟩
def WI.step {w:WT} {cl:Nat->η} {h:HS} (a:WI w L cl i h m (Wl w L i m)) (hi:i<l! L) (sc:SCx w (L.take i) (GD w (L.take i)).1 (GD w (L.take i)).2.1 (GD w (L.take i)).2.2 (eN L i)) (et:EvT (dc L i) (eN L i)) (hu:m<l! w.2.2.2.2.1) (h1:l! h.W=l! w.2.2.2.2.1) (h2:l! h.N=l! w.2.2.2.2.1):WI w L cl (i+1) (lK w h (dc L i) (cl i)) m (Wl w L (i+1) m):=by
 have en:=sc.en;have eg:Wl w L (i+1) m=gT (ku w (GD w (L.take i)).1 (eN L i).1 (eN L i).2.1 (eN L i).2.2.1 (eN L i).2.2.2.1).1.2.2.2 (m:Int):=by unfold Wl;rw[D8 w hi]
 have T1:TH1 (eN L i).2.1 (eN L i).2.2.1 (eN L i).2.2.2.1 (eN L i).1 (m:Int) (Wl w L i m) (Wl w L (i+1) m):=by
  rw[eg];exact azg w (GD w (L.take i)).1 (eN L i).1 (eN L i).2.1 (eN L i).2.2.1 (eN L i).2.2.2.1 en sc.rd (λh=>sc.va.el M M M M M) (m:Int) M (by rw[en.e3];omega)
 clear eg;have eW:=aDc w h (dc L i) (cl i) m M M;have eN9:=aDd w h (dc L i) (cl i) m M;have qt:=et.th;have qk:=et.k;have qv:=et.va;have qo:(dc L i).k=16\/(dc L i).k=19\/(dc L i).k=20->(eN L i).2.2.1=((dc L i).ob:Int):=λh=>et.ob (by rcases h with h|h|h<;>rw[h]<;>decide)
 have pv':Q2 L m (i+1)=if (dc L i).th=m then (i:Int) else Q2 L m i:=rfl
 have ps:pS L m i=decide ((dc L i).k=20/\(dc L i).ob=m):=rfl;clear en sc;let⟨aW,ap,aa,an,as'⟩:=a;let⟨ta,tb,tc,td,te⟩:=T1;generalize Wl w L (i+1) m=g' at*
 generalize Wl w L i m=g at*
 by_cases I:(dc L i).th=m;let⟨b1,b2,b3,b4,_⟩:=ta (by rw[qt,I]);have w0:EO L m (i+1)= -1:=ar5 I;have hW':h.W.getD m 0= -1:=by rw[aW,av b2]
 by_cases k16:(dc L i).k=16;let⟨c1,c2⟩:=b3 (by rw[qk,k16];rfl);refine ⟨by rw[eW,aD ⟨k16,I⟩,aD c1,c2,qo (.inl k16)],λ_=>?_,λ_=>w0,λh=>M,λh=>M⟩;simp_all;let⟨c1,c2,c3⟩:=b4 (by rw[qk];omega);refine ⟨?_,λh=>M,λh=>M,λh=>M,λh=>M⟩
 grind
 have hut:(m:Int)≠(eN L i).1:=by rw[qt];omega
 rw[av I]at pv';rw[av (λx=>I x.2)]at eW;by_cases A:(dc L i).k=18/\(dc L i).va=m\/(dc L i).k=19/\h.W.getD m 0=(dc L i).ob;have B:g.1=3/\g'.1=4/\g'.2.1=g.2.1/\((dc L i).k=19->g.2.1=(dc L i).ob):=by
  grind
 let⟨d1,d2,d3,d4⟩:=B;let⟨p1,p2,p3⟩:=ap (.inl d1);have hw:=ar7 I (aa d1) ⟨p1,p2,by
  rcases A with A|⟨k,_⟩;exact .inl A;exact .inr ⟨k,by have:=d4 k;omega⟩⟩
 rw[aD A]at eW eN9;refine ⟨by rw[eW,av M],λ_=>by rw[pv',d3];exact⟨p1,p2,p3⟩,λh=>M,λ_=>by rw[hw,dH];exact⟨M,eN9⟩,λh=>M⟩;rw[av A]at eW eN9;have nv:¬((eN L i).2.1=18/\(eN L i).2.2.2.1=(m:Int)):=λq=>A (.inl ⟨M,by rw[<- qv];exact q.2⟩)
 have nw:¬((eN L i).2.1=19/\g.1=3/\g.2.1=(eN L i).2.2.1):=λq=>A (.inr ⟨M,by rw[aW,aD q.2.1,q.2.2,qo (.inr (.inl M))]⟩)
 let⟨d1,d2⟩:=td hut nv nw;have nm:g.1=3->¬mtN L m i (Q2 L m i):=λq ⟨_,_,u⟩=>cf
 refine ⟨cf,λq=>cf,λq=>?_,λq=>?_,λq k hk=>cf⟩;have q:g.1=3:=M;exact ar6 I (aa q) (nm q);have q:g.1=4:=M;let⟨n1,n2⟩:=an q;rw[aek I n1,eN9];exact⟨n1,n2⟩
def JQ {w:WT} (tr:TR (w,L)):∀i:Nat,i<=l! L->∀u,u<l! w.2.2.2.2.1->WI w L (sJ w L) i (QU w (L.take i)) u (Wl w L i u)
 |0,_=>λu q=>WI.zero w L _ u q
 |i+1,h=>λu q=>by
  have hi:i<l! L:=M;let⟨o,A⟩:=JR tr i M;rw[Dn w hi];exact (JQ tr i M u q).step hi (tr.sc hi) (mc tr hi) q (o.lW.trans A.T) (o.lN.trans A.T)
def al8 (l:Y ET) (u:Nat):∀i:Nat,EO l u i<i
 |0=>by show (-1:Int)<0;omega
 |i+1=>by
  have:=al8 l u i;rw[EO];split;omega;split;omega;split<;>omega
def ama (l:Y ET) (u:Nat):∀i:Nat,-1<=Q2 l u i/\Q2 l u i<i
 |0=>⟨cU _,by show (-1:Int)<0;omega⟩
 |i+1=>by have:=ama l u i;rw[Q2];split<;>omega
def W5 {l:Y ET} {u:Nat}:∀j:Nat,0<=Q2 l u j->(dc l (Q2 l u j).toNat).th=u
 |0,h=>by simp[Q2]at h
 |j+1,h=>by
  rw[Q2]at h ⊢;by_cases e:(dc l j).th=u;rw[aD e];simpa using e;rw[av e]at h ⊢;exact W5 j h
def amb {l:Y ET} {u:Nat} (h:(dc l i).th=u):∀j:Nat,i<j->(i:Int)<=Q2 l u j
 |0,hi=>bi hi (fJ _)
 |j+1,hi=>by
  rw[Q2];by_cases e:(dc l j).th=u;rw[aD e];omega;rw[av e];by_cases z:i=j;subst z;exact bi h e;exact amb h j M
end
end Go.Proofs.YtononplakadipaaGreatDoor.AI
