/-
  Texts of the proof, part 2 of 5: what is used to prove the statement. No condition.
-/
import Derived.Test.YtloaobgmjdjhhaaGreatDoorEpochQuietQ0
namespace Go.Proofs.YtloaobgmjdjhhaaGreatDoor.AI
open Go.RowKit
set_option maxRecDepth 100000
set_option maxHeartbeats 4000000
set_option linter.unusedVariables false
set_option linter.unusedSimpArgs false
open _root_.Bool renaming true→J,false→af
open _root_.Int renaming ofNat_eq_natCast→ak,ofNat→aN,toNat→aP,reduceEq→aY,reduceNeg→bn,toNat_natCast→cB
open _root_.List renaming length→ai,replicate→aB,length_cons→bX,take→dI,range→dR,length_singleton→eP,length_nil→gr,cons_append→gx,take_succ_cons→vH,foldl_cons→Fk
open _root_.Nat renaming beq→aA
open _root_.Option renaming some→M,none→D,map_some→ca,getD_some→uK
open _root_.Prod renaming p2→aX,p3→bm,p4→bw,q3→bN,p5→cC,q5→cW,q4→du,p6→eB,q6→fw,p7→kO,q7→lJ,q8→pZ,p8→zM,p9→B_,p10→DR
open _root_.Sum renaming inr→bW,inl→rN
noncomputable section
def yn:Nat:=1000000000
def jl (a b:η):η:=(dR (max a.length b.length)).map λi=>gL (a.getD i 0) (b.getD i 0)
theorem v9 (a b:η):(jl a b).length=max a.length b.length:=by simp[jl]
theorem BI (a b:η) (i:Nat):(jl a b).getD i 0=gL (a.getD i 0) (b.getD i 0):=by
 unfold jl;simp only[au,ba];by_cases h:i<max a.length b.length
 .rw[Gv h];rfl
 .rw[bD (by simp only[dc];omega),bD (l:=a) (by omega),bD (l:=b) (by omega)];rfl
theorem xI (c:η) (i:Nat):gG (c,(i:Int))=M (c.getD i 0):=by
 unfold gG bA wS aV aE;simp only[];rw[yT (by omega)];simp only[ep,mC];by_cases h:i<c.length
 .rw[ZZ (by simp;omega)];simp only[ep];rw[cL (c_ h),um];rfl
 .rw[qU (by simp;omega)];simp only[dM];rw[au,bD (by omega)];rfl
theorem afj (a b:η) (z:a.length<=yn) (hb:b.length<=yn):lG (a,b)=M (jl a b):=by
 unfold yn at z hb;unfold lG uX ck bA bH aV cR aE cH;have hm:max a.length b.length<=1000000000:=by omega
 rw[cL (by simp only[qu];rw[qU (by omega),qU (by omega),wY (by simp;omega) (by simp;omega)];rfl)];simp only[qu,cB,bY];have:=yR (σ:=Int×η) (R:=η) (max a.length b.length) (by omega) (λi=>((i:Int),(dR (max a.length b.length)).map λk=>if k<i then gL (a.getD k 0) (b.getD k 0) else 0)) (f:=(λc=>(aG (fK c.1 (aN (max a.length b.length))) (av (gG (a,c.1)) λs=>(av (gG (b,c.1)) λq=>(chk (fD c.1 (ai c.2)) λ_=>(chk (fD c.1 (ai c.2)) λ_=>(M (rN ((bl .i64 (c.1+1)),(cF c.2 c.1 (gL s q))))))))) (M (bW c.2))))) (r:=jl a b) ?_ ?_
 .refine Eq.trans ?_ this;congr 1;simp only[Int.natCast_zero,wT,dT,aD,Bj];apply dg<;>simp
 .intro i hi;simp only[];rw[wh (by simp;omega),dM,xI,xI,dF,dF,cL (c_ (by simpa using hi)),cL (c_ (by simpa using hi)),qZ hi (by omega),dP];congr 3;apply dg
  .simp
  .intro k h1 h2;simp only[bx,dc]at h2;simp only[qO,mO,kK];by_cases e:i=k
   .subst e;simp
   .by_cases h:k<i
    .rw[ay e,aC h,aC (by omega)]
    .rw[ay e,ay h,ay (by omega)]
 .simp only[];rw[yT (by simp),ep];congr 2;unfold jl;apply mm;intro k hk;rw[aC (nI.1 hk)]
theorem YJ (a b:η) (z:a.length<=yn) (hb:b.length<=yn):tw (a,b)=M (jl a b,b):=by
 unfold yn at z hb;unfold tw HA ck bA bH aV cR aE cH;have hm:max a.length b.length<=1000000000:=by omega
 rw[cL (by simp only[qu];rw[qU (by omega),qU (by omega),wY (by simp;omega) (by simp;omega)];rfl)];simp only[qu,cB,bY];have:=yR (σ:=Int×η×η) (R:=η×η) (max a.length b.length) (by omega) (λi=>((i:Int),b,(dR (max a.length b.length)).map λk=>if k<i then gL (a.getD k 0) (b.getD k 0) else 0)) (f:=(λc=>(aG (fK c.1 (aN (max a.length b.length))) (av (gG (a,c.1)) λs=>(av (gG (c.2.1,c.1)) λq=>(chk (fD c.1 (ai c.2.2)) λ_=>(chk (fD c.1 (ai c.2.2)) λ_=>(M (rN ((bl .i64 (c.1+1)),c.2.1,(cF c.2.2 c.1 (gL s q))))))))) (M (bW (c.2.2,c.2.1)))))) (r:=(jl a b,b)) ?_ ?_
 .refine Eq.trans ?_ this;congr 1;simp only[Int.natCast_zero,wT,dT,aD,Bj];apply dg<;>simp
 .intro i hi;simp only[];rw[wh (by simp;omega),dM,xI,xI,dF,dF,cL (c_ (by simpa using hi)),cL (c_ (by simpa using hi)),qZ hi (by omega),dP];congr 4;apply dg
  .simp
  .intro k h1 h2;simp only[bx,dc]at h2;simp only[qO,mO,kK];by_cases e:i=k
   .subst e;simp
   .by_cases h:k<i
    .rw[ay e,aC h,aC (by omega)]
    .rw[ay e,ay h,ay (by omega)]
 .simp only[];rw[yT (by simp),ep];congr 3;unfold jl;apply mm;intro k hk;rw[aC (nI.1 hk)]
theorem Sy (a b:η) (c:a.length<=yn) (hb:b.length<=yn):BG (a,b)=M (jl a b):=by
 unfold BG;rw[YJ a b c hb,dF];exact PF rfl _
def tk (c:η) (t:Nat):η:=(c++aB (t+1-c.length) 0).set t (c.getD t 0+1)
theorem L5 (c:η) (t:Nat):(tk c t).length=max c.length (t+1):=by simp[tk];omega
theorem akw (c:η) (n i:Nat):(c++aB n 0).getD i 0=c.getD i 0:=by
 simp only[au];by_cases h:i<c.length
 .rw[bP h]
 .rw[b8 (by omega),bD (l:=c) (by omega),gQ];split<;>rfl
theorem HV (c:η) (t i:Nat):(tk c t).getD i 0=if i=t then c.getD t 0+1 else c.getD i 0:=by
 unfold tk;rw[au,jW];by_cases h:t=i
 .subst h;rw[aC rfl,aC (by simp;omega),aC rfl];rfl
 .rw[ay h,ay (λe=>h e.symm),<-au,akw]
theorem J4 (c:η) (n:Nat) (h:c.length<=n):MZ (aB n 0) c=c++aB (n-c.length) 0:=by
 unfold MZ;rw[bY,gf h,List.drop_replicate]
theorem aex (c:η) (t:Nat) (hc:c.length<=yn) (ht:t<4) (h0:0<=c.getD t 0) (h1:c.getD t 0<9223372036854775807):su (c,(t:Int))=M (tk c t):=by
 unfold yn at hc;unfold su ck jG bH aV aE cH;simp only[];rw[qU (by omega),dM,mC,wh (by omega)];simp only[dM,mC];have e1:gL (aN c.length) (bl .i64 ((t:Int)+1))=((max c.length (t+1):Nat):Int):=by
  rw[qZ ht (by omega)];exact qu _ _
 rw[e1];rw[cL (by rw[qU (by omega),qU (by omega),wY (by simp;omega) (by simp;omega)];rfl)];rw[cB];have e2:MZ (aB (max c.length (t+1)) (0:Int)) c=c++aB (t+1-c.length) 0:=by
  rw[J4 c _ (by omega)];rw[show max c.length (t+1)-c.length=t+1-c.length from by omega]
 rw[e2];have hl:t<(c++aB (t+1-c.length) (0:Int)).length:=by simp;omega
 rw[cL (c_ hl),cL (c_ hl),mC];have e3:aI (T:=.int .i64) (c++aB (t+1-c.length) (0:Int)) (t:Int)=c.getD t 0:=by
  rw[um];exact akw c _ t
 simp only[];rw[e3,wh h1,dM,cL (c_ hl),cL (c_ hl),cL (c_ hl),cL (c_ hl),mC,afq (by omega) (by omega),dP];rfl
theorem S6 (c:η) (hc:c.length<=yn):BH c=M c:=by
 unfold yn at hc;unfold BH;rw[cL (wY (by omega) (by omega))]
theorem M_ (c:η) (hc:c.length<=yn):uQ c=M c:=by
 unfold yn at hc;unfold uQ v7 bH;rw[cL (wY (by simp;omega) (by simp;omega)),dF];exact PF rfl _
theorem M' (c:η) (hc:c.length<=yn):oY c=M c:=S6 c hc
def GL (l:Y η):Prop:=l.length<=yn/\∀c∈l,c.length<=yn
abbrev HTp:Type:=Y η×Y η×Y η×Y η×Y η×Y η×η×Y η×η
def GH (h:HTp):Prop:=GL h.1/\GL h.2.1/\GL h.2.2.1/\GL h.2.2.2.1/\GL h.2.2.2.2.1/\GL h.2.2.2.2.2.1/\h.2.2.2.2.2.2.1.length<=yn/\GL h.2.2.2.2.2.2.2.1/\h.2.2.2.2.2.2.2.2.length<=yn
theorem I5 {l:Y η} {i:Nat} (h:i<l.length):l.getD i []∈l:=by
 rw[au,ax h];exact uM h
theorem GL.at {l:Y η} (h:GL l) (i:Nat):(l.getD i []).length<=yn:=by
 by_cases hi:i<l.length
 .exact h.2 _ (I5 hi)
 .rw[au,bD (by omega)];simp
theorem X8 (g:η->I η) (l:Y η) (hl:l.length<=yn) (hg:∀c∈l,g c=M c):
 gH (σ:=Int×Y η) (λa=>(aG (fK a.1 (aN (ai l))) (chk (fD a.1 (ai l)) λ_=>(av (g (aI (T:=(.sl (.int .i64))) l a.1)) λq=>(chk (fD a.1 (ai a.2)) λ_=>(chk (fD a.1 (ai a.2)) λ_=>(M (rN ((bl .i64 (a.1+1)),(cF a.2 a.1 q)))))))) (M (bW a.2)))) (0,(aB (aP (aN (ai l))) ([]:η)))=M l:=by
 unfold yn at hl;have:=yR (σ:=Int×Y η) (R:=Y η) l.length (by omega) (λi=>((i:Int),(dR l.length).map λk=>if k<i then l.getD k [] else [])) (f:=(λa=>(aG (fK a.1 (aN (ai l))) (chk (fD a.1 (ai l)) λ_=>(av (g (aI (T:=(.sl (.int .i64))) l a.1)) λq=>(chk (fD a.1 (ai a.2)) λ_=>(chk (fD a.1 (ai a.2)) λ_=>(M (rN ((bl .i64 (a.1+1)),(cF a.2 a.1 q)))))))) (M (bW a.2))))) (r:=l) ?_ ?_
 .refine Eq.trans ?_ this;congr 1;simp only[Int.natCast_zero,wT,dT,aD,Bj,ak,cB];apply dg<;>simp
 .intro i hi;simp only[];rw[wh (by simp;omega),dM,cL (c_ hi),um,show (l.getD i (Ty.zero (.sl (.int .i64))))=l.getD i [] from rfl,hg _ (I5 hi),dF,cL (c_ (by simpa using hi)),cL (c_ (by simpa using hi)),qZ hi (by omega),dP];congr 3;apply dg
  .simp
  .intro k h1 h2;simp only[bx,dc]at h2;simp only[qO,mO,kK];by_cases e:i=k
   .subst e;simp
   .by_cases h:k<i
    .rw[ay e,aC h,aC (by omega)]
    .rw[ay e,ay h,ay (by omega)]
 .simp only[];rw[yT (by simp),ep];congr 2;apply dg
  .simp
  .intro k h1 h2;simp only[mO,kK];rw[aC h2,au,ax h2];rfl
theorem rJ (l:Y η) (h:GL l):iw l=M l:=by
 have hl:=h.1;unfold yn at hl;unfold iw xk ck bA wS bH aV cR aE cH;rw[cL (by rw[qU (by simp),qU (by omega),wY (by simp;omega) (by simp;omega)];rfl)];exact X8 BH l h.1 λc hc=>S6 c (h.2 c hc)
theorem X9 (h:HTp) (g:GH h):ud h=M (h.2.2.2.2.2.2.1,h.1,h.2.1,h.2.2.1,h.2.2.2.1,h.2.2.2.2.1,h.2.2.2.2.2.1,h.2.2.2.2.2.2.2.1,h.2.2.2.2.2.2.2.2):=by
 obtain⟨Z,U,L,A,z,s,q,c,a⟩:=g;unfold ud aX bm bw cC eB kO pZ;rw[rJ _ Z,dF,rJ _ U,dF,rJ _ L,dF,rJ _ A,dF,rJ _ z,dF,rJ _ s,dF,M' _ q,dF,rJ _ c,dF,M' _ a,dF]
abbrev wM:Type:=Y (ζ×Int×Int×Bool×Int)×Y (ζ×Bool)×Y (ζ×Int)×Y ζ×Y ζ×Y π
def h0 (w:wM):HTp:=(aB w.2.2.2.2.1.length [],aB w.2.2.2.2.1.length [],aB w.2.1.length [],aB w.2.1.length [],aB w.1.length [],aB w.2.2.2.1.length [],[],aB w.2.2.2.2.1.length [],aB w.2.2.2.2.1.length (-1))
theorem abg (w:wM) (h1:w.1.length<=yn) (h2:w.2.1.length<=yn) (s:w.2.2.2.1.length<=yn) (q:w.2.2.2.2.1.length<=yn):pM w=M (h0 w):=by
 unfold yn at h1 h2 s q;have c:∀n b:Nat,n<=1000000000->b<=24->(cX 0 (aN n)&&cX (aN n) (aN n)&&a_ (aP (aN n)) b)=J:=λn b hn hb=>by
  have:n*b<=n*24:=Nat.mul_le_mul_left n hb;rw[qU (by simp),qU (by omega),wY (by simp;omega) (by simp;omega)];rfl
 unfold pM zY aX bm bw cC eB kO pZ ck bA bH aV cR aE cH;rw[cL (c _ 24 q (by omega)),cL (c _ 24 q (by omega)),cL (c _ 24 h2 (by omega)),cL (c _ 24 h2 (by omega)),cL (c _ 24 h1 (by omega)),cL (c _ 24 s (by omega)),cL (c _ 24 q (by omega)),cL (c _ 8 q (by omega))];simp only[ak,cB,bY];have:=yR (σ:=Int×(Y η)×(Y η)×(Y η)×(Y η)×(Y η)×(Y η)×(Y η)×η) (R:=HTp) w.2.2.2.2.1.length (by omega) (λi=>((i:Int),aB w.2.2.2.2.1.length [],aB w.2.2.2.2.1.length [],aB w.2.1.length [],aB w.2.1.length [],aB w.1.length [],aB w.2.2.2.1.length [],aB w.2.2.2.2.1.length [],(dR w.2.2.2.2.1.length).map λk=>if k<i then -1 else 0)) (f:=(λa=>(aG (fK a.1 (w.2.2.2.2.1.length:Int)) (chk (fD a.1 (ai a.2.2.2.2.2.2.2.2)) λ_=>(chk (fD a.1 (ai a.2.2.2.2.2.2.2.2)) λ_=>(M (rN ((bl .i64 (a.1+1)),a.2.1,a.2.2.1,a.2.2.2.1,a.2.2.2.2.1,a.2.2.2.2.2.1,a.2.2.2.2.2.2.1,a.2.2.2.2.2.2.2.1,(cF a.2.2.2.2.2.2.2.2 a.1 (-1))))))) (M (bW (a.2.1,a.2.2.1,a.2.2.2.1,a.2.2.2.2.1,a.2.2.2.2.2.1,a.2.2.2.2.2.2.1,([]:η),a.2.2.2.2.2.2.2.1,a.2.2.2.2.2.2.2.2)))))) (r:=h0 w) ?_ ?_
 .refine Eq.trans ?_ this;congr 1;simp only[Int.natCast_zero,wT,dT,aD,Bj];apply dg<;>simp
 .intro i hi;simp only[];rw[wh (by omega),dM,cL (c_ (by simpa using hi)),cL (c_ (by simpa using hi)),qZ hi (by omega),dP];congr 3;simp only[aD,Bj];apply dg
  .simp
  .intro k h1 h2;simp only[bx,dc]at h2;simp only[qO,mO,kK];by_cases e:i=k
   .subst e;simp
   .by_cases h:k<i
    .rw[ay e,aC h,aC (by omega)]
    .rw[ay e,ay h,ay (by omega)]
 .simp only[];rw[yT (by omega),ep];unfold h0;congr 3;simp only[aD,Bj];apply dg
  .simp
  .intro k h1 h2;simp only[bY]at h2;simp only[mO,kK,List.getElem_replicate];rw[aC h2]
theorem wg (x y:Int):gL x y=max x y:=by
 unfold gL;by_cases h:x<y
 .rw[wh h,aC rfl];omega
 .rw[yT (by omega)];simp;omega
theorem Mo {a b:η} (hl:a.length=b.length) (h:∀i,a.getD i 0=b.getD i 0):a=b:=by
 apply dg hl;intro i h1 h2;have:=h i;simpa[au,ax h1,ax h2] using this
def En (n:Int) (c:η):Prop:=c.length<=4/\∀i,0<=c.getD i 0/\c.getD i 0<=n
theorem En.nil {n:Int} (h:0<=n):En n []:=⟨by simp,λi=>by simp;exact h⟩
theorem En.mono {n m:Int} {c:η} (h:En n c) (hm:n<=m):En m c:=⟨h.1,λi=>⟨(h.2 i).1,Int.le_trans (h.2 i).2 hm⟩⟩
theorem En.jl {n:Int} {a b:η} (c:En n a) (hb:En n b):En n (jl a b):=⟨by rw[v9];have:=c.1;have:=hb.1;omega,λi=>by
 rw[BI];obtain⟨h1,h2⟩:=c.2 i;obtain⟨s,q⟩:=hb.2 i;unfold gL;split<;>exact⟨by assumption,by assumption⟩⟩
theorem En.tk {n:Int} {c:η} {t:Nat} (h:En n c) (ht:t<4):En (n+1) (tk c t):=⟨by rw[L5];have:=h.1;omega,λi=>by
 rw[HV];obtain⟨h1,h2⟩:=h.2 i;obtain⟨q,a⟩:=h.2 t;split<;>omega⟩
theorem ahi {n:Int} {c:η} (h:En n c):jl [] c=c:=Mo (by simp[v9]) λi=>by
 rw[BI,wg];have:=(h.2 i).1;simp only[List.getD_nil];omega
def Bg (n:Int) (l:Y η):Prop:=∀i,En n (l.getD i [])
theorem Bg.mono {n m:Int} {l:Y η} (h:Bg n l) (hm:n<=m):Bg m l:=λi=>(h i).mono hm
theorem Bg.set {n:Int} {l:Y η} (h:Bg n l) {c:η} (hc:En n c) (j:Nat):Bg n (l.set j c):=λi=>by
 rw[au,jW];by_cases e:j=i
 .subst e;rw[aC rfl];split
  .exact hc
  .have:=h j;simp only[au]at this;rename_i hj;rw[bD (by omega)]at this;exact this
 .rw[ay e,<-au];exact h i
theorem Bg.repl {n:Int} (h:0<=n) (k:Nat):Bg n (aB k []):=λi=>by
 rw[au,gQ];split<;>exact En.nil h
structure HS where
 T:List η
 S:List η
 L:List η
 R:List η
 C:List η
 F:List η
 X:η
 N:List η
 W:η
def HS.t (h:HS):HTp:=(h.T,h.S,h.L,h.R,h.C,h.F,h.X,h.N,h.W)
structure EV where
 th:Nat
 k:Nat
 ob:Nat
 va:Int
abbrev WTc:=Y (ζ×Int)
def Wa (a:WTc) (o:Nat):Nat:=((a.getD o ([],0)).2).toNat
def yw (a:Y (ζ×Int×Int×Bool×Int)) (o:Nat):Bool:=(a.getD o ([],0,0,af,0)).2.2.2.1
def Bo (w:wM) (h:HS) (e:EV):Y η:=
 if e.k=1 then [h.S.getD e.th []]
 else if e.k=21 then [h.T.getD e.ob []]
 else if e.k=6\/e.k=10 then [h.L.getD e.ob [],h.R.getD e.ob []]
 else if e.k=8 then [h.L.getD e.ob []]
 else if e.k=17 then [h.L.getD (Wa w.2.2.1 e.ob) [],h.R.getD (Wa w.2.2.1 e.ob) [],h.N.getD e.th []]
 else if e.k=3 then [h.C.getD e.ob []]
 else if e.k=23 then [h.F.getD e.ob []]
 else if e.k=12 then [h.X]
 else []
def Ka (w:wM) (h:HS) (e:EV):η:=tk ((Bo w h e).foldl jl (h.T.getD e.th [])) e.th
def jat (l:Y η) (i:Nat) (c:η):Y η:=l.set i (jl (l.getD i []) c)
def Cb (p:Nat->Bool) (c:η) (h:HS):HS:={h with N:=h.N.mapIdx λu x=>if p u then c else x,W:=h.W.mapIdx λu x=>if p u then -1 else x}
def jT (w:wM) (h:HS) (e:EV) (c:η):HS:=
 let h:={h with T:=h.T.set e.th c}
 if e.k=20 then {h with S:=h.S.set e.ob c}
 else if e.k=7\/e.k=11 then {h with L:=jat h.L e.ob c}
 else if e.k=9 then {h with R:=jat h.R e.ob c}
 else if e.k=16 then {h with L:=jat h.L (Wa w.2.2.1 e.ob) c,W:=h.W.set e.th e.ob}
 else if e.k=4 then (if yw w.1 e.ob then {h with C:=jat h.C e.ob c} else h)
 else if e.k=22 then {h with F:=jat h.F e.ob c}
 else if e.k=13 then {h with X:=jl h.X c}
 else if e.k=18 then (if 0<=e.va/\e.va<h.N.length then {h with N:=h.N.set e.va.toNat c,W:=h.W.set e.va.toNat (-1)} else h)
 else if e.k=19 then Cb (λu=>decide (h.W.getD u 0=(e.ob:Int))) c h
 else h
def Pu (w:wM) (h:HS) (e:EV):HS×η:=(jT w h e (Ka w h e),Ka w h e)
structure EOK (w:wM) (h:HS) (e:EV):Prop where
 th4:e.th<4
 th:e.th<h.T.length
 k1:1<=e.k
 k2:e.k<=23
 sp:e.k=20\/e.k=21->e.ob<h.T.length
 lk:6<=e.k/\e.k<=11->e.ob<h.L.length
 cd:e.k=16\/e.k=17->e.ob<w.2.2.1.length/\0<=(w.2.2.1.getD e.ob ([],0)).2/\Wa w.2.2.1 e.ob<h.L.length
 ce:e.k=3\/e.k=4->e.ob<h.C.length/\e.ob<w.1.length
 fu:e.k=22\/e.k=23->e.ob<h.F.length
structure Tb (n:Int) (h:HS):Prop where
 n0:0<=n
 n1:n<=1000000
 T:Bg n h.T
 S:Bg n h.S
 L:Bg n h.L
 R:Bg n h.R
 C:Bg n h.C
 F:Bg n h.F
 X:En n h.X
 N:Bg n h.N
 lT:h.T.length<=1000
 lS:h.S.length=h.T.length
 lN:h.N.length=h.T.length
 lW:h.W.length=h.T.length
 lL:h.L.length<=1000
 lR:h.R.length=h.L.length
 lC:h.C.length<=1000
 lF:h.F.length<=1000
theorem En.lb {n:Int} {c:η} (h:En n c):c.length<=yn:=by have:=h.1;unfold yn;omega
theorem Bg.GL {n:Int} {l:Y η} (h:Bg n l) (hl:l.length<=1000):GL l:=⟨by unfold yn;omega,λc hc=>by
 obtain⟨i,hi⟩:=fc hc;have:=(h i).lb
 rwa [au,hi]at this⟩
theorem Tb.GH {n:Int} {h:HS} (o:Tb n h):GH h.t:=
 ⟨o.T.GL o.lT,o.S.GL (by rw[o.lS];exact o.lT),o.L.GL o.lL,o.R.GL (by rw[o.lR];exact o.lL),o.C.GL o.lC,o.F.GL o.lF,o.X.lb,o.N.GL (by rw[o.lN];exact o.lT),by show h.W.length<=yn;have:=o.lT;rw[o.lW];unfold yn;omega⟩
theorem En.join {n:Int} {a b:η} (c:En n a) (hb:En n b):lG (a,b)=M (AI.jl a b):=afj a b c.lb hb.lb
theorem Tl {n:Int} {w:wM} {h:HS} (o:Tb n h) (e:EV):∀c∈Bo w h e,En n c:=by
 intro c hc;unfold Bo at hc;repeat' (split at hc)
 all_goals simp only[bh,cu,gj]at hc
 .subst hc;exact o.S _
 .subst hc;exact o.T _
 .rcases hc with rfl|rfl
  .exact o.L _
  .exact o.R _
 .subst hc;exact o.L _
 .rcases hc with rfl|rfl|rfl
  .exact o.L _
  .exact o.R _
  .exact o.N _
 .subst hc;exact o.C _
 .subst hc;exact o.F _
 .subst hc;exact o.X
theorem CX {n:Int}:∀(l:Y η) (c:η),En n c->(∀x∈l,En n x)->En n (l.foldl jl c)
 |[],_,hc,_=>hc
 |x::r,c,hc,h=>CX r _ (hc.jl (h x (c4 ..))) λy a=>h y (cE _ a)
theorem OP {n:Int} {w:wM} {h:HS} (o:Tb n h) {e:EV} (he:e.th<4):En (n+1) (Ka w h e):=(CX _ _ (o.T _) (Tl o e)).tk he
theorem Bg.jat {n:Int} {l:Y η} {c:η} (h:Bg n l) (hc:En n c) (i:Nat):Bg n (jat l i c):=h.set ((h i).jl hc) i
theorem Bg.mapIdx {n:Int} {l:Y η} {c:η} (h:Bg n l) (hc:En n c) (p:Nat->Bool):Bg n (l.mapIdx λu x=>if p u then c else x):=λi=>by
 rw[au,DU];have:=h i;rw[au]at this;cases a:l[i]? with
 |none=>rw[a]at this;exact this
 |some x=>
  rw[a]at this;simp only[ca,uK];split
  .exact hc
  .exact this
theorem ae1 {n:Int} {w:wM} {h:HS} (o:Tb n h) (hn:n+1<=1000000) {e:EV} {c:η} (hc:En (n+1) c):Tb (n+1) (jT w h e c):=by
 have m:n<=n+1:=by omega
 have oT:Bg (n+1) (h.T.set e.th c):=(o.T.mono m).set hc _;have b:Tb (n+1) {h with T:=h.T.set e.th c}:=⟨by have:=o.n0;omega,hn,oT,o.S.mono m,o.L.mono m,o.R.mono m,o.C.mono m,o.F.mono m,o.X.mono m,o.N.mono m,by simpa using o.lT,by simpa using o.lS,by simpa using o.lN,by simpa using o.lW,o.lL,o.lR,o.lC,o.lF⟩
 unfold jT;simp only[];repeat' split
 .exact {b with S:=(o.S.mono m).set hc _,lS:=by simpa using b.lS}
 .exact {b with L:=(o.L.mono m).jat hc _,lL:=by simpa[jat] using b.lL,lR:=by simpa[jat] using b.lR}
 .exact {b with R:=(o.R.mono m).jat hc _,lR:=by simpa[jat] using b.lR}
 .exact {b with L:=(o.L.mono m).jat hc _,lL:=by simpa[jat] using b.lL,lR:=by simpa[jat] using b.lR,lW:=by simpa using b.lW}
 .exact {b with C:=(o.C.mono m).jat hc _,lC:=by simpa[jat] using b.lC}
 .exact b
 .exact {b with F:=(o.F.mono m).jat hc _,lF:=by simpa[jat] using b.lF}
 .exact {b with X:=(o.X.mono m).jl hc}
 .exact {b with N:=(o.N.mono m).set hc _,lN:=by simpa using b.lN,lW:=by simpa using b.lW}
 .exact b
 .exact {b with N:=(o.N.mono m).mapIdx hc _,lN:=by simpa[Cb] using b.lN,lW:=by simpa[Cb] using b.lW}
 .exact b
theorem Zc {n:Int} {w:wM} {h:HS} (o:Tb n h) (hn:n+1<=1000000) {e:EV} (he:e.th<4):Tb (n+1) (Pu w h e).1:=ae1 o hn (OP o he)
theorem aay {a b:Nat} (h:a=b):aA a b=J:=by subst h;exact rO a
theorem Q9 (l:Y η) (i:Nat) (h:i<l.length):tM ((i:Int),l)=M (l.getD i [],l):=by
 unfold tM ck bA aV aE;simp only[];rw[yT (by omega)];simp only[ep,mC];rw[ZZ (by simp;omega)];simp only[ep];rw[cL (c_ h),cL (c_ h),rG]
theorem tO {n:Int} (l:Y η) (i:Nat) (c:η) (h:i<l.length) (hl:Bg n l) (hc:En n c):lY ((i:Int),l,c)=M (jat l i c,c):=by
 unfold lY ck jG aV aE;simp only[];rw[qU (by omega)];simp only[dM,mC];rw[wh (by simp;omega)];simp only[dM];rw[cL (c_ h),cL (c_ h),rG,Sy _ _ (hl i).lb hc.lb,dF,cL (c_ h),cL (c_ h),dP];rfl
theorem rC (l:Y η) (i:Nat) (c:η):(jat l i c).length=l.length:=by simp[jat]
theorem VF {n:Int} (h:HS) (u:Nat) (c:η) (h1:u<h.N.length) (h2:u<h.W.length) (hc:En n c):vX ((u:Int),h.X,h.T,h.S,h.L,h.R,h.C,h.F,h.N,h.W,c)=M (h.X,h.T,h.S,h.L,h.R,h.C,h.F,h.N.set u c,h.W.set u (-1),c):=by
 unfold vX aX bm bw cC eB kO zM B_ Prod.q10 ck;simp only[];rw[M_ c hc.lb,dF,cL (c_ h1),cL (c_ h1),cL (c_ h2),cL (c_ h2),dP,dP]
theorem Wl (a:WTc) (i:Nat):aI (T:=.st (.pr .str (.int .i64))) a (i:Int)=a.getD i ([],0):=um (T:=.st (.pr .str (.int .i64))) a i
theorem Od (a:Y (ζ×Int×Int×Bool×Int)) (i:Nat):aI (T:=.st (.pr .str (.pr (.int .i64) (.pr (.int .i64) (.pr .bool (.int .i64)))))) a (i:Int)=a.getD i ([],0,0,af,0):=um (T:=.st (.pr .str (.pr (.int .i64) (.pr (.int .i64) (.pr .bool (.int .i64)))))) a i
abbrev ETp:Type:=Int×Int×Int×Int×Int×η×η
structure EvT (e:EV) (x:ETp):Prop where
 th:x.1=(e.th:Int)
 k:x.2.1=(e.k:Int)
 ob:e.k∈[3,4,6,7,8,9,10,11,16,17,18,19,20,21,22,23]->x.2.2.1=(e.ob:Int)
 va:x.2.2.2.1=e.va
theorem Wd {k:Nat} {z:Int} (a:z=(k:Int)) (h1:1<=k) (h2:k<=23):(k=1/\z=1)\/(k=2/\z=2)\/(k=3/\z=3)\/(k=4/\z=4)\/(k=5/\z=5)\/(k=6/\z=6)\/(k=7/\z=7)\/(k=8/\z=8)\/(k=9/\z=9)\/(k=10/\z=10)\/(k=11/\z=11)\/(k=12/\z=12)\/(k=13/\z=13)\/(k=14/\z=14)\/(k=15/\z=15)\/(k=16/\z=16)\/(k=17/\z=17)\/(k=18/\z=18)\/(k=19/\z=19)\/(k=20/\z=20)\/(k=21/\z=21)\/(k=22/\z=22)\/(k=23/\z=23):=by
 have h:k=1\/k=2\/k=3\/k=4\/k=5\/k=6\/k=7\/k=8\/k=9\/k=10\/k=11\/k=12\/k=13\/k=14\/k=15\/k=16\/k=17\/k=18\/k=19\/k=20\/k=21\/k=22\/k=23:=by omega
 subst a;rcases h with rfl|rfl|rfl|rfl|rfl|rfl|rfl|rfl|rfl|rfl|rfl|rfl|rfl|rfl|rfl|rfl|rfl|rfl|rfl|rfl|rfl|rfl|rfl<;>simp
theorem Vf (a:Nat):(aA a a&&J)=J:=by rw[aay rfl];rfl
theorem abf {n:Int} {w:wM} {h:HS} (o:Tb n h) {e:EV} (ok:EOK w h e) {x:ETp} (hx:EvT e x):ue (x,h.X,w,h.T,h.S,h.L,h.R,h.C,h.F,h.N,h.W)=M (Bo w h e,x,h.X,w,h.T,h.S,h.L,h.R,h.C,h.F,h.N,h.W):=by
 obtain⟨x1,x2,q,x4,x5,x6,x7⟩:=x;obtain⟨w1,w2,s,w4,w5,w6⟩:=w;obtain⟨th,k,ob,va⟩:=e;obtain⟨U,z,q3,q4⟩:=hx;simp only at U z q3 q4;subst U q4;have t1:=ok.th;simp only at t1;have fS:fD (th:Int) h.S.length=J:=c_ (by rw[o.lS];exact t1);have fN:fD (th:Int) h.N.length=J:=c_ (by rw[o.lN];exact t1);have fT:k=21->fD (ob:Int) h.T.length=J/\q=(ob:Int):=λe=>by
  subst e;have:=ok.sp (.inr rfl);exact⟨c_ this,q3 (by decide)⟩
 have fL:(k=6\/k=10\/k=8)->fD (ob:Int) h.L.length=J/\fD (ob:Int) h.R.length=J/\q=(ob:Int):=λe=>by
  have h1:ob<h.L.length:=ok.lk (by rcases e with rfl|rfl|rfl<;>(simp only[];omega));exact⟨c_ h1,c_ (by rw[o.lR];exact h1),q3 (by rcases e with rfl|rfl|rfl<;>decide)⟩
 have fC:k=3->fD (ob:Int) h.C.length=J/\q=(ob:Int):=λe=>by
  subst e;have:=(ok.ce (.inl rfl)).1;exact⟨c_ this,q3 (by decide)⟩
 have fF:k=23->fD (ob:Int) h.F.length=J/\q=(ob:Int):=λe=>by
  subst e;have:=ok.fu (.inr rfl);exact⟨c_ this,q3 (by decide)⟩
 unfold ue Bo DR aX bm bw cC eB kO zM B_ Prod.q10 Prod.q11 cW fw ck bf wS bH aE;rcases Wd z ok.k1 ok.k2 with ⟨e,e'⟩|⟨e,e'⟩|⟨e,e'⟩|⟨e,e'⟩|⟨e,e'⟩|⟨e,e'⟩|⟨e,e'⟩|⟨e,e'⟩|⟨e,e'⟩|⟨e,e'⟩|⟨e,e'⟩|⟨e,e'⟩|⟨e,e'⟩|⟨e,e'⟩|⟨e,e'⟩|⟨e,e'⟩|⟨e,e'⟩|⟨e,e'⟩|⟨e,e'⟩|⟨e,e'⟩|⟨e,e'⟩|⟨e,e'⟩|⟨e,e'⟩<;>clear z<;>subst e<;>subst e'
 case inr.inr.inr.inr.inr.inr.inr.inr.inr.inr.inr.inr.inr.inr.inr.inr.inl=>
  have q3:=q3 (by decide);subst q3;obtain⟨Z,d2,A⟩:=ok.cd (.inr rfl);simp only at Z d2 A;have d4:Wa s ob<h.R.length:=by rw[o.lR];exact A
  have e1:(s.getD ob ([],0)).2=((Wa s ob:Nat):Int):=by unfold Wa;omega
  simp only[aY,dy,dU,dM,ep,mC,cL,c_ Z,Wl,e1,Q9 _ _ A,Q9 _ _ d4,dF,Vf,fN,rG];rfl
 case inr.inr.inl=>
  obtain⟨a,rfl⟩:=fC rfl;simp only[aY,dy,dU,dM,ep,mC,cL,a,rG];rfl
 case inr.inr.inr.inr.inr.inr.inr.inr.inr.inr.inr.inr.inr.inr.inr.inr.inr.inr.inr.inr.inr.inr=>
  obtain⟨a,rfl⟩:=fF rfl;simp only[aY,dy,dU,dM,ep,mC,cL,a,rG];rfl
 case inr.inr.inr.inr.inr.inr.inr.inr.inr.inr.inr.inr.inr.inr.inr.inr.inr.inr.inr.inr.inl=>
  obtain⟨a,rfl⟩:=fT rfl;simp only[aY,dy,dU,dM,ep,mC,cL,a,rG];rfl
 case inl=>
  simp only[aY,dy,dU,dM,ep,mC,cL,fS,rG];rfl
 case inr.inr.inr.inr.inr.inl=>
  obtain⟨a,c,rfl⟩:=fL (by decide);simp only[aY,dy,dU,dM,ep,mC,cL,a,c,rG];rfl
 case inr.inr.inr.inr.inr.inr.inr.inr.inr.inl=>
  obtain⟨a,c,rfl⟩:=fL (by decide);simp only[aY,dy,dU,dM,ep,mC,cL,a,c,rG];rfl
 case inr.inr.inr.inr.inr.inr.inr.inl=>
  obtain⟨a,c,rfl⟩:=fL (by decide);simp only[aY,dy,dU,dM,ep,mC,cL,a,c,rG];rfl
 all_goals
  simp only[aY,dy,dU,dM,ep,mC];rfl
theorem Ms {σ R:Type} {f:σ->I (σ⊕R)} {x0:σ} {r:R} (n:Nat) (hn:n<18446744073709551616) (st:Nat->σ) (a:x0=st 0) (h0:∀i,i<n->f (st i)=M (.inl (st (i+1)))) (h1:f (st n)=M (.inr r)):gH f x0=M r:=by
 subst a;exact yR n hn st h0 h1
def KK {α:Type} (p:Nat->Bool) (c:α) (u:Nat) (l:Y α):Y α:=l.mapIdx λk x=>if decide (k<u)&&p k then c else x
theorem Y4 {α:Type} (p:Nat->Bool) (c:α) (l:Y α):KK p c 0 l=l:=by
 unfold KK;apply dg
 .simp
 .intro i h1 h2;simp
theorem HQ {α:Type} (p:Nat->Bool) (c:α) (u:Nat) (l:Y α):(KK p c u l).length=l.length:=by simp[KK]
theorem Pq {α:Type} (p:Nat->Bool) (c:α) (u:Nat) (l:Y α) (h:l.length<=u):KK p c u l=l.mapIdx λk x=>if p k then c else x:=by
 unfold KK;apply dg
 .simp
 .intro i h1 h2;simp only[List.length_mapIdx]at h1;simp only[List.getElem_mapIdx];rw[show decide (i<u)=J from aR (by omega)];rfl
theorem VB {α:Type} (p:Nat->Bool) (c:α) (u:Nat) (l:Y α) (hp:p u=J):(KK p c u l).set u c=KK p c (u+1) l:=by
 unfold KK;apply dg
 .simp
 .intro i h1 h2;simp only[qO,List.getElem_mapIdx];by_cases e:u=i
  .subst e;simp[hp]
  .rw[ay e];by_cases h:i<u
   .rw[aR h,aR (show i<u+1 by omega)]
   .rw[bz h,bz (show ¬i<u+1 by omega)]
theorem Pp {α:Type} (p:Nat->Bool) (c:α) (u:Nat) (l:Y α) (hp:p u=af):KK p c u l=KK p c (u+1) l:=by
 unfold KK;apply dg
 .simp
 .intro i h1 h2;simp only[List.getElem_mapIdx];by_cases e:u=i
  .subst e;simp[hp]
  .by_cases h:i<u
   .rw[aR h,aR (show i<u+1 by omega)]
   .rw[bz h,bz (show ¬i<u+1 by omega)]
theorem ah7 (p:Nat->Bool) (c:Int) (u:Nat) (l:η):(KK p c u l).getD u 0=l.getD u 0:=by
 unfold KK;rw[au,DU,au];cases l[u]? with
 |none=>rfl
 |some x=>simp
def HS.e (h:HS) (c:η):η×Y η×Y η×Y η×Y η×Y η×Y η×Y η×η×η:=(h.X,h.T,h.S,h.L,h.R,h.C,h.F,h.N,h.W,c)
theorem aac {n:Int} {w:wM} {h:HS} (o:Tb n h) (hn:n+1<=1000000) {e:EV} (ok:EOK w h e) {x:ETp} (hx:EvT e x) {c:η} (hc:En (n+1) c):rz ((w,x),h.e c)=M ((jT w h e c).e c):=by
 obtain⟨x1,x2,x3,a,x5,x6,x7⟩:=x;obtain⟨z,w2,A,w4,w5,w6⟩:=w;obtain⟨th,k,ob,va⟩:=e;obtain⟨q1,q2,q3,q4⟩:=hx;simp only at q1 q2 q3 q4;subst q1 q4;have t1:=ok.th;simp only at t1;have m:n<=n+1:=by omega
 have fT:fD (th:Int) h.T.length=J:=c_ t1;have fW:fD (th:Int) h.W.length=J:=c_ (by rw[o.lW];exact t1);have s:=M_ c hc.lb;unfold rz zX HS.e DR Prod.p11 Prod.p12 Prod.p13 Prod.p14 Prod.p15 Prod.p16 Prod.p17 aX bm bw cC eB kO zM B_ Prod.q10 Prod.q16 Prod.q17 Prod.q18 cW lJ Prod.q9 ck bf bA jG wS bH aV cR aE cH;rcases Wd q2 ok.k1 ok.k2 with ⟨e,e'⟩|⟨e,e'⟩|⟨e,e'⟩|⟨e,e'⟩|⟨e,e'⟩|⟨e,e'⟩|⟨e,e'⟩|⟨e,e'⟩|⟨e,e'⟩|⟨e,e'⟩|⟨e,e'⟩|⟨e,e'⟩|⟨e,e'⟩|⟨e,e'⟩|⟨e,e'⟩|⟨e,e'⟩|⟨e,e'⟩|⟨e,e'⟩|⟨e,e'⟩|⟨e,e'⟩|⟨e,e'⟩|⟨e,e'⟩|⟨e,e'⟩<;>clear q2<;>subst e<;>subst e'
 case inr.inr.inr.inr.inr.inr.inr.inr.inr.inr.inr.inr.inr.inr.inr.inr.inr.inr.inr.inl=>
  obtain rfl:=q3 (by decide);have f:fD (ob:Int) h.S.length=J:=c_ (by rw[o.lS];exact ok.sp (.inl rfl));simp only[aY,dy,dU,dM,ep,mC,dF,cL,s,fT,f,dP];rfl
 case inr.inr.inr.inr.inr.inr.inl=>
  obtain rfl:=q3 (by decide);have f:ob<h.L.length:=ok.lk (by simp only[];omega);simp only[aY,dy,dU,dM,ep,mC,dF,cL,s,fT,dP,tO _ _ _ f (o.L.mono m) hc,rC,Vf];rfl
 case inr.inr.inr.inr.inr.inr.inr.inr.inr.inr.inl=>
  obtain rfl:=q3 (by decide);have f:ob<h.L.length:=ok.lk (by simp only[];omega);simp only[aY,dy,dU,dM,ep,mC,dF,cL,s,fT,dP,tO _ _ _ f (o.L.mono m) hc,rC,Vf];rfl
 case inr.inr.inr.inr.inr.inr.inr.inr.inl=>
  obtain rfl:=q3 (by decide);have f:ob<h.R.length:=by rw[o.lR];exact ok.lk (by simp only[];omega)
  simp only[aY,dy,dU,dM,ep,mC,dF,cL,s,fT,dP,tO _ _ _ f (o.R.mono m) hc,rC,Vf];rfl
 case inr.inr.inr.inr.inr.inr.inr.inr.inr.inr.inr.inr.inr.inr.inr.inl=>
  obtain rfl:=q3 (by decide);obtain⟨Z,d2,d3⟩:=ok.cd (.inl rfl);simp only at Z d2 d3;have e1:(A.getD ob ([],0)).2=((Wa A ob:Nat):Int):=by unfold Wa;omega
  simp only[aY,dy,dU,dM,ep,mC,dF,cL,s,fT,fW,dP,c_ Z,Wl,e1,tO _ _ _ d3 (o.L.mono m) hc,rC,Vf];rfl
 case inr.inr.inr.inl=>
  obtain rfl:=q3 (by decide);obtain⟨Z,d2⟩:=ok.ce (.inr rfl);simp only at Z d2;simp only[aY,dy,dU,dM,ep,mC,dF,cL,s,fT,dP,c_ d2,Od];cases hv:(z.getD ob ([],0,0,af,0)).2.2.2.1 with
  |true=>
   simp only[dM,dF,cL,tO _ _ _ Z (o.C.mono m) hc,rC,Vf,mC];have U:jT (z,w2,A,w4,w5,w6) h ⟨th,4,ob,a⟩ c=if yw z ob then {h with T:=h.T.set th c,C:=jat h.C ob c} else {h with T:=h.T.set th c}:=rfl
   rw[U,show yw z ob=J from hv];rfl
  |false=>
   simp only[ep,mC];have U:jT (z,w2,A,w4,w5,w6) h ⟨th,4,ob,a⟩ c=if yw z ob then {h with T:=h.T.set th c,C:=jat h.C ob c} else {h with T:=h.T.set th c}:=rfl
   rw[U,show yw z ob=af from hv];rfl
 case inr.inr.inr.inr.inr.inr.inr.inr.inr.inr.inr.inr.inr.inr.inr.inr.inr.inr.inr.inr.inr.inl=>
  obtain rfl:=q3 (by decide);have f:ob<h.F.length:=ok.fu (.inl rfl);simp only[aY,dy,dU,dM,ep,mC,dF,cL,s,fT,dP,tO _ _ _ f (o.F.mono m) hc,rC,Vf];rfl
 case inr.inr.inr.inr.inr.inr.inr.inr.inr.inr.inr.inr.inl=>
  simp only[aY,dy,dU,dM,ep,mC,dF,cL,s,fT,dP,Sy _ _ (o.X.mono m).lb hc.lb];rfl
 case inr.inr.inr.inr.inr.inr.inr.inr.inr.inr.inr.inr.inr.inr.inr.inr.inr.inl=>
  simp only[aY,dy,dU,dM,ep,mC,dF,cL,s,fT,dP];have U:jT (z,w2,A,w4,w5,w6) h ⟨th,18,ob,a⟩ c=if 0<=a/\a<h.N.length then {h with T:=h.T.set th c,N:=h.N.set a.toNat c,W:=h.W.set a.toNat (-1)} else {h with T:=h.T.set th c}:=rfl
  rw[U];by_cases h0:0<=a
  .by_cases h1:a<h.N.length
   .rw[qU h0];simp only[dM,mC];rw[wh (show a<aN h.N.length from h1)];obtain⟨v,rfl⟩:∃v:Nat,a=(v:Int):=⟨a.toNat,by omega⟩
    have v1:v<h.N.length:=by omega
    have v2:v<h.W.length:=by rw[o.lW,<-o.lN];exact v1
    have:=VF {h with T:=h.T.set th c} v c v1 v2 hc;simp only[]at this;simp only[dM,this,dF,ia,cL,aay rfl,jE,mC];rw[aC ⟨h0,h1⟩];rfl
   .rw[qU h0];simp only[dM,mC];rw[yT (show aN h.N.length<=a from B6.1 h1)];simp only[ep,mC];rw[ay (λq=>h1 q.2)]
  .rw[ZZ (by omega)];simp only[ep,mC];rw[ay (λq=>h0 q.1)]
 case inr.inr.inr.inr.inr.inr.inr.inr.inr.inr.inr.inr.inr.inr.inr.inr.inr.inr.inl=>
  obtain rfl:=q3 (by decide);simp only[aY,dy,dU,dM,ep,mC,dF,cL,s,fT,dP];rw[Ms (r:=bW (h.X,h.T.set th c,h.S,h.L,h.R,h.C,h.F,KK (λu=>decide (h.W.getD u 0=(ob:Int))) c h.W.length h.N,KK (λu=>decide (h.W.getD u 0=(ob:Int))) (-1) h.W.length h.W,c)) h.W.length (by have:=o.lW;have:=o.lT;omega)
   (λi=>((i:Int),h.X,h.T.set th c,h.S,h.L,h.R,h.C,h.F,KK (λu=>decide (h.W.getD u 0=(ob:Int))) c i h.N,KK (λu=>decide (h.W.getD u 0=(ob:Int))) (-1) i h.W,c,(th:Int),(19:Int),(ob:Int),a,x5,x6,x7)) ?_ ?_ ?_]
  .simp only[mC];rw[Pq _ _ _ h.W (bU _),Pq _ _ _ h.N (by rw[o.lN,o.lW];exact bU _)];rfl
  .simp only[Y4];rfl
  .intro i hi;simp only[];have hN:i<(KK (λu=>decide (h.W.getD u 0=(ob:Int))) c i h.N).length:=by rw[HQ,o.lN,<-o.lW];exact hi
   have hW:i<(KK (λu=>decide (h.W.getD u 0=(ob:Int))) (-1) i h.W).length:=by rw[HQ];exact hi
   rw[wh (by simp;omega),dM,cL (c_ hW),cL (c_ hW),aho,ah7];have ws:=qZ hi (show h.W.length<=1099511627776 by have:=o.lW;have:=o.lT;omega);by_cases hp:h.W.getD i 0=(ob:Int)
   .rw[aR hp,dM];have:=VF {h with T:=h.T.set th c,N:=KK (λu=>decide (h.W.getD u 0=(ob:Int))) c i h.N,W:=KK (λu=>decide (h.W.getD u 0=(ob:Int))) (-1) i h.W} i c hN hW hc;simp only[]at this;rw[this,dF,cL (by simp only[ia,aay rfl,jE]),mC,ws,VB _ _ _ _ (aR hp),VB _ _ _ _ (aR hp)]
   .rw[bz hp,ep,mC,ws,<-Pp _ _ _ _ (bz hp),<-Pp _ _ _ _ (bz hp)]
  .simp only[];rw[yT (by simp),ep]
 all_goals
  simp only[aY,dy,dU,dM,ep,mC,dF,cL,s,fT,dP];rfl
theorem Uu (l:Y η) (c:η) (i:Nat) (hi:i<l.length):(l.take (i+1)).foldl jl c=jl ((l.take i).foldl jl c) (l.getD i []):=by
 rw[List.take_add_one,eC,ax hi,au,ax hi];rfl
theorem Px (w:wM) (h:HS) (e:EV):(Bo w h e).length<=3:=by
 unfold Bo;repeat' split
 all_goals simp
theorem ahz {n:Int} {w:wM} {h:HS} (o:Tb n h) (e:EV) (i:Nat):0<=((Bo w h e).foldl jl (h.T.getD e.th [])).getD i 0/\((Bo w h e).foldl jl (h.T.getD e.th [])).getD i 0<9223372036854775807:=by
 have:=(CX _ _ (o.T e.th) (Tl (w:=w) o e)).2 i;have:=o.n1;omega
theorem FG (w:wM) (h:HS) (e:EV) (c:η):(jT w h e c).T.length=h.T.length/\(jT w h e c).S.length=h.S.length/\(jT w h e c).L.length=h.L.length/\(jT w h e c).R.length=h.R.length/\(jT w h e c).C.length=h.C.length/\(jT w h e c).F.length=h.F.length/\(jT w h e c).N.length=h.N.length/\(jT w h e c).W.length=h.W.length:=by
 unfold jT;simp only[];repeat' split
 all_goals simp[jat,Cb]
theorem af0 {n:Int} {w:wM} {h:HS} (o:Tb n h) (hn:n+1<=1000000) {e:EV} (ok:EOK w h e) {x:ETp} (U:EvT e x):sr (w,h.t,x)=M ((Pu w h e).1.t,(Pu w h e).2):=by
 have s2:=abf o ok U;have hce:En (n+1) (Ka w h e):=OP o ok.th4;have en:=aac o hn ok U hce;have Z:=X9 h.t o.GH;have sl:=Px w h e;have sE:=Tl (w:=w) o e;have hlen:=FG w h e (Ka w h e);obtain⟨x1,x2,x3,x4,x5,x6,x7⟩:=x;obtain⟨A,z,s,q,c,a⟩:=w;have t1:=U.th;simp only at t1;subst t1;unfold HS.t at Z;simp only[]at Z;have fT:fD (e.th:Int) h.T.length=J:=c_ ok.th;unfold sr CU HS.t DR Prod.p11 aX bm bw cC eB kO zM B_ Prod.q11 Prod.q12 cW fw pZ Prod.q9 ck bA wS bH aV cR cH;simp only[];rw[Z,dF];simp only[];rw[cL fT,cL fT,s2,dF];simp only[];rw[cL (by simp only[aay rfl,jE])];refine Ms (Bo (A,z,s,q,c,a) h e).length (by omega) (λi=>((i:Int),(A,z,s,q,c,a),((e.th:Int),x2,x3,x4,x5,x6,x7),h.X,((Bo (A,z,s,q,c,a) h e).take i).foldl jl (h.T.getD e.th []),h.T,h.S,h.L,h.R,h.C,h.F,h.N,h.W)) ?_ ?_ ?_
 .simp only[rG,List.take_zero,List.foldl_nil];rfl
 .intro i hi;simp only[];rw[wh (by simp;omega),dM,cL (c_ hi),rG,(CX _ _ (o.T e.th) (λy hy=>sE y (hY hy))).join (sE _ (I5 hi)),dF,qZ hi (by omega),Uu _ _ _ hi]
 .simp only[];rw[yT (by simp),ep,gf (bU _)];have hl:=ahz (w:=(A,z,s,q,c,a)) o e e.th;rw[aex _ e.th (CX _ _ (o.T e.th) sE).lb ok.th4 hl.1 hl.2,dF];unfold HS.e at en;unfold Ka at en hlen;rw[en,dF];simp only[];rw[cL (by rw[hlen.1,hlen.2.1,hlen.2.2.1,hlen.2.2.2.1,hlen.2.2.2.2.1,hlen.2.2.2.2.2.1,hlen.2.2.2.2.2.2.1,hlen.2.2.2.2.2.2.2];simp only[aay rfl,jE])];rfl
abbrev vK:Ty:=(.st (.pr (.int .i64) (.sl (.st (.pr (.int .i64) (.pr (.int .i64) (.pr (.int .i64) (.pr (.int .i64) (.pr (.int .i64) (.int .i64))))))))))
abbrev Bm:Ty:=(.st (.pr (.int .i64) (.pr (.int .i64) (.pr (.int .i64) (.pr (.int .i64) (.pr (.int .i64) (.int .i64)))))))
abbrev uC:Ty:=(.st (.pr (.int .i64) (.pr (.sl (.int .i64)) (.pr (.sl (.sl (.int .i64))) (.int .i64)))))
abbrev yz:Ty:=(.st (.pr .str (.pr (.int .i64) (.pr (.sl .str) (.sl .sm)))))
abbrev tDc:Ty:=(.st (.pr (.int .i64) (.pr (.int .i64) (.pr .str (.pr (.int .i64) (.pr (.int .i64) .str))))))
abbrev tE:Ty:=(.st (.pr (.int .i64) (.pr (.int .i64) (.pr (.int .i64) (.pr (.int .i64) (.pr (.int .i64) (.pr (.sl (.int .i64)) (.sl (.int .i64)))))))))
abbrev Ti:Ty:=(.st (.pr .str .bool))
abbrev L6:Ty:=(.st (.pr .str (.pr (.int .i64) (.pr (.int .i64) (.pr .bool (.int .i64))))))
abbrev xJ:Ty:=(.st (.pr (.int .i64) (.pr (.int .i64) (.int .i64))))
abbrev S9:Ty:=(.st (.pr .str (.int .i64)))
abbrev Ag:Ty:=(.st (.pr (.int .i64) (.sl (.int .i64))))
abbrev jF:Ty:=(.st (.pr (.int .i64) (.pr (.int .i64) .bool)))
def Ok {R:Type} (o:I R) (Q:R->Prop):Prop:=∃y,o=M y/\Q y
theorem Ok.mono {R:Type} {o:I R} {Q Q':R->Prop} (h:Ok o Q) (hq:∀y,Q y->Q' y):Ok o Q':=by obtain⟨y,h1,h2⟩:=h;exact⟨y,h1,hq y h2⟩
theorem aj {R:Type} {y:R} {Q:R->Prop} (h:Q y):Ok (M y) Q:=⟨y,rfl,h⟩
theorem aky {R:Type} {o:I R} {y:R} {Q:R->Prop} (e:o=M y) (h:Q y):Ok o Q:=⟨y,e,h⟩
theorem bd {R:Type} {b:Bool} {k:I R} {Q:R->Prop} (h:b=J) (hk:Ok k Q):Ok (chk b λ_=>k) Q:=by subst h;exact hk
theorem aQ {R:Type} {b:Bool} {t f:I R} {Q:R->Prop} (ht:b=J->Ok t Q) (hf:b=af->Ok f Q):Ok (aG b t f) Q:=by
 cases b with
 |true=>exact ht rfl
 |false=>exact hf rfl
theorem fP {R:Type} {b:Bool} {t f:I R} {Q:R->Prop} (h:b=J) (ht:Ok t Q):Ok (aG b t f) Q:=by subst h;exact ht
theorem fA {R:Type} {b:Bool} {t f:I R} {Q:R->Prop} (h:b=af) (hf:Ok f Q):Ok (aG b t f) Q:=by subst h;exact hf
theorem aw {α R:Type} {o:I α} {k:α->I R} {P:α->Prop} {Q:R->Prop} (h:Ok o P) (hk:∀x,P x->Ok (k x) Q):Ok (av o k) Q:=by
 obtain⟨x,rfl,a⟩:=h;exact hk x a
theorem aS {α R:Type} {o:I α} {k:α->I R} {x:α} {Q:R->Prop} (h:o=M x) (hk:Ok (k x) Q):Ok (av o k) Q:=by subst h;exact hk
theorem aT {α R:Type} {x:α} {k:α->I R} {Q:R->Prop} (h:Ok (k x) Q):Ok (lt x k) Q:=h
theorem aU {α R:Type} {o:I (R⊕α)} {k:α->I R} {Q:R->Prop} (P:α->Prop) (h:Ok o λr=>match r with|.inl r=>Q r|.inr x=>P x) (hk:∀x,P x->Ok (k x) Q):Ok (jn o k) Q:=by
 obtain⟨r,rfl,hr⟩:=h;cases r with
 |inl r=>exact⟨r,rfl,hr⟩
 |inr x=>exact hk x hr
theorem gO {α R:Type} {o:I (R⊕α)} {k:α->I R} {Q:R->Prop} (h:Ok o λr=>match r with|.inl r=>Q r|.inr x=>Ok (k x) Q):Ok (jn o k) Q:=aU (λx=>Ok (k x) Q) h λ_ h=>h
theorem ad7 {α R:Type} {a b:α} {r:I R} {Q:R->Prop} (e:a=b) (h:Ok r Q):Ok (same a b r) Q:=by unfold same;rw[aC e];exact h
theorem qb {σ R:Type} {f:σ->I (σ⊕R)} {Q:R->Prop} (μ:σ->Nat) (z:σ->Prop) (h:∀x,z x->Ok (f x) λr=>match r with|.inl y=>z y/\μ y<μ x|.inr r=>Q r) {x:σ} (a:z x):Ok (iter f x) Q:=by
 have key:∀n x,μ x<n->z x->∃m r,iterN f m x=M r/\Q r:=by
  intro n;induction n with
  |zero=>intro x hm;omega
  |succ n c=>
   intro x hm a;obtain⟨r,h1,h2⟩:=h x a;cases r with
   |inl y=>
    obtain⟨m,r,s,q⟩:=c y (by have:=h2.2;omega) h2.1;exact⟨m+1,r,by rw[iterN,h1];exact s,q⟩
   |inr r=>exact⟨1,r,by rw[iterN,h1],h2⟩
 obtain⟨m,r,h1,h2⟩:=key (μ x+1) x (qN _) a;exact⟨r,yQ h1,h2⟩
theorem cf {σ R:Type} {f:σ->I (σ⊕R)} {Q:R->Prop} (n:Nat) (z:Nat->σ->Prop) (h0:∀i x,i<n->z i x->Ok (f x) λr=>match r with|.inl y=>z (i+1) y|.inr r=>Q r) (h1:∀x,z n x->Ok (f x) λr=>match r with|.inl _=>False|.inr r=>Q r) {x:σ} (q:z 0 x):Ok (iter f x) Q:=by
 have key:∀m i x,i+m=n->z i x->∃k r,iterN f k x=M r/\Q r:=by
  intro m;induction m with
  |zero=>
   intro i x hi q;have:i=n:=by omega
   subst this;obtain⟨r,c,a⟩:=h1 x q;cases r with
   |inl y=>exact a.elim
   |inr r=>exact⟨1,r,by rw[iterN,c],a⟩
  |succ m s=>
   intro i x hi q;obtain⟨r,c,a⟩:=h0 i x (by omega) q;cases r with
   |inl y=>
    obtain⟨k,r,L,A⟩:=s (i+1) y (by omega) a;exact⟨k+1,r,by rw[iterN,c];exact L,A⟩
   |inr r=>exact⟨1,r,by rw[iterN,c],a⟩
 obtain⟨m,r,c,a⟩:=key n 0 x (by omega) q;exact⟨r,yQ c,a⟩
def itQ {σ R:Type} (f:σ->I (σ⊕R)) (Q:R->Prop):σ⊕R->Prop
 |.inl y=>Ok (iter f y) Q
 |.inr r=>Q r
def jnQ {α R:Type} (k:α->I R) (Q:R->Prop):R⊕α->Prop
 |.inl r=>Q r
 |.inr x=>Ok (k x) Q
theorem ad6 {σ R:Type} {f:σ->I (σ⊕R)} {x:σ} {Q:R->Prop} (h:Ok (f x) (itQ f Q)):Ok (iter f x) Q:=by
 obtain⟨r,h1,h2⟩:=h;cases r with
 |inr r=>exact⟨r,yQ (n:=1) (by rw[iterN,h1]),h2⟩
 |inl y=>
  obtain⟨z,a,c⟩:=h2;unfold iter at a;split at a
  .exact⟨z,yQ (n:=_+1) (by rw[iterN,h1];exact a),c⟩
  .cases a
theorem V8 {σ R:Type} {f:σ->I (σ⊕R)} {y:σ} {Q:R->Prop} (h:Ok (iter f y) Q):Ok (M (.inl y)) (itQ f Q):=⟨_,rfl,h⟩
theorem V7 {σ R:Type} {f:σ->I (σ⊕R)} {r:R} {Q:R->Prop} (h:Ok (M r) Q):Ok (M (.inr r)) (itQ f Q):=by
 obtain⟨_,h1,h2⟩:=h;cases h1;exact⟨_,rfl,h2⟩
theorem V5 {α R:Type} {o:I (R⊕α)} {k:α->I R} {Q:R->Prop} (h:Ok o (jnQ k Q)):Ok (jn o k) Q:=by
 obtain⟨r,rfl,hr⟩:=h;cases r with
 |inl r=>exact⟨r,rfl,hr⟩
 |inr x=>exact hr
theorem V6 {α R:Type} {r:R} {k:α->I R} {Q:R->Prop} (h:Ok (M r) Q):Ok (M (.inl r)) (jnQ k Q):=by
 obtain⟨_,h1,h2⟩:=h;cases h1;exact⟨_,rfl,h2⟩
theorem V4 {α R:Type} {x:α} {k:α->I R} {Q:R->Prop} (h:Ok (k x) Q):Ok (M (.inr x)) (jnQ k Q):=⟨_,rfl,h⟩
def oQ {α R:Type} (k:α->I R) (Q:R->Prop) (x:α):Prop:=Ok (k x) Q
theorem P1 {α R:Type} {o:I α} {k:α->I R} {Q:R->Prop} (h:Ok o (oQ k Q)):Ok (av o k) Q:=aw h λ_ h=>h
theorem P0 {α R:Type} {x:α} {k:α->I R} {Q:R->Prop} (h:Ok (k x) Q):Ok (M x) (oQ k Q):=⟨_,rfl,h⟩
theorem adm {j:Int} {n:Nat}:fD j n=J↔0<=j/\j<n:=by simp[fD,cX,fK]
theorem NS {a b:Int}:cX a b=J↔a<=b:=by simp[cX]
theorem qw {a b:Int}:fK a b=J↔a<b:=by simp[fK]
theorem fY {a b:Int}:fK a b=af↔b<=a:=by simp[fK]
theorem mg {a b:Int}:cX a b=af↔b<a:=by simp[cX]
theorem Xh {n b:Nat}:a_ n b=J↔n<=1099511627776/\n*b<=1099511627776:=by simp[a_]
theorem cG {R:Type} {o:I R} {v:R} (h:Ok o (·=v)):o=M v:=by obtain⟨y,h1,h2⟩:=h;rw[h1,h2]
section steps
variable {R:Type} {k t f:I R} {Q:R->Prop}
theorem aO {j:Int} {n:Nat} (h0:0<=j) (h1:j<n) (hk:Ok k Q):Ok (chk (fD j n) λ_=>k) Q:=bd (adm.2 ⟨h0,h1⟩) hk
theorem bc {n b:Nat} (h0:n<=1073741824) (h1:b<=1024) (hk:Ok k Q):Ok (chk (a_ n b) λ_=>k) Q:=
 bd (Xh.2 ⟨by omega,dv (Nat.mul_le_mul h0 h1) (by omega)⟩) hk
theorem cV {a b:Bool} (h:Ok (chk a λ_=>chk b λ_=>k) Q):Ok (chk (a&&b) λ_=>k) Q:=by
 cases a with
 |true=>exact h
 |false=>obtain⟨y,h,_⟩:=h;cases h
theorem dx {a b:Int} (h:a<=b) (hk:Ok k Q):Ok (chk (cX a b) λ_=>k) Q:=bd (NS.2 h) hk
theorem zS {a b:Int} (h:a<b) (hk:Ok k Q):Ok (chk (fK a b) λ_=>k) Q:=bd (qw.2 h) hk
theorem V9 {p:Prop} {i:Decidable p} (h:p) (hk:Ok k Q):Ok (chk (decide p) λ_=>k) Q:=bd (aR h) hk
theorem yI {p:Prop} {i:Decidable p} (h:¬p) (hk:Ok k Q):Ok (chk (!decide p) λ_=>k) Q:=bd (by simp[h]) hk
theorem lQ {a b:Nat} (h:a=b) (hk:Ok k Q):Ok (chk (aA a b) λ_=>k) Q:=bd (by subst h;exact rO a) hk
theorem Az (hk:Ok k Q):Ok (chk J λ_=>k) Q:=hk
theorem bK {a b:Int} (ht:a<b->Ok t Q) (hf:b<=a->Ok f Q):Ok (aG (fK a b) t f) Q:=aQ (λh=>ht (qw.1 h)) (λh=>hf (fY.1 h))
theorem fH {a b:Int} (ht:a<=b->Ok t Q) (hf:b<a->Ok f Q):Ok (aG (cX a b) t f) Q:=aQ (λh=>ht (NS.1 h)) (λh=>hf (mg.1 h))
theorem aK {p:Prop} {i:Decidable p} (ht:p->Ok t Q) (hf:¬p->Ok f Q):Ok (aG (decide p) t f) Q:=aQ (λh=>ht (be h)) (λh=>hf (Bk h))
theorem b9 {p:Prop} {i:Decidable p} (ht:¬p->Ok t Q) (hf:p->Ok f Q):Ok (aG (!decide p) t f) Q:=aQ (λh=>ht (by simpa using h)) (λh=>hf (by simpa using h))
theorem ey {b:Bool} (ht:b=af->Ok t Q) (hf:b=J->Ok f Q):Ok (aG (!b) t f) Q:=aQ (λh=>ht (by simpa using h)) (λh=>hf (by simpa using h))
theorem qT (ht:Ok t Q):Ok (aG J t f) Q:=ht
theorem c7 (hf:Ok f Q):Ok (aG af t f) Q:=hf
theorem cI {j:Int} {n:Nat} (hk:Ok k Q) (h0:0<=j:=by first|omega|(dsimp only;omega)) (h1:j<n:=by first|omega|(dsimp only;omega)):Ok (chk (fD j n) λ_=>k) Q:=aO h0 h1 hk
theorem dz {a b:Int} (ht:Ok t Q) (h:a<b:=by first|omega|(dsimp only[ak];omega)):Ok (aG (fK a b) t f) Q:=bK (λ_=>ht) λg=>ct h (B6.2 g)
theorem dt {a b:Int} (hf:Ok f Q) (h:b<=a:=by first|omega|(dsimp only[ak];omega)):Ok (aG (fK a b) t f) Q:=bK (λg=>ct g (B6.2 h)) λ_=>hf
end steps
theorem qR:(∀(p:Prop) [Decidable p],(decide p=J)=p)/\(∀p:Prop,(True\/p)=True)/\(∀p:Prop,(p\/True)=True)/\(∀p:Prop,(True->p)=p)/\(∀p:Prop,(True/\p)=p)/\∀p:Prop,(p/\True)=p:=⟨λ_=>bL,true_or,or_true,λ_=>true_implies _,Bj,and_true⟩
theorem sX:(∀i:Decidable True,@decide True i=J)/\(∀i:Decidable False,@decide False i=af)/\(∀{R:Type} (t f:I R),aG J t f=t)/\(∀{R:Type} (t f:I R),aG af t f=f)/\(∀{α R:Type} (x:α) (k:α->I R),jn (M (.inr x)) k=k x)/\(∀{α R:Type} (r:R) (k:α->I R),jn (M (.inl r)) k=M r)/\(∀{α R:Type} (x:α) (k:α->I R),av (M x) k=k x)/\(∀{α R:Type} (x:α) (k:α->I R),lt x k=k x)/\(!J)=af/\(!af)=J:=⟨dU,dy,λ_ _=>rfl,λ_ _=>rfl,λ_ _=>rfl,λ_ _=>rfl,λ_ _=>rfl,λ_ _=>rfl,rfl,rfl⟩
structure IM (p q:Prop):Prop where
 h:p->q
inductive OS {R:Type}:Option R->(R->Prop)->Prop where
 |cand {a b:Bool} {k:Option R} {Q:R->Prop} (h:Ok (chk a λ_=>chk b λ_=>k) Q):OS (chk (a&&b) λ_=>k) Q
 |fD {j:Int} {n:Nat} {k:Option R} {Q:R->Prop} (h0:0<=j) (h1:j<n) (hk:Ok k Q):OS (chk (fD j n) λ_=>k) Q
 |room {n b:Nat} {k:Option R} {Q:R->Prop} (h0:n<=1073741824) (h1:b<=1024) (hk:Ok k Q):OS (chk (a_ n b) λ_=>k) Q
 |cile {a b:Int} {k:Option R} {Q:R->Prop} (h:a<=b) (hk:Ok k Q):OS (chk (cX a b) λ_=>k) Q
 |cilt {a b:Int} {k:Option R} {Q:R->Prop} (h:a<b) (hk:Ok k Q):OS (chk (fK a b) λ_=>k) Q
 |cdec {p:Prop} {i:Decidable p} {k:Option R} {Q:R->Prop} (h:p) (hk:Ok k Q):OS (chk (decide p) λ_=>k) Q
 |cndec {p:Prop} {i:Decidable p} {k:Option R} {Q:R->Prop} (h:¬p) (hk:Ok k Q):OS (chk (!decide p) λ_=>k) Q
 |cbeq {a b:Nat} {k:Option R} {Q:R->Prop} (h:a=b) (hk:Ok k Q):OS (chk (aA a b) λ_=>k) Q
 |cT {k:Option R} {Q:R->Prop} (hk:Ok k Q):OS (chk J λ_=>k) Q
 |lt {α:Type} {x:α} {k:α->Option R} {Q:R->Prop} (h:Ok (k x) Q):OS (lt x k) Q
 |b1 {t f:Option R} {Q:R->Prop} (h:Ok t Q):OS (aG J t f) Q
 |b0 {t f:Option R} {Q:R->Prop} (h:Ok f Q):OS (aG af t f) Q
 |fK {a b:Int} {t f:Option R} {Q:R->Prop} (ht:IM (a<b) (Ok t Q)) (hf:IM (b<=a) (Ok f Q)):OS (aG (fK a b) t f) Q
 |cX {a b:Int} {t f:Option R} {Q:R->Prop} (ht:IM (a<=b) (Ok t Q)) (hf:IM (b<a) (Ok f Q)):OS (aG (cX a b) t f) Q
 |dec {p:Prop} {i:Decidable p} {t f:Option R} {Q:R->Prop} (ht:IM p (Ok t Q)) (hf:IM (¬p) (Ok f Q)):OS (aG (decide p) t f) Q
 |ndec {p:Prop} {i:Decidable p} {t f:Option R} {Q:R->Prop} (ht:IM (¬p) (Ok t Q)) (hf:IM p (Ok f Q)):OS (aG (!decide p) t f) Q
 |not {b:Bool} {t f:Option R} {Q:R->Prop} (ht:IM (b=af) (Ok t Q)) (hf:IM (b=J) (Ok f Q)):OS (aG (!b) t f) Q
 |aG {b:Bool} {t f:Option R} {Q:R->Prop} (ht:IM (b=J) (Ok t Q)) (hf:IM (b=af) (Ok f Q)):OS (aG b t f) Q
 |jc {α:Type} {o:Option (R⊕α)} {k:α->Option R} {Q:R->Prop} (h:Ok o λr=>match r with|.inl r=>Q r|.inr x=>Ok (k x) Q):OS (jn o k) Q
 |some {y:R} {Q:R->Prop} (h:Q y):OS (M y) Q
theorem OS.ok {R:Type} {o:I R} {Q:R->Prop} (h:OS o Q):Ok o Q:=by
 cases h with
 |cand h=>exact cV h
 |fD a b h=>exact aO a b h
 |room a b h=>exact bc a b h
 |cile a h=>exact dx a h
 |cilt a h=>exact zS a h
 |cdec a h=>exact V9 a h
 |cndec a h=>exact yI a h
 |cbeq a h=>exact lQ a h
 |cT h=>exact h
 |lt h=>exact h
 |b1 h=>exact h
 |b0 h=>exact h
 |fK a b=>exact bK a.h b.h
 |cX a b=>exact fH a.h b.h
 |dec a b=>exact aK a.h b.h
 |ndec a b=>exact b9 a.h b.h
 |not a b=>exact ey a.h b.h
 |aG a b=>exact aQ a.h b.h
 |jc h=>
  obtain⟨r,e,h⟩:=h;exact gO ⟨r,e,by cases r<;>exact h⟩
 |some h=>exact aj h
theorem bcT {R:Type} (t f:I R):aG J t f=t:=rfl
theorem bcF {R:Type} (t f:I R):aG af t f=f:=rfl
theorem jnr {α R:Type} (x:α) (k:α->I R):jn (M (.inr x)) k=k x:=rfl
theorem V_ {α R:Type} (x:α) (k:α->I R):av (M x) k=k x:=rfl
theorem Iw {k:Int}:k=1\/k=2\/k=3\/k=4\/k=5\/k=6\/k=7\/k=8\/k=9\/k=10\/k=11\/k=12\/k=13\/k=14\/k=15\/k=16\/k=17\/k=18\/k=19\/k=20\/k=21\/k=22\/k=23\/((∀j:Int,1<=j->j<=23->(k=j)=False)/\(k<1\/23<k)):=by
 by_cases h:1<=k/\k<=23
 .omega
 .have:(∀j:Int,1<=j->j<=23->(k=j)=False)/\(k<1\/23<k):=⟨λj h1 h2=>eq_false (by omega),by omega⟩
  repeat (first|exact this|refine Or.inr ?_)
theorem iK {n:Int} (h0: -9223372036854775808<=n) (h1:n<=9223372036854775807):bl .i64 n=n:=by
 rw[Hk];unfold L2;simp[cX,h0,h1]
theorem gU {i:Nat} (h:i<9223372036854775807):bl .i64 ((i:Int)+1)=((i+1:Nat):Int):=by rw[iK (by omega) (by omega)];omega
theorem yY {T:Ty} (xs:Y T.den) (i:Nat):aI xs (i:Int)=xs.getD i T.zero:=by unfold aI;simp
theorem Oe (xs:η) (i:Nat):aI (T:=.int .i64) xs (i:Int)=xs.getD i 0:=yY (T:=.int .i64) xs i
theorem bM {T:Ty} {xs:Y T.den} {j:Int} (h0:0<=j) (h1:j<xs.length):aI xs j∈xs:=by
 unfold aI;rw[au,ax (by omega)];exact uM _
theorem bT {α:Type} (xs:Y α) (j:Int) (x:α):(cF xs j x).length=xs.length:=by unfold cF;simp
theorem Ci {α:Type} {xs:Y α} {j:Int} {x y:α} (h:y∈cF xs j x):y∈xs\/y=x:=List.mem_or_eq_of_mem_set h
abbrev WT:Type:=Y (ζ×Int×Int×Bool×Int)×Y (ζ×Bool)×Y (ζ×Int)×Y ζ×Y ζ×Y π
abbrev SY:Type:=Y (Int×η)×Int×θ×Y (Int×Int×Bool)
theorem ZW (a b:Int):qj (a,b)=M (decide (0<=a/\a<b)):=by
 refine cG ?_;unfold qj jG aE;with_reducible repeat' first|(refine OS.ok ?_;constructor)|refine IM.mk λ_=>?_
 .by_cases h:a<b<;>simp[*,fK]
 .simp;omega
theorem Vx (l:η) (n:Int) (hl:l.length<=1000000):ql (l,n)=M (l.contains n):=by
 refine cG ?_;unfold ql bf bA bO aV cR aE cH;refine cf l.length (λi x=>x=(i:Int)/\∀k,k<i->l.getD k 0≠n) ?_ ?_ ⟨rfl,λk hk=>by omega⟩
 .rintro i x hi ⟨rfl,a⟩;with_reducible repeat' first|(refine OS.ok ?_;constructor)|refine IM.mk λ_=>?_
  all_goals try simp only[ak,qR] at*
  .omega
  .omega
  .rename_i h;rw[Oe]at h;show J=_
   symm
   rw[sU,<-h,au,ax hi];exact uM _
  .rename_i h;rw[Oe]at h;refine ⟨gU (by omega),λk hk=>?_⟩;rcases b7 k i with h1|h1
   .exact a k h1
   .rw[show k=i by omega];exact h
  .omega
 .rintro x ⟨rfl,a⟩;with_reducible repeat' first|(refine OS.ok ?_;constructor)|refine IM.mk λ_=>?_
  all_goals try simp only[ak,qR] at*
  .omega
  .omega
  .omega
  .omega
  .symm
   rw[Ng];intro hc;rw[sU]at hc;obtain⟨k,hk,he⟩:=List.getElem_of_mem hc;exact a k hk (by rw[au,ax hk];exact he)
theorem iz {T:Ty} {xs:Y T.den} {p:T.den->Prop} (h:∀k:Nat,k<ai xs->p (aI xs (k:Int))):∀c∈xs,p c:=λc hc=>by
 obtain⟨k,hk,he⟩:=List.getElem_of_mem hc;have:=h k hk;rw[yY,au,ax hk,uK,he]at this;exact this
theorem Pd (w:WT) (s:SY) (Z:w.2.2.1.length<=1000000):Ok (rk (w,s)) λb=>b=J->(∀c∈w.2.2.1,0<=c.2/\c.2<w.2.1.length)/\s.1.length=w.2.1.length/\s.2.2.1.length=w.2.2.2.1.length/\s.2.2.2.length=w.2.2.2.2.1.length:=by
 unfold rk aX bm bw cW bf bA bO aV cR aE cH;refine cf w.2.2.1.length (λi x=>x.1=(i:Int)/\x.2=(w,s)/\∀k:Nat,k<i->0<=(aI (T:=S9) w.2.2.1 (k:Int)).2/\(aI (T:=S9) w.2.2.1 (k:Int)).2<w.2.1.length) ?_ ?_ ⟨rfl,rfl,λk hk=>by omega⟩
 .rintro i ⟨L,A⟩ hi ⟨q,a,z⟩;dsimp only at q a;subst q;subst a;with_reducible repeat' first|(refine OS.ok ?_;constructor)|refine IM.mk λ_=>?_
  all_goals try simp only[ak,qR] at*
  all_goals first|omega|skip
  .intro h;cases h
  .intro h;cases h
  .refine ⟨gU (by omega),λk hk=>?_⟩;rcases b7 k i with h1|h1
   .exact z k h1
   .rename_i h2 U;rw[show k=i by omega];exact⟨h2,U⟩
 .rintro⟨L,A⟩ ⟨q,a,z⟩;dsimp only at q a;subst q;subst a;with_reducible repeat' first|(refine OS.ok ?_;constructor)|refine IM.mk λ_=>?_
  all_goals try simp only[ak,qR] at*
  all_goals first|omega|skip
  refine aw (P:=λb=>b=J->s.1.length=w.2.1.length/\s.2.2.1.length=w.2.2.2.1.length/\s.2.2.2.length=w.2.2.2.2.1.length) ?_ ?_
  .with_reducible repeat' first|(refine OS.ok ?_;constructor)|refine IM.mk λ_=>?_
   all_goals try simp only[ak,qR] at*
   .intro h;omega
   .intro h;cases h
   .intro h;cases h
  .intro b hb;with_reducible repeat' first|(refine OS.ok ?_;constructor)|refine IM.mk λ_=>?_
   exact λh=>⟨iz (T:=S9) z,hb h⟩
structure NM (w:WT) (k o:Int):Prop where
 k1:1<=k
 k2:k<=23
 ce:k=3\/k=4->0<=o/\o<w.1.length
 lk:6<=k/\k<=11->0<=o/\o<w.2.1.length
 cd:16<=k/\k<=19->0<=o/\o<w.2.2.1.length
 th:k=20\/k=21->0<=o/\o<w.2.2.2.2.1.length
 fu:k=22\/k=23->0<=o/\o<w.2.2.2.1.length
 no:k=1\/k=2\/k=5\/(12<=k/\k<=15)->o= -1
 mu:k=6\/k=7->(aI (T:=Ti) w.2.1 o).2=af
 rw:8<=k/\k<=11->(aI (T:=Ti) w.2.1 o).2=J
theorem ZG (w:WT) (k o:Int):Ok (t8 (w,k,o)) λb=>b=J->NM w k o:=by
 unfold t8 aX bm bw cC bf bO aV aE;rcases @Iw k with rfl|rfl|rfl|rfl|rfl|rfl|rfl|rfl|rfl|rfl|rfl|rfl|rfl|rfl|rfl|rfl|rfl|rfl|rfl|rfl|rfl|rfl|rfl|⟨hk,a⟩
 case inr.inr.inr.inr.inr.inr.inr.inr.inr.inr.inr.inr.inr.inr.inr.inr.inr.inr.inr.inr.inr.inr.inr=>
  simp only[hk 1 (by decide) (by decide),hk 2 (by decide) (by decide),hk 3 (by decide) (by decide),hk 4 (by decide) (by decide),hk 5 (by decide) (by decide),hk 6 (by decide) (by decide),hk 7 (by decide) (by decide),hk 8 (by decide) (by decide),hk 9 (by decide) (by decide),hk 10 (by decide) (by decide),hk 11 (by decide) (by decide),hk 12 (by decide) (by decide),hk 13 (by decide) (by decide),hk 14 (by decide) (by decide),hk 15 (by decide) (by decide),hk 16 (by decide) (by decide),hk 17 (by decide) (by decide),hk 18 (by decide) (by decide),hk 19 (by decide) (by decide),hk 20 (by decide) (by decide),hk 21 (by decide) (by decide),hk 22 (by decide) (by decide),hk 23 (by decide) (by decide),aY,bn,sX];exact aj λh=>by cases h
 all_goals simp only[aY,bn,sX,ZW]
 all_goals with_reducible repeat' first|(refine OS.ok ?_;constructor)|refine IM.mk λ_=>?_
 all_goals try simp only[ak,qR] at*
 all_goals first|omega|(intro h;cases h;done)|(intro h;constructor<;>first|omega|(intro h2;first|omega|(simpa using h)))
structure SB (n:Nat) (s:SY):Prop where
 n1:n<=100000
 lk:s.1.length<=1000
 rd:∀l∈s.1,l.2.length<=n
 dn:s.2.2.1.length<=1000
 th:s.2.2.2.length<=1000
structure EN (w:WT) (s:SY) (t k o:Int):Prop where
 nm:NM w k o
 t0:0<=t
 t1:t<w.2.2.2.2.1.length
 cd:∀c∈w.2.2.1,0<=c.2/\c.2<w.2.1.length
 e1:s.1.length=w.2.1.length
 e2:s.2.2.1.length=w.2.2.2.1.length
 e3:s.2.2.2.length=w.2.2.2.2.1.length
structure Vt (w:WT) (s:SY) (t k o:Int):Prop where
 b:k=1->(aI (T:=jF) s.2.2.2 t).1=1
 wk:k=17->(aI (T:=jF) s.2.2.2 t).1=4/\(aI (T:=jF) s.2.2.2 t).2.1=o/\(aI (T:=Ag) s.1 (aI (T:=S9) w.2.2.1 o).2).1= -1
 r:k≠1->k≠17->(aI (T:=jF) s.2.2.2 t).1=2
 aq:k=6\/k=8\/k=10->(aI (T:=Ag) s.1 o).1= -1
 wr:k=10->(aI (T:=Ag) s.1 o).2.length=0
 ra:k=8->(aI (T:=Ag) s.1 o).2.contains t=af
 rl:k=7\/k=11->(aI (T:=Ag) s.1 o).1=t
 rr:k=9->(aI (T:=Ag) s.1 o).2.contains t=J
 xb:k=12->s.2.1= -1
 xe:k=13->s.2.1=t
 ab:k=14->(aI (T:=jF) s.2.2.2 t).2.2=af
 ae:k=15->(aI (T:=jF) s.2.2.2 t).2.2=J
 nt:k=16\/k=18\/k=19->(aI (T:=Ag) s.1 (aI (T:=S9) w.2.2.1 o).2).1=t
 sp:k=20->¬o=t/\(aI (T:=jF) s.2.2.2 o).1=0
 jo:k=21->¬o=t/\(aI (T:=jF) s.2.2.2 o).1=5
 se:k=22->aI (T:=.bool) s.2.2.1 o=af
 ge:k=23->aI (T:=.bool) s.2.2.1 o=J
theorem KB {n:Nat} (w:WT) (s:SY) (hs:SB n s) (hw:w.2.2.1.length<=1000) (t k o:Int):Ok (kn (w,s,t,k,o)) λb=>b=J->EN w s t k o/\Vt w s t k o:=by
 unfold kn aX bm bw bN du cW bf jf bO aV aE;refine aU (λx=>x.2=(w,s)/\(x.1=af->EN w s t k o)) ?_ ?_
 .refine aw (Pd w s (by omega)) λb hb=>?_
  with_reducible repeat' first|(refine OS.ok ?_;constructor)|refine IM.mk λ_=>?_
  .exact⟨rfl,λh=>by cases h⟩
  .simp only[ZW,V_];with_reducible repeat' first|(refine OS.ok ?_;constructor)|refine IM.mk λ_=>?_
   .exact⟨rfl,λh=>by cases h⟩
   .refine aw (ZG w k o) λc hc=>?_
    with_reducible repeat' first|(refine OS.ok ?_;constructor)|refine IM.mk λ_=>?_
    all_goals try simp only[ak,qR] at*
    rename_i h1 h2;obtain⟨f1,Z,U,L⟩:=hb h1;exact λh=>⟨hc (by simpa using h),by omega,by omega,f1,Z,U,L⟩
 .rintro⟨x1,x2⟩ ⟨a,q⟩;dsimp only at a q;subst a;refine aQ (λh=>aj λh=>by cases h) (λh=>?_);have he:=q h;obtain⟨nm,t0,t1,cd,e1,e2,e3⟩:=id he;obtain⟨_,_,ce,lk,cn,th,fu⟩:=nm;have hm:16<=k/\k<=19->0<=(aI (T:=S9) w.2.2.1 o).2/\(aI (T:=S9) w.2.2.1 o).2<w.2.1.length:=λh=>cd _ (bM (cn h).1 (cn h).2)
  have A:6<=k/\k<=11->ql ((aI (T:=Ag) s.1 o).2,t)=M ((aI (T:=Ag) s.1 o).2.contains t):=λh=>Vx _ _ (by
   have:=hs.rd _ (bM (T:=Ag) (lk h).1 (by have:=(lk h).2;omega));have:=hs.n1;omega)
  rcases @Iw k with rfl|rfl|rfl|rfl|rfl|rfl|rfl|rfl|rfl|rfl|rfl|rfl|rfl|rfl|rfl|rfl|rfl|rfl|rfl|rfl|rfl|rfl|rfl|⟨hk,z⟩
  case inr.inr.inr.inr.inr.inr.inr.inr.inr.inr.inr.inr.inr.inr.inr.inr.inr.inr.inr.inr.inr.inr.inr=>omega
  all_goals simp only[aY,bn,sX]
  all_goals with_reducible repeat' first|(refine OS.ok ?_;constructor)|refine IM.mk λ_=>?_
  all_goals try simp only[A (by omega),V_]
  all_goals with_reducible repeat' first|(refine OS.ok ?_;constructor)|refine IM.mk λ_=>?_
  all_goals try simp only[ak,qR] at*
  all_goals first|omega|(intro h;cases h;done)|exact (hm ⟨by decide,by decide⟩).1|(rw [e1];exact (hm ⟨by decide,by decide⟩).2)|(intro h;refine ⟨he,?_⟩;constructor<;>first|omega|(intros;first|omega|assumption|(simpa using h)|exact⟨by assumption,by first|assumption|exact⟨by assumption,by assumption⟩⟩))|(refine ⟨he,?_⟩;constructor<;>first|omega|(intros;first|omega|assumption))
def mc:η->Int->η
 |[],n=>[n]
 |x::r,n=>if x<n then x::mc r n else if x=n then x::r else n::x::r
theorem D_ (n:Int):∀(i:Nat) (l:η),i<=l.length->(∀k,k<i->l.getD k 0<n)->mc l n=l.take i++mc (l.drop i) n
 |0,l,_,_=>by simp
 |i+1,[],h,_=>by simp at h
 |i+1,x::r,h,hk=>by
  have h0:=hk 0 (by omega);simp at h0;have:=D_ n i r (by simpa using h) (λk a=>by have:=hk (k+1) (by omega);simpa using this);rw[mc,aC h0,this,vH,vJ,gx]
theorem Fo (n:Int):∀l:η,(mc l n).length<=l.length+1
 |[]=>by simp[mc]
 |x::r=>by
  have:=Fo n r;rw[mc];split
  .simp;omega
  .split<;>simp
theorem H8 {n y:Int}:∀{l:η},y∈mc l n↔y=n\/y∈l
 |[]=>by simp[mc]
 |x::r=>by
  have:=H8 (n:=n) (y:=y) (l:=r);rw[mc];split
  .simp[this];constructor
   .rintro (h|h|h)<;>simp[h]
   .rintro (h|h|h)<;>simp[h]
  .split
   .rename_i h;subst h;simp
   .simp
def He:η->Prop
 |[]=>True
 |x::r=>(∀y∈r,x<y)/\He r
theorem PW {n:Int}:∀{l:η},He l->He (mc l n)
 |[],_=>by simp[mc,He]
 |x::r,h=>by
  rw[mc];split
  .rename_i c;refine ⟨λy a=>?_,PW h.2⟩;rcases H8.1 a with rfl|a
   .exact c
   .exact h.1 y a
  .split
   .exact h
   .rename_i h1 h2;refine ⟨λy a=>?_,h⟩;rcases bh.1 a with rfl|a
    .omega
    .have:=h.1 y a;omega
theorem abj (l:η) (n:Int) (hl:l.length<=1000000):vW (l,n)=M (mc l n):=by
 refine cG ?_;unfold vW bA bH bO aV cR aE cH;have fin:∀i:Nat,i<=l.length->(∀k,k<i->l.getD k 0<n)->(i<l.length->¬l.getD i 0<n/\l.getD i 0≠n)->l.take i++[n]++l.drop i=mc l n:=λi hi hk hn=>by
  rw[D_ n i l hi hk];cases hd:l.drop i with
  |nil=>simp[mc]
  |cons y r=>
   have hlt:i<l.length:=by
    rcases b7 i l.length with h|h
    .exact h
    .rw[List.drop_eq_nil_of_le h]at hd;cases hd
   have c:l.getD i 0=y:=by
    rw[au,<-List.head?_drop,hd];rfl
   obtain⟨h1,h2⟩:=hn hlt;rw[c]at h1 h2;rw[mc,ay h1,ay h2];simp
 refine cf l.length (λi x=>x=(i:Int)/\∀k,k<i->l.getD k 0<n) ?_ ?_ ⟨rfl,λk hk=>by omega⟩
 .rintro i x hi ⟨rfl,a⟩;by_cases hlt:l.getD i 0<n
  .with_reducible repeat' first|(refine OS.ok ?_;constructor)|refine IM.mk λ_=>?_
   all_goals try simp only[ak,qR] at*
   all_goals first|omega|skip
   .refine ⟨gU (by omega),λk hk=>?_⟩;rcases b7 k i with h1|h1
    .exact a k h1
    .rw[show k=i by omega];exact hlt
   .rename_i h;exact ct hlt (B6.2 h)
  .have key:l.getD i 0=n->mc l n=l:=λhe=>by
    rw[D_ n i l (by omega) a];cases hd:l.drop i with
    |nil=>have:=gR ai hd;simp at this;omega
    |cons y r=>
     have c:l.getD i 0=y:=by rw[au,<-List.head?_drop,hd];rfl
     rw[c]at he;rw[mc,ay (by omega),aC he,<-hd,Bi]
   with_reducible repeat' first|(refine OS.ok ?_;constructor)|refine IM.mk λ_=>?_
   all_goals try simp only[ak,qR] at*
   all_goals first|omega|skip
   .rename_i h;exact ct h hlt
   .refine aw (P:=λr=>r=mc l n) ?_ λr hr=>aj hr
    with_reducible repeat' first|(refine OS.ok ?_;constructor)|refine IM.mk λ_=>?_
    all_goals try simp only[ak,qR] at*
    all_goals first|omega|skip
    .rename_i h;exact (key h).symm
    .simp;omega
    .simp;omega
    .simp;omega
    .rename_i h;simpa using fin i (by omega) a (λ_=>⟨hlt,h⟩)
 .rintro x ⟨rfl,a⟩;with_reducible repeat' first|(refine OS.ok ?_;constructor)|refine IM.mk λ_=>?_
  all_goals try simp only[ak,qR] at*
  all_goals first|omega|skip
  refine aw (P:=λr=>r=mc l n) ?_ λr hr=>aj hr
  with_reducible repeat' first|(refine OS.ok ?_;constructor)|refine IM.mk λ_=>?_
  all_goals try simp only[ak,qR] at*
  all_goals first|omega|skip
  .simp;omega
  .simp;omega
  .simp;omega
  .simpa using fin l.length (by omega) a (λh=>by omega)
def wV (a b:η):η:=b.foldl mc (a.foldl mc [])
theorem wn:∀(b acc:η),(b.foldl mc acc).length<=acc.length+b.length
 |[],acc=>by simp
 |x::r,acc=>by
  have:=wn r (mc acc x);have:=Fo x acc;rw[Fk,bX];omega
theorem I_:∀{b acc:η},He acc->He (b.foldl mc acc)
 |[],_,h=>h
 |x::r,acc,h=>by rw[Fk];exact I_ (PW h)
theorem I9 {y:Int}:∀{b acc:η},y∈b.foldl mc acc↔y∈acc\/y∈b
 |[],acc=>by simp
 |x::r,acc=>by
  rw[Fk,I9,H8];simp;constructor
  .rintro ((h|h)|h)<;>simp[h]
  .rintro (h|h|h)<;>simp[h]
theorem Pr (a b:η):He (wV a b):=I_ (I_ trivial)
theorem HU {a b:η} {y:Int}:y∈wV a b↔y∈a\/y∈b:=by unfold wV;rw[I9,I9];simp
theorem Y8 (a b:η):(wV a b).length<=a.length+b.length:=by
 have:=wn b (a.foldl mc []);have:=wn a [];unfold wV;simp at *;omega
theorem Mx {b acc:η} {i:Nat} (hi:i<b.length):(b.take (i+1)).foldl mc acc=mc ((b.take i).foldl mc acc) (b.getD i 0):=by
 rw[oU hi,eC,au,ax hi];rfl
theorem Sn (a b:η) (s:a.length<=400000) (hb:b.length<=400000):rm (a,b)=M (wV a b):=by
 refine cG ?_;unfold rm bA bO aV cR aE cH;refine cf a.length (λi x=>x.2=(i:Int)/\x.1=(a.take i).foldl mc []) ?_ ?_ ⟨rfl,rfl⟩
 .rintro i ⟨q,c⟩ hi ⟨h1,h2⟩;dsimp only at h1 h2;subst h1;subst h2;have hl:((a.take i).foldl mc []).length<=1000000:=by have:=wn (a.take i) [];have:=p_ i a;simp at *;omega
  with_reducible repeat' first|(refine OS.ok ?_;constructor)|refine IM.mk λ_=>?_
  all_goals try simp only[ak,qR] at*
  all_goals first|omega|skip
  refine aS (abj _ _ hl) (aj ?_);dsimp only;refine ⟨gU (by omega),?_⟩;rw[Oe,Mx hi]
 .rintro⟨q,c⟩ ⟨h1,h2⟩;dsimp only at h1 h2;subst h1;subst h2;rw[cO];have hla:=wn a [];with_reducible repeat' first|(refine OS.ok ?_;constructor)|refine IM.mk λ_=>?_
  all_goals try simp only[ak,qR] at*
  all_goals first|omega|skip
  refine aw (P:=λr=>r=wV a b) ?_ λr hr=>aj hr
  refine cf b.length (λi x=>x.2=(i:Int)/\x.1=(b.take i).foldl mc (a.foldl mc [])) ?_ ?_ ⟨rfl,rfl⟩
  .rintro i ⟨q,c⟩ hi ⟨h1,h2⟩;dsimp only at h1 h2;subst h1;subst h2;have hl:((b.take i).foldl mc (a.foldl mc [])).length<=1000000:=by have:=wn (b.take i) (a.foldl mc []);have:=p_ i b;simp at *;omega
   with_reducible repeat' first|(refine OS.ok ?_;constructor)|refine IM.mk λ_=>?_
   all_goals try simp only[ak,qR] at*
   all_goals first|omega|skip
   refine aS (abj _ _ hl) (aj ?_);dsimp only;refine ⟨gU (by omega),?_⟩;rw[Oe,Mx hi]
  .rintro⟨q,c⟩ ⟨h1,h2⟩;dsimp only at h1 h2;subst h1;subst h2;rw[cO];with_reducible repeat' first|(refine OS.ok ?_;constructor)|refine IM.mk λ_=>?_
   all_goals try simp only[ak,qR] at*
   all_goals first|omega|rfl
def HO (c:Int) (x:Int×Int×Bool):Bool:=decide (x.1=3)&&decide (x.2.1=c)
def wl (th:Y (Int×Int×Bool)) (c:Int):Nat->η
 |0=>[]
 |i+1=>if HO c (aI (T:=jF) th (i:Int)) then wl th c i++[(i:Int)] else wl th c i
theorem vn (th:Y (Int×Int×Bool)) (c:Int):∀i,(wl th c i).length<=i
 |0=>bU _
 |i+1=>by have:=vn th c i;rw[wl];split<;>simp<;>omega
theorem rc {th:Y (Int×Int×Bool)} {c u:Int}:∀{i:Nat},u∈wl th c i↔0<=u/\u<i/\HO c (aI (T:=jF) th u)=J
 |0=>by simp[wl];omega
 |i+1=>by
  have a:= @rc th c u i;rw[wl];by_cases hu:u=(i:Int)
  .subst hu;split
   .rename_i h;simp[h];omega
   .rename_i h;rw[a];simp[h]
  .split
   .rw[bQ,a,aJ];constructor
    .rintro (h|h)
     .exact⟨h.1,by omega,h.2.2⟩
     .exact ct h hu
    .intro h;exact .inl ⟨h.1,by omega,h.2.2⟩
   .rw[a];constructor
    .intro h;exact⟨h.1,by omega,h.2.2⟩
    .intro h;exact⟨h.1,by omega,h.2.2⟩
theorem akm {th:Y (Int×Int×Bool)} {c:Int} {i:Nat} (h1:(aI (T:=jF) th (i:Int)).1=3) (h2:(aI (T:=jF) th (i:Int)).2.1=c):wl th c (i+1)=wl th c i++[(i:Int)]:=by
 rw[wl,aC];unfold HO;rw[h1,h2];simp
theorem afs {th:Y (Int×Int×Bool)} {c:Int} {i:Nat} (h1:¬(aI (T:=jF) th (i:Int)).1=3):wl th c (i+1)=wl th c i:=by
 rw[wl,ay];unfold HO;rw[bz h1];simp
theorem afr {th:Y (Int×Int×Bool)} {c:Int} {i:Nat} (h1:¬(aI (T:=jF) th (i:Int)).2.1=c):wl th c (i+1)=wl th c i:=by
 rw[wl,ay];unfold HO;rw[bz h1];simp
theorem Vm (s:SY) (c:Int) (hs:s.2.2.2.length<=1000):nO (s,c)=M (wl s.2.2.2 c s.2.2.2.length):=by
 refine cG ?_;unfold nO bN bf bA bH bO aV cR aE cH;refine cf s.2.2.2.length (λi x=>x=((i:Int),s,wl s.2.2.2 c i)) ?_ ?_ rfl
 .rintro i x hi rfl;have hl:=vn s.2.2.2 c i;with_reducible repeat' first|(refine OS.ok ?_;constructor)|refine IM.mk λ_=>?_
  all_goals try simp only[ak,qR] at*
  all_goals first|omega|skip
  all_goals first|(simp;omega)|skip
  .rename_i h1 h2;rw[akm h1 h2,gU (by omega)]
  .rename_i h1 h2;rw[afr h2,gU (by omega)]
  .rename_i h1;rw[afs h1,gU (by omega)]
 .rintro x rfl;with_reducible repeat' first|(refine OS.ok ?_;constructor)|refine IM.mk λ_=>?_
  all_goals try simp only[ak,qR] at*
  all_goals first|omega|rfl
def wo (l:η) (n:Int):η:=l.filter λx=> !decide (x=n)
theorem Tc (l:η) (n:Int) (hl:l.length<=1000000):qi (l,n)=M (wo l n):=by
 refine cG ?_;unfold qi bA jf bH bO aV cR aE cH;refine cf l.length (λi x=>x=((i:Int),wo (l.take i) n)) ?_ ?_ rfl
 .rintro i x hi rfl;have hq:(wo (l.take i) n).length<=i:=dv (List.length_filter_le ..) (p_ ..);have ht:wo (l.take (i+1)) n=if aI (T:=.int .i64) l (i:Int)=n then wo (l.take i) n else wo (l.take i) n++[aI (T:=.int .i64) l (i:Int)]:=by
   unfold wo;rw[oU hi,List.filter_append,Oe,au,ax hi];by_cases h:l[i]=n<;>simp[h]
  with_reducible repeat' first|(refine OS.ok ?_;constructor)|refine IM.mk λ_=>?_
  all_goals try simp only[ak,qR] at*
  all_goals first|omega|skip
  .simp;omega
  .rename_i h;rw[ht,ay h,gU (by omega)]
  .rename_i h;rw[ht,aC h,gU (by omega)]
 .rintro x rfl;with_reducible repeat' first|(refine OS.ok ?_;constructor)|refine IM.mk λ_=>?_
  all_goals try simp only[ak,qR] at*
  all_goals first|omega|(rw [cO])
theorem ol {T:Ty} {xs:Y T.den} {i:Nat} (hi:i<ai xs):dI (i+1) xs=dI i xs++[aI xs (i:Int)]:=by
 rw[oU hi,yY,au,ax hi];rfl
theorem qL {n:Nat} (s:SY) (hs:SB n s):iu s=M (s.2.1,s.1,s.2.2.1,s.2.2.2):=by
 refine cG ?_;obtain⟨s1,s2,c,a⟩:=s;have hn:=hs.n1;have A:=hs.lk;have z:=hs.dn;have q:=hs.th;dsimp only at A z q;unfold iu aX bm bw bN cW bA bH bO aV cR aE cH;with_reducible repeat' first|(refine OS.ok ?_;constructor)|refine IM.mk λ_=>?_
 all_goals try simp only[ak,qR] at*
 .simp;omega
 .omega
 .simp;omega
 .omega
 refine cf s1.length (λi x=>x=((i:Int),(s1,s2,c,a),0,s2,s1.take i,c,a)) ?_ ?_ ?_
 .rintro i x hi rfl;have hg:=hs.rd _ (bM (T:=Ag) (xs:=s1) (j:=(i:Int)) (by omega) (by omega));with_reducible repeat' first|(refine OS.ok ?_;constructor)|refine IM.mk λ_=>?_
  all_goals try simp only[ak,qR] at*
  all_goals first|omega|skip
  .simp;omega
  .simp;omega
  .rw[gU (by omega),ol (T:=Ag) hi];rfl
 .rintro x rfl;with_reducible repeat' first|(refine OS.ok ?_;constructor)|refine IM.mk λ_=>?_
  all_goals try simp only[ak,qR] at*
  all_goals first|omega|skip
  simp
 .simp
theorem Gs (s:SY) (c:Int) (hs:s.2.2.2.length<=1000):jI ((s.2.1,c),s.1,s.2.2.1,s.2.2.2)=M (wl s.2.2.2 c s.2.2.2.length):=by
 refine cG ?_;unfold jI;refine aw (P:=λy=>y=(wl s.2.2.2 c s.2.2.2.length,s.1,s.2.2.1,s.2.2.2)) ?_ λy a=>by subst a;exact ad7 rfl (aj rfl)
 unfold mn aX bm bw bN cW bf bA bH kW aV cR aE cH;refine cf s.2.2.2.length (λi x=>x=((i:Int),s.1,s.2.2.1,s.2.2.2,s.2.1,wl s.2.2.2 c i)) ?_ ?_ rfl
 .rintro i x hi rfl;have hl:=vn s.2.2.2 c i;with_reducible repeat' first|(refine OS.ok ?_;constructor)|refine IM.mk λ_=>?_
  all_goals try simp only[ak,qR] at*
  all_goals first|omega|skip
  all_goals first|(simp;omega)|skip
  .rename_i h1 h2;rw[akm h1 h2,gU (by omega)]
  .rename_i h1 h2;rw[afr h2,gU (by omega)]
  .rename_i h1;rw[afs h1,gU (by omega)]
 .rintro x rfl;with_reducible repeat' first|(refine OS.ok ?_;constructor)|refine IM.mk λ_=>?_
  all_goals try simp only[ak,qR] at*
  all_goals first|omega|rfl
structure AP (n:Nat) (s y:SY):Prop where
 a1:y.1.length=s.1.length
 a2:y.2.2.1.length=s.2.2.1.length
 a3:y.2.2.2.length=s.2.2.2.length
 rd:∀l∈y.1,l.2.length<=n+1
theorem AP.toSB {n:Nat} {s y:SY} (h:AP n s y) (hs:SB n s) (hn:n+1<=100000):SB (n+1) y:=
 ⟨hn,by rw[h.a1];exact hs.lk,h.rd,by rw[h.a2];exact hs.dn,by rw[h.a3];exact hs.th⟩
theorem AP.same {n:Nat} {s:SY} (hs:SB n s) (x:Int) (d:θ) (t:Y (Int×Int×Bool)) (hd:d.length=s.2.2.1.length) (ht:t.length=s.2.2.2.length):AP n s (s.1,x,d,t):=
 ⟨rfl,hd,ht,λl hl=>iE (hs.rd l hl)⟩
theorem AP.set {n:Nat} {s:SY} (hs:SB n s) (j a:Int) (r:η) (hr:r.length<=n+1) (x:Int) (d:θ) (t:Y (Int×Int×Bool)) (hd:d.length=s.2.2.1.length) (ht:t.length=s.2.2.2.length):AP n s (cF s.1 j (a,r),x,d,t):=
 ⟨bT _ _ _,hd,ht,λl hl=>by
   rcases Ci hl with h|rfl
   .exact iE (hs.rd l h)
   .exact hr⟩
def xK (th:Y (Int×Int×Bool)) (t st:Int):Y (Int×Int×Bool):=cF th t (st,(aI (T:=jF) th t).2)
def owP (lk:Y (Int×η)) (o t:Int):Y (Int×η):=cF lk o (t,(aI (T:=Ag) lk o).2)
def rdP (lk:Y (Int×η)) (o:Int) (l:η):Y (Int×η):=cF lk o ((aI (T:=Ag) lk o).1,l)
def cdP (th:Y (Int×Int×Bool)) (t c:Int):Y (Int×Int×Bool):=cF th t ((aI (T:=jF) th t).1,c,(aI (T:=jF) th t).2.2)
def atP (th:Y (Int×Int×Bool)) (t:Int) (b:Bool):Y (Int×Int×Bool):=cF th t ((aI (T:=jF) th t).1,(aI (T:=jF) th t).2.1,b)
def Cw (th:Y (Int×Int×Bool)) (l:η):Y (Int×Int×Bool):=l.foldl (λx u=>xK x u 4) th
def Bc (l:η) (u:Int):Int:=if l.length=0 then -1 else if l.contains u then u else aI (T:=.int .i64) l 0
def muP (w:WT) (o:Int):Int:=(aI (T:=S9) w.2.2.1 o).2
def qW (w:WT) (s:SY) (t k o u:Int):SY×Int:=
 if k=1 then ((s.1,s.2.1,s.2.2.1,xK s.2.2.2 t 2),0)
 else if k=2 then ((s.1,s.2.1,s.2.2.1,xK s.2.2.2 t 5),0)
 else if k=6\/k=10 then ((owP s.1 o t,s.2),0)
 else if k=7\/k=11 then ((owP s.1 o (-1),s.2),0)
 else if k=8 then ((rdP s.1 o (wV (aI (T:=Ag) s.1 o).2 [t]),s.2),0)
 else if k=9 then ((rdP s.1 o (wo (aI (T:=Ag) s.1 o).2 t),s.2),0)
 else if k=12 then ((s.1,t,s.2.2),0)
 else if k=13 then ((s.1,-1,s.2.2),0)
 else if k=14 then ((s.1,s.2.1,s.2.2.1,atP s.2.2.2 t J),0)
 else if k=15 then ((s.1,s.2.1,s.2.2.1,atP s.2.2.2 t af),0)
 else if k=16 then ((owP s.1 (muP w o) (-1),s.2.1,s.2.2.1,cdP (xK s.2.2.2 t 3) t o),0)
 else if k=17 then ((owP s.1 (muP w o) t,s.2.1,s.2.2.1,cdP (xK s.2.2.2 t 2) t 0),0)
 else if k=18 then (if (wl s.2.2.2 o s.2.2.2.length).length=0 then (s,-1) else ((s.1,s.2.1,s.2.2.1,xK s.2.2.2 (Bc (wl s.2.2.2 o s.2.2.2.length) u) 4),Bc (wl s.2.2.2 o s.2.2.2.length) u))
 else if k=19 then ((s.1,s.2.1,s.2.2.1,Cw s.2.2.2 (wl s.2.2.2 o s.2.2.2.length)),((wl s.2.2.2 o s.2.2.2.length).length:Int))
 else if k=20 then ((s.1,s.2.1,s.2.2.1,xK s.2.2.2 o 1),0)
 else if k=22 then ((s.1,s.2.1,cF s.2.2.1 o J,s.2.2.2),0)
 else (s,0)
theorem Hr (l:η):∀th,(Cw th l).length=th.length:=by
 induction l with
 |nil=>intro th;rfl
 |cons x r a=>intro th;unfold Cw;rw[Fk];exact (a _).trans (bT ..)
theorem ZH {th:Y (Int×Int×Bool)} {l:η} {i:Nat} (hi:i<l.length):Cw th (l.take (i+1))=xK (Cw th (l.take i)) (aI (T:=.int .i64) l (i:Int)) 4:=by
 unfold Cw;rw[oU hi,eC,Oe,au,ax hi];rfl
theorem S7 {n:Nat} (w:WT) (s:SY) (hs:SB n s) (z:w.2.2.1.length<=1000) (t k o u:Int):Ok (pj (w,s,t,k,o,u)) λy=>(y.2.2=J->EN w s t k o/\Vt w s t k o/\AP n s y.1/\(y.1,y.2.1)=qW w s t k o u)/\(y.2.2=af->y.1=([],0,[],[]))/\(kn (w,s,t,k,o)=M J->y.2.2=J):=by
 unfold pj aX bm bw cC bN du cW fw ck bf bA bO kW aV cR aE cH;obtain⟨b,c,hb⟩:=KB w s hs z t k o;refine aS c ?_;refine ey (λh=>aj ⟨λh=>(by cases h),λ_=>rfl,λh2=>(by rw[c,h]at h2;cases h2)⟩) (λh=>?_);obtain⟨he,hry⟩:=hb h;refine aS (qL s hs) ?_;suffices hmain:Ok _ _ from aU (λx=>AP n s (x.2.2.2.1,x.2.1,x.2.2.2.2)/\((x.2.2.2.1,x.2.1,x.2.2.2.2),x.1)=qW w s t k o u) hmain λx q=>aj ⟨λ_=>⟨he,hry,q⟩,λh=>(by cases h),λ_=>rfl⟩
 obtain⟨nm,t0,t1,cd,e1,e2,e3⟩:=id he;obtain⟨_,_,ce,lk,cn,th,fu⟩:=nm;have hn:=hs.n1;have hlk:=hs.lk;have hm:16<=k/\k<=19->0<=(aI (T:=S9) w.2.2.1 o).2/\(aI (T:=S9) w.2.2.1 o).2<w.2.1.length:=λh=>cd _ (bM (cn h).1 (cn h).2)
 have hr:∀j:Int,0<=j->j<s.1.length->(aI (T:=Ag) s.1 j).2.length<=n:=λj h0 h1=>hs.rd _ (bM (T:=Ag) h0 h1)
 rcases @Iw k with rfl|rfl|rfl|rfl|rfl|rfl|rfl|rfl|rfl|rfl|rfl|rfl|rfl|rfl|rfl|rfl|rfl|rfl|rfl|rfl|rfl|rfl|rfl|⟨hk,A⟩
 case inr.inr.inr.inr.inr.inr.inr.inr.inr.inr.inr.inr.inr.inr.inr.inr.inr.inr.inr.inr.inr.inr.inr=>omega
 all_goals simp only[aY,bn,sX]
 all_goals with_reducible repeat' first|(refine OS.ok ?_;constructor)|refine IM.mk λ_=>?_
 all_goals try simp only[ak,qR] at*
 all_goals try rw[bT]
 all_goals first|omega|exact (hm ⟨by decide,by decide⟩).1|exact e1▸(hm ⟨by decide,by decide⟩).2|exact⟨AP.same hs _ _ _ rfl rfl,rfl⟩|exact⟨AP.same hs _ _ _ rfl (bT _ _ _),rfl⟩|exact⟨AP.same hs _ _ _ (bT _ _ _) rfl,rfl⟩|skip
 all_goals try exact⟨AP.set hs _ _ _ (iE (hr o (by omega) (by omega))) _ _ _ rfl rfl,rfl⟩
 .have:=hr o (by omega) (by omega);refine aS (Sn _ _ (dv this (by have:=hs.n1;omega)) (by simp)) ?_;with_reducible repeat' first|(refine OS.ok ?_;constructor)|refine IM.mk λ_=>?_
  all_goals try simp only[ak,qR] at*
  all_goals first|omega|skip
  exact⟨AP.set hs _ _ _ (by have:=Y8 (aI (T:=Ag) s.1 o).2 [t];simp at this;omega) _ _ _ rfl rfl,rfl⟩
 .have:=hr o (by omega) (by omega);have hl:(wo (aI (T:=Ag) s.1 o).2 t).length<=(aI (T:=Ag) s.1 o).2.length:=List.length_filter_le ..;refine aS (Tc _ _ (by omega)) ?_;with_reducible repeat' first|(refine OS.ok ?_;constructor)|refine IM.mk λ_=>?_
  all_goals try simp only[ak,qR] at*
  all_goals first|omega|skip
  exact⟨AP.set hs _ _ _ (dv hl (by omega)) _ _ _ rfl rfl,rfl⟩
 .exact⟨AP.set hs _ _ _ (iE (hr _ (hm ⟨by decide,by decide⟩).1 (by rw[e1];exact (hm ⟨by decide,by decide⟩).2))) _ _ _ rfl (by rw[bT,bT]),rfl⟩
 .exact⟨AP.set hs _ _ _ (iE (hr _ (hm ⟨by decide,by decide⟩).1 (by rw[e1];exact (hm ⟨by decide,by decide⟩).2))) _ _ _ rfl (by rw[bT,bT]),rfl⟩
 .refine aS (Gs s o hs.th) ?_;have hth:=hs.th;have hll:=vn s.2.2.2 o s.2.2.2.length;have hml:∀u∈wl s.2.2.2 o s.2.2.2.length,0<=u/\u<s.2.2.2.length:=λu hu=>⟨(rc.1 hu).1,(rc.1 hu).2.1⟩
  have hap:qW w s t 18 o u=if (wl s.2.2.2 o s.2.2.2.length).length=0 then (s,-1) else ((s.1,s.2.1,s.2.2.1,xK s.2.2.2 (Bc (wl s.2.2.2 o s.2.2.2.length) u) 4),Bc (wl s.2.2.2 o s.2.2.2.length) u):=rfl
  unfold Bc at hap;revert hll hml hap;generalize wl s.2.2.2 o s.2.2.2.length=l;intro hll hml hap;with_reducible repeat' first|(refine OS.ok ?_;constructor)|refine IM.mk λ_=>?_
  all_goals try simp only[ak,qR] at*
  all_goals first|omega|skip
  .have a:=hml _ (bM (T:=.int .i64) (xs:=l) (j:=0) (by omega) (by omega));rw[ay (by omega),ay (by omega)]at hap;simp only[Vx l u (by omega),V_];refine aQ (λhc=>?_) λhc=>?_
   .have hu:=hml u (sU.1 hc);rw[hc,aC rfl]at hap;refine aj (aO hu.1 hu.2 (aO hu.1 hu.2 (aj ⟨AP.same hs _ _ _ rfl (bT ..),?_⟩)));rw[hap];rfl
   .rw[hc,ay (by decide)]at hap;refine aj (aO a.1 a.2 (aO a.1 a.2 (aj ⟨AP.same hs _ _ _ rfl (bT ..),?_⟩)));rw[hap];rfl
  .rw[aC (by omega)]at hap;exact⟨AP.same hs _ _ _ rfl rfl,hap.symm⟩
 .refine aS (Gs s o hs.th) ?_;have hth:=hs.th;have hll:=vn s.2.2.2 o s.2.2.2.length;have hml:∀u∈wl s.2.2.2 o s.2.2.2.length,0<=u/\u<s.2.2.2.length:=λu hu=>⟨(rc.1 hu).1,(rc.1 hu).2.1⟩
  have hap:qW w s t 19 o u=((s.1,s.2.1,s.2.2.1,Cw s.2.2.2 (wl s.2.2.2 o s.2.2.2.length)),((wl s.2.2.2 o s.2.2.2.length).length:Int)):=rfl;rw[hap];clear hap;generalize wl s.2.2.2 o s.2.2.2.length=l at hll hml ⊢;refine cf l.length (λi x=>x=((i:Int),s.2.1,0,s.1,s.2.2.1,Cw s.2.2.2 (l.take i))) ?_ ?_ rfl
  .rintro i x hi rfl;have a:=hml _ (bM (T:=.int .i64) (xs:=l) (j:=(i:Int)) (by omega) (by omega));have hq:=Hr (l.take i) s.2.2.2;with_reducible repeat' first|(refine OS.ok ?_;constructor)|refine IM.mk λ_=>?_
   all_goals try simp only[ak,qR] at*
   all_goals first|omega|skip
   rw[gU (by omega),ZH hi];rfl
  .rintro x rfl;rw[cO];with_reducible repeat' first|(refine OS.ok ?_;constructor)|refine IM.mk λ_=>?_
   all_goals try simp only[ak,qR] at*
   all_goals first|omega|skip
   exact AP.same hs _ _ _ rfl (Hr ..)
abbrev SN:Type:=SY×η×η×η
abbrev ET:Type:=Int×Int×Int×Int×Int×η×η
theorem al3 (a b:Int):Cx (a,b)=M (decide (0<=a/\a<b)):=ZW a b
structure NB (n:Nat) (s:SN):Prop where
 sb:SB n s.1
 c:s.2.1.length<=1000
 f:s.2.2.1.length<=1000
 k:s.2.2.2.length<=1000
structure SP (n:Nat) (s y:SN):Prop where
 ap:AP n s.1 y.1
 c:y.2.1.length=s.2.1.length
 f:y.2.2.1.length=s.2.2.1.length
 k:y.2.2.2.length=s.2.2.2.length
theorem SP.NB {n:Nat} {s y:SN} (h:SP n s y) (hs:NB n s) (hn:n+1<=100000):NB (n+1) y:=
 ⟨h.ap.toSB hs.sb hn,by rw[h.c];exact hs.c,by rw[h.f];exact hs.f,by rw[h.k];exact hs.k⟩
def sn0:SN:=(([],0,[],[]),[],[],[])
structure F16 (w:WT) (s:SN):Prop where
 c:s.2.1.length=w.1.length
 f:s.2.2.1.length=w.2.2.2.1.length
 k:s.2.2.2.length=w.2.2.2.2.1.length
theorem YK (w:WT) (s:SN) (a:w.2.2.1.length<=1000):Ok (vR (w,s)) λb=>b=J->F16 w s:=by
 unfold vR aX bm bw du bf aV aE;refine gO (aw (Pd w s.1 (by omega)) λb hb=>?_);with_reducible repeat' first|(refine OS.ok ?_;constructor)|refine IM.mk λ_=>?_
 all_goals try simp only[ak,qR] at*
 all_goals first|(intro h;constructor<;>omega)|(intro h;cases h;done)
theorem WN:∀(l:η),(∀k:Nat,k+1<l.length->l.getD k 0<l.getD (k+1) 0)->He l
 |[],_=>trivial
 |[x],_=>⟨λy q=>(by cases q),trivial⟩
 |x::y::r,h=>by
  have c:=WN (y::r) λk hk=>by have:=h (k+1) (by simpa using hk);simpa using this
  have h0:=h 0 (by simp);simp at h0;refine ⟨λz a=>?_,c⟩;rcases bh.1 a with rfl|a
  .exact h0
  .have:=c.1 z a;omega
structure AN (c:Int) (l:η):Prop where
 a:He l
 m:∀x:Int,x∈l->1<=x/\x<c
theorem Ii (l:η) (c:Int) (hl:l.length<=1000000000):Ok (nM (l,c)) λb=>b=J->AN c l:=by
 unfold nM bA jG bO aV cR aE cH;refine cf l.length (λi x=>x=(i:Int)/\(∀k:Nat,k<i->1<=aI (T:=.int .i64) l (k:Int)/\aI (T:=.int .i64) l (k:Int)<c)/\∀k:Nat,k+1<i->l.getD k 0<l.getD (k+1) 0) ?_ ?_ ⟨rfl,λk hk=>by omega,λk hk=>by omega⟩
 .rintro i x hi ⟨rfl,a,q⟩;have s:0<(i:Int)->bl .i64 ((i:Int)-1)=((i-1:Nat):Int):=λh=>by rw[iK (by omega) (by omega)];omega
  have hq:(0<i->l.getD (i-1) 0<l.getD i 0)->1<=aI (T:=.int .i64) l (i:Int)/\aI (T:=.int .i64) l (i:Int)<c->bl .i64 ((i:Int)+1)=((i+1:Nat):Int)/\(∀k:Nat,k<i+1->1<=aI (T:=.int .i64) l (k:Int)/\aI (T:=.int .i64) l (k:Int)<c)/\∀k:Nat,k+1<i+1->l.getD k 0<l.getD (k+1) 0:=λU L=>by
   refine ⟨gU (by omega),λk hk=>?_,λk hk=>?_⟩
   .rcases b7 k i with h1|h1
    .exact a k h1
    .rw[show k=i by omega];exact L
   .rcases b7 (k+1) i with h1|h1
    .exact q k h1
    .have:=U (by omega);rw[show k=i-1 by omega,show i-1+1=i by omega];exact this
  with_reducible repeat' first|(refine OS.ok ?_;constructor)|refine IM.mk λ_=>?_
  all_goals try simp only[ak,qR] at*
  all_goals first|omega|(intro h;cases h;done)|(rw [s (by omega)];omega)|skip
  .rename_i h1 h2 A z;rw[s A,Oe,Oe]at z;exact hq (λ_=>z) ⟨by omega,by omega⟩
  .exact hq (λh=>by omega) ⟨by omega,by omega⟩
 .rintro x ⟨rfl,a,q⟩;with_reducible repeat' first|(refine OS.ok ?_;constructor)|refine IM.mk λ_=>?_
  all_goals try simp only[ak,qR] at*
  all_goals first|omega|skip
  exact⟨WN l λk hk=>q k hk,iz (T:=.int .i64) a⟩
structure VA (w:WT) (sy:SY) (ce fu:η) (t k o v:Int):Prop where
 ld:k=3->v=aI (T:=.int .i64) ce o
 gt:k=23->v=aI (T:=.int .i64) fu o
 br:k=5->v=0\/v=1
 el:¬k=3->¬k=23->¬k=5->¬k=4->¬k=22->v=(qW w sy t k o v).2
theorem ite2 {c:Prop} [Decidable c] {a b:SY×Int} (q:a.2=0) (hb:b.2=0):(if c then a else b).2=0:=by by_cases h:c<;>simp[h,q,hb]
theorem ago (w:WT) (sy:SY) (t k o u:Int) (h1:¬k=18) (h2:¬k=19):(qW w sy t k o u).2=0:=by
 unfold qW;rw[ay h1,ay h2];repeat (first|exact rfl|refine ite2 rfl ?_)
theorem WS (w:WT) (sy:SY) (t k o u a:Int) (h1:¬k=18):qW w sy t k o u=qW w sy t k o a:=by
 unfold qW;rw[ay h1,ay h1]
theorem E9 (w:WT) (sy:SY) (t o u:Int):qW w sy t 18 o u=if (wl sy.2.2.2 o sy.2.2.2.length).length=0 then (sy,-1) else ((sy.1,sy.2.1,sy.2.2.1,xK sy.2.2.2 (Bc (wl sy.2.2.2 o sy.2.2.2.length) u) 4),Bc (wl sy.2.2.2 o sy.2.2.2.length) u):=rfl
theorem ai7 (w:WT) (sy:SY) (t o u:Int):(qW w sy t 19 o u).2=((wl sy.2.2.2 o sy.2.2.2.length).length:Int):=rfl
theorem Y7 {n:Nat} (w:WT) (s:SN) (hs:NB n s) (hf:F16 w s) (e:ET) (he:EN w s.1 e.1 e.2.1 e.2.2.1):Ok (tY (s,e)) λb=>b=J->VA w s.1 s.2.1 s.2.2.1 e.1 e.2.1 e.2.2.1 e.2.2.2.1:=by
 obtain⟨t,k,o,v,si,de,fr⟩:=e;obtain⟨s1,s2,U,s4⟩:=s;obtain⟨nm,t0,t1,cd,e1,e2,e3⟩:=he;obtain⟨_,_,ce,lk,cn,th,fu,_,_,_⟩:=nm;obtain⟨f1,f2,f3⟩:=hf;have hth:=hs.sb.th;dsimp only at*
 unfold tY aX bm bw cC bN bf bA jG bO aV aE;have hW:=Vm s1 o hth;have hWl:=vn s1.2.2.2 o s1.2.2.2.length;refine aK (λh=>?_) λn3=>?_
 .have h:k=3:=h;obtain⟨L,A⟩:=ce (.inl h);exact aO L (by rw[f1];exact A) (aT (aj λh2=>⟨λ_=>be h2,λa=>by omega,λa=>by omega,λa=>(a h).elim⟩))
 refine aK (λh=>?_) λc=>?_
 .have h:k=23:=h;obtain⟨L,A⟩:=fu (.inr h);exact aO L (by rw[f2];exact A) (aT (aj λh2=>⟨λa=>by omega,λ_=>be h2,λa=>by omega,λ_ a=>(a h).elim⟩))
 refine aK (λh=>?_) λZ=>?_
 .have h:k=5:=h;exact gO (aK (λh2=>aj (aj λ_=>⟨λa=>by omega,λa=>by omega,λ_=>.inl h2,λ_ _ a=>(a h).elim⟩)) λ_=>aj (aj λh2=>⟨λa=>by omega,λa=>by omega,λ_=>.inr (be h2),λ_ _ a=>(a h).elim⟩))
 refine aU (λx=>x.2=((s1,s2,U,s4),t,k,o,v,si,de,fr)/\(x.1=J->k=4\/k=22)) (aK (λh=>aj ⟨rfl,λ_=>.inl h⟩) λ_=>aj ⟨rfl,λh=>.inr (be h)⟩) ?_;rintro⟨b,x⟩ ⟨e,hb⟩;dsimp only at e hb;subst e;refine aQ (λh=>aj λ_=>⟨λa=>(n3 a).elim,λa=>(c a).elim,λa=>(Z a).elim,λ_ _ _ h4 h5=>(hb h).elim (λh=>(h4 h).elim) λh=>(h5 h).elim⟩) λ_=>?_
 have fin:v=(qW w s1 t k o v).2->VA w s1 s2 U t k o v:=λh=>⟨λa=>(n3 a).elim,λa=>(c a).elim,λa=>(Z a).elim,λ_ _ _ _ _=>h⟩
 refine aK (λh=>?_) λz=>?_
 .have h:k=18:=h;subst h;rw[E9]at fin;refine aS hW ?_;revert fin hWl;generalize wl s1.2.2.2 o s1.2.2.2.length=l;intro hWl fin;refine aK (λh=>aj λh2=>fin ?_) λh=>?_
  .dsimp only[ak]at h;rw[aC (by omega)];exact be h2
  .dsimp only[ak]at h;have hne:¬l.length=0:=by omega
   refine gO (fH (λ_=>bK (λ_=>?_) λ_=>aj (aj λh=>(by cases h))) λ_=>aj (aj λh=>(by cases h)));refine aS (Vx _ _ (by omega)) (aj (aj λh2=>fin ?_));rw[ay hne];unfold Bc;rw[ay hne,aC h2]
 refine aK (λh=>?_) λq=>?_
 .have h:k=19:=h;subst h;exact aS hW (aj λh2=>fin (be h2))
 exact aj λh2=>fin (by rw[ago _ _ _ _ _ _ z q];exact be h2)
structure S16 (w:WT) (s:SN) (e:ET):Prop where
 rd:Vt w s.1 e.1 e.2.1 e.2.2.1
 s1:e.2.1=1\/e.2.1=2->e.2.2.2.2.1= -1
 s2:¬(e.2.1=1\/e.2.1=2)->0<=e.2.2.2.2.1/\e.2.2.2.2.1<w.2.2.2.2.2.length/\(aI (T:=xJ) w.2.2.2.2.2 e.2.2.2.2.1).1=e.1
 de:0<e.2.2.2.2.2.1.length->e.2.1=5\/(e.2.1=3\/e.2.1=4)/\¬(aI (T:=L6) w.1 e.2.2.1).2.2.1=0
 fr:0<e.2.2.2.2.2.2.length->e.2.1=4\/e.2.1=22
 nd:AN (aI (T:=.int .i64) s.2.2.2 e.1) e.2.2.2.2.2.1
 nf:AN (aI (T:=.int .i64) s.2.2.2 e.1) e.2.2.2.2.2.2
 va:VA w s.1 s.2.1 s.2.2.1 e.1 e.2.1 e.2.2.1 e.2.2.2.1
def Yd (ce:η) (e:ET):η:=if e.2.1=4 then cF ce e.2.2.1 e.2.2.2.1 else ce
def Y1 (fu:η) (e:ET):η:=if e.2.1=22 then cF fu e.2.2.1 e.2.2.2.1 else fu
def nxP (w:WT) (s:SN) (e:ET):SN:=((qW w s.1 e.1 e.2.1 e.2.2.1 e.2.2.2.1).1,Yd s.2.1 e,Y1 s.2.2.1 e,cF s.2.2.2 e.1 (bl .i64 (aI (T:=.int .i64) s.2.2.2 e.1+1)))
theorem Fb {n:Nat} (w:WT) (s:SN) (hs:NB n s) (hw:w.2.2.1.length<=1000) (e:ET) (hd:e.2.2.2.2.2.1.length<=1000000000) (hf:e.2.2.2.2.2.2.length<=1000000000):Ok (ri (w,s,e)) λy=>(y.2=J->EN w s.1 e.1 e.2.1 e.2.2.1/\SP n s y.1/\S16 w s e/\y.1=nxP w s e)/\(y.2=af->y.1=sn0):=by
 have U:∀{Q:SN×Bool->Prop},Q (sn0,af)->Ok (M (sn0,af)) Q:=λh=>aj h
 have z0:((sn0,af).2=J->EN w s.1 e.1 e.2.1 e.2.2.1/\SP n s (sn0,af).1/\S16 w s e/\(sn0,af).1=nxP w s e)/\((sn0,af).2=af->(sn0,af).1=sn0):=⟨λh=>(by cases h),λ_=>rfl⟩
 unfold ri aX bm bw cC eB bN du cW fw lJ ck bf bA jf bH bO kW aV cR aE cH;refine aU (λx=>x.2=(w,s,e,0)/\(x.1=af->F16 w s/\(EN w s.1 e.1 e.2.1 e.2.2.1/\Vt w s.1 e.1 e.2.1 e.2.2.1)/\kn (w,s.1,e.1,e.2.1,e.2.2.1)=M J)) ?_ ?_
 .refine aw (YK w s hw) λb hb=>?_
  with_reducible repeat' first|(refine OS.ok ?_;constructor)|refine IM.mk λ_=>?_
  .exact⟨rfl,λh=>(by cases h)⟩
  simp only[al3,V_];with_reducible repeat' first|(refine OS.ok ?_;constructor)|refine IM.mk λ_=>?_
  .exact⟨rfl,λh=>(by cases h)⟩
  .exact⟨rfl,λh=>(by cases h)⟩
  .exact⟨rfl,λh=>(by cases h)⟩
  obtain⟨c,hc0,hc⟩:=KB w s.1 hs.sb hw e.1 e.2.1 e.2.2.1;refine aS hc0 (aj ⟨rfl,λh=>?_⟩);have h:c=J:=by simpa using h
  exact⟨hb (by assumption),hc h,h▸hc0⟩
 rintro⟨q,z⟩ ⟨a,hx⟩;dsimp only at a hx;subst a;refine aQ (λ_=>U z0) λh1=>?_
 obtain⟨hF,⟨hE,hR⟩,hEn⟩:=hx h1;clear hx h1;refine aU (λx=>x=(w,s,e,0)/\(e.2.1=1\/e.2.1=2->e.2.2.2.2.1= -1)/\(¬(e.2.1=1\/e.2.1=2)->0<=e.2.2.2.2.1/\e.2.2.2.2.1<w.2.2.2.2.2.length/\(aI (T:=xJ) w.2.2.2.2.2 e.2.2.2.2.1).1=e.1)) ?_ ?_
 .refine aU (λx=>x.2=(w,s,e,0)/\(x.1=J->e.2.1=1\/e.2.1=2)/\(x.1=af->¬(e.2.1=1\/e.2.1=2))) ?_ ?_
  .refine aK (λh=>aj ⟨rfl,λ_=>.inl h,λh=>(by cases h)⟩) λh=>aj ⟨rfl,λh2=>.inr (be h2),λh2=>?_⟩
   have:=Bk h2;exact λL=>L.elim h this
  rintro⟨q,z⟩ ⟨a,hy1,hy2⟩;dsimp only at a hy1 hy2;subst a;refine aQ (λhk=>?_) λhk=>?_
  .exact b9 (λ_=>aj z0) λh=>aj ⟨rfl,λ_=>h,λL=>(L (hy1 hk)).elim⟩
  .refine aU (λx=>x.2=(w,s,e,0)/\(x.1=af->0<=e.2.2.2.2.1/\e.2.2.2.2.1<w.2.2.2.2.2.length/\(aI (T:=xJ) w.2.2.2.2.2 e.2.2.2.2.1).1=e.1)) ?_ ?_
   .simp only[al3,V_];refine b9 (λ_=>aj ⟨rfl,λh=>(by cases h)⟩) λh=>aO h.1 h.2 (aT (aj ⟨rfl,λh2=>⟨h.1,h.2,?_⟩⟩))
    simpa using h2
   rintro⟨q,z⟩ ⟨a,U⟩;dsimp only at a U;subst a;exact aQ (λ_=>aj z0) λh=>aj ⟨rfl,λL=>((hy2 hk) L).elim,λ_=>U h⟩
 rintro x ⟨rfl,hS1,hS2⟩;obtain⟨nm,t0,t1,cd,e1,e2,e3⟩:=id hE;obtain⟨_,_,ce,lk,cn,th,fu,_,_,_⟩:=nm;obtain⟨f1,f2,f3⟩:=id hF;refine aU (λx=>x.2=(w,s,e,0)/\(x.1=J->e.2.1=3\/e.2.1=4)) ?_ ?_
 .with_reducible repeat' first|(refine OS.ok ?_;constructor)|refine IM.mk λ_=>?_
  .exact⟨rfl,λ_=>.inl (by assumption)⟩
  .exact⟨rfl,λh=>.inr (be h)⟩
 rintro⟨q,z⟩ ⟨a,A⟩;dsimp only at a A;subst a;refine aU (λx=>x.2=(w,s,e,0)/\(x.1=af->0<e.2.2.2.2.2.1.length->e.2.1=5\/(e.2.1=3\/e.2.1=4)/\¬(aI (T:=L6) w.1 e.2.2.1).2.2.1=0)) ?_ ?_
 .refine bK (λ_=>b9 (λ_=>aQ (λh=>?_) λ_=>aj ⟨rfl,λh=>(by cases h)⟩) λh5=>aj ⟨rfl,λ_ _=>.inl h5⟩) λh=>aj ⟨rfl,λ_ h2=>?_⟩
  .refine aO (ce (A h)).1 (ce (A h)).2 (aT (aj ⟨rfl,λh2 _=>.inr ⟨A h,?_⟩⟩));simpa using h2
  .dsimp only[ak]at h;omega
 rintro⟨q,z⟩ ⟨a,hDe⟩;dsimp only at a hDe;subst a;refine aQ (λ_=>U z0) λhde=>?_
 refine aU (λx=>x.2=(w,s,e,0)/\(x.1=af->0<e.2.2.2.2.2.2.length->e.2.1=4\/e.2.1=22)) ?_ ?_
 .refine bK (λ_=>b9 (λ_=>aj ⟨rfl,λh _=>.inr (by simpa using h)⟩) λZ=>aj ⟨rfl,λ_ _=>.inl Z⟩) λh=>aj ⟨rfl,λ_ h2=>?_⟩
  dsimp only[ak]at h;omega
 rintro⟨q,z⟩ ⟨a,hFr⟩;dsimp only at a hFr;subst a;refine aQ (λ_=>U z0) λhfr=>?_
 have hk:=hs.k;have hc:=hs.c;have hfu:=hs.f;refine aU (λx=>x.2=(w,s,e,0)/\(x.1=af->AN (aI (T:=.int .i64) s.2.2.2 e.1) e.2.2.2.2.2.1/\AN (aI (T:=.int .i64) s.2.2.2 e.1) e.2.2.2.2.2.2/\VA w s.1 s.2.1 s.2.2.1 e.1 e.2.1 e.2.2.1 e.2.2.2.1)) ?_ ?_
 .have hv:=Y7 w s hs hF e hE;refine aO t0 (by rw[f3];exact t1) (aT (aw (Ii _ _ hd) λb hb=>?_));refine ey (λ_=>aj ⟨rfl,λh=>(by cases h)⟩) λb1=>?_
  refine aO t0 (by rw[f3];exact t1) (aT (aw (Ii _ _ hf) λb hb2=>?_));refine ey (λ_=>aj ⟨rfl,λh=>(by cases h)⟩) λb2=>?_
  exact aw hv λb hb3=>aj ⟨rfl,λh=>⟨hb b1,hb2 b2,hb3 (by simpa using h)⟩⟩
 rintro⟨q,z⟩ ⟨a,hNum⟩;dsimp only at a hNum;subst a;refine aQ (λ_=>U z0) λhnu=>?_
 obtain⟨hN1,hN2,hVA⟩:=hNum hnu;have hS:S16 w s e:=⟨hR,hS1,hS2,hDe hde,hFr hfr,hN1,hN2,hVA⟩
 refine bc (by simp;omega) (by omega) (bc (by simp;omega) (by omega) (bc (by simp;omega) (by omega) ?_));refine aU (λx=>x.2=(w,s,e,0,0,s.2.1,s.2.2.1,s.2.2.2)/\qW w s.1 e.1 e.2.1 e.2.2.1 x.1=qW w s.1 e.1 e.2.1 e.2.2.1 e.2.2.2.1) ?_ ?_
 .exact aK (λ_=>aj ⟨rfl,rfl⟩) λh=>aj ⟨rfl,WS _ _ _ _ _ _ _ h⟩
 rintro⟨q,z⟩ ⟨a,hxu⟩;dsimp only at a hxu;subst a;refine aw (S7 w s.1 hs.sb hw e.1 e.2.1 e.2.2.1 q) λy hy=>?_
 obtain⟨_,_,hap,hyq⟩:=hy.1 (hy.2.2 hEn);rw[hxu]at hyq;refine aU (λx=>x.1=e/\x.2.2.1=y.1/\x.2.2.2.1=Yd s.2.1 e/\x.2.2.2.2=(s.2.2.1,s.2.2.2)) ?_ ?_
 .unfold Yd;refine aK (λh=>?_) λh=>aj ⟨rfl,rfl,(ay h).symm,rfl⟩
  have hc4:=ce (.inr h);with_reducible repeat' first|(refine OS.ok ?_;constructor)|refine IM.mk λ_=>?_
  all_goals try simp only[ak,qR] at*
  all_goals first|omega|exact (aC h).symm
 rintro⟨q,z,x3,x4,x5,x6⟩ ⟨h1,h2,L,Z⟩;simp only[aD]at h1 h2 L Z;obtain⟨rfl,rfl⟩:=Z;subst h1;subst h2;subst L;refine aU (λx=>x.1=q/\x.2.2.1=y.1/\x.2.2.2.1=Yd s.2.1 q/\x.2.2.2.2.1=Y1 s.2.2.1 q/\x.2.2.2.2.2=s.2.2.2) ?_ ?_
 .unfold Y1;refine aK (λh=>?_) λh=>aj ⟨rfl,rfl,rfl,(ay h).symm,rfl⟩
  have hc4:=fu (.inl h);with_reducible repeat' first|(refine OS.ok ?_;constructor)|refine IM.mk λ_=>?_
  all_goals try simp only[ak,qR] at*
  all_goals first|omega|exact (aC h).symm
 rintro⟨q,z,x3,x4,x5,x6⟩ ⟨h1,h2,Z,h5,h6⟩;simp only at h1 h2 Z h5 h6;subst h1;subst h2;subst Z;subst h5;subst h6;have l1:(Yd s.2.1 q).length=s.2.1.length:=by unfold Yd;split<;>simp[bT]
 have l2:(Y1 s.2.2.1 q).length=s.2.2.1.length:=by unfold Y1;split<;>simp[bT]
 with_reducible repeat' first|(refine OS.ok ?_;constructor)|refine IM.mk λ_=>?_
 all_goals try simp only[ak,qR] at*
 all_goals first|omega|skip
 exact⟨⟨hE,⟨hap,l1,l2,by rw[bT]⟩,hS,by unfold nxP;rw[<- hyq]⟩,λh=>(by cases h)⟩
theorem Sw:Ok (kE ()) λl=>l.length=22:=by
 unfold kE;with_reducible repeat' first|(refine OS.ok ?_;constructor)|refine IM.mk λ_=>?_
 all_goals rfl
theorem Pc (s:ζ):Ok (jL s) λ_=>True:=by
 unfold jL bA bO aV cR aE cH;refine aw Sw λl hl=>?_
 refine cf l.length (λi x=>x=(i:Int)) ?_ ?_ rfl
 .rintro i x hi rfl;with_reducible repeat' first|(refine OS.ok ?_;constructor)|refine IM.mk λ_=>?_
  all_goals try simp only[ak,qR] at*
  all_goals first|omega|exact gU (by omega)
 .rintro x rfl;with_reducible repeat' first|(refine OS.ok ?_;constructor)|refine IM.mk λ_=>?_
  all_goals try simp only[ak,qR] at*
  all_goals omega
theorem M5 (c:Int):Ok (lE c) λ_=>True:=by
 unfold lE jG aE;with_reducible repeat' first|(refine OS.ok ?_;constructor)|refine IM.mk λ_=>?_
 all_goals exact trivial
theorem ZU (c:Int):Ok (po c) λ_=>True:=by
 unfold po ru jG aE;refine gO (aw (M5 c) λ_ _=>?_);with_reducible repeat' first|(refine OS.ok ?_;constructor)|refine IM.mk λ_=>?_
 all_goals try exact trivial
 refine aw (P:=λ_=>True) ?_ λ_ _=>?_
 .with_reducible repeat' first|(refine OS.ok ?_;constructor)|refine IM.mk λ_=>?_
  all_goals exact trivial
 .with_reducible repeat' first|(refine OS.ok ?_;constructor)|refine IM.mk λ_=>?_
  all_goals exact trivial
theorem iB (s:ζ):Ok (fk s) λ_=>True:=by
 unfold fk bA wS aV cR aE cH;refine aU (λb=>b=af->s.length<=12) ?_ ?_
 .with_reducible repeat' first|(refine OS.ok ?_;constructor)|refine IM.mk λ_=>?_
  .exact λh=>(by cases h)
  .exact λh=>(by cases h)
  .omega
  .simp only[ak]at *;omega
  refine aw (M5 _) λ_ _=>?_
  with_reducible repeat' first|(refine OS.ok ?_;constructor)|refine IM.mk λ_=>?_
  .exact λh=>(by cases h)
  refine aw (Pc _) λ_ _=>aj λ_=>?_
  simp only[ak]at *;omega
 .rintro b hb;refine aQ (λ_=>aj trivial) λh=>?_
  have hb:=hb h;refine cf s.length (λi x=>x=(i:Int)) ?_ ?_ rfl
  .rintro i x hi rfl;with_reducible repeat' first|(refine OS.ok ?_;constructor)|refine IM.mk λ_=>?_
   all_goals try simp only[ak,qR] at*
   all_goals first|omega|skip
   refine aw (ZU _) λ_ _=>?_
   with_reducible repeat' first|(refine OS.ok ?_;constructor)|refine IM.mk λ_=>?_
   .exact trivial
   .exact gU (by omega)
  .rintro x rfl;with_reducible repeat' first|(refine OS.ok ?_;constructor)|refine IM.mk λ_=>?_
   all_goals try simp only[ak,qR] at*
   all_goals first|omega|exact trivial
theorem yg (l:Y ζ) (s:ζ) (hl:l.length<=1000000000):Ok (ja (l,s)) λr=> -1<=r/\r<l.length/\(0<=r->aI (T:=.str) l r=s)/\(r<0->s∉l):=by
 unfold ja bA bO aV cR aE cH;refine cf l.length (λi x=>x=(i:Int)/\∀k:Nat,k<i->aI (T:=.str) l (k:Int)≠s) ?_ ?_ ⟨rfl,λk hk=>by omega⟩
 .rintro i x hi ⟨rfl,a⟩;with_reducible repeat' first|(refine OS.ok ?_;constructor)|refine IM.mk λ_=>?_
  all_goals try simp only[ak,qR] at*
  all_goals first|omega|skip
  .exact⟨by omega,by omega,λ_=>by assumption,λh=>by omega⟩
  .refine ⟨gU (by omega),λk hk=>?_⟩;rcases b7 k i with h1|h1
   .exact a k h1
   .rw[show k=i by omega];assumption
 .rintro x ⟨rfl,a⟩;with_reducible repeat' first|(refine OS.ok ?_;constructor)|refine IM.mk λ_=>?_
  all_goals try simp only[ak,qR] at*
  all_goals first|omega|skip
  exact⟨by omega,by omega,λh=>by omega,λ_ h=>iz (T:=.str) (p:=λc=>c≠s) a s h rfl⟩
structure VL (w:WT):Prop where
 c:w.1.length<=12
 l:w.2.1.length<=4
 d:w.2.2.1.length<=2
 f:w.2.2.2.1.length<=2
 t0:1<=w.2.2.2.2.1.length
 t:w.2.2.2.2.1.length<=4
 s:w.2.2.2.2.2.length<=60
theorem ZD (w:WT) (h:VL w):Ok (pl w) λy=>y.1.length<=100:=by
 obtain⟨q,L,A,w4,Z,U⟩:=w;obtain⟨h1,h2,h3,h4,_,h5,h6⟩:=h;dsimp only at*
 unfold pl aX bm bw cC du lJ bf bA jf bH bO aV cR aE cH;refine qb (λx=>((q.length:Int)-x.1).toNat) (λx=>x.2.1=(q,L,A,w4,Z,U)/\0<=x.1/\x.1<=(q.length:Int)/\(x.2.2.length:Int)<=x.1) ?_ ⟨rfl,by simp,by simp,by simp⟩;rintro⟨x1,x2,x3⟩ ⟨e,g1,g2,g3⟩;dsimp only at e g1 g2 g3;subst e;refine bK (λg4=>?_) λg4=>?_
 .dsimp only[ak]at g4;refine aU (λx=>x.2.1=(q,L,A,w4,Z,U)/\x1<x.1/\x.1<=(q.length:Int)/\(x.2.2.length:Int)<=x.1) ?_ ?_
  .refine cI (aT (bc (by simp;omega) (by omega) ?_));refine aK (λ_=>?_) λ_=>?_
   .with_reducible repeat' first|(refine OS.ok ?_;constructor)|refine IM.mk λ_=>?_
    .exact iD _
    .rw[iK (by omega) (by omega)];exact⟨rfl,by dsimp only;omega,by dsimp only;omega,by simp;omega⟩
   .generalize hz:aI _ x1=z;obtain⟨z1,(z2:Int),(s:Int),z4,z5⟩:=z;dsimp only;refine aU (λx=>x.2=((q,L,A,w4,Z,U),x3++[z1],z1,z2,s,z4,z5)/\(x.1=af->1<=s/\s<=4/\x1+s<=q.length)) ?_ ?_
    .with_reducible repeat' first|(refine OS.ok ?_;constructor)|refine IM.mk λ_=>?_
     .exact⟨rfl,λh=>(by cases h)⟩
     .exact⟨rfl,λh=>(by cases h)⟩
     .refine ⟨rfl,λh=>?_⟩;dsimp only[ak] at*
      rw[iK (by omega) (by omega),fY]at h;omega
    .rintro⟨b,y⟩ ⟨e,hb⟩;dsimp only at e hb;subst e;refine aQ (λ_=>aj (iD _)) λh=>?_
     obtain⟨q1,q2,q3⟩:=hb h;refine qb (λx=>(s-x.1).toNat) (λx=>x.2=((q,L,A,w4,Z,U),x3++[z1],z1,z2,s,z4,z5)/\0<=x.1/\x.1<=s) ?_ ⟨rfl,by simp,by dsimp only;omega⟩;rintro⟨k,y⟩ ⟨e,k0,k1⟩;dsimp only at e k0 k1;subst e;refine bK (λk2=>?_) λk2=>?_
     .dsimp only at k2;have e1:bl .i64 (x1+k)=x1+k:=iK (by omega) (by omega);refine aO (by dsimp only;rw[e1];omega) (by dsimp only;rw[e1];omega) (aT ?_);refine aU (λx=>x.2=((q,L,A,w4,Z,U),x3++[z1],z1,z2,s,z4,z5)) ?_ ?_
      .with_reducible repeat' first|(refine OS.ok ?_;constructor)|refine IM.mk λ_=>?_
       all_goals rfl
      .rintro⟨b,y⟩ e;dsimp only at e;subst e;refine aQ (λ_=>aj (iD _)) λ_=>aj ?_
       dsimp only;rw[iK (by omega) (by omega)];exact⟨⟨rfl,by omega,by omega⟩,by omega⟩
     .dsimp only at k2;refine aj ?_;dsimp only;rw[iK (by omega) (by omega)];exact⟨rfl,by omega,by omega,by simp;omega⟩
  .rintro⟨y1,y2,y3⟩ ⟨e,g5,g6,g7⟩;dsimp only at e g5 g6 g7;subst e;refine aj ⟨⟨rfl,by dsimp only;omega,g6,g7⟩,?_⟩;dsimp only;omega
 .dsimp only[ak]at g4;refine aw (P:=λy=>y.1.length<=100) ?_ λy hy=>aj hy
  refine cf L.length (λi x=>x.1=(i:Int)/\x.2.1=(q,L,A,w4,Z,U)/\x.2.2.length<=12+i) ?_ ?_ ⟨rfl,rfl,by dsimp only;omega⟩
  .rintro i ⟨a,b,c⟩ hi ⟨e1,e2,e3⟩;dsimp only at e1 e2 e3;subst e1;subst e2;with_reducible repeat' first|(refine OS.ok ?_;constructor)|refine IM.mk λ_=>?_
   all_goals try simp only[ak,qR] at*
   all_goals first|omega|(simp;omega)|skip
   exact⟨gU (by omega),by simp;omega⟩
  .rintro⟨a,b,c⟩ ⟨e1,e2,e3⟩;dsimp only at e1 e2 e3;subst e1;subst e2;refine bK (λg4=>(by dsimp only[ak]at g4;omega)) λ_=>?_
   refine aw (P:=λy=>y.1.length<=100) ?_ λy hy=>aj hy
   refine cf A.length (λi x=>x.1=(i:Int)/\x.2.1=(q,L,A,w4,Z,U)/\x.2.2.length<=16+i) ?_ ?_ ⟨rfl,rfl,by dsimp only;omega⟩
   .rintro i ⟨a,b,c⟩ hi ⟨e1,e2,e3⟩;dsimp only at e1 e2 e3;subst e1;subst e2;with_reducible repeat' first|(refine OS.ok ?_;constructor)|refine IM.mk λ_=>?_
    all_goals try simp only[ak,qR] at*
    all_goals first|omega|(simp;omega)|skip
    exact⟨gU (by omega),by simp;omega⟩
   .rintro⟨a,b,c⟩ ⟨e1,e2,e3⟩;dsimp only at e1 e2 e3;subst e1;subst e2;refine bK (λg4=>(by dsimp only[ak]at g4;omega)) λ_=>?_
    refine aw (P:=λy=>y.1.length<=100) ?_ λy hy=>aj hy
    with_reducible repeat' first|(refine OS.ok ?_;constructor)|refine IM.mk λ_=>?_
    all_goals try simp only[ak,qR] at*
    all_goals first|omega|(simp;omega)
def S_ (T:Int) (o:I ν) (s:π):I ν:=
 match o with
 |none=>D
 |some (t,n)=>if s.1=t/\s.2.1=n then M (t,n+1) else if t<s.1/\s.1<T/\s.2.1=0 then M (s.1,1) else D
def KM (T:Int) (l:Y π):I ν:=l.foldl (S_ T) (M (0,0))
def SV0 (w:WT):Prop:=KM w.2.2.2.2.1.length w.2.2.2.2.2≠D
theorem HZ {T:Int} {l:Y π} {i:Nat} (hi:i<l.length):KM T (l.take (i+1))=S_ T (KM T (l.take i)) (aI (T:=xJ) l (i:Int)):=by
 rw[ol (T:=xJ) hi];unfold KM;rw[eC];rfl
theorem Bd (w:WT):Ok (ie w) λb=>b=J->VL w/\SV0 w:=by
 unfold ie aX bm bw cC cW fw bf bA jG jf bH bO aV cR aE cH;refine aU (λx=>x.2=w/\(x.1=af->VL w)) ?_ ?_
 .with_reducible repeat' first|(refine OS.ok ?_;constructor)|refine IM.mk λ_=>?_
  all_goals first|exact⟨rfl,λh=>(by cases h)⟩|skip
  dsimp only[ak] at*
  refine ⟨rfl,λh=>?_⟩;rw[fY]at h;constructor<;>omega
 rintro⟨b,x⟩ ⟨e,hb⟩;dsimp only at e hb;subst e;refine aQ (λ_=>aj λh=>(by cases h)) λh=>?_
 have hv:=hb h;refine aw (ZD _ hv) λy hy=>?_
 refine ey (λ_=>aj λh=>(by cases h)) λ_=>?_
 obtain⟨w1,w2,U,w4,A,q⟩:=x;have h6:=hv.s;have h3:=hv.d;dsimp only at h6 h3;refine cf y.1.length (λi x=>x.1=(i:Int)/\x.2=(w1,w2,U,w4,A,q)) ?_ ?_ ⟨rfl,rfl⟩
 .rintro i ⟨a,b⟩ hi ⟨e1,e2⟩;dsimp only at e1 e2;subst e1;subst e2;refine bK (λZ=>?_) λZ=>(by dsimp only[ak]at Z;omega)
  refine aU (λx=>x.2=(w1,w2,U,w4,A,q)) ?_ ?_
  .refine cI (aT (aw (iB _) λ_ _=>?_));refine ey (λ_=>aj rfl) λ_=>?_
   with_reducible repeat' first|(refine OS.ok ?_;constructor)|refine IM.mk λ_=>?_
   all_goals try simp only[ak,qR] at*
   all_goals first|omega|skip
   refine aw (yg _ _ (by simp;omega)) λ_ _=>aj rfl
  .rintro⟨a,b⟩ e;dsimp only at e;subst e;with_reducible repeat' first|(refine OS.ok ?_;constructor)|refine IM.mk λ_=>?_
   .exact λh=>(by cases h)
   .dsimp only;exact⟨gU (by omega),rfl⟩
 rintro⟨a,b⟩ ⟨e1,e2⟩;dsimp only at e1 e2;subst e1;subst e2;refine bK (λZ=>(by dsimp only[ak]at Z;omega)) λ_=>?_
 refine aw (P:=λb=>b=J->VL (w1,w2,U,w4,A,q)/\SV0 (w1,w2,U,w4,A,q)) ?_ λy hy=>aj hy
 refine cf U.length (λi x=>x.1=(i:Int)/\x.2=(w1,w2,U,w4,A,q)) ?_ ?_ ⟨rfl,rfl⟩
 .rintro i ⟨a,b⟩ hi ⟨e1,e2⟩;dsimp only at e1 e2;subst e1;subst e2;refine bK (λZ=>?_) λZ=>(by dsimp only[ak]at Z;omega)
  refine cI (aT ?_);refine aU (λx=>x.2=(w1,w2,U,w4,A,q)) ?_ ?_
  .with_reducible repeat' first|(refine OS.ok ?_;constructor)|refine IM.mk λ_=>?_
   all_goals try simp only[ak,qR] at*
   all_goals first|omega|rfl
  .rintro⟨a,b⟩ e;dsimp only at e;subst e;with_reducible repeat' first|(refine OS.ok ?_;constructor)|refine IM.mk λ_=>?_
   .exact λh=>(by cases h)
   .dsimp only;exact⟨gU (by omega),rfl⟩
 rintro⟨a,b⟩ ⟨e1,e2⟩;dsimp only at e1 e2;subst e1;subst e2;refine bK (λZ=>(by dsimp only[ak]at Z;omega)) λ_=>?_
 refine aw (P:=λb=>b=J->VL (w1,w2,U,w4,A,q)/\SV0 (w1,w2,U,w4,A,q)) ?_ λy hy=>aj hy
 refine cf q.length (λi x=>x.1=(i:Int)/\x.2=(w1,w2,U,w4,A,q)/\KM A.length (q.take i)=M (if i=0 then (0,0) else ((aI (T:=xJ) q ((i-1:Nat):Int)).1,(aI (T:=xJ) q ((i-1:Nat):Int)).2.1+1))/\(¬i=0->(0:Int)<=(aI (T:=xJ) q ((i-1:Nat):Int)).2.1/\(i:Int)>(aI (T:=xJ) q ((i-1:Nat):Int)).2.1)) ?_ ?_ ⟨rfl,rfl,rfl,λh=>(h rfl).elim⟩
 .rintro i ⟨a,b⟩ hi ⟨e1,e2,e3,hpb⟩;dsimp only at e1 e2;subst e1;subst e2;have hw:¬(i:Int)=0->bl .i64 ((i:Int)-1)=((i-1:Nat):Int):=λh=>by rw[iK (by omega) (by omega)];omega
  have hnx:=HZ (T:=A.length) hi;rw[e3]at hnx;clear e3;refine bK (λZ=>?_) λZ=>(by dsimp only[ak]at Z;omega)
  refine aU (λx=>x=(w1,w2,U,w4,A,q)/\KM A.length (q.take (i+1))=M (((aI (T:=xJ) q (i:Int)).1,(aI (T:=xJ) q (i:Int)).2.1+1))/\(0:Int)<=(aI (T:=xJ) q (i:Int)).2.1/\((i+1:Nat):Int)>(aI (T:=xJ) q (i:Int)).2.1) ?_ ?_
  .refine cI (aT ?_);rw[hnx];generalize hz:aI (T:=xJ) q (i:Int)=z;obtain⟨(z1:Int),(z2:Int),(z3:Int)⟩:=z;dsimp only;refine aU (λx=>x.2=((w1,w2,U,w4,A,q),z1,z2,z3)/\(x.1=af->0<=z1/\z1<A.length)) ?_ ?_
   .refine bK (λ_=>aj ⟨rfl,λh=>(by cases h)⟩) λg=>aj ⟨rfl,λh=>⟨g,?_⟩⟩
    rw[mg]at h;exact h
   rintro⟨c,y⟩ ⟨e,hzr⟩;dsimp only at e hzr;subst e;refine aQ (λ_=>aj λh=>(by cases h)) λhzb=>?_
   obtain⟨z0,zT⟩:=hzr hzb;refine aU (λx=>x.2=((w1,w2,U,w4,A,q),z1,z2,z3)/\(x.1=J->i=0\/¬(aI (T:=xJ) q ((i-1:Nat):Int)).1=z1)/\(x.1=af->¬(i:Int)=0/\(aI (T:=xJ) q ((i-1:Nat):Int)).1=z1)) ?_ ?_
   .refine aK (λh=>aj ⟨rfl,λ_=>.inl (by have h:((i:Nat):Int)=0:=h;omega),λh=>(by cases h)⟩) λh=>?_
    rw[hw h];refine cI (aT (aj ⟨rfl,λh2=>.inr (by simpa using h2),λh2=>⟨h,by simpa using h2⟩⟩))
   rintro⟨c,y⟩ ⟨e,hc1,hc⟩;dsimp only at e hc1 hc;subst e;refine aQ (λhct=>?_) λhcf=>?_
   .refine aU (λx=>x.2=(w1,w2,U,w4,A,q)/\(x.1=af->z2=0/\(¬i=0->((aI (T:=xJ) q ((i-1:Nat):Int)).1:Int)<z1))) ?_ ?_
    .refine b9 (λ_=>aj ⟨rfl,λh=>(by cases h)⟩) λhz2=>?_
     refine bK (λh=>?_) λL=>aj ⟨rfl,λ_=>⟨hz2,λh=>by have L:((i:Nat):Int)<=0:=L;omega⟩⟩
     have h:(0:Int)<((i:Nat):Int):=h;rw[hw (by omega)];refine cI (aT (aj ⟨rfl,λh2=>⟨hz2,λh3=>?_⟩⟩));rw[fY]at h2;have h4:=(hc1 hct).resolve_left h3;have h2:(aI (T:=xJ) q ((i-1:Nat):Int)).1<=z1:=h2;exact Int.lt_iff_le_and_ne.2 ⟨h2,h4⟩
    rintro⟨c,y⟩ ⟨e,hy⟩;dsimp only at e hy;subst e;refine aQ (λ_=>aj λh=>(by cases h)) λh=>aj ⟨rfl,?_⟩
    obtain⟨q1,q2⟩:=hy h;have q1:z2=0:=q1;subst q1;refine ⟨?_,dj 0,by show _>(0:Int);omega⟩;unfold S_;by_cases L:i=0
    .subst L;rw[aC rfl];dsimp only;by_cases hz1:z1=0
     .subst hz1;rfl
     .rw[ay (λh=>hz1 h.1),aC ⟨by omega,zT,rfl⟩];rfl
    .have:=q2 L;rw[ay L];dsimp only;rw[ay (λh=>by omega),aC ⟨this,zT,rfl⟩];rfl
   .obtain⟨L,hpr⟩:=hc hcf;rw[hw L];refine cI (aT ?_);refine b9 (λ_=>aj λh=>(by cases h)) λh=>aj ⟨rfl,?_⟩
    obtain⟨b0,b1⟩:=hpb (by omega);have h:z2=bl .i64 ((aI (T:=xJ) q ((i-1:Nat):Int)).2.1+1):=h;rw[iK (by omega) (by omega)]at h;refine ⟨?_,by omega,by omega⟩;rw[ay (by omega)];unfold S_;dsimp only;rw[aC ⟨hpr.symm,h⟩,hpr,h]
  .rintro x ⟨rfl,hx,hx2⟩;refine aj ?_;dsimp only;refine ⟨gU (by omega),rfl,?_,λ_=>hx2⟩;rw[ay (by omega)];exact hx
 .rintro⟨a,b⟩ ⟨e1,e2,e3,_⟩;dsimp only at e1 e2;subst e1;subst e2;refine bK (λZ=>(by dsimp only[ak]at Z;omega)) λ_=>?_
  rw[cO]at e3;exact aj λ_=>⟨hv,by unfold SV0;dsimp only;rw[e3];simp⟩
def s_ (e:ET):Bool:=decide (e.2.1=3)||decide (e.2.1=23)
def fl (l:Y ET) (t:Int):θ:=(l.filter λe=>decide (e.1=t)).map s_
def KA (l:Y ET) (t y:Int):Prop:=0<=y/\(fl l t).getD y.toNat af=J
theorem ur (l m:Y ET) (t:Int):fl (l++m) t=fl l t++fl m t:=by unfold fl;rw[List.filter_append,cQ]
theorem zd {e:ET} {t:Int} (h:e.1=t):fl [e] t=[s_ e]:=by unfold fl;simp[h]
theorem wq {e:ET} {t:Int} (h:¬e.1=t):fl [e] t=[]:=by unfold fl;simp[h]
theorem KA.app {l:Y ET} {t y:Int} (h:KA l t y) (m:Y ET):KA (l++m) t y:=by
 obtain⟨h0,h1⟩:=h;refine ⟨h0,?_⟩;rw[ur];rw[au]at h1 ⊢;rcases b7 y.toNat (fl l t).length with g|g
 .rw[bP g];exact h1
 .rw[bD g]at h1;cases h1
theorem KA.lt {l:Y ET} {t y:Int} (h:KA l t y):y<(fl l t).length:=by
 obtain⟨h0,h1⟩:=h;rcases b7 y.toNat (fl l t).length with g|g
 .omega
 .rw[au,bD g]at h1;cases h1
theorem KA.last {l:Y ET} {e:ET} {y:Int} (h:s_ e=J) (a:y=(fl l e.1).length):KA (l++[e]) e.1 y:=by
 subst a;refine ⟨by omega,?_⟩;rw[ur,zd rfl,au,b8 (by simp),h];simp
theorem Wo (l:Y ET) (t:Int):(fl l t).length<=l.length:=by unfold fl;rw[bx];exact List.length_filter_le ..
structure SCx (w:WT) (l:List ET) (sy:SY) (ce fu:η) (e:ET):Prop where
 en:EN w sy e.1 e.2.1 e.2.2.1
 rd:Vt w sy e.1 e.2.1 e.2.2.1
 s1:e.2.1=1\/e.2.1=2->e.2.2.2.2.1= -1
 s2:¬(e.2.1=1\/e.2.1=2)->0<=e.2.2.2.2.1/\e.2.2.2.2.1<w.2.2.2.2.2.length/\(aI (T:=xJ) w.2.2.2.2.2 e.2.2.2.2.1).1=e.1
 de:0<e.2.2.2.2.2.1.length->e.2.1=5\/(e.2.1=3\/e.2.1=4)/\¬(aI (T:=L6) w.1 e.2.2.1).2.2.1=0
 fr:0<e.2.2.2.2.2.2.length->e.2.1=4\/e.2.1=22
 nd:AN (fl l e.1).length e.2.2.2.2.2.1
 nf:AN (fl l e.1).length e.2.2.2.2.2.2
 rd1:∀y∈e.2.2.2.2.2.1,KA l e.1 y
 rd2:∀y∈e.2.2.2.2.2.2,KA l e.1 y
 va:VA w sy ce fu e.1 e.2.1 e.2.2.1 e.2.2.2.1
def Xc:Nat->Y (Int×Int×Bool)
 |0=>[]
 |n+1=>(1,0,af)::aB n (0,0,af)
def Pf (w:WT):SY:=(aB w.2.1.length (-1,[]),-1,aB w.2.2.2.1.length af,Xc w.2.2.2.2.1.length)
def ce0 (w:WT):η:=w.1.map λc=>c.2.2.2.2
def fu0 (w:WT):η:=aB w.2.2.2.1.length 0
inductive Acw (w:WT):List ET->SY->η->η->Prop
 |nil:Acw w [] (Pf w) (ce0 w) (fu0 w)
 |snoc {l:List ET} {sy:SY} {ce fu:η} {e:ET} (h:Acw w l sy ce fu) (hs:SCx w l sy ce fu e):Acw w (l++[e]) (qW w sy e.1 e.2.1 e.2.2.1 e.2.2.2.1).1 (Yd ce e) (Y1 fu e)
theorem Za (i:Nat):Xc (i+2)=Xc (i+1)++[(0,0,af)]:=by
 show (1,0,af)::aB (i+1) (0,0,af)=(1,0,af)::aB i (0,0,af)++[(0,0,af)]
 rw[DS,gx]
theorem Hm:∀n,(Xc n).length=n
 |0=>rfl
 |n+1=>by simp[Xc]
theorem Ks (w:WT) (h:VL w):rj w=M (Pf w):=by
 obtain⟨w1,q,Z,z,L,U⟩:=w;obtain⟨h1,h2,h3,h4,_,h5,h6⟩:=h;dsimp only at*
 refine cG ?_;unfold rj aX bm bw cC du cW fw bf bA bH aV cR aE cH;refine cf q.length (λi x=>x.1=(i:Int)/\x.2.1=(w1,q,Z,z,L,U)/\x.2.2.2=(-1,aB i (-1,[]))) ?_ ?_ ⟨rfl,rfl,rfl⟩
 .rintro i ⟨a,b,c,d,e⟩ hi ⟨e1,e2,e3⟩;simp only[aD]at e1 e2 e3;obtain⟨rfl,rfl⟩:=e3;subst e1;subst e2;with_reducible repeat' first|(refine OS.ok ?_;constructor)|refine IM.mk λ_=>?_
  all_goals try simp only[ak,qR] at*
  all_goals first|omega|(simp;omega)|skip
  exact⟨gU (by omega),by rw[DS]⟩
 rintro⟨a,b,c,d,e⟩ ⟨e1,e2,e3⟩;simp only[aD]at e1 e2 e3;obtain⟨rfl,rfl⟩:=e3;subst e1;subst e2;refine bK (λA=>(by dsimp only[ak]at A;omega)) λ_=>?_
 refine aw (P:=λs=>s=Pf (w1,q,Z,z,L,U)) ?_ λy hy=>aj hy
 refine cf z.length (λi x=>x.1=(i:Int)/\x.2.1=(w1,q,Z,z,L,U)/\x.2.2.2=(-1,aB q.length (-1,[]),aB i af)) ?_ ?_ ⟨rfl,rfl,rfl⟩
 .rintro i ⟨a,b,c,d,e',f⟩ hi ⟨e1,e2,e3⟩;simp only[aD]at e1 e2 e3;obtain⟨rfl,rfl,rfl⟩:=e3;subst e1;subst e2;with_reducible repeat' first|(refine OS.ok ?_;constructor)|refine IM.mk λ_=>?_
  all_goals try simp only[ak,qR] at*
  all_goals first|omega|(simp;omega)|skip
  exact⟨gU (by omega),by rw[DS]⟩
 rintro⟨a,b,c,d,e',f⟩ ⟨e1,e2,e3⟩;simp only[aD]at e1 e2 e3;obtain⟨rfl,rfl,rfl⟩:=e3;subst e1;subst e2;refine bK (λA=>(by dsimp only[ak]at A;omega)) λ_=>?_
 refine aw (P:=λs=>s=Pf (w1,q,Z,z,L,U)) ?_ λy hy=>aj hy
 refine cf L.length (λi x=>x.1=(i:Int)/\x.2.1=(w1,q,Z,z,L,U)/\x.2.2.2=(-1,aB q.length (-1,[]),aB z.length af,Xc i)) ?_ ?_ ⟨rfl,rfl,rfl⟩
 .rintro i ⟨a,b,c,d,e'',f',g⟩ hi ⟨e1,e2,e3⟩;simp only[aD]at e1 e2 e3;obtain⟨rfl,rfl,rfl,rfl⟩:=e3;subst e1;subst e2;have hl:=Hm i;refine bK (λ_=>?_) λA=>(by dsimp only[ak]at A;omega)
  refine gO (aK (λh0=>aj ?_) λh0=>aj ?_)
  .have h0:((i:Nat):Int)=0:=h0;have h0:i=0:=by omega
   subst h0;exact bc (by simp[Xc]) (by omega) (aj ⟨rfl,rfl,rfl⟩)
  .have h0:¬((i:Nat):Int)=0:=h0;obtain⟨j,rfl⟩:∃j,i=j+1:=⟨i-1,by omega⟩
   refine bc (by dsimp only;rw[hl];simp;omega) (by omega) (aj ⟨gU (by omega),rfl,?_⟩);dsimp only;rw[Za]
 rintro⟨a,b,c,d,e'',f',g⟩ ⟨e1,e2,e3⟩;simp only[aD]at e1 e2 e3;obtain⟨rfl,rfl,rfl,rfl⟩:=e3;subst e1;subst e2;refine bK (λA=>(by dsimp only[ak]at A;omega)) λ_=>aj rfl
theorem Tr {w:WT} (h:VL w):SB 0 (Pf w):=by
 obtain⟨h1,h2,s,q,_,c,a⟩:=h;refine ⟨by omega,by simp[Pf];omega,λl hl=>?_,by simp[Pf];omega,by simp[Pf,Hm];omega⟩;rw[pB hl];simp
theorem Kr (w:WT) (h:VL w):mW w=M (Pf w,ce0 w,fu0 w,aB w.2.2.2.2.1.length 0):=by
 have hs:=Ks w h;have hd:(Pf w)=Pf w:=rfl;obtain⟨q,U,L,z,s,A⟩:=w;obtain⟨h1,h2,h3,h4,_,h5,h6⟩:=h;dsimp only at*
 refine cG ?_;unfold mW aX bm bw bN cW bA bH bO aV cR aE cH;refine aS hs ?_;with_reducible repeat' first|(refine OS.ok ?_;constructor)|refine IM.mk λ_=>?_
 all_goals try simp only[ak,qR] at*
 all_goals first|omega|skip
 refine cf q.length (λi x=>x.1=(i:Int)/\x.2.1=(q,U,L,z,s,A)/\x.2.2.2=(Pf (q,U,L,z,s,A),(q.take i).map (λc=>c.2.2.2.2),aB z.length 0,aB s.length 0)) ?_ ?_ ⟨rfl,rfl,rfl⟩
 .rintro i ⟨a,b,c,d,e,f,g⟩ hi ⟨e1,e2,e3⟩;simp only[aD]at e1 e2 e3;obtain⟨rfl,rfl,rfl,rfl⟩:=e3;subst e1;subst e2;with_reducible repeat' first|(refine OS.ok ?_;constructor)|refine IM.mk λ_=>?_
  all_goals try simp only[ak,qR] at*
  all_goals first|omega|(simp;omega)|skip
  exact⟨gU (by omega),by rw[ol (T:=L6) hi,cQ];rfl⟩
 rintro⟨a,b,c,d,e,f,g⟩ ⟨e1,e2,e3⟩;simp only[aD]at e1 e2 e3;obtain⟨rfl,rfl,rfl,rfl⟩:=e3;subst e1;subst e2;refine bK (λZ=>(by dsimp only[ak]at Z;omega)) λ_=>aj ?_
 rw[cO];rfl
theorem Vp (w:WT) (h:VL w):Ok (mW w) λs=>NB 0 s/\s.2.1.length=w.1.length/\s.2.2.1.length=w.2.2.2.1.length/\s.2.2.2.length=w.2.2.2.2.1.length:=
 aky (Kr w h) ⟨⟨Tr h,by have:=h.c;simp[ce0];omega,by have:=h.f;simp[fu0];omega,by have:=h.t;simp;omega⟩,by simp[ce0],by simp[fu0],by simp⟩
theorem PQ (l:Y ET) (i t:Int) (s:η) (hl:l.length<=1000000000) (hi:0<=i/\i<=l.length) (hn:s.length<=1000000000):Ok (rh (l,i,t,s)) λb=>b=J->∀y∈s,KA (l.take i.toNat) t y:=by
 unfold rh aX bN bf bA jf bO aV cR aE cH;refine cf s.length (λk x=>x=(k:Int)/\∀j:Nat,j<k->KA (l.take i.toNat) t (aI (T:=.int .i64) s (j:Int))) ?_ ?_ ⟨rfl,λj hj=>(by omega)⟩
 .rintro k x hk ⟨rfl,U⟩;refine bK (λA=>?_) λA=>(by dsimp only[ak]at A;omega)
  refine qb (λx=>(i-x.2.2).toNat) (λx=>0<=x.2.2/\x.2.2<=i/\x.1=((fl (l.take x.2.2.toNat) t).length:Int)/\(x.2.1=J->KA (l.take x.2.2.toNat) t (aI (T:=.int .i64) s (k:Int)))) ?_ ⟨by simp,hi.1,by simp[fl],λh=>(by cases h)⟩;rintro⟨a,b,(c:Int)⟩ ⟨L,c1,Z,hb⟩;dsimp only at L c1 Z hb;subst Z;obtain⟨c,rfl⟩:∃n:Nat,c=(n:Int):=⟨c.toNat,by omega⟩
  rw[cB]at hb;dsimp only;rw[cB];have hfl:=Wo (l.take c) t;have htl:=p_ c l;refine bK (λz=>?_) λz=>?_
  .have z:(c:Int)<i:=z;have htk:l.take (c+1)=l.take c++[aI (T:=tE) l (c:Int)]:=ol (T:=tE) (by omega);refine aU (λy=>y.1=((fl (l.take (c+1)) t).length:Int)/\(y.2=J->KA (l.take (c+1)) t (aI (T:=.int .i64) s (k:Int)))) ?_ ?_
   .rw[htk,ur];refine aO L (by first|omega|(dsimp only;omega)) (aT ?_);refine b9 (λhne=>aj ⟨by rw[wq hne];simp,λh=>(hb h).app _⟩) λhe=>?_
    have he:(aI (T:=tE) l (c:Int)).1=t:=he;refine aU (λy=>y=J->KA (l.take c++[aI (T:=tE) l (c:Int)]) t (aI (T:=.int .i64) s (k:Int))) ?_ λy hy=>aj ⟨?_,hy⟩
    .refine aQ (λh=>aj λ_=>(hb h).app _) λ_=>?_
     refine aO (by omega) (by first|omega|(dsimp only;omega)) (aT ?_);refine aK (λhn=>?_) λ_=>aj λh=>(by cases h)
     have hq:s_ (aI (T:=tE) l (c:Int))=J->KA (l.take c++[aI (T:=tE) l (c:Int)]) t (aI (T:=.int .i64) s (k:Int)):=λh=>by
      rw[<- he]at hn ⊢;exact KA.last h hn.symm
     refine aO L (by first|omega|(dsimp only;omega)) (aT ?_);refine aK (λh=>aj λ_=>hq (by unfold s_;rw[aR h];rfl)) λ_=>?_
     exact aO L (by first|omega|(dsimp only;omega)) (aT (aj λh=>hq (by unfold s_;rw[h];simp)))
    .dsimp only;rw[zd he,gU (by omega)];simp
   .rintro⟨p,q⟩ ⟨hp,hq⟩;refine aj ?_;dsimp only at hp hq ⊢;rw[gU (by omega),cB];exact⟨⟨by omega,by omega,hp,hq⟩,by omega⟩
  .refine aw (P:=λr=>match r with|.inl y=>y=((k+1:Nat):Int)/\∀j:Nat,j<k+1->KA (l.take i.toNat) t (aI (T:=.int .i64) s (j:Int))|.inr r=>r=J->∀y∈s,KA (l.take i.toNat) t y) ?_ λr hr=>aj ?_
   .refine ey (λ_=>aj λh=>(by cases h)) λh=>aj ⟨gU (by omega),λj hj=>?_⟩
    rcases b7 j k with h1|h1
    .exact U j h1
    .have:=hb h;have hci:c=i.toNat:=by have z:i<=(c:Int):=z;omega
     rw[show j=k by omega,<-hci];exact this
   .cases r with
    |inl y=>exact hr
    |inr r=>exact hr
 .rintro x ⟨rfl,U⟩;refine bK (λA=>(by dsimp only[ak]at A;omega)) λ_=>aj λ_=>iz (T:=.int .i64) U
def CN (l:Y ET) (c:η):Prop:=∀t:Int,0<=t->t<c.length->aI (T:=.int .i64) c t=((fl l t).length:Int)
theorem rF {T:Ty} (xs:Y T.den) (j k:Int) (x:T.den) (hj:0<=j) (a:j<xs.length) (hk:0<=k):aI (cF xs j x) k=if k=j then x else aI xs k:=by
 unfold aI cF;rw[au,au,jW];by_cases h:k=j
 .subst h;rw[aC rfl,aC rfl,aC (by omega)];rfl
 .rw[ay (by omega),ay h]
theorem CN.next {l:Y ET} {c:η} (h:CN l c) (e:ET) (h0:0<=e.1) (h1:e.1<c.length) (hl:l.length<1000000):CN (l++[e]) (cF c e.1 (bl .i64 (aI (T:=.int .i64) c e.1+1))):=λt t0 t1=>by
 rw[bT]at t1;have:=Wo l e.1;rw[rF (T:=.int .i64) _ _ _ _ h0 h1 t0,ur];split
 .rename_i h2;subst h2;rw[zd rfl,h _ h0 h1,gU (by omega)];simp
 .rename_i h2;rw[wq λa=>h2 a.symm,h _ t0 t1];simp
structure EvF (w:WT) (e:ET):Prop where
 nm:NM w e.2.1 e.2.2.1
 t0:0<=e.1
 t1:e.1<w.2.2.2.2.1.length
 cd:∀c∈w.2.2.1,0<=c.2/\c.2<w.2.1.length
theorem ac1 (w:WT) (l:Y ET) (hd:∀e∈l,e.2.2.2.2.2.1.length<=1000000000/\e.2.2.2.2.2.2.length<=1000000000):Ok (tZ (w,l)) λy=>y.2=0->(VL w/\SV0 w)/\(∀e∈l,EvF w e)/\∃sy ce fu,Acw w l sy ce fu:=by
 unfold tZ cC bN fw bA bO aV cR aE cH;refine bK (λ_=>aj λh=>(by cases h)) λhl=>?_
 dsimp only[ak]at hl;refine aw (Bd w) λb hb=>?_
 refine ey (λ_=>aj λh=>(by cases h)) λh=>?_
 obtain⟨hv,hsv⟩:=hb h;refine aS (Kr w hv) ?_;have hs:NB 0 (Pf w,ce0 w,fu0 w,aB w.2.2.2.2.1.length 0):=⟨Tr hv,by have:=hv.c;simp[ce0];omega,by have:=hv.f;simp[fu0];omega,by have:=hv.t;simp;omega⟩
 have hw:w.2.2.1.length<=1000:=by have:=hv.d;omega
 refine cf l.length (λi x=>x.1=(i:Int)/\x.2.1=(w,l)/\NB i x.2.2/\(∀k:Nat,k<i->EvF w (aI (T:=tE) l (k:Int)))/\Acw w (l.take i) x.2.2.1 x.2.2.2.1 x.2.2.2.2.1/\CN (l.take i) x.2.2.2.2.2/\x.2.2.2.2.2.length=w.2.2.2.2.1.length) ?_ ?_ ⟨rfl,rfl,hs,λk hk=>(by omega),.nil,λt t0 t1=>?_,by simp⟩
 .rintro i ⟨a,b,s⟩ hi ⟨e1,e2,e3,e4,Z,e6,e7⟩;dsimp only at e1 e2 e3 e4 Z e6 e7;subst e1;subst e2;refine bK (λA=>?_) λA=>(by dsimp only[ak]at A;omega)
  refine cI (aT ?_);have hmem:=bM (T:=tE) (xs:=l) (j:=(i:Int)) (by omega) (by omega);obtain⟨d1,d2⟩:=hd _ hmem;refine aw (Fb w s e3 hw _ d1 d2) λy hy=>?_
  refine aU (λx=>x.2.1=(w,l)/\x.2.2.2=y.1/\(x.1=af->y.2=J/\(∀z∈(aI (T:=tE) l (i:Int)).2.2.2.2.2.1,KA (l.take i) (aI (T:=tE) l (i:Int)).1 z)/\∀z∈(aI (T:=tE) l (i:Int)).2.2.2.2.2.2,KA (l.take i) (aI (T:=tE) l (i:Int)).1 z)) ?_ ?_
  .refine ey (λ_=>aj ⟨rfl,rfl,λh=>(by cases h)⟩) λh=>?_
   refine aw (PQ l _ _ _ (by omega) ⟨by dsimp only;omega,by dsimp only;omega⟩ d1) λb1 hr1=>?_
   refine ey (λ_=>aj ⟨rfl,rfl,λh=>(by cases h)⟩) λhb1=>?_
   refine aw (PQ l _ _ _ (by omega) ⟨by dsimp only;omega,by dsimp only;omega⟩ d2) λb2 hr2=>aj ⟨rfl,rfl,λhb2=>⟨h,hr1 hb1,hr2 (by simpa using hb2)⟩⟩
  .rintro⟨c,p,q,r⟩ ⟨f1,f2,f3⟩;dsimp only at f1 f2 f3;subst f1;subst f2;refine aQ (λ_=>aj λh=>(by cases h)) λh=>?_
   obtain⟨f4,r1,r2⟩:=f3 h;obtain⟨L,g2,U,A⟩:=hy.1 f4;refine aj ?_;dsimp only;have htk:l.take (i+1)=l.take i++[aI (T:=tE) l (i:Int)]:=ol (T:=tE) hi;have hc:=e6 _ L.t0 (by rw[e7];exact L.t1);have hnx:=gR Prod.fst A;have hac:=Z.snoc (e:=aI (T:=tE) l (i:Int)) ⟨L,U.rd,U.s1,U.s2,U.de,U.fr,by rw[<- hc];exact U.nd,by rw[<- hc];exact U.nf,r1,r2,U.va⟩;refine ⟨gU (by omega),rfl,g2.NB e3 (by omega),λk hk=>?_,by rw[htk,A];exact hac,by rw[htk,A];exact e6.next _ L.t0 (by rw[e7];exact L.t1) (by rw[bJ];omega),by rw[A];unfold nxP;rw[bT];exact e7⟩;rcases b7 k i with h1|h1
   .exact e4 k h1
   .rw[show k=i by omega];exact⟨L.nm,L.t0,L.t1,L.cd⟩
 .rintro⟨a,b,s⟩ ⟨e1,e2,e3,e4,Z,_⟩;dsimp only at e1 e2 e3 e4 Z;subst e1;subst e2;rw[cO]at Z;refine bK (λA=>(by dsimp only[ak]at A;omega)) λ_=>aj λ_=>⟨⟨hv,hsv⟩,iz (T:=tE) e4,_,_,_,Z⟩
 .rw[bY]at t1;obtain⟨t,rfl⟩:∃n:Nat,t=(n:Int):=⟨t.toNat,by omega⟩
  rw[Oe,au,gQ];split<;>simp[fl]
structure TP (t:η×Int):Prop where
 l0:t.1.length<=9223372036854775807
 by_:∀x∈t.1,0<=x/\x<=255
 a0:0<=t.2
 a1:t.2<=t.1.length
structure uH (t t':η×Int):Prop where
 e:t'.1=t.1
 m:t.2<=t'.2
 p:TP t'
theorem uH.refl {t:η×Int} (h:TP t):uH t t:=⟨rfl,dj _,h⟩
theorem uH.trans {a b c:η×Int} (h:uH a b) (g:uH b c):uH a c:=⟨g.e.trans h.e,Int.le_trans h.m g.m,g.p⟩
theorem gw (n:Int) (t:η×Int) (h:TP t):Ok (bu (n,t)) λy=>uH t y.2/\0<=y.1/\(1<=n->y.1<n)/\(t.2<t.1.length->1<=n->t.2<y.2.2):=by
 obtain⟨L,a⟩:=t;have A:=h;obtain⟨l0,hb,a0,a1⟩:=h;dsimp only at l0 hb a0 a1;unfold bu jG bH bO aV aE cH;refine aU (λx=>x.2=(L,a)/\(x.1=J->a=L.length\/n<1)/\(x.1=af->a<L.length/\1<=n)) ?_ ?_
 .refine fH (λh=>aj ⟨rfl,λ_=>?_,λh=>(by cases h)⟩) λh=>aj ⟨rfl,λh2=>?_,λh2=>?_⟩
  .dsimp only[ak]at h;omega
  .rw[qw]at h2;exact .inr h2
  .rw[fY]at h2;dsimp only[ak]at h h2;omega
 rintro⟨b,x⟩ ⟨e,h1,h2⟩;dsimp only at e h1 h2;subst e;refine aQ (λh=>aj ⟨uH.refl A,dj _,λs=>(by dsimp only;omega),λs Z=>?_⟩) λh=>?_
 .have:=h1 h;dsimp only at s;omega
 obtain⟨q,U⟩:=h2 h;refine aT ?_;have e1:bl .i64 (a+1)=a+1:=iK (by omega) (by omega);dsimp only;rw[e1,iK (n:=a+1-1) (by omega) (by omega),show a+1-1=a by omega];have c:=hb _ (bM (T:=.int .u8) (xs:=L) (j:=a) a0 q);refine aO a0 q (aT ?_);generalize (aI _ a)=z at c;have c:0<=z/\z<=255:=c;rw[iK (n:=z) (by omega) (by omega)];refine yI (by omega) (aj ?_);dsimp only;refine ⟨⟨rfl,by dsimp only;omega,⟨l0,hb,by dsimp only;omega,by dsimp only;omega⟩⟩,Int.tmod_nonneg _ c.1,λ_=>?_,λ_ _=>by omega⟩;exact Int.tmod_lt_of_pos _ (by omega)
theorem Te (s:SY) (hs:s.2.2.2.length<=1000) (y:η×η×η):Ok (k_ (s,y)) λl=>l.length<=s.2.2.2.length:=by
 unfold k_ bN bf bA bH bO aV cR aE cH;refine cf s.2.2.2.length (λi x=>x.1=(i:Int)/\x.2.length<=i) ?_ ?_ ⟨rfl,by simp⟩
 .rintro i ⟨a,b⟩ hi ⟨e1,e2⟩;dsimp only at e1 e2;subst e1;with_reducible repeat' first|(refine OS.ok ?_;constructor)|refine IM.mk λ_=>?_
  all_goals try simp only[ak,qR] at*
  all_goals first|omega|(simp;omega)|skip
  .exact⟨gU (by omega),by simp;omega⟩
  .exact⟨gU (by omega),by omega⟩
 .rintro⟨a,b⟩ ⟨e1,e2⟩;dsimp only at e1 e2;subst e1;refine bK (λc=>(by dsimp only[ak]at c;omega)) λ_=>aj e2
theorem Xn (k u:Int) (t:η×Int) (h:TP t):Ok (oI ((k,u),t)) λy=>uH t y.2/\(k=3\/k=4->0<=y.1/\y.1<5):=by
 unfold oI bf kW aE cH;rcases @Iw k with rfl|rfl|rfl|rfl|rfl|rfl|rfl|rfl|rfl|rfl|rfl|rfl|rfl|rfl|rfl|rfl|rfl|rfl|rfl|rfl|rfl|rfl|rfl|⟨hk,c⟩
 case inr.inr.inr.inr.inr.inr.inr.inr.inr.inr.inr.inr.inr.inr.inr.inr.inr.inr.inr.inr.inr.inr.inr=>
  simp only[hk 1 (by decide) (by decide),hk 2 (by decide) (by decide),hk 3 (by decide) (by decide),hk 4 (by decide) (by decide),hk 5 (by decide) (by decide),hk 6 (by decide) (by decide),hk 7 (by decide) (by decide),hk 8 (by decide) (by decide),hk 9 (by decide) (by decide),hk 10 (by decide) (by decide),hk 11 (by decide) (by decide),hk 12 (by decide) (by decide),hk 13 (by decide) (by decide),hk 14 (by decide) (by decide),hk 15 (by decide) (by decide),hk 16 (by decide) (by decide),hk 17 (by decide) (by decide),hk 18 (by decide) (by decide),hk 19 (by decide) (by decide),hk 20 (by decide) (by decide),hk 21 (by decide) (by decide),hk 22 (by decide) (by decide),hk 23 (by decide) (by decide),aY,bn,sX];exact aj ⟨uH.refl h,λh=>(by first|omega|(simp at h;done)|(rcases h with h|h<;>cases h;done))⟩
 all_goals simp only[aY,bn,sX]
 all_goals first
  |exact aj ⟨uH.refl h,λh=>(by first|omega|(simp at h;done)|(rcases h with h|h<;>cases h;done))⟩
  |exact aw (gw 2 t h) λy a=>aj ⟨a.1,λh=>(by first|omega|(simp at h;done)|(rcases h with h|h<;>cases h;done))⟩
  |exact aw (gw 3 t h) λy a=>aj ⟨a.1,λh=>(by first|omega|(simp at h;done)|(rcases h with h|h<;>cases h;done))⟩
  |skip
 all_goals
  refine aw (gw 8 t h) λy a=>?_
  have h1:=a.2.1;have h2:=a.2.2.1 (by omega);refine aO h1 (by simp;omega) (aO h1 (by simp;omega) (aT (aj ⟨a.1,λ_=>?_⟩)));have:∀z:Int,z∈([0,0,0,1,1,2,3,4]:η)->0<=z/\z<5:=by decide
  exact this _ (bM (T:=.int .i64) h1 (by simp;omega))
structure SZ (n:Nat) (s:SN):Prop where
 nb:NB n s
 c:s.2.1.length=5
 f:s.2.2.1.length=1
 k:s.2.2.2.length=4
theorem SZ.step {n:Nat} {s y:SN} (h:SZ n s) (hp:SP n s y) (hn:n+1<=100000):SZ (n+1) y:=
 ⟨hp.NB h.nb hn,by rw[hp.c];exact h.c,by rw[hp.f];exact h.f,by rw[hp.k];exact h.k⟩
theorem Xd {n:Nat} (s:SN) (hs:SZ n s) (k o:Int) (z:k=3->0<=o/\o<5) (t:η×Int) (h:TP t):Ok (qf ((s,k,o),t)) λy=>uH t y.2:=by
 obtain⟨s1,s2,L,A⟩:=s;have hc:=hs.c;have hf:=hs.f;have hth:=hs.nb.sb.th;dsimp only at hc hf hth;have q:=Te s1 hth (s2,L,A);unfold qf aX bf bA bO aV aE;rcases @Iw k with rfl|rfl|rfl|rfl|rfl|rfl|rfl|rfl|rfl|rfl|rfl|rfl|rfl|rfl|rfl|rfl|rfl|rfl|rfl|rfl|rfl|rfl|rfl|⟨hk,U⟩
 case inr.inr.inr.inr.inr.inr.inr.inr.inr.inr.inr.inr.inr.inr.inr.inr.inr.inr.inr.inr.inr.inr.inr=>
  simp only[hk 1 (by decide) (by decide),hk 2 (by decide) (by decide),hk 3 (by decide) (by decide),hk 4 (by decide) (by decide),hk 5 (by decide) (by decide),hk 6 (by decide) (by decide),hk 7 (by decide) (by decide),hk 8 (by decide) (by decide),hk 9 (by decide) (by decide),hk 10 (by decide) (by decide),hk 11 (by decide) (by decide),hk 12 (by decide) (by decide),hk 13 (by decide) (by decide),hk 14 (by decide) (by decide),hk 15 (by decide) (by decide),hk 16 (by decide) (by decide),hk 17 (by decide) (by decide),hk 18 (by decide) (by decide),hk 19 (by decide) (by decide),hk 20 (by decide) (by decide),hk 21 (by decide) (by decide),hk 22 (by decide) (by decide),hk 23 (by decide) (by decide),aY,bn,sX];exact aj (uH.refl h)
 all_goals simp only[aY,bn,sX]
 all_goals first
  |exact aj (uH.refl h)
  |exact aw (gw 2 t h) λy a=>aj a.1
  |exact aw (gw 3 t h) λy a=>aj a.1
  |exact aw q λy a=>aj (uH.refl h)
  |exact aO (by decide) (by omega) (aT (aj (uH.refl h)))
  |exact aO (z rfl).1 (by have:=(z rfl).2;omega) (aT (aj (uH.refl h)))
  |skip
 refine aw q λl hl=>?_
 refine bK (λh1=>?_) λ_=>aj (uH.refl h)
 refine aw (gw _ t h) λy a=>?_
 dsimp only[ak]at h1;have h2:=a.2.2.1 (by dsimp only[ak];omega);exact aO a.2.1 h2 (aT (aj a.1))
theorem acw (t:η×Int) (h:TP t) (r:η) (hr:r.length<=1000000):Ok (gD (t,r)) λy=>y.1.length<=r.length/\uH t y.2.1/\y.2.2=r:=by
 unfold gD aX bN bA jG bH kW aV cR aE cH;refine cf r.length (λi x=>x.1=(i:Int)/\uH t x.2.1/\x.2.2.1=r/\x.2.2.2.length<=i) ?_ ?_ ⟨rfl,uH.refl h,rfl,by simp⟩
 .rintro i ⟨a,b,c,d⟩ hi ⟨e1,e2,e3,L⟩;dsimp only at e1 e2 e3 L;subst e1;subst e3;refine bK (λA=>?_) λA=>(by dsimp only[ak]at A;omega)
  refine aU (λx=>uH t x.1/\x.2.1=c/\x.2.2.length<=i+1) ?_ ?_
  .refine cI (cI (aT ?_));refine aU (λx=>uH t x.2.1/\x.2.2=(c,d)) ?_ ?_
   .refine aQ (λ_=>?_) λ_=>aj ⟨e2,rfl⟩
    exact aw (gw 2 b e2.p) λy Z=>aj ⟨e2.trans Z.1,rfl⟩
   .rintro⟨p,q,u⟩ ⟨s,z⟩;dsimp only at s z;subst z;refine aQ (λ_=>?_) λ_=>aj ⟨s,rfl,by dsimp only;omega⟩
    exact bc (by simp;omega) (by omega) (aj ⟨s,rfl,by simp;omega⟩)
  .rintro⟨p,q,u⟩ ⟨s,z,U⟩;dsimp only at s z U;subst z;refine aj ?_;dsimp only;exact⟨gU (by omega),s,rfl,U⟩
 .rintro⟨a,b,c,d⟩ ⟨e1,e2,e3,L⟩;dsimp only at e1 e2 e3 L;subst e1;subst e3;refine bK (λA=>(by dsimp only[ak]at A;omega)) λ_=>aj ⟨L,e2,rfl⟩
theorem ZP:tj ()=M [3,3,3,3,3,4,4,4,4,4,5,5,5,6,6,6,7,7,7,8,9,10,11,12,13,14,14,15,16,16,17,17,18,18,19,20,1,1,2,21,22,23,23]:=rfl
abbrev RR:Type:=η×η×η×η
structure RB4 (m:Nat) (r:RR):Prop where
 r0:r.1.length<=m
 r1:r.2.1.length<=m
 r2:r.2.2.1.length<=m
 r3:r.2.2.2.length<=m
theorem aa9 {n:Nat} (s:SN) (hs:SZ n s) (w:WT) (hw:w.1.length=5) (t:η×Int) (h:TP t) (r:RR) (hr:RB4 1000000 r):Ok (qg ((s,w),t,r)) λy=>uH t y.2.1/\y.2.2=r/\(t.2<t.1.length->t.2<y.2.1.2)/\y.1.2.2.2.2.2.1.length<=1000000/\y.1.2.2.2.2.2.2.length<=1000000:=by
 obtain⟨r0,r1,r2,r3⟩:=r;obtain⟨h0,h1,h2,h3⟩:=hr;dsimp only at h0 h1 h2 h3;unfold qg DR Prod.p11 Prod.p12 aX bm bw cC eB kO zM B_ Prod.q11 Prod.q12 cW fw bf bH bO aV aE;refine aw (gw 4 t h) λy hy=>?_
 refine aS ZP ?_;refine aw (gw _ y.2 hy.1.p) λz hz=>?_
 obtain⟨y1,yt⟩:=y;obtain⟨z1,zt⟩:=z;obtain⟨ty,yy0,yy1,yy2⟩:=hy;obtain⟨tz,zz0,zz1,_⟩:=hz;dsimp only at ty yy0 yy1 yy2 tz zz0 zz1;have yy1:=yy1 (by decide);have hzl:=zz1 (by decide);refine aO zz0 hzl (aT ?_);generalize (aI _ z1)=k;refine aw (gw 6 zt tz.p) λv hv=>?_
 obtain⟨v1,vt⟩:=v;have tv:=hv.1;dsimp only at tv;have tt:=(ty.trans tz).trans tv;have hadv:t.2<t.1.length->t.2<vt.2:=λh=>by
  have:=yy2 h (by decide);have:=tz.m;have:=tv.m;omega
 refine aU (λx=>x.1=vt/\x.2.1=r0/\x.2.2.1=r1/\x.2.2.2.1=r2/\x.2.2.2.2.1=r3/\x.2.2.2.2.2.1=s/\x.2.2.2.2.2.2.1=w) ?_ ?_
 .refine aU (λx=>x.2.1=vt/\x.2.2.1=r0/\x.2.2.2.1=r1/\x.2.2.2.2.1=r2/\x.2.2.2.2.2.1=r3/\x.2.2.2.2.2.2.1=s/\x.2.2.2.2.2.2.2.1=w) ?_ ?_
  .with_reducible repeat' first|(refine OS.ok ?_;constructor)|refine IM.mk λ_=>?_
   all_goals exact⟨rfl,rfl,rfl,rfl,rfl,rfl,rfl⟩
  .rintro⟨p,q⟩ hq;dsimp only at hq;with_reducible repeat' first|(refine OS.ok ?_;constructor)|refine IM.mk λ_=>?_
   all_goals exact hq
 rintro⟨x1,x2,x3,x4,x5,x6,x7,x8,x9,x10⟩ ⟨L,f2,f3,f4,f5,f6,Z⟩;dsimp only at L f2 f3 f4 f5 f6 Z;subst L;subst f2;subst f3;subst f4;subst f5;subst f6;subst Z;refine aw (Xn _ _ _ tv.p) λo ho=>?_
 obtain⟨o1,ot⟩:=o;obtain⟨to,ho⟩:=ho;dsimp only at to ho;refine aw (Xd _ hs _ _ (λhk=>ho (.inl hk)) _ to.p) λq hq=>?_
 obtain⟨q1,qt⟩:=q;dsimp only at hq;have U:=(tt.trans to).trans hq;have hadv2:t.2<t.1.length->t.2<qt.2:=λh=>by have:=hadv h;have:=to.m;have:=hq.m;omega
 have row:∀(T:η×Int) (c:η) {R:Type} (k:η×((η×Int)×η)->I R) (Q:R->Prop),uH t T->c.length<=1000000->(∀v T',uH T T'->v.length<=1000000->Ok (k (v,T',c)) Q)->Ok (av (gD (T,c)) k) Q:=λT c R k Q A hc hk=>by
  refine aw (acw T A.p c hc) λy hy=>?_
  obtain⟨a,b,d⟩:=y;obtain⟨g1,g2,g3⟩:=hy;dsimp only at g1 g2 g3;subst g3;exact hk a b g2 (by omega)
 refine aU (λx=>uH t x.1/\(t.2<t.1.length->t.2<x.1.2)/\x.2.1=x2/\x.2.2.1=x3/\x.2.2.2.1=x4/\x.2.2.2.2.1=x5/\x.2.2.2.2.2.2.2.2.2.2.2.length<=1000000) ?_ ?_
 .refine aU (λx=>x.2.1=qt/\x.2.2.1=x2/\x.2.2.2.1=x3/\x.2.2.2.2.1=x4/\x.2.2.2.2.2.1=x5) ?_ ?_
  .refine aK (λ_=>aj ⟨rfl,rfl,rfl,rfl,rfl⟩) λ_=>?_
   refine aK (λhk=>?_) λ_=>aK (λhk=>?_) λ_=>aj ⟨rfl,rfl,rfl,rfl,rfl⟩
   .exact aO (ho (.inl hk)).1 (by dsimp only;rw[hw];exact (ho (.inl hk)).2) (aT (aj ⟨rfl,rfl,rfl,rfl,rfl⟩))
   .exact aO (ho (.inr hk)).1 (by dsimp only;rw[hw];exact (ho (.inr hk)).2) (aT (aj ⟨rfl,rfl,rfl,rfl,rfl⟩))
  .rintro⟨b,p1,p2,p3,p4,p5,p6⟩ ⟨L,f2,f3,f4,f5⟩;dsimp only at L f2 f3 f4 f5;subst L;subst f2;subst f3;subst f4;subst f5;refine aQ (λ_=>?_) λ_=>aj ⟨U,hadv2,rfl,rfl,rfl,rfl,by simp⟩
   have adv3:∀T',uH p1 T'->t.2<t.1.length->t.2<T'.2:=λT' A h=>by have:=hadv2 h;have:=A.m;omega
   refine aK (λ_=>?_) λ_=>aK (λ_=>?_) λ_=>aK (λ_=>?_) λ_=>aK (λ_=>?_) λ_=>?_
   .refine row p1 p2 _ _ U h0 λv T' A hv=>?_
    refine cV (lQ rfl (Az ?_));exact aj ⟨U.trans A,adv3 T' A,rfl,rfl,rfl,rfl,hv⟩
   .refine row p1 p3 _ _ U h1 λv T' A hv=>?_
    refine cV (lQ rfl (Az ?_));exact aj ⟨U.trans A,adv3 T' A,rfl,rfl,rfl,rfl,hv⟩
   .refine row p1 p4 _ _ U h2 λv T' A hv=>?_
    refine cV (lQ rfl (Az ?_));exact aj ⟨U.trans A,adv3 T' A,rfl,rfl,rfl,rfl,hv⟩
   .refine row p1 p5 _ _ U h3 λv T' A hv=>?_
    refine cV (lQ rfl (Az ?_));exact aj ⟨U.trans A,adv3 T' A,rfl,rfl,rfl,rfl,hv⟩
   .omega
 rintro⟨u1,u2,u3,u4,u5,u6,u7,u8,u9,u10,u11,u12⟩ ⟨L,f2,f3,f4,f5,f6,Z⟩;dsimp only at L f2 f3 f4 f5 f6 Z;subst f3;subst f4;subst f5;subst f6;refine aU (λx=>uH t x.1/\(t.2<t.1.length->t.2<x.1.2)/\x.2.1=u2/\x.2.2.1=u3/\x.2.2.2.1=u4/\x.2.2.2.2.1=u5/\x.2.2.2.2.2.2.2.2.2.2.2.1.length<=1000000/\x.2.2.2.2.2.2.2.2.2.2.2.2.length<=1000000) ?_ ?_
 .refine aU (λx=>x.2=(u1,u2,u3,u4,u5,u6,u7,u8,u9,u10,u11,u12)) ?_ ?_
  .with_reducible repeat' first|(refine OS.ok ?_;constructor)|refine IM.mk λ_=>?_
   all_goals rfl
  .rintro⟨b,x⟩ e;dsimp only at e;subst e;refine aQ (λ_=>?_) λ_=>aj ⟨L,f2,rfl,rfl,rfl,rfl,Z,by simp⟩
   have adv3:∀T',uH u1 T'->t.2<t.1.length->t.2<T'.2:=λT' A h=>by have:=f2 h;have:=A.m;omega
   refine aK (λ_=>?_) λ_=>aK (λ_=>?_) λ_=>aK (λ_=>?_) λ_=>aK (λ_=>?_) λ_=>?_
   .refine row u1 u2 _ _ L h0 λv T' A hv=>?_
    refine cV (lQ rfl (Az ?_));exact aj ⟨L.trans A,adv3 T' A,rfl,rfl,rfl,rfl,Z,hv⟩
   .refine row u1 u3 _ _ L h1 λv T' A hv=>?_
    refine cV (lQ rfl (Az ?_));exact aj ⟨L.trans A,adv3 T' A,rfl,rfl,rfl,rfl,Z,hv⟩
   .refine row u1 u4 _ _ L h2 λv T' A hv=>?_
    refine cV (lQ rfl (Az ?_));exact aj ⟨L.trans A,adv3 T' A,rfl,rfl,rfl,rfl,Z,hv⟩
   .refine row u1 u5 _ _ L h3 λv T' A hv=>?_
    refine cV (lQ rfl (Az ?_));exact aj ⟨L.trans A,adv3 T' A,rfl,rfl,rfl,rfl,Z,hv⟩
   .omega
 rintro⟨a1,a2,a3,a4,a5,a6,a7⟩ ⟨g1,g2,g3,g4,g5,g6,g7,g8⟩;dsimp only at g1 g2 g3 g4 g5 g6 g7 g8;subst g3;subst g4;subst g5;subst g6;exact aj ⟨g1,rfl,g2,g7,g8⟩
def YL (e:ET):Prop:=e.2.2.2.2.2.1.length<=1000000/\e.2.2.2.2.2.2.length<=1000000
theorem ad3 {m:Nat} (hm:m<=1000) (s:SN) (hs:SZ m s) (w:WT) (hw:w.1.length=5) (hwt:w.2.2.2.2.1.length=4) (hwc:w.2.2.1.length<=1000) (n:Int) (hn:n<=60) (t:η×Int) (h:TP t):Ok (sa ((s,w,n,af),t)) λy=>(∀e∈y.1,YL e)/\y.1.length<=60:=by
 unfold sa aX bm bw cC eB kO zM B_ Prod.q10 bN cW fw lJ pZ Prod.q9 bf bA bH bO aV cR aE;refine cV (cV (cV (dx (by dsimp only[ak];omega) (dx (dj _) (bc (by dsimp only[ak];omega) (by omega) (V9 (by dsimp only[ak];omega) ?_))))));refine aU (λx=>x=(t,s,w,[],[],[],[])) ⟨_,rfl,rfl⟩ ?_;rintro x rfl;refine qb (λx=>((t.1.length:Int)-x.1.2).toNat) (λx=>uH t x.1/\x.2.2.1=w/\SZ (m+x.2.2.2.1.length) x.2.1/\x.2.2.2.1.length<=60/\(∀e∈x.2.2.2.1,YL e)/\RB4 x.2.2.2.1.length x.2.2.2.2) ?_ ⟨uH.refl h,rfl,(by simpa using hs),by simp,λe he=>(by cases he),⟨by simp,by simp,by simp,by simp⟩⟩;rintro⟨a,s,w',out,r⟩ ⟨i1,i2,A,i4,i5,i6⟩;dsimp only at i1 i2 A i4 i5 i6;subst i2;refine aU (λx=>x.2=(a,s,w',out,r)/\(x.1=J->out.length<60/\a.2<a.1.length)) ?_ ?_
 .refine bK (λh1=>aj ⟨rfl,λh2=>?_⟩) λ_=>aj ⟨rfl,λh=>(by cases h)⟩
  rw[qw]at h2;dsimp only[ak]at h1 h2;exact⟨by omega,h2⟩
 rintro⟨b,x⟩ ⟨e,hb⟩;dsimp only at e hb;subst e;refine aQ (λh1=>?_) λ_=>aj ⟨i5,i4⟩
 obtain⟨ho,ht⟩:=hb h1;obtain⟨q0,q1,q2,q3⟩:=id i6;refine aU (λx=>uH a x.1/\a.2<x.1.2/\x.2.2.1=w'/\SZ (m+x.2.2.2.1.length) x.2.1/\x.2.2.2.1.length<=60/\(∀e∈x.2.2.2.1,YL e)/\RB4 x.2.2.2.1.length x.2.2.2.2) ?_ ?_
 .refine aw (aa9 s A w' hw a i1.p r ⟨by omega,by omega,by omega,by omega⟩) λy hy=>?_
  obtain⟨ev,tp',r'⟩:=y;obtain⟨j1,j2,j3,q,c⟩:=hy;dsimp only at j1 j2 j3 q c;subst j2;have j3:=j3 ht;refine cV (lQ rfl (cV (lQ rfl (cV (lQ rfl (cV (lQ rfl (Az ?_))))))));refine aw (Fb w' s A.nb hwc ev (by omega) (by omega)) λz hz=>?_
  refine ey (λ_=>aj ⟨j1,j3,rfl,A,i4,i5,i6⟩) λh2=>?_
  obtain⟨z1,z2⟩:=z;obtain⟨hE,hS,_⟩:=hz.1 h2;have hS2:=A.step hS (by omega);refine aU (λx=>x.1=tp'/\x.2.2.1=w'/\x.2.2.2.1=out/\YL x.2.2.2.2.1/\x.2.2.2.2.2.1=z1/\RB4 (out.length+1) x.2.2.2.2.2.2) ?_ ?_
  .refine aU (λx=>x.2=(tp',s,w',out,ev,z1,r')) ?_ ?_
   .refine aK (λ_=>aj rfl) λ_=>aj rfl
   .rintro⟨b,x⟩ e;dsimp only at e;subst e;have hk:=A.k;obtain⟨ev1,ev2⟩:=ev;have t0:=hE.t0;have t1:=hE.t1;rw[hwt]at t1;dsimp only at t0 t1;refine aQ (λ_=>?_) λ_=>aj ⟨rfl,rfl,rfl,⟨q,c⟩,rfl,⟨by dsimp only;omega,by dsimp only;omega,by dsimp only;omega,by dsimp only;omega⟩⟩
    refine aK (λ_=>?_) λ_=>aK (λ_=>?_) λ_=>aK (λ_=>?_) λ_=>aK (λ_=>?_) λ_=>?_
    .exact aO (by decide) (by dsimp only;omega) (aT (bc (by simp;omega) (by omega) (aj ⟨rfl,rfl,rfl,⟨q,c⟩,rfl,⟨by simp;omega,by dsimp only;omega,by dsimp only;omega,by dsimp only;omega⟩⟩)))
    .exact aO (by decide) (by dsimp only;omega) (aT (bc (by simp;omega) (by omega) (aj ⟨rfl,rfl,rfl,⟨q,c⟩,rfl,⟨by dsimp only;omega,by simp;omega,by dsimp only;omega,by dsimp only;omega⟩⟩)))
    .exact aO (by decide) (by dsimp only;omega) (aT (bc (by simp;omega) (by omega) (aj ⟨rfl,rfl,rfl,⟨q,c⟩,rfl,⟨by dsimp only;omega,by dsimp only;omega,by simp;omega,by dsimp only;omega⟩⟩)))
    .exact aO (by decide) (by dsimp only;omega) (aT (bc (by simp;omega) (by omega) (aj ⟨rfl,rfl,rfl,⟨q,c⟩,rfl,⟨by dsimp only;omega,by dsimp only;omega,by dsimp only;omega,by simp;omega⟩⟩)))
    .dsimp only at *;omega
  .rintro⟨x1,x2,x3,x4,x5,x6,x7⟩ ⟨k1,k2,k3,Z,U,L⟩;dsimp only at k1 k2 k3 Z U L;subst k1;subst k2;subst k3;subst U;refine bc (by simp;omega) (by omega) (aj ⟨j1,j3,rfl,?_,by simp;omega,λe he=>?_,?_⟩)
   .dsimp only;rw[bk,eP,<-sI];exact hS2
   .rcases bQ.1 he with he|he
    .exact i5 e he
    .rw[aJ]at he;subst he;exact Z
   .dsimp only;rw[bk,eP];exact L
 rintro⟨tp',s',w'',out',r'⟩ ⟨k1,k2,k3,Z,U,L,k7⟩;dsimp only at k1 k2 k3 Z U L k7;have e1:=i1.e;have a1:=k1.p.a1;have e2:=k1.e;refine aj ⟨⟨i1.trans k1,k3,Z,U,L,k7⟩,?_⟩;dsimp only;rw[e2,e1]at a1;omega
def C0:Y (ζ×Int×Int×Bool×Int):=[([120],0,0,af,0),([121],0,0,af,1),([118],0,0,J,0),([113],0,2,af,0),([113],1,2,af,0)]
def Gt:Y (ζ×Bool):=[([109],af),([110],af),([114],J)]
def L1:Y (ζ×Int):=[([99],0)]
def SE:Y ζ:=[[102]]
def vL:Y ζ:=[[109,97,105,110],[116,49],[116,50],[116,51]]
structure WX (w:WT):Prop where
 c:w.1=C0
 l:w.2.1=Gt
 d:w.2.2.1=L1
 f:w.2.2.2.1=SE
 t:∃n,1<=n/\n<=4/\w.2.2.2.2.1=vL.take n
 s:w.2.2.2.2.2.length<=60
 v:SV0 w
structure W0 (w:WT):Prop where
 c:w.1.length=5
 l:w.2.1.length=3
 d:w.2.2.1.length=1
 f:w.2.2.2.1.length=1
 t:w.2.2.2.2.1.length=4
 s:w.2.2.2.2.2.length<=24
 x:WX w
theorem W0.vl {w:WT} (h:W0 w):VL w:=⟨by rw[h.c];decide,by rw[h.l];decide,by rw[h.d];decide,by rw[h.f];decide,by rw[h.t];decide,by rw[h.t];decide,by have:=h.s;omega⟩
def ZC (i j:Nat):ν:=if j=0 then (if i=0 then (0,0) else ((i:Int)-1,6)) else (i,j)
theorem VQ {T:Int} {l:Y π} {s:π}:KM T (l++[s])=S_ T (KM T l) s:=by unfold KM;rw[eC];rfl
theorem Sk:Ok (nL ()) W0:=by
 unfold nL aX bm bw cC fw bA bH cR aE cH;refine cf 4 (λi x=>x.1=(i:Int)/\x.2.1=C0/\x.2.2.1=Gt/\x.2.2.2.1=L1/\x.2.2.2.2.1=SE/\x.2.2.2.2.2.1=vL/\x.2.2.2.2.2.2.length<=6*i/\KM 4 x.2.2.2.2.2.2=M (ZC i 0)) ?_ ?_ ⟨rfl,rfl,rfl,rfl,rfl,rfl,by simp,rfl⟩
 .rintro i ⟨a,w1,w2,w3,w4,w5,w6⟩ hi ⟨e1,e2,e3,L,A,c,e7,z⟩;dsimp only at e1 e2 e3 L A c e7 z;subst e1;have hl5:w5.length=4:=by rw[c];rfl
  refine bK (λ_=>?_) λg=>(by dsimp only[ak]at g;simp at g;omega)
  refine cf 6 (λj x=>x.1=(j:Int)/\x.2.1=w1/\x.2.2.1=w2/\x.2.2.2.1=w3/\x.2.2.2.2.1=w4/\x.2.2.2.2.2.1=w5/\x.2.2.2.2.2.2.length<=6*i+j/\KM 4 x.2.2.2.2.2.2=M (ZC i j)) ?_ ?_ ⟨rfl,rfl,rfl,rfl,rfl,rfl,by dsimp only;omega,z⟩
  .rintro j ⟨b,v1,v2,v3,v4,v5,v6⟩ hj ⟨d1,d2,d3,d4,Z,U,d7,d8⟩;dsimp only at d1 d2 d3 d4 Z U d7 d8;subst d1;refine dz ?_;refine bc (by simp;omega) (by omega) (aj ?_);dsimp only;refine ⟨gU (by omega),d2,d3,d4,Z,U,by simp;omega,?_⟩;rw[VQ,d8];by_cases q:j=0
   .subst q;by_cases s:i=0
    .subst s;rfl
    .rw[show ZC i 0=((i:Int)-1,6) by unfold ZC;simp[s],show ZC i (0+1)=((i:Int),1) by unfold ZC;simp];unfold S_;dsimp only;rw[ay (λh=>by have:=h.1;omega),aC ⟨by omega,by omega,rfl⟩]
   .rw[show ZC i j=((i:Int),(j:Int)) by unfold ZC;simp[q],show ZC i (j+1)=((i:Int),(j:Int)+1) by unfold ZC;simp];unfold S_;dsimp only;rw[aC ⟨rfl,rfl⟩]
  .rintro⟨b,v1,v2,v3,v4,v5,v6⟩ ⟨d1,d2,d3,d4,Z,U,d7,d8⟩;dsimp only at d1 d2 d3 d4 Z U d7 d8;subst d1;subst d2;subst d3;subst d4;subst Z;subst U;refine dt (aj ?_);dsimp only;refine ⟨gU (by omega),e2,e3,L,A,c,by omega,?_⟩;rw[d8];unfold ZC;simp
 .rintro⟨a,w1,w2,w3,w4,w5,w6⟩ ⟨e1,e2,e3,L,A,c,e7,z⟩;dsimp only at e1 e2 e3 L A c e7 z;subst e1;subst e2;subst e3;subst L;subst A;subst c;refine bK (λg=>(by dsimp only[ak]at g;simp[vL]at g)) λ_=>aj ?_
  refine ⟨rfl,rfl,rfl,rfl,rfl,by dsimp only;omega,rfl,rfl,rfl,rfl,⟨4,by decide,by decide,rfl⟩,by dsimp only;omega,?_⟩;unfold SV0;show KM 4 w6≠D;rw[z];simp
theorem SZ.mono {n m:Nat} {s:SN} (h:SZ n s) (hnm:n<=m) (hm:m<=100000):SZ m s:=
 ⟨⟨⟨hm,h.nb.sb.lk,λl hl=>dv (h.nb.sb.rd l hl) hnm,h.nb.sb.dn,h.nb.sb.th⟩,h.nb.c,h.nb.f,h.nb.k⟩,h.c,h.f,h.k⟩
theorem Vo (w:WT) (a:W0 w):Ok (mW w) λs=>SZ 0 s:=by
 refine (Vp w a.vl).mono λs hs=>⟨hs.1,?_,?_,?_⟩
 .rw[hs.2.1,a.c]
 .rw[hs.2.2.1,a.f]
 .rw[hs.2.2.2,a.t]
structure WB (w:WT):Prop where
 c:w.1.length<=12
 l:w.2.1.length<=4
 d:w.2.2.1.length<=2
 f:w.2.2.2.1.length<=2
 t:w.2.2.2.2.1.length<=4
 s:w.2.2.2.2.2.length<=60
theorem VL.wb {w:WT} (h:VL w):WB w:=⟨h.c,h.l,h.d,h.f,h.t,h.s⟩
structure TR (y:WT×List ET):Prop where
 wb:WB y.1
 vl:VL y.1
 ev:∀e∈y.2,EvF y.1 e
 len:y.2.length<=400
 ls:∀e∈y.2,YL e
 wx:WX y.1
 ac:∃sy ce fu,Acw y.1 y.2 sy ce fu
theorem H0 (L:η) (n:Int) (hl:L.length<=9223372036854775807) (hb:∀x∈L,0<=x/\x<=255):Ok (qh (L,n)) TR:=by
 unfold qh aX bm bw du cW bA jG jf bH kW aV cR aE cH;refine aU (λx=>x.length<=600/\∀z∈x,0<=z/\z<=255) ?_ ?_
 .refine bK (λg=>?_) λg=>?_
  .dsimp only[ak]at g;refine cV (dx (by omega) (dx (by dsimp only;omega) (aj ⟨by dsimp only;rw[bJ];simp;omega,λz q=>hb z (hY q)⟩)))
  .dsimp only[ak]at g;exact aj ⟨by dsimp only;omega,hb⟩
 rintro L' ⟨hL,hB⟩;refine aw Sk λw A=>?_
 have hvl:=A.vl;refine aw (Vo w A) λs hs=>?_
 refine aw (gw 3 (L',0) ⟨by dsimp only;omega,hB,by dsimp only;omega,by dsimp only;omega⟩) λy hy=>?_
 obtain⟨y1,yt⟩:=y;obtain⟨ty,yy0,yy1,_⟩:=hy;have yy1:=yy1 (by decide);dsimp only at ty yy0 yy1;have ew:bl .i64 (1+y1)=1+y1:=iK (by omega) (by omega);refine qb (λx=>(1+y1+1-x.1).toNat) (λx=>1<=x.1/\x.1<=2+y1/\x.2.1=yt/\x.2.2.1=w/\x.2.2.2.1=s/\((x.2.2.2.2.length:Nat):Int)<=2*x.1/\∀e∈x.2.2.2.2,YL e) ?_ ⟨by dsimp only;omega,by dsimp only;omega,rfl,rfl,rfl,by simp,λe he=>?_⟩
 .rintro⟨a,t,w',s',es⟩ ⟨e1,e2,e3,e4,e5,e6,e7⟩;dsimp only at e1 e2 e3 e4 e5 e6 e7;subst e3;subst e4;subst e5;refine fH (λg=>?_) λg=>?_
  .dsimp only at g;rw[ew]at g;refine bc (by simp;omega) (by omega) (aj ?_);dsimp only;rw[iK (n:=a+1) (by omega) (by omega)];refine ⟨⟨by omega,by omega,rfl,rfl,rfl,by simp;omega,λe he=>?_⟩,by omega⟩;rcases bQ.1 he with he|he
   .exact e7 e he
   .simp only[bh,cu,gj]at he;rcases he with he|he<;>subst he<;>exact⟨by simp,by simp⟩
  .refine aw (P:=TR) ?_ λr hr=>aj hr
   refine cf es.length (λi x=>x.1=(i:Int)/\TP x.2.1/\x.2.2.1=w'/\SZ i x.2.2.2.1/\x.2.2.2.2.1=es/\x.2.2.2.2.2.length<=i/\∀e∈x.2.2.2.2.2,YL e) ?_ ?_ ⟨rfl,ty.p,rfl,hs,rfl,by simp,λe he=>(by cases he)⟩
   .rintro i ⟨b,t,w',s',es',out⟩ hi ⟨d1,Z,d3,U,d5,d6,d7⟩;dsimp only at d1 Z d3 U d5 d6 d7;subst d1;subst d3;subst d5;refine dz ?_;refine aU (λx=>TP x.1/\x.2.1=w'/\SZ (i+1) x.2.2.1/\x.2.2.2.1=es'/\x.2.2.2.2.length<=i+1/\∀e∈x.2.2.2.2,YL e) ?_ ?_
    .refine cI (cI (aT ?_));have q:=e7 _ (bM (T:=.st (.pr (.int .i64) (.pr (.int .i64) (.pr (.int .i64) (.pr (.int .i64) (.pr (.int .i64) (.pr (.sl (.int .i64)) (.sl (.int .i64))))))))) (xs:=es') (j:=(i:Int)) (by omega) (by omega));revert q;generalize (aI _ _)=z;intro q;refine aw (Fb w' s' U.nb (by rw[A.d];decide) z (by have:=q.1;omega) (by have:=q.2;omega)) λv hv=>?_
     refine aQ (λh=>?_) λh=>aj ⟨Z,rfl,U.mono (by omega) (by omega),rfl,by dsimp only;omega,d7⟩
     refine bc (by simp;omega) (by omega) (aj ⟨Z,rfl,U.step (hv.1 h).2.1 (by omega),rfl,by simp;omega,λe he=>?_⟩);rcases bQ.1 he with he|he
     .exact d7 e he
     .rw[aJ]at he;subst he;exact q
    .rintro⟨t,w'',s'',es'',out'⟩ ⟨f1,f2,f3,f4,f5,f6⟩;dsimp only at f1 f2 f3 f4 f5 f6;refine aj ?_;dsimp only;exact⟨gU (by omega),f1,f2,f3,f4,f5,f6⟩
   .rintro⟨b,t,w',s',es',out⟩ ⟨d1,Z,d3,U,d5,d6,d7⟩;dsimp only at d1 Z d3 U d5 d6 d7;subst d1;subst d3;subst d5;refine dt ?_;refine aw (P:=TR) ?_ λr hr=>aj hr
    have hmin:GG (gL n 0) 60<=60:=by
     unfold GG;split
     .omega
     .rename_i h;simp[fK]at h;exact h
    refine aw (ad3 (by omega) s' U w' A.c A.t (by rw[A.d];decide) _ hmin t Z) λv hv=>?_
    refine bc (by have:=hv.2;dsimp only;omega) (by omega) ?_;have hall:∀e∈out++v.1,YL e:=λe he=>by
     rcases bQ.1 he with he|he
     .exact d7 e he
     .exact hv.1 e he
    refine aw (ac1 w' (out++v.1) λe he=>by have:=hall e he;exact⟨by have:=this.1;omega,by have:=this.2;omega⟩) λc hc=>?_
    refine b9 (λ_=>?_) λh=>?_
    .exact aw Sk λu hu=>aj ⟨hu.vl.wb,hu.vl,λe he=>(by cases he),by simp,λe he=>(by cases he),hu.x,_,_,_,.nil⟩
    .exact aj ⟨(hc h).1.1.wb,(hc h).1.1,(hc h).2.1,by have:=hv.2;simp;omega,hall,A.x,(hc h).2.2⟩
 .rw[aJ]at he;subst he;exact⟨by simp,by simp⟩
abbrev IT:Type:=ω
abbrev CT:Type:=WT×Y (Int×Y IT)
theorem rV (a b:Int):js (a,b)=M (decide (0<=a/\a<b)):=by
 refine cG ?_;unfold js jG aE;with_reducible repeat' first|(refine OS.ok ?_;constructor)|refine IM.mk λ_=>?_
 .by_cases h:a<b<;>simp[*,fK]
 .simp;omega
theorem Fc (k:Int):pI k=M (decide (1<=k/\k<=5)):=by
 refine cG ?_;unfold pI jG aE;with_reducible repeat' first|(refine OS.ok ?_;constructor)|refine IM.mk λ_=>?_
 .by_cases h:k<=5<;>simp[*,cX]
 .simp;omega
def iR (i:IT):η:=
 if i.1=1\/i.1=6\/i.1=10\/i.1=27 then [i.2.1]
 else if i.1=2\/i.1=3 then [i.2.1,i.2.2.1]
 else if i.1=4 then [i.2.1,i.2.2.1,i.2.2.2.1]
 else if i.1=7 then [i.2.1,i.2.2.2.1]
 else if i.1=8\/i.1=26 then [i.2.2.1]
 else if i.1=9 then [i.2.2.1,i.2.2.2.1]
 else []
theorem tH (i:IT):jK i=M (iR i):=by
 obtain⟨a,i2⟩:=i;unfold jK iR aX bm bw bf aE;by_cases h1:a=1
 .subst h1;rfl
 by_cases h2:a=6
 .subst h2;rfl
 by_cases h3:a=10
 .subst h3;rfl
 by_cases Z:a=27
 .subst Z;rfl
 by_cases U:a=2
 .subst U;rfl
 by_cases L:a=3
 .subst L;rfl
 by_cases A:a=4
 .subst A;rfl
 by_cases z:a=7
 .subst z;rfl
 by_cases s:a=8
 .subst s;rfl
 by_cases q:a=26
 .subst q;rfl
 by_cases c:a=9
 .subst c;rfl
 simp only[h1,h2,h3,Z,U,L,A,z,s,q,c,dy,bcF,jnr,gj,dT]
theorem Co (z:IT):(iR z).length<=3:=by
 unfold iR
 (repeat' split)<;>simp
theorem ZO (l:Y IT) (a:Int) (hl:l.length<=1000000):Ok (pm (l,a)) λ_=>True:=by
 unfold pm bf bA jG bO aV cR aE cH;refine qb (λx=>((l.length:Int)+1-x.2).toNat) (λx=>0<=x.2/\x.2<=(l.length:Int)+1) ?_ ⟨by dsimp only;omega,by dsimp only;omega⟩;rintro⟨(a:Int),(n:Int)⟩ ⟨h0,h1⟩;dsimp only at h0 h1;refine fH (λg=>?_) λ_=>aj trivial
 dsimp only[ak]at g;refine aU (λ_=>True) ?_ λb _=>aj ?_
 .refine aU (λb=>b=af->0<=a/\a<(l.length:Int)) ?_ ?_
  .refine bK (λ_=>aj λh=>(by cases h)) λc=>aj λh=>?_
   rw[mg]at h;dsimp only[ak]at h c;exact⟨c,h⟩
  .intro b hb;refine aQ (λ_=>aj trivial) λh=>?_
   obtain⟨q0,q⟩:=hb h;refine aO q0 (by dsimp only;omega) (aT ?_);refine aS (Fc _) ?_;refine ey (λ_=>aj trivial) λ_=>?_
   refine aO q0 (by dsimp only;omega) (aT ?_);refine aK (λ_=>?_) λ_=>aj trivial
   exact aO q0 (by dsimp only;omega) (aT (aj trivial))
 .dsimp only;rw[iK (by omega) (by omega)];exact⟨⟨by omega,by omega⟩,by omega⟩
structure AR (w:WT) (b n:Int):Prop where
 b0:0<=b
 b1:b<w.1.length
 ix:(aI (T:=L6) w.1 b).2.1=0
 sz:¬(aI (T:=L6) w.1 b).2.2.1=0
 sn:(aI (T:=L6) w.1 b).2.2.1=n
theorem Sb (w:WT) (b n:Int):Ok (nu (w,b,n)) λr=>r=J->AR w b n:=by
 unfold nu bf jf bO aV aE;refine gO ?_;refine aS (rV _ _) ?_;refine aK (λh=>?_) λ_=>aj (aj λh=>(by cases h))
 refine aO h.1 h.2 (aT (aK (λh1=>?_) λ_=>aj (aj λh=>(by cases h))));refine aO h.1 h.2 (aT (b9 (λh2=>?_) λ_=>aj (aj λh=>(by cases h))));exact aO h.1 h.2 (aT (aj (aj λa=>⟨h.1,h.2,h1,h2,be a⟩)))
theorem TD (w:WT) (i:IT):Ok (lX (w,i)) λb=>b=J->(i.1=7->AR w i.2.2.1 i.2.2.2.2.1)/\(i.1=9->AR w i.2.1 i.2.2.2.2.1):=by
 have a:∀{b:Bool},¬i.1=7->¬i.1=9->b=J->(i.1=7->AR w i.2.2.1 i.2.2.2.2.1)/\(i.1=9->AR w i.2.1 i.2.2.2.2.1):=λh1 h2 _=>⟨λh=>(h1 h).elim,λh=>(h2 h).elim⟩
 unfold lX aX bm bw cC eB bf jG bO aV aE;simp only[rV,V_];refine aK (λs=>?_) λ_=>?_
 .refine aU (λ_=>True) ?_ λ_ _=>aj (a (by have s:i.1=6:=s;omega) (by have s:i.1=6:=s;omega))
  refine aK (λh=>?_) λ_=>aj trivial
  exact aO h.1 h.2 (aT (aj trivial))
 refine aK (λc=>?_) λ_=>?_
 .refine aU (λ_=>True) ?_ λ_ _=>aj (a (by have c:i.1=8:=c;omega) (by have c:i.1=8:=c;omega))
  refine aK (λh=>?_) λ_=>aj trivial
  exact aO h.1 h.2 (aT (aj trivial))
 refine aK (λq=>?_) λz=>?_
 .exact aw (Sb _ _ _) λ_ h=>aj λh2=>⟨λ_=>h h2,λL=>by have q:i.1=7:=q;omega⟩
 refine aK (λL=>?_) λA=>?_
 .exact aw (Sb _ _ _) λ_ h=>aj λh2=>⟨λq=>(z q).elim,λ_=>h h2⟩
 have a:∀{b:Bool},b=J->(i.1=7->AR w i.2.2.1 i.2.2.2.2.1)/\(i.1=9->AR w i.2.1 i.2.2.2.2.1):=a z A;refine aU (λx=>x.2=(w,i)) (aK (λ_=>aj rfl) λ_=>aj rfl) ?_;rintro⟨b,x⟩ e;dsimp only at e;subst e;refine aQ (λ_=>?_) λ_=>?_
 .refine aU (λ_=>True) ?_ λ_ _=>aj a
  refine aK (λh=>?_) λ_=>aj trivial
  exact aO h.1 h.2 (aT (aj trivial))
 refine aU (λx=>x.2=(w,i)) (aK (λ_=>aj rfl) λ_=>aK (λ_=>aj rfl) λ_=>aK (λ_=>aj rfl) λ_=>aj rfl) ?_;rintro⟨b,x⟩ e;dsimp only at e;subst e;refine aQ (λ_=>?_) λ_=>?_
 .refine aU (λ_=>True) ?_ λ_ _=>aj a
  refine aK (λh=>?_) λ_=>aj trivial
  exact aO h.1 h.2 (aT (aj trivial))
 refine aU (λx=>x.2=(w,i)) (aK (λ_=>aj rfl) λ_=>aK (λ_=>aj rfl) λ_=>aj rfl) ?_;rintro⟨b,x⟩ e;dsimp only at e;subst e;refine aQ (λ_=>aj a) λ_=>?_
 refine aU (λx=>x.2=(w,i)) (aK (λ_=>aj rfl) λ_=>aj rfl) ?_;rintro⟨b,x⟩ e;dsimp only at e;subst e;with_reducible repeat' first|(refine OS.ok ?_;constructor)|refine IM.mk λ_=>?_
 all_goals exact a
structure VI (n:Int) (i:IT):Prop where
 o1:1<=i.1
 o2:i.1<=28
 r:∀j∈iR i,0<=j/\j<n
structure VT (t:Int×List IT):Prop where
 r0:0<=t.1
 r1:t.1<=32
 i:∀i∈t.2,VI t.1 i
structure VJ (w:WT) (k:Int) (i:IT):Prop where
 a7:i.1=7->AR w i.2.2.1 i.2.2.2.2.1
 a9:i.1=9->AR w i.2.1 i.2.2.2.2.1
 se:i.1=28->i.2.2.2.2.2= -1
 si:¬i.1=28->0<=i.2.2.2.2.2/\i.2.2.2.2.2<w.2.2.2.2.2.length/\(aI (T:=xJ) w.2.2.2.2.2 i.2.2.2.2.2).1=k
theorem HR (w:WT) (k:Int) (c:Int×Y IT) (hc:c.2.length<=1000000):Ok (iv (w,k,c)) λb=>b=J->VT c/\∀i∈c.2,VJ w k i:=by
 unfold iv aX bm bw cC bN cW pZ bf bA jf bO aV cR aE cH;refine aU (λx=>x.2=(w,c)/\(x.1=af->0<=c.1/\c.1<=32)) ?_ ?_
 .refine bK (λ_=>aj ⟨rfl,λh=>(by cases h)⟩) λh0=>bK (λ_=>aj ⟨rfl,λh=>(by cases h)⟩) λh1=>aj ⟨rfl,λ_=>⟨h0,h1⟩⟩
 rintro⟨b,x⟩ ⟨e,hb⟩;dsimp only at e hb;subst e;refine aQ (λ_=>aj λh=>(by cases h)) λh=>?_
 obtain⟨r0,r1⟩:=hb h;refine cf c.2.length (λi x=>x.1=(i:Int)/\x.2=(w,c)/\∀q:Nat,q<i->VI c.1 (aI (T:=Bm) c.2 (q:Int))/\VJ w k (aI (T:=Bm) c.2 (q:Int))) ?_ ?_ ⟨rfl,rfl,λk hk=>by omega⟩
 .rintro i ⟨a,x⟩ hi ⟨e1,e2,e3⟩;dsimp only at e1 e2 e3;subst e1;subst e2;refine dz ?_;refine cI (aT ?_);generalize Z:(aI _ _)=z;refine aU (λx=>x.2=(w,c,z)/\(x.1=af->(1<=z.1/\z.1<=28)/\(z.1=7->AR w z.2.2.1 z.2.2.2.2.1)/\(z.1=9->AR w z.2.1 z.2.2.2.2.1))) ?_ ?_
  .refine bK (λ_=>aj ⟨rfl,λh=>(by cases h)⟩) λh0=>bK (λ_=>aj ⟨rfl,λh=>(by cases h)⟩) λh1=>?_
   refine aQ (λ_=>aj ⟨rfl,λh=>(by cases h)⟩) λ_=>?_
   refine aw (TD w z) λy hy=>?_
   refine ey (λ_=>aj ⟨rfl,λh=>(by cases h)⟩) λhyt=>?_
   exact aw (ZO c.2 _ hc) λy _=>aj ⟨rfl,λ_=>⟨⟨h0,h1⟩,hy hyt⟩⟩
  rintro⟨b,x⟩ ⟨e,hb⟩;dsimp only at e hb;subst e;refine aQ (λ_=>aj λh=>(by cases h)) λh=>?_
  obtain⟨⟨o1,o2⟩,a7,a9⟩:=hb h;refine aU (λx=>x.2=(w,c,z)/\(x.1=af->(z.1=28->z.2.2.2.2.2= -1)/\(¬z.1=28->0<=z.2.2.2.2.2/\z.2.2.2.2.2<w.2.2.2.2.2.length/\(aI (T:=xJ) w.2.2.2.2.2 z.2.2.2.2.2).1=k))) ?_ ?_
  .simp only[rV,V_];refine aK (λs=>?_) λs=>?_
   .refine b9 (λ_=>aj ⟨rfl,λh=>(by cases h)⟩) λhm=>?_
    exact b9 (λh=>(h s).elim) λ_=>aj ⟨rfl,λ_=>⟨λ_=>hm,λh=>(h s).elim⟩⟩
   .refine b9 (λ_=>?_) λh=>(s h).elim
    refine b9 (λ_=>aj ⟨rfl,λh=>(by cases h)⟩) λh=>?_
    exact aO h.1 h.2 (aT (aj ⟨rfl,λh2=>⟨λh3=>(s h3).elim,λ_=>⟨h.1,h.2,by simpa using h2⟩⟩⟩))
  rintro⟨b,x⟩ ⟨e,hsi⟩;dsimp only at e hsi;subst e;refine aQ (λ_=>aj λh=>(by cases h)) λhbs=>?_
  obtain⟨se,si⟩:=hsi hbs;refine aU (λx=>x.2=(w,c,z)) ?_ ?_
  .simp only[rV,V_];with_reducible repeat' first|(refine OS.ok ?_;constructor)|refine IM.mk λ_=>?_
   all_goals rfl
  rintro⟨b,x⟩ e;dsimp only at e;subst e;refine aQ (λ_=>aj λh=>(by cases h)) λ_=>?_
  refine aS (tH z) ?_;refine cf (iR z).length (λj x=>x.1=(j:Int)/\x.2=(w,c)/\∀k:Nat,k<j->0<=aI (T:=.int .i64) (iR z) (k:Int)/\aI (T:=.int .i64) (iR z) (k:Int)<c.1) ?_ ?_ ⟨rfl,rfl,λk hk=>by omega⟩
  .rintro j ⟨a,x⟩ hj ⟨U,L,A⟩;dsimp only at U L A;subst U;subst L;refine dz ?_;refine cI (aT ?_);refine aS (rV _ _) ?_;refine b9 (λ_=>aj λh=>(by cases h)) λh=>aj ?_
   dsimp only at h ⊢;have hj32:(iR z).length<=3:=Co z;refine ⟨gU (by omega),rfl,λk hk=>?_⟩;rcases b7 k j with h1|h1
   .exact A k h1
   .rw[show k=j by omega];exact h
  .rintro⟨a,x⟩ ⟨U,L,A⟩;dsimp only at U L A;subst U;subst L;refine dt (aj ?_);dsimp only;refine ⟨gU (by omega),rfl,λk hk=>?_⟩;rcases b7 k i with h1|h1
   .exact e3 k h1
   .rw[show k=i by omega,Z];exact⟨⟨o1,o2,iz (T:=.int .i64) A⟩,⟨a7,a9,se,si⟩⟩
 .rintro⟨a,x⟩ ⟨e1,e2,e3⟩;dsimp only at e1 e2 e3;subst e1;subst e2;refine dt (aj λ_=>⟨⟨r0,r1,iz (T:=Bm) (p:=VI c.1) λq hq=>(e3 q hq).1⟩,iz (T:=Bm) (p:=VJ w k) λq hq=>(e3 q hq).2⟩)
structure VC (c:CT):Prop where
 vl:VL c.1
 tl:c.2.length=c.1.2.2.2.2.1.length
 t:∀t∈c.2,VT t
 sv:SV0 c.1
 j:∀k:Nat,k<c.2.length->∀i∈(aI (T:=vK) c.2 (k:Int)).2,VJ c.1 (k:Int) i
structure CB (c:CT):Prop where
 th:c.2.length<=1000000
 ins:∀t∈c.2,t.2.length<=1000000
 rg:∀t∈c.2,1<=t.1
 wx:WX c.1
 ok:jJ c=M J
theorem Sm (c:CT) (h1:c.2.length<=1000000) (h2:∀t∈c.2,t.2.length<=1000000):Ok (jJ c) λb=>b=J->VC c:=by
 obtain⟨w,l⟩:=c;dsimp only at h1 h2;unfold jJ bw bA bO aV cR aE cH;refine aU (λx=>x.2=(w,l)/\(x.1=af->(VL w/\SV0 w)/\l.length=w.2.2.2.2.1.length)) ?_ ?_
 .refine aw (Bd w) λb hb=>?_
  refine ey (λ_=>aj ⟨rfl,λh=>(by cases h)⟩) λh=>aj ⟨rfl,λL=>⟨hb h,?_⟩⟩
  simp at L;omega
 rintro⟨b,x⟩ ⟨e,s⟩;dsimp only at e s;subst e;refine aQ (λ_=>aj λh=>(by cases h)) λh=>?_
 obtain⟨⟨hv,hsv⟩,hl⟩:=s h;refine cf l.length (λi x=>x.1=(i:Int)/\x.2=(w,l)/\∀k:Nat,k<i->VT (aI (T:=vK) l (k:Int))/\∀q∈(aI (T:=vK) l (k:Int)).2,VJ w (k:Int) q) ?_ ?_ ⟨rfl,rfl,λk hk=>by omega⟩
 .rintro i ⟨a,x⟩ hi ⟨e1,e2,e3⟩;dsimp only at e1 e2 e3;subst e1;subst e2;refine dz ?_;refine cI (aT ?_);have hm:=bM (T:=vK) (xs:=l) (j:=(i:Int)) (by omega) (by omega);revert hm;generalize A:(aI (T:=vK) l (i:Int))=z;intro hm;refine aw (HR w _ z (h2 z hm)) λb hb=>?_
  refine ey (λ_=>aj λh=>(by cases h)) λh=>aj ?_
  dsimp only;refine ⟨gU (by omega),rfl,λk hk=>?_⟩;rcases b7 k i with h1|h1
  .exact e3 k h1
  .rw[show k=i by omega,A];exact hb h
 .rintro⟨a,x⟩ ⟨e1,e2,e3⟩;dsimp only at e1 e2 e3;subst e1;subst e2;refine dt (aj λ_=>⟨hv,hl,iz (T:=vK) (p:=VT) λk hk=>(e3 k hk).1,hsv,λk hk=>(e3 k hk).2⟩)
abbrev TT:Type:=Int×η×Y η×Int
structure TL (F:Int->Prop) (E:Nat) (l:η):Prop where
 a:He l
 m:∀y∈l,0<=y/\y<(E:Int)
 f:∀y∈l,F y
theorem O1:∀(l:η) (lo hi:Int),He l->(∀y∈l,lo<=y/\y<hi)->(l.length:Int)<=max 0 (hi-lo)
 |[],lo,hi,_,_=>by simp;omega
 |x::r,lo,hi,h,hm=>by
  have h1:=hm x (c4 ..);have h2:=O1 r (x+1) hi h.2 λy a=>⟨by have:=h.1 y a;omega,(hm y (cE _ a)).2⟩
  rw[bX];omega
variable {F:Int->Prop}
theorem TL.len {E:Nat} {l:η} (h:TL F E l):l.length<=E:=by
 have:=O1 l 0 E h.a h.m;omega
theorem TL.nil (E:Nat):TL F E []:=⟨trivial,λy a=>(by cases a),λy a=>(by cases a)⟩
theorem TL.uni {E:Nat} {a b:η} (q:TL F E a) (hb:TL F E b):TL F E (wV a b):=
 ⟨Pr a b,λy c=>by
   rcases HU.1 c with h|h
   .exact q.m y h
   .exact hb.m y h,λy c=>(HU.1 c).elim (q.f y) (hb.f y)⟩
theorem TL.mono {E s:Nat} {q:Int->Prop} {l:η} (h:TL F E l) (hf:E<=s) (z:∀y,F y->q y):TL q s l:=⟨h.a,λy c=>⟨(h.m y c).1,by have:=(h.m y c).2;omega⟩,λy c=>z y (h.f y c)⟩
structure TH (F:Int->Prop) (E:Nat) (s:TT):Prop where
 r:s.2.1.length<=32
 t:s.2.2.1.length<=32
 l:∀l∈s.2.2.1,TL F E l
 e0:0<=s.2.2.2
 e1:s.2.2.2<=(E:Int)
theorem TH.zero (E:Nat):TH F E (0,[],[],0):=⟨by simp,by simp,λl hl=>(by cases hl),by simp,by simp⟩
theorem TH.mono {E c:Nat} {a:Int->Prop} {s:TT} (h:TH F E s) (hf:E<=c) (q:∀y,F y->a y):TH a c s:=⟨h.r,h.t,λl hl=>(h.l l hl).mono hf q,h.e0,by have:=h.e1;omega⟩
theorem c9 (s:TT) (E:Nat) (U:E<=100000) (h:TH F E s):ch s=M ((s.1,s.2.2.2),s.2.1,s.2.2.1):=by
 obtain⟨h1,h2,L,h4,Z⟩:=h;refine cG ?_;unfold ch aX bm bw bN cW bA bH bO aV cR aE cH;refine bc (by simp;omega) (by omega) ?_;refine cf s.2.2.1.length (λi x=>x.1=(i:Int)/\x.2.1=s/\x.2.2.2.1=(s.1,s.2.2.2)/\x.2.2.2.2.1=s.2.1/\x.2.2.2.2.2=s.2.2.1.take i) ?_ ?_ ⟨rfl,rfl,rfl,rfl,rfl⟩
 .rintro i ⟨a,b,c,d,e,f⟩ hi ⟨e1,e2,e3,z,q⟩;dsimp only at e1 e2 e3 z q;subst e1;subst e2;subst q;refine dz ?_;refine cI (aT ?_);have A:=(L _ (bM (T:=.sl (.int .i64)) (xs:=b.2.2.1) (j:=(i:Int)) (by omega) (by omega))).len;refine bc (by simp only[gr,bG];exact dv A (by omega)) (by omega) ?_;refine bc (by simp;omega) (by omega) (aj ?_);dsimp only;refine ⟨gU (by omega),rfl,e3,z,?_⟩;rw[ol (T:=.sl (.int .i64)) hi];rfl
 .rintro⟨a,b,c,d,e,f⟩ ⟨e1,e2,e3,z,q⟩;dsimp only at e1 e2 e3 z q;subst e1;subst e2;subst q;refine dt (aj ?_);show (d,e,_)=_;rw[e3,z,cO]
theorem vM (b:Bool):Ok (f_ b) λ_=>True:=by
 unfold f_;with_reducible repeat' first|(refine OS.ok ?_;constructor)|refine IM.mk λ_=>?_
 all_goals trivial
theorem Fr (n:Int):Ok (mo n) λ_=>True:=by
 unfold mo bA aE;with_reducible repeat' first|(refine OS.ok ?_;constructor)|refine IM.mk λ_=>?_
 all_goals trivial
theorem abc (x:ν):Ok (ub x) λ_=>True:=by
 unfold ub bf;refine aK (λ_=>aj trivial) λ_=>aK (λ_=>?_) λ_=>aj trivial
 exact aw (vM _) λ_ _=>aj trivial
theorem YX (x:π):Ok (sj x) λ_=>True:=by
 unfold sj bf jf bH aE;have t1:∀b,Ok (av (f_ b) λy=>M (y,J)) λ_=>True:=λb=>aw (vM _) λ_ _=>aj trivial
 refine aK (λ_=>aj trivial) λ_=>aK (λ_=>aj trivial) λ_=>aK (λ_=>aj trivial) λ_=>?_
 refine aK (λ_=>aK (λ_=>aj trivial) λh=>yI h (aj trivial)) λ_=>?_
 refine aK (λ_=>aK (λ_=>aj trivial) λh=>yI h (aj trivial)) λ_=>?_
 refine aK (λ_=>t1 _) λ_=>aK (λ_=>t1 _) λ_=>aK (λ_=>t1 _) λ_=>aK (λ_=>t1 _) λ_=>aK (λ_=>t1 _) λ_=>aK (λ_=>t1 _) λ_=>?_
 refine aK (λ_=>aU (λ_=>True) (b9 (λ_=>aw (vM _) λ_ _=>aj trivial) λ_=>aw (vM _) λ_ _=>aj trivial) λ_ _=>aj trivial) λ_=>?_
 exact aK (λ_=>aU (λ_=>True) (b9 (λ_=>aw (vM _) λ_ _=>aj trivial) λ_=>aw (vM _) λ_ _=>aj trivial) λ_ _=>aj trivial) λ_=>aj trivial
theorem Xf (E:Nat) (hE:E<=100000) (i:IT) (p:ν) (R:η) (T:Y η) (hr:∀j∈iR i,0<=j/\j<(R.length:Int)) (o1:1<=i.1) (o2:i.1<=5) (hR:R.length<=32) (q:T.length=R.length) (hl:∀l∈T,TL F E l):Ok (vV ((i,p),R,T)) λy=>y.1.1.2=p.2/\y.2.1.length=R.length/\y.2.2.length=T.length/\∀l∈y.2.2,TL F E l:=by
 unfold vV aX bm bw ck bf bA bH bO kW aV cR aE cH;refine aS (tH i) ?_;have h3:=Co i;refine cf (iR i).length (λj x=>x.1=(j:Int)/\x.2.1=R/\x.2.2.1=T/\x.2.2.2.1=i/\x.2.2.2.2.1=p) ?_ ?_ ⟨rfl,rfl,rfl,rfl,rfl⟩
 .rintro j ⟨a,b,c,d,e⟩ hj ⟨e1,e2,e3,U,z⟩;dsimp only at e1 e2 e3 U z;subst e1;subst e2;subst e3;subst U;refine dz ?_;have hz:=hr _ (bM (T:=.int .i64) (xs:=iR d) (j:=(j:Int)) (by omega) (by omega));refine aU (λx=>x.2=(b,c,d,e)/\x.1=af) ?_ ?_
  .refine cI (aT ?_);refine bK (λg=>?_) λ_=>?_
   .dsimp only at g;omega
   refine cI (aT (aj ⟨rfl,?_⟩));dsimp only;rw[mg];exact hz.2
  rintro⟨b',x⟩ ⟨L,A⟩;dsimp only at L A;subst L;subst A;refine aQ (λh=>(by cases h)) λ_=>aj ?_
  dsimp only;exact⟨gU (by omega),rfl,rfl,rfl,z⟩
 .rintro⟨a,b,c,d,e⟩ ⟨e1,e2,e3,U,z⟩;dsimp only at e1 e2 e3 U z;subst e1;subst e2;subst e3;subst U;refine dt ?_;obtain⟨e,e'⟩:=e;dsimp only at z;subst z;refine aw (P:=λy=>y.1.1.2=e.2/\y.2.1.length=b.length/\y.2.2.length=c.length/\∀l∈y.2.2,TL F E l) ?_ λr hr=>aj hr
  have hA:d.1≠5->0<=d.2.1/\d.2.1<(b.length:Int):=λh5=>hr _ (by
   unfold iR;(repeat' split)<;>simp<;>omega)
  have hB:2<=d.1->d.1≠5->0<=d.2.2.1/\d.2.2.1<(b.length:Int):=λh2 h5=>hr _ (by
   unfold iR;(repeat' split)<;>simp<;>omega)
  have hC:d.1=4->0<=d.2.2.2.1/\d.2.2.2.1<(b.length:Int):=λh5=>hr _ (by
   unfold iR;(repeat' split)<;>simp<;>omega)
  have hg:∀{j:Int},0<=j->j<(b.length:Int)->TL F E (aI (T:=.sl (.int .i64)) c j):=λh0 h1=>hl _ (bM (T:=.sl (.int .i64)) (xs:=c) h0 (by rw[q];exact h1))
  refine aU (λx=>x.2.1=b/\x.2.2.1=c/\x.2.2.2.1=d/\x.2.2.2.2.1=e/\TL F E x.1.2.2/\d.1≠5) ?_ ?_
  .refine aK (λ_=>aj ⟨rfl,rfl,rfl,hl⟩) λs=>?_
   refine aK (λ_=>aj ⟨rfl,rfl,rfl,rfl,TL.nil E,s⟩) λn1=>?_
   dsimp only at n1 s;obtain⟨b0,b1⟩:=hB (by omega) s;refine aK (λ_=>?_) λn2=>?_
   .refine aO b0 b1 (aO b0 b1 (aT ?_));refine aO b0 (by dsimp only;rw[q];exact b1) (aO b0 (by dsimp only;rw[q];exact b1) (aT ?_));exact aj ⟨rfl,rfl,rfl,rfl,hg b0 b1,s⟩
   refine aK (λ_=>?_) λn3=>?_
   .refine aw (Fr _) λy _=>?_
    refine aO b0 b1 (aO b0 b1 (aT ?_));refine aw (abc _) λy _=>?_
    refine aO b0 (by dsimp only;rw[q];exact b1) (aO b0 (by dsimp only;rw[q];exact b1) (aT ?_));exact aj ⟨rfl,rfl,rfl,rfl,hg b0 b1,s⟩
   dsimp only at n2 n3;obtain⟨c0,Z⟩:=hC (by omega);refine aw (Fr _) λy _=>?_
   refine aO b0 b1 (aO b0 b1 (aT ?_));refine aO c0 Z (aO c0 Z (aT ?_));refine aw (YX _) λy _=>?_
   refine aO b0 (by dsimp only;rw[q];exact b1) (aO b0 (by dsimp only;rw[q];exact b1) (aT ?_));refine aO c0 (by dsimp only;rw[q];exact Z) (aO c0 (by dsimp only;rw[q];exact Z) (aT ?_));have g1:=hg b0 b1;have g2:=hg c0 Z;refine aS (Sn _ _ (dv g1.len (by omega)) (dv g2.len (by omega))) ?_;exact aj ⟨rfl,rfl,rfl,rfl,g1.uni g2,s⟩
  rintro⟨⟨v,ok,tn⟩,b',c',d',e',e''⟩ ⟨L,A,f3,f4,f5,f6⟩;dsimp only at L A f3 f4 f5 f6;subst L;subst A;subst f3;subst f4;obtain⟨a0,a1⟩:=hA f6;have ht:=f5.len;refine bc (by simp;omega) (by omega) ?_;refine aO a0 a1 (aO a0 a1 (aO a0 (by dsimp only;rw[q];exact a1) (aO a0 (by dsimp only;rw[q];exact a1) (aj ?_))));refine ⟨rfl,bT ..,bT ..,λl hm=>?_⟩;rcases Ci hm with h|h
  .exact hl l h
  .rw[h];exact f5
theorem Yy (E:Nat) (Z:E<=100000) (c:Int×Y IT) (hc:c.2.length<=1000000) (hv:VT c) (s:TT) (h:TH F E s):Ok (nl (c,s)) λy=>TH F E y.1/\(y.1.2.1.length=0\/y.1.2.2.2=s.2.2.2):=by
 unfold nl aX bm bw bN du cW bf bA jG jf bH bO aV cR aE cH;have q:=h;obtain⟨h1,h2,h3,h4,h5⟩:=h;refine aU (λx=>x.2.1=c/\x.2.2.1=s/\(x.1=af->(s.2.1.length:Int)=c.1/\(s.2.2.1.length:Int)=c.1)) ?_ ?_
 .refine b9 (λ_=>aj ⟨rfl,rfl,λh=>(by cases h)⟩) λg=>aj ⟨rfl,rfl,λh=>?_⟩
  simp at h;exact⟨g,h⟩
 rintro⟨b,c',s',z⟩ ⟨e1,e2,e3⟩;dsimp only at e1 e2 e3;subst e1;subst e2;refine aQ (λ_=>aj ⟨TH.zero E,.inl rfl⟩) λhb=>?_
 obtain⟨q1,q2⟩:=e3 hb;refine aS (c9 s' E Z q) ?_;refine qb (λx=>((c'.2.length:Int)+1-x.1).toNat) (λx=>0<=x.1/\x.1<=(c'.2.length:Int)+1/\x.2.1=c'/\x.2.2.1.2=s'.2.2.2/\x.2.2.2.2.1.length=s'.2.1.length/\x.2.2.2.2.2.length=s'.2.2.1.length/\∀l∈x.2.2.2.2.2,TL F E l) ?_ ⟨by dsimp only;omega,by dsimp only;omega,rfl,rfl,rfl,rfl,h3⟩;rintro⟨(n:Int),c,⟨(a:Int),ev⟩,z',R,T⟩ ⟨n0,n1,e1,e2,e3,e4,A⟩;dsimp only at n0 n1 e1 e2 e3 e4 A;subst e1;subst e2;refine fH (λg=>?_) λ_=>aj ⟨TH.zero E,.inl rfl⟩
 dsimp only[ak]at g;refine aU (λx=>x.2=(c,(a,s'.2.2.2),z',R,T)/\(x.1=af->0<=a/\a<(c.2.length:Int))) ?_ ?_
 .refine bK (λ_=>aj ⟨rfl,λh=>(by cases h)⟩) λg1=>aj ⟨rfl,λh=>?_⟩
  dsimp only at g1 h;rw[mg]at h;exact⟨g1,h⟩
 rintro⟨b',x⟩ ⟨f1,f2⟩;dsimp only at f1 f2;subst f1;refine aQ (λ_=>aj ⟨TH.zero E,.inl rfl⟩) λhb=>?_
 obtain⟨p0,p1⟩:=f2 hb;refine aO p0 p1 (aT ?_);have hi:=hv.i _ (bM (T:=Bm) (xs:=c.2) (j:=a) p0 p1);revert hi;generalize (aI (T:=Bm) _ _)=i;intro hi;refine aS (Fc _) ?_;refine b9 (λ_=>aj ⟨⟨by dsimp only;omega,by dsimp only;omega,A,h4,h5⟩,.inr rfl⟩) λhsil=>?_
 refine aK (λ_=>aj ⟨TH.zero E,.inl rfl⟩) λhn=>?_
 dsimp only[ak]at hn;refine aw (Xf E Z i (a,s'.2.2.2) R T (λj hj=>by have:=hi.r j hj;omega) hsil.1 hsil.2 (by omega) (by omega) A) λy hy=>?_
 obtain⟨⟨⟨pc',ev'⟩,ok⟩,R',T'⟩:=y;obtain⟨k1,k2,U,L⟩:=hy;dsimp only at k1 k2 U L;refine cV (lQ U.symm (cV (lQ k2.symm (Az ?_))));refine ey (λ_=>aj ⟨TH.zero E,.inl rfl⟩) λ_=>aj ?_
 dsimp only;rw[iK (by omega) (by omega)];exact⟨⟨by omega,by omega,rfl,k1,by omega,by omega,L⟩,by omega⟩
abbrev ST:Type:=SY×η×η×Y TT
structure TF (c:Int×List IT) (t:TT):Prop where
 p0:0<=t.1
 p1:t.1<(c.2.length:Int)
 r:(t.2.1.length:Int)=c.1
 t:(t.2.2.1.length:Int)=c.1
structure FSx (c:CT) (s:ST):Prop where
 vc:VC c
 cd:∀d∈c.1.2.2.1,0<=d.2/\d.2<(c.1.2.1.length:Int)
 e3:s.1.2.2.2.length=c.1.2.2.2.2.1.length
 ce:s.2.1.length=c.1.1.length
 fu:s.2.2.1.length=c.1.2.2.2.1.length
 th:s.2.2.2.length=c.2.length
 t:∀k:Nat,k<c.2.length->TF (aI (T:=vK) c.2 (k:Int)) (aI (T:=uC) s.2.2.2 (k:Int))
def FQ (L:Y ET) (k:Int) (y:Int):Prop:=1<=y/\KA L k y
structure SV (n:Nat) (L:List ET) (s:ST):Prop where
 sb:SB n s.1
 ln:L.length=n
 t:∀k:Nat,k<s.2.2.2.length->TH (FQ L k) n (aI (T:=uC) s.2.2.2 (k:Int))
theorem SV.ti {n:Nat} {L:Y ET} {s:ST} (h:SV n L s) {k:Int} (h0:0<=k) (h1:k<(s.2.2.2.length:Int)):TH (FQ L k) n (aI (T:=uC) s.2.2.2 k):=by
 have:=h.t k.toNat (by omega);rw[show ((k.toNat:Nat):Int)=k by omega]at this;exact this
structure TG (c:CT) (L:List ET) (sy:SY) (k:Int) (t:TT):Prop where
 ev:t.2.2.2=((fl L k).length:Int)
 wi:(aI (T:=jF) sy.2.2.2 k).1=3\/(aI (T:=jF) sy.2.2.2 k).1=4->(aI (T:=Bm) (aI (T:=vK) c.2 k).2 t.1).1=21
 nw:(fl L k).length=0->(aI (T:=jF) sy.2.2.2 k).1=0\/(aI (T:=jF) sy.2.2.2 k).1=1
structure KN (c:CT) (L:List ET) (s:ST):Prop where
 ac:Acw c.1 L s.1 s.2.1 s.2.2.1
 t:∀k:Nat,k<s.2.2.2.length->(aI (T:=uC) s.2.2.2 (k:Int)).2.1.length=0\/TG c L s.1 (k:Int) (aI (T:=uC) s.2.2.2 (k:Int))
theorem ae0 (c:CT) (s:ST) (hc:CB c):Ok (vU (c,s)) λb=>b=J->FSx c s:=by
 unfold vU aX bm du cW bA jG jf bO aV cR aE cH;refine aU (λx=>x.2=(c,s)/\(x.1=af->VC c/\(∀d∈c.1.2.2.1,0<=d.2/\d.2<(c.1.2.1.length:Int))/\s.1.2.2.2.length=c.1.2.2.2.2.1.length/\s.2.1.length=c.1.1.length/\s.2.2.1.length=c.1.2.2.2.1.length/\s.2.2.2.length=c.2.length)) ?_ ?_
 .refine aw (Sm c hc.th hc.ins) λb hb=>?_
  refine ey (λ_=>aj ⟨rfl,λh=>(by cases h)⟩) λh=>?_
  have hv:=hb h;refine aw (Pd c.1 s.1 (by have:=hv.vl.d;omega)) λb2 q=>?_
  refine ey (λ_=>aj ⟨rfl,λh=>(by cases h)⟩) λh2=>?_
  obtain⟨z,_,_,Z⟩:=q h2;refine b9 (λ_=>aj ⟨rfl,λh=>(by cases h)⟩) λk1=>?_
  refine b9 (λ_=>aj ⟨rfl,λh=>(by cases h)⟩) λk2=>aj ⟨rfl,λL=>⟨hv,z,Z,?_,?_,?_⟩⟩
  .dsimp only[ak]at k1;omega
  .dsimp only[ak]at k2;omega
  .simp at L;omega
 rintro⟨b,x⟩ ⟨e,hb⟩;dsimp only at e hb;subst e;refine aQ (λ_=>aj λh=>(by cases h)) λh=>?_
 obtain⟨hv,hcd,U,hce,hfu,hth⟩:=hb h;have hcl:=hc.th;refine cf c.2.length (λi x=>x.1=(i:Int)/\x.2=(c,s)/\∀k:Nat,k<i->TF (aI (T:=vK) c.2 (k:Int)) (aI (T:=uC) s.2.2.2 (k:Int))) ?_ ?_ ⟨rfl,rfl,λk hk=>by omega⟩
 .rintro i ⟨a,x⟩ hi ⟨e1,e2,e3⟩;dsimp only at e1 e2 e3;subst e1;subst e2;refine dz ?_;have hin:((i:Nat):Int)<(c.2.length:Int):=by omega
  refine cI (aT ?_);refine aU (λx=>x.2=(c,s)/\(x.1=af->TF (aI (T:=vK) c.2 (i:Int)) (aI (T:=uC) s.2.2.2 (i:Int)))) ?_ ?_
  .refine bK (λ_=>aj ⟨rfl,λh=>(by cases h)⟩) λg0=>?_
   refine aO (by dsimp only;omega) hin (aT ?_);refine fH (λ_=>aj ⟨rfl,λh=>(by cases h)⟩) λz=>?_
   refine aO (by dsimp only;omega) hin (aT ?_);refine b9 (λ_=>aj ⟨rfl,λh=>(by cases h)⟩) λg2=>?_
   refine aO (by dsimp only;omega) hin (aT (aj ⟨rfl,λA=>⟨g0,z,g2,?_⟩⟩));simp at A;exact A
  rintro⟨b,x⟩ ⟨e,hb⟩;dsimp only at e hb;subst e;refine aQ (λ_=>aj λh=>(by cases h)) λh=>aj ?_
  dsimp only;refine ⟨gU (by omega),rfl,λk hk=>?_⟩;rcases b7 k i with h1|h1
  .exact e3 k h1
  .rw[show k=i by omega];exact hb h
 .rintro⟨a,x⟩ ⟨e1,e2,e3⟩;dsimp only at e1 e2 e3;subst e1;subst e2;refine dt (aj λ_=>⟨hv,hcd,U,hce,hfu,hth,e3⟩)
theorem ag1 {i:IT} (h:i.1=6\/i.1=7\/i.1=27\/i.1=10):i.2.1∈iR i:=by
 unfold iR;(repeat' split)<;>simp<;>omega
theorem ag0 {i:IT} (h:i.1=8\/i.1=9\/i.1=26):i.2.2.1∈iR i:=by
 unfold iR;(repeat' split)<;>simp<;>omega
theorem akq {i:IT} (h:i.1=7\/i.1=9):i.2.2.2.1∈iR i:=by
 unfold iR;(repeat' split)<;>simp<;>omega
structure KD (op k:Int):Prop where
 ld:k=3->op=6\/op=7
 st:k=4->op=8\/op=9
 br:k=5->op=10
 se:k=22->op=26
 ge:k=23->op=27
 e1:k=2->op=28
 n1:¬k=1
 n17:¬k=17
 wt:k=16->op=21
 e2:¬k=0->op=28->k=2
 d7:¬k=0->op=7->k=3
 d8:¬k=0->op=8->k=4
 d9:¬k=0->op=9->k=4
 d10:¬k=0->op=10->k=5
 d26:¬k=0->op=26->k=22
theorem adg (op:Int):Ok (vS op) λk=>KD op k:=by
 unfold vS bA kW aE;refine aU (λx=>x.2=[3,3,4,4,5,6,7,8,9,10,11,12,13,14,15,16,18,19,20,21,22,23,2]/\(x.1=af->6<=op/\op<=28)) ?_ ?_
 .refine bK (λ_=>aj ⟨rfl,λh=>(by cases h)⟩) λg=>aj ⟨rfl,λh=>?_⟩
  dsimp only at h;rw[fY]at h;exact⟨g,h⟩
 rintro⟨b,x⟩ ⟨e,hb⟩;dsimp only at e hb;subst e;refine aQ (λ_=>aj (by constructor<;>first|decide|(intro h;first|(exact (h rfl).elim)|(cases h;done)))) λh=>?_
 obtain⟨h1,h2⟩:=hb h;dsimp only;rw[iK (n:=op-6) (by omega) (by omega)];refine aO (by omega) (by simp;omega) (aO (by omega) (by simp;omega) (aT (aj ?_)));have:op=6\/op=7\/op=8\/op=9\/op=10\/op=11\/op=12\/op=13\/op=14\/op=15\/op=16\/op=17\/op=18\/op=19\/op=20\/op=21\/op=22\/op=23\/op=24\/op=25\/op=26\/op=27\/op=28:=by omega
 rcases this with rfl|rfl|rfl|rfl|rfl|rfl|rfl|rfl|rfl|rfl|rfl|rfl|rfl|rfl|rfl|rfl|rfl|rfl|rfl|rfl|rfl|rfl|rfl;all_goals (constructor<;>decide)
theorem SD (a n:Int):Ok (rn (a,n)) λr=>n=2->r=0\/r=1:=by
 unfold rn bA bH aE;refine bK (λ_=>aj λh=>(by dsimp only at *;omega)) λh=>?_
 dsimp only at h;refine yI (by dsimp only;omega) ?_;have t1:=Int.tmod_lt_of_pos a (b:=n) (by omega);have c:=Int.lt_tmod_of_pos a (b:=n) (by omega);refine aU (λr=>n=2->r=0\/r=1) (bK (λg=>aj λh2=>?_) λg=>aj λh2=>?_) λ_ h=>aj h
 .dsimp only at g ⊢;rw[iK (by omega) (by omega)];omega
 .dsimp only at g ⊢;omega
theorem P5 (i:IT) (t:TT) (hr:∀j∈iR i,0<=j/\j<(t.2.1.length:Int)):Ok (sd (i,t)) λo=>(i.1=7->i.2.2.1=3->i.2.2.2.2.1=2->o=3\/o=4)/\(i.1=9->i.2.1=3->i.2.2.2.2.1=2->o=3\/o=4):=by
 unfold sd aX bm bw bf bO aE;have c:i.1=7\/i.1=9->0<=i.2.2.2.1/\i.2.2.2.1<(t.2.1.length:Int):=λh=>hr _ (by
  unfold iR;(repeat' split)<;>simp<;>omega)
 have q:∀{o:Int},¬i.1=7->¬i.1=9->(i.1=7->i.2.2.1=3->i.2.2.2.2.1=2->o=3\/o=4)/\(i.1=9->i.2.1=3->i.2.2.2.2.1=2->o=3\/o=4):=λh1 h2=>⟨λh=>(h1 h).elim,λh=>(h2 h).elim⟩
 have wk:∀{b r n:Int},b=3->n=2->(n=2->r=0\/r=1)->bl .i64 (b+r)=3\/bl .i64 (b+r)=4:=λh1 h2 a=>by
  have:=a h2;rw[iK (by omega) (by omega)];omega
 refine aU (λx=>x.2=(i,t)/\(x.1=J->i.1=6\/i.1=27)) (aK (λh=>aj ⟨rfl,λ_=>.inl h⟩) λ_=>aj ⟨rfl,λh=>.inr (be h)⟩) ?_;rintro⟨b,x⟩ ⟨e,hb⟩;dsimp only at e hb;subst e;refine aQ (λh=>aj (q (by have:=hb h;omega) (by have:=hb h;omega))) λ_=>?_
 refine aK (λh=>?_) λs=>?_
 .exact aO (c (.inl h)).1 (c (.inl h)).2 (aT (aw (SD _ _) λy z=>aj ⟨λ_ a A=>wk a A z,λZ=>by dsimp only at h;omega⟩))
 refine aK (λh=>?_) λL=>?_
 .exact aO (c (.inr h)).1 (c (.inr h)).2 (aT (aw (SD _ _) λy z=>aj ⟨λU=>(s U).elim,λ_ a A=>wk a A z⟩))
 refine aU (λ_=>True) ?_ λx _=>aQ (λ_=>aj (q s L)) λ_=>aj (q s L)
 with_reducible repeat' first|(refine OS.ok ?_;constructor)|refine IM.mk λ_=>?_
 all_goals trivial
theorem agn {w:WT} (a:w.1=C0) {b n:Int} (h:AR w b n):b=3/\n=2:=by
 obtain⟨b0,b1,ix,sz,sn⟩:=h;rw[a]at b1 ix sz sn;have b1:b<5:=b1;rcases (by omega:b=0\/b=1\/b=2\/b=3\/b=4) with rfl|rfl|rfl|rfl|rfl
 .exact (sz rfl).elim
 .exact (sz rfl).elim
 .exact (sz rfl).elim
 .exact⟨rfl,sn.symm⟩
 .exact ct ix (by decide)
theorem aft {w:WT} (a:w.1=C0) {o:Int} (h:o=3\/o=4):¬(aI (T:=L6) w.1 o).2.2.1=0:=by
 rw[a];rcases h with rfl|rfl<;>decide
structure PE (n:Nat) (c:CT) (s:ST) (t:Int) (e:ET):Prop where
 fs:FSx c s
 t0:0<=t
 t1:t<(c.2.length:Int)
 et:e.1=t
 d:e.2.2.2.2.2.1.length<=n
 f:e.2.2.2.2.2.2.length<=n
 a:e.2.1=3\/e.2.1=23\/e.2.1=5->0<=(aI (T:=Bm) (aI (T:=vK) c.2 t).2 (aI (T:=uC) s.2.2.2 t).1).2.1/\(aI (T:=Bm) (aI (T:=vK) c.2 t).2 (aI (T:=uC) s.2.2.2 t).1).2.1<((aI (T:=uC) s.2.2.2 t).2.1.length:Int)
 b:e.2.1=4\/e.2.1=22->0<=(aI (T:=Bm) (aI (T:=vK) c.2 t).2 (aI (T:=uC) s.2.2.2 t).1).2.2.1/\(aI (T:=Bm) (aI (T:=vK) c.2 t).2 (aI (T:=uC) s.2.2.2 t).1).2.2.1<((aI (T:=uC) s.2.2.2 t).2.1.length:Int)
structure PS (c:CT) (L:List ET) (s:ST) (t:Int) (e:ET):Prop where
 tg:TG c L s.1 t (aI (T:=uC) s.2.2.2 t)
 s1:e.2.1=1\/e.2.1=2->e.2.2.2.2.1= -1
 s2:¬(e.2.1=1\/e.2.1=2)->0<=e.2.2.2.2.1/\e.2.2.2.2.1<c.1.2.2.2.2.2.length/\(aI (T:=xJ) c.1.2.2.2.2.2 e.2.2.2.2.1).1=t
 de:0<e.2.2.2.2.2.1.length->e.2.1=5\/(e.2.1=3\/e.2.1=4)/\¬(aI (T:=L6) c.1.1 e.2.2.1).2.2.1=0
 fr:0<e.2.2.2.2.2.2.length->e.2.1=4\/e.2.1=22
 da:He e.2.2.2.2.2.1
 dq:∀y∈e.2.2.2.2.2.1,FQ L t y
 fa:He e.2.2.2.2.2.2
 fq:∀y∈e.2.2.2.2.2.2,FQ L t y
 wt:e.2.1=16->(aI (T:=Bm) (aI (T:=vK) c.2 t).2 (aI (T:=uC) s.2.2.2 t).1).1=21
theorem Vu (n:Nat) (hn:n<=100000) (c:CT) (L:Y ET) (s:ST) (hc:CB c) (hs:SV n L s) (hI:KN c L s) (t:Int):Ok (nN (c,s,t)) λy=>y.2=J->PE n c s t y.1/\PS c L s t y.1:=by
 unfold nN aX bm bw bN du cW bf bA bH bO aV aE;refine aU (λx=>x.2.1=c/\x.2.2.1=s/\(x.1=af->FSx c s/\0<=t/\t<(c.2.length:Int))) ?_ ?_
 .refine aw (ae0 c s hc) λb hb=>?_
  refine ey (λ_=>aj ⟨rfl,rfl,λh=>(by cases h)⟩) λh=>?_
  refine bK (λ_=>aj ⟨rfl,rfl,λh=>(by cases h)⟩) λg0=>aj ⟨rfl,rfl,λg1=>?_⟩
  dsimp only at g0 g1;rw[mg]at g1;exact⟨hb h,g0,g1⟩
 rintro⟨b,c',s',z⟩ ⟨e1,e2,hb⟩;dsimp only at e1 e2 hb;subst e1;subst e2;refine aQ (λ_=>aj λh=>(by cases h)) λh=>?_
 obtain⟨hf,t0,t1⟩:=hb h;have hk:((t.toNat:Nat):Int)=t:=by omega
 have htf:=hf.t t.toNat (by omega);rw[hk]at htf;have hvt:=hf.vc.t _ (bM (T:=vK) (xs:=c'.2) (j:=t) t0 t1);have hth:=hs.ti t0 (by rw[hf.th];exact t1);have key:∀e:ET,e.1=t->e.2.2.2.2.2.1.length<=n->e.2.2.2.2.2.2.length<=n->(e.2.1=1\/e.2.1=17\/KD (aI (T:=Bm) (aI (T:=vK) c'.2 t).2 (aI (T:=uC) s'.2.2.2 t).1).1 e.2.1)->PE n c' s' t e:=by
  intro e h1 h2 h3 A;have hi:=hvt.i _ (bM (T:=Bm) (xs:=(aI (T:=vK) c'.2 t).2) (j:=(aI (T:=uC) s'.2.2.2 t).1) htf.p0 htf.p1);refine ⟨hf,t0,t1,h1,h2,h3,λh5=>?_,λh5=>?_⟩
  .rw[htf.r];rcases A with A|A|A
   .omega
   .omega
   .refine hi.r _ ?_;have a1:=A.ld;have a2:=A.ge;have a3:=A.br;revert a1 a2 a3 h5;generalize (aI (T:=Bm) (aI (T:=vK) c'.2 t).2 (aI (T:=uC) s'.2.2.2 t).1)=i;intro h5 a1 a2 a3;exact ag1 (by omega)
  .rw[htf.r];rcases A with A|A|A
   .omega
   .omega
   .refine hi.r _ ?_;have a1:=A.st;have a2:=A.se;revert a1 a2 h5;generalize (aI (T:=Bm) (aI (T:=vK) c'.2 t).2 (aI (T:=uC) s'.2.2.2 t).1)=i;intro h5 a1 a2;exact ag0 (by omega)
 have hir:=(hvt.i _ (bM (T:=Bm) (xs:=(aI (T:=vK) c'.2 t).2) (j:=(aI (T:=uC) s'.2.2.2 t).1) htf.p0 htf.p1)).r;rw[<- htf.r]at hir;have hrg:=hc.rg _ (bM (T:=vK) (xs:=c'.2) (j:=t) t0 t1);have htg:TG c' L s'.1 t (aI (T:=uC) s'.2.2.2 t):=by
  have:=hI.t t.toNat (by rw[hf.th];omega);rw[hk]at this;refine this.resolve_left λh=>?_
  have:=htf.r;omega
 have hvj:=hf.vc.j t.toNat (by omega);rw[hk]at hvj;have hvj:=hvj _ (bM (T:=Bm) (xs:=(aI (T:=vK) c'.2 t).2) (j:=(aI (T:=uC) s'.2.2.2 t).1) htf.p0 htf.p1);have hC0:=hc.wx.c;refine aO t0 (by dsimp only;rw[hf.th];exact t1) (aT ?_);refine aO t0 t1 (aT ?_);refine aO htf.p0 htf.p1 (aT ?_);have t4:t<(s'.1.2.2.2.length:Int):=by rw[hf.e3,<-hf.vc.tl];exact t1
 have tz:(aI (T:=uC) s'.2.2.2 t).2.2.1.length=(aI (T:=uC) s'.2.2.2 t).2.1.length:=by have:=htf.r;have:=htf.t;omega
 refine aO t0 t4 (aT ?_);refine aK (λ_=>aj λ_=>⟨key _ rfl (iD _) (iD _) (.inl rfl),⟨htg,λ_=>rfl,λh=>(h (.inl rfl)).elim,λh=>(by cases h),λh=>(by cases h),trivial,λy hy=>(by cases hy),trivial,λy hy=>(by cases hy),λh=>(by cases h)⟩⟩) λ_=>?_
 refine aK (λA=>aO t0 t4 (aT (aj λ_=>⟨key _ rfl (iD _) (iD _) (.inr (.inl rfl)),⟨htg,λh=>(by rcases h with h|h<;>cases h),λ_=>hvj.si (by rw[htg.wi (.inr A)];decide),λh=>(by cases h),λh=>(by cases h),trivial,λy hy=>(by cases hy),trivial,λy hy=>(by cases hy),λh=>(by cases h)⟩⟩))) λ_=>?_
 refine aK (λ_=>?_) λ_=>aj λh=>(by cases h)
 refine aw (adg _) λk q=>?_
 refine aw (P5 _ _ hir) λo ho=>?_
 refine aK (λ_=>aj λh=>(by cases h)) λU=>?_
 have fin:∀e:ET,e.1=t->e.2.1=k->e.2.2.1=o->e.2.2.2.2.1=(aI (T:=Bm) (aI (T:=vK) c'.2 t).2 (aI (T:=uC) s'.2.2.2 t).1).2.2.2.2.2->(0<e.2.2.2.2.2.1.length->(aI (T:=Bm) (aI (T:=vK) c'.2 t).2 (aI (T:=uC) s'.2.2.2 t).1).1=10\/(aI (T:=Bm) (aI (T:=vK) c'.2 t).2 (aI (T:=uC) s'.2.2.2 t).1).1=7\/(aI (T:=Bm) (aI (T:=vK) c'.2 t).2 (aI (T:=uC) s'.2.2.2 t).1).1=9)->(0<e.2.2.2.2.2.2.length->(aI (T:=Bm) (aI (T:=vK) c'.2 t).2 (aI (T:=uC) s'.2.2.2 t).1).1=8\/(aI (T:=Bm) (aI (T:=vK) c'.2 t).2 (aI (T:=uC) s'.2.2.2 t).1).1=9\/(aI (T:=Bm) (aI (T:=vK) c'.2 t).2 (aI (T:=uC) s'.2.2.2 t).1).1=26)->TL (FQ L t) n e.2.2.2.2.2.1->TL (FQ L t) n e.2.2.2.2.2.2->PE n c' s' t e/\PS c' L s' t e:=by
  intro e h1 h2 h3 A h5 h6 h7 h8;refine ⟨key e h1 h7.len h8.len (.inr (.inr (h2▸q))),htg,λh=>?_,λh=>?_,λh=>?_,λh=>?_,h7.a,h7.f,h8.a,h8.f,λh=>q.wt (h2▸h)⟩
  .rw[A];rw[h2]at h;exact hvj.se (q.e1 (h.resolve_left q.n1))
  .rw[A];rw[h2]at h;exact hvj.si λh9=>h (.inr (q.e2 U h9))
  .rw[h2,h3];rcases h5 h with g|g|g
   .exact .inl (q.d10 U g)
   .obtain⟨q1,q2⟩:=agn hC0 (hvj.a7 g);exact .inr ⟨.inl (q.d7 U g),aft hC0 (ho.1 g q1 q2)⟩
   .obtain⟨q1,q2⟩:=agn hC0 (hvj.a9 g);exact .inr ⟨.inr (q.d9 U g),aft hC0 (ho.2 g q1 q2)⟩
  .rw[h2];rcases h6 h with g|g|g
   .exact .inl (q.d8 U g)
   .exact .inl (q.d9 U g)
   .exact .inr (q.d26 U g)
 clear key htg hvj ho hC0 hrg;revert fin htf hvt hth hir tz q;dsimp only;generalize (aI (T:=uC) s'.2.2.2 t)=th;generalize (aI (T:=Bm) _ th.1)=i;intro htf hvt hth hir tz q fin;have hlen:∀{j:Int},0<=j->j<(th.2.2.1.length:Int)->TL (FQ L t) n (aI (T:=.sl (.int .i64)) th.2.2.1 j):=λh0 h1=>hth.l _ (bM (T:=.sl (.int .i64)) (xs:=th.2.2.1) h0 h1)
 have hA:i.1=10->0<=i.2.1/\i.2.1<(th.2.2.1.length:Int):=λh=>by
  rw[tz];exact hir _ (ag1 (.inr (.inr (.inr h))))
 have hB:i.1=8\/i.1=9\/i.1=26->0<=i.2.2.1/\i.2.2.1<(th.2.2.1.length:Int):=λh=>by
  rw[tz];exact hir _ (ag0 (h))
 have hC:i.1=7\/i.1=9->0<=i.2.2.2.1/\i.2.2.2.1<(th.2.2.1.length:Int):=λh=>by
  rw[tz];exact hir _ (akq (h))
 refine aU (λx=>x.2.1=th/\x.2.2.1=i/\(x.2.2.2.1.1=t/\x.2.2.2.1.2.1=k/\x.2.2.2.1.2.2.1=o/\x.2.2.2.1.2.2.2.2=i.2.2.2.2.2)/\TL (FQ L t) n x.2.2.2.2/\(0<x.2.2.2.2.length->i.1=10\/i.1=7\/i.1=9)) ?_ ?_
 .refine aK (λh=>?_) λ_=>?_
  .obtain⟨a0,a1⟩:=hA h;refine aO a0 a1 (aT ?_);have:=hlen a0 a1;exact bc (dv this.len (by omega)) (by omega) (aj ⟨rfl,rfl,⟨rfl,rfl,rfl,rfl⟩,this,λ_=>.inl h⟩)
  refine aU (λx=>x.2.2.1=th/\x.2.2.2.1=i/\(x.2.2.2.2.1=t/\x.2.2.2.2.2.1=k/\x.2.2.2.2.2.2.1=o/\x.2.2.2.2.2.2.2.2=i.2.2.2.2.2)/\(x.1=J->i.1=7\/i.1=9)) ?_ ?_
  .refine aK (λh=>aj ⟨rfl,rfl,⟨rfl,rfl,rfl,rfl⟩,λ_=>.inl h⟩) λ_=>aj ⟨rfl,rfl,⟨rfl,rfl,rfl,rfl⟩,λh=>.inr (be h)⟩
  rintro⟨b,z0,th',i',t',k',z1⟩ ⟨e1,e2,e3,Z⟩;dsimp only at e1 e2 e3 Z;subst e1;subst e2;refine aQ (λh=>?_) λ_=>aj ⟨rfl,rfl,e3,TL.nil n,λh=>(by cases h)⟩
  obtain⟨a0,a1⟩:=hC (Z h);refine aO a0 a1 (aT ?_);have:=hlen a0 a1;exact bc (dv this.len (by omega)) (by omega) (aj ⟨rfl,rfl,e3,this,λ_=>.inr (Z h)⟩)
 rintro⟨z0,th',i',⟨t',k',z1⟩,ds⟩ ⟨e1,e2,e3,hd,hd2⟩;dsimp only at e1 e2 e3 hd hd2;subst e1;subst e2;refine aU (λx=>(x.2.1.1=t/\x.2.1.2.1=k/\x.2.1.2.2.1=o/\x.2.1.2.2.2.2=i'.2.2.2.2.2)/\x.2.2.1=ds/\TL (FQ L t) n x.2.2.2/\(0<x.2.2.2.length->i'.1=8\/i'.1=9\/i'.1=26)) ?_ ?_
 .refine aU (λx=>x.2=(z0,th',i',(t',k',z1),ds)/\(x.1=J->i'.1=8\/i'.1=9\/i'.1=26)) ?_ ?_
  .exact aK (λh=>aj ⟨rfl,λ_=>.inl h⟩) λ_=>aK (λh=>aj ⟨rfl,λ_=>.inr (.inl h)⟩) λ_=>aj ⟨rfl,λh=>.inr (.inr (be h))⟩
  rintro⟨b,x⟩ ⟨e,Z⟩;dsimp only at e Z;subst e;refine aQ (λh=>?_) λ_=>aj ⟨e3,rfl,TL.nil n,λh=>(by cases h)⟩
  obtain⟨a0,a1⟩:=hB (Z h);refine aO a0 a1 (aT ?_);have:=hlen a0 a1;exact bc (dv this.len (by omega)) (by omega) (aj ⟨e3,rfl,this,λ_=>Z h⟩)
 rintro⟨z2,⟨t2,k2,o2,z3,si⟩,d2,f2⟩ ⟨e1,e2,h1,h2⟩;dsimp only at e1 e2 h1 h2;subst e2;obtain⟨g1,g2,g3,g4⟩:=e1;exact aj λ_=>fin _ g1 g2 g3 g4 hd2 h2 hd h1
theorem ahb {n:Nat} {k:Int} (h0:0<=k) (h1:k<n):(aI (T:=jF) (Xc n) k).1=0\/(aI (T:=jF) (Xc n) k).1=1:=by
 have hm:=bM (T:=jF) (xs:=Xc n) h0 (by rw[Hm];exact h1);revert hm;generalize aI (T:=jF) (Xc n) k=z;intro hm;cases n with
 |zero=>cases hm
 |succ n=>
  rcases bh.1 hm with rfl|hm
  .exact .inr rfl
  .rw[pB hm];exact .inl rfl
theorem Vq (c:CT) (hvt:jJ c=M J) (hv:VC c):Ok (t7 c) λs=>SV 0 [] s/\KN c [] s:=by
 unfold t7 aX bm bw cC bN du cW fw bA wS bH bO aV cR aE cH;refine aS hvt (ey (λh=>(by cases h)) λ_=>?_);obtain⟨vc,vl,vd,vf,_,vt,_⟩:=id hv.vl;have htl:=hv.tl;refine aS (Ks c.1 hv.vl) ?_;refine cf c.1.1.length (λi x=>x.1=(i:Int)/\x.2.1=c/\x.2.2.2.1=Pf c.1/\x.2.2.2.2=(c.1.1.take i).map λc=>c.2.2.2.2) ?_ ?_ ⟨rfl,rfl,rfl,rfl⟩
 .rintro i ⟨a,c',z,Z,l⟩ hi ⟨e1,e2,e3,A⟩;dsimp only at e1 e2 e3 A;subst e1;subst e2;subst e3;subst A;refine dz ?_;refine cI (aT (bc (by simp;omega) (by omega) (aj ?_)));dsimp only;exact⟨gU (by omega),rfl,rfl,by rw[ol (T:=L6) hi,cQ];rfl⟩
 rintro⟨a,c',z,Z,l⟩ ⟨e1,e2,e3,A⟩;dsimp only at e1 e2 e3 A;subst e1;subst e2;subst e3;rw[cO]at A;subst A;refine dt ?_;refine aw (P:=λs=>SV 0 [] s/\KN c' [] s) ?_ λr hr=>aj hr
 refine cf c'.1.2.2.2.1.length (λi x=>x.1=(i:Int)/\x.2.1=c'/\x.2.2.2.1=Pf c'.1/\x.2.2.2.2.1=ce0 c'.1/\x.2.2.2.2.2=aB i 0) ?_ ?_ ⟨rfl,rfl,rfl,rfl,rfl⟩
 .rintro i ⟨a,c,z,y,l,f⟩ hi ⟨e1,e2,e3,A,L⟩;dsimp only at e1 e2 e3 A L;subst e1;subst e2;subst e3;subst L;refine dz ?_;refine bc (by simp;omega) (by omega) (aj ?_);dsimp only;exact⟨gU (by omega),rfl,rfl,A,by rw[DS]⟩
 rintro⟨a,c,z,y,l,f⟩ ⟨e1,e2,e3,A,L⟩;dsimp only at e1 e2 e3 A L;subst e1;subst e2;subst e3;subst A;subst L;refine dt ?_;refine aw (P:=λs=>SV 0 [] s/\KN c [] s) ?_ λr hr=>aj hr
 refine cf c.2.length (λi x=>x.1=(i:Int)/\x.2.1=c/\x.2.2.2.1=Pf c.1/\x.2.2.2.2.1=ce0 c.1/\x.2.2.2.2.2.1=fu0 c.1/\x.2.2.2.2.2.2.length=i/\∀t∈x.2.2.2.2.2.2,(∀F,TH F 0 t)/\t.2.2.2=0) ?_ ?_ ⟨rfl,rfl,rfl,rfl,rfl,rfl,λt ht=>(by cases ht)⟩
 .rintro i ⟨a,c,z,y,l,f,th⟩ hi ⟨e1,e2,e3,A,e4b,L,U⟩;dsimp only at e1 e2 e3 A e4b L U;subst e1;subst e2;subst e3;refine dz ?_;have hin:((i:Nat):Int)<(c.2.length:Int):=by omega
  have hvt:=hv.t _ (bM (T:=vK) (xs:=c.2) (j:=(i:Int)) (by omega) hin);have q0:=hvt.r0;have q1:=hvt.r1;refine aO (by dsimp only;omega) hin (aT ?_);refine cV (cV (dx q0 (dx (dj _) (bc (by dsimp only;omega) (by omega) ?_))));refine aO (by dsimp only;omega) hin (aT ?_);refine cV (cV (dx q0 (dx (dj _) (bc (by dsimp only;omega) (by omega) ?_))));refine bc (by simp;omega) (by omega) (aj ?_);dsimp only;refine ⟨gU (by omega),rfl,rfl,A,e4b,by simp;omega,λt ht=>?_⟩;rcases bQ.1 ht with h|h
  .exact U t h
  .rw[aJ]at h;subst h;refine ⟨λF=>⟨?_,?_,λl hl=>?_,dj _,dj _⟩,rfl⟩
   .dsimp only;rw[bY];omega
   .dsimp only;rw[bY];omega
   .rw[pB hl];exact TL.nil 0
 .rintro⟨a,c,z,y,l,f,th⟩ ⟨e1,e2,e3,A,e4b,L,U⟩;dsimp only at e1 e2 e3 A e4b L U;subst e1;subst e2;subst e3;subst A;subst e4b;refine dt (aj ?_);have hm:∀k:Nat,k<th.length->_:=λk hk=>U _ (bM (T:=uC) (xs:=th) (j:=(k:Int)) (by omega) (by omega))
  refine ⟨⟨Tr hv.vl,rfl,λk hk=>(hm k hk).1 _⟩,⟨.nil,λk hk=>.inr ?_⟩⟩;dsimp only at hk;have hst:=ahb (n:=c.1.2.2.2.2.1.length) (k:=(k:Int)) (by omega) (by omega);exact⟨(hm k hk).2,λh=>(by rcases hst with q|q<;>rcases h with h|h<;>exact ct (q.symm.trans h) (by decide)),λ_=>hst⟩
theorem HX {th:Y (Int×Int×Bool)} {t x j:Int} (h0:0<=t) (h1:t<th.length) (hj:0<=j):(aI (T:=jF) (xK th t x) j).1=if j=t then x else (aI (T:=jF) th j).1:=by
 unfold xK;rw[rF (T:=jF) _ _ _ _ h0 h1 hj];split<;>rfl
theorem agf {th:Y (Int×Int×Bool)} {t x j:Int} (h0:0<=t) (h1:t<th.length) (hj:0<=j):(aI (T:=jF) (cdP th t x) j).1=(aI (T:=jF) th j).1:=by
 unfold cdP;rw[rF (T:=jF) _ _ _ _ h0 h1 hj];split
 .rename_i h;rw[h]
 .rfl
theorem agm {th:Y (Int×Int×Bool)} {t j:Int} {x:Bool} (h0:0<=t) (h1:t<th.length) (hj:0<=j):(aI (T:=jF) (atP th t x) j).1=(aI (T:=jF) th j).1:=by
 unfold atP;rw[rF (T:=jF) _ _ _ _ h0 h1 hj];split
 .rename_i h;rw[h]
 .rfl
theorem ag5 {j:Int} (hj:0<=j):∀(l:η) (th:Y (Int×Int×Bool)),(∀u:Int,u∈l->0<=u/\u<th.length)->(aI (T:=jF) (Cw th l) j).1=if j∈l then 4 else (aI (T:=jF) th j).1
 |[],th,_=>by simp[Cw]
 |x::r,th,h=>by
  have a:=h x (c4 ..);have c:=ag5 hj r (xK th x 4) λu hu=>by unfold xK;rw[bT];exact h u (cE _ hu)
  have e:Cw th (x::r)=Cw (xK th x 4) r:=rfl;rw[e,c,HX a.1 a.2 hj];by_cases h1:j∈r
  .rw[aC h1,aC (cE _ h1)]
  .rw[ay h1];by_cases h2:j=x
   .rw[aC h2,aC (by rw[h2];exact c4 ..)]
   .rw[ay h2,ay λh=>(bh.1 h).elim h2 h1]
theorem HG {l:η} (u:Int) (hl:¬l.length=0):Bc l u∈l:=by
 unfold Bc;rw[ay hl];split
 .rename_i h;exact sU.1 h
 .exact bM (T:=.int .i64) (by omega) (by omega)
theorem Sd {w:WT} {s:SY} {t k o u v:Int} {sy:SY} (h:(sy,v)=qW w s t k o u):qW w s t k o v=(sy,v):=by
 by_cases hk:k=18
 .subst hk;rw[E9]at h ⊢;by_cases hl:(wl s.2.2.2 o s.2.2.2.length).length=0
  .rw[aC hl]at h ⊢;exact h.symm
  .rw[ay hl]at h ⊢;have hm:=HG u hl;generalize wl s.2.2.2 o s.2.2.2.length=l at h hl hm ⊢;obtain⟨rfl,rfl⟩:=Prod.mk.inj h;have:Bc l (Bc l u)=Bc l u:=by
    rw[Bc,ay hl,aC (sU.2 hm)]
   rw[this]
 .rw[WS _ _ _ _ _ _ u hk,<-h]
theorem ai6 {w:WT} {s:SY} {t k o:Int} (u:Int) (he:EN w s t k o) (hr:Vt w s t k o) {j:Int} (h0:0<=j):(¬j=t->(aI (T:=jF) (qW w s t k o u).1.2.2.2 j).1=(aI (T:=jF) s.2.2.2 j).1\/((aI (T:=jF) s.2.2.2 j).1=3/\(aI (T:=jF) (qW w s t k o u).1.2.2.2 j).1=4)\/((aI (T:=jF) s.2.2.2 j).1=0/\(aI (T:=jF) (qW w s t k o u).1.2.2.2 j).1=1))/\(j=t->¬k=16->¬(aI (T:=jF) (qW w s t k o u).1.2.2.2 j).1=3/\¬(aI (T:=jF) (qW w s t k o u).1.2.2.2 j).1=4):=by
 have t0:=he.t0;have t1:t<s.2.2.2.length:=by have:=he.t1;have:=he.e3;omega
 have A:=hr.r;have hml:∀u:Int,u∈wl s.2.2.2 o s.2.2.2.length->0<=u/\u<s.2.2.2.length:=λu hu=>⟨(rc.1 hu).1,(rc.1 hu).2.1⟩
 have h3:∀u:Int,u∈wl s.2.2.2 o s.2.2.2.length->(aI (T:=jF) s.2.2.2 u).1=3:=λu hu=>by
  have:=(rc.1 hu).2.2;unfold HO at this;rw[al]at this;exact be this.1
 have same:¬k=1->¬k=17->∀th:Y (Int×Int×Bool),(aI (T:=jF) th j).1=(aI (T:=jF) s.2.2.2 j).1->(¬j=t->(aI (T:=jF) th j).1=(aI (T:=jF) s.2.2.2 j).1\/((aI (T:=jF) s.2.2.2 j).1=3/\(aI (T:=jF) th j).1=4)\/((aI (T:=jF) s.2.2.2 j).1=0/\(aI (T:=jF) th j).1=1))/\(j=t->¬k=16->¬(aI (T:=jF) th j).1=3/\¬(aI (T:=jF) th j).1=4):=λa b th h=>⟨λ_=>.inl h,λh2 _=>by rw[h,h2,A a b];decide⟩
 have st:∀x:Int,¬x=3\/k=16->¬x=4->∀th:Y (Int×Int×Bool),(aI (T:=jF) th j).1=(if j=t then x else (aI (T:=jF) s.2.2.2 j).1)->(¬j=t->(aI (T:=jF) th j).1=(aI (T:=jF) s.2.2.2 j).1\/((aI (T:=jF) s.2.2.2 j).1=3/\(aI (T:=jF) th j).1=4)\/((aI (T:=jF) s.2.2.2 j).1=0/\(aI (T:=jF) th j).1=1))/\(j=t->¬k=16->¬(aI (T:=jF) th j).1=3/\¬(aI (T:=jF) th j).1=4):=λx hx hx4 th h=>⟨λhn=>.inl (by rw[h,ay hn]),λh2 h16=>by rw[h,aC h2];exact⟨hx.resolve_right h16,hx4⟩⟩
 have L:∀x:Int,t<(xK s.2.2.2 t x).length:=λx=>by unfold xK;rw[bT];exact t1
 by_cases k1:k=1
 .subst k1;exact st 2 (.inl (by decide)) (by decide) _ (HX t0 t1 h0)
 by_cases k2:k=2
 .subst k2;exact st 5 (.inl (by decide)) (by decide) _ (HX t0 t1 h0)
 by_cases k16:k=16
 .subst k16;exact st 3 (.inr rfl) (by decide) _ ((agf t0 (L _) h0).trans (HX t0 t1 h0))
 by_cases q:k=17
 .subst q;exact st 2 (.inl (by decide)) (by decide) _ ((agf t0 (L _) h0).trans (HX t0 t1 h0))
 by_cases k14:k=14
 .subst k14;exact same k1 q _ (agm t0 t1 h0)
 by_cases k15:k=15
 .subst k15;exact same k1 q _ (agm t0 t1 h0)
 by_cases k18:k=18
 .subst k18;rw[E9];by_cases hl:(wl s.2.2.2 o s.2.2.2.length).length=0
  .rw[aC hl];exact same k1 q _ rfl
  .rw[ay hl];have hc:=HG u hl;have U:=hml _ hc;have z:=h3 _ hc;dsimp only;rw[HX U.1 U.2 h0];generalize Bc (wl s.2.2.2 o s.2.2.2.length) u=c at z;by_cases hj:j=c
   .rw[aC hj,hj];exact⟨λ_=>.inr (.inl ⟨z,rfl⟩),λh _=>by rw[h,A k1 q]at z;exact ct z (by decide)⟩
   .rw[ay hj];exact⟨λ_=>.inl rfl,λh _=>by rw[h,A k1 q];decide⟩
 by_cases k19:k=19
 .subst k19;show (_->(aI (T:=jF) (Cw _ _) j).1=_\/_/\(aI (T:=jF) (Cw _ _) j).1=_\/_/\(aI (T:=jF) (Cw _ _) j).1=_)/\(_->_->¬(aI (T:=jF) (Cw _ _) j).1=_/\¬(aI (T:=jF) (Cw _ _) j).1=_)
  rw[ag5 h0 _ _ hml];by_cases hj:j∈wl s.2.2.2 o s.2.2.2.length
  .rw[aC hj];have z:=h3 _ hj;exact⟨λ_=>.inr (.inl ⟨z,rfl⟩),λh _=>by rw[h,A k1 q]at z;exact ct z (by decide)⟩
  .rw[ay hj];exact⟨λ_=>.inl rfl,λh _=>by rw[h,A k1 q];decide⟩
 by_cases k20:k=20
 .subst k20;obtain⟨o0,o1⟩:=he.nm.th (.inl rfl);obtain⟨hot,ho0⟩:=hr.sp rfl;have Z:o<s.2.2.2.length:=by rw[he.e3];exact o1
  show (_->(aI (T:=jF) (xK _ _ _) j).1=_\/_/\(aI (T:=jF) (xK _ _ _) j).1=_\/_/\(aI (T:=jF) (xK _ _ _) j).1=_)/\(_->_->¬(aI (T:=jF) (xK _ _ _) j).1=_/\¬(aI (T:=jF) (xK _ _ _) j).1=_)
  rw[HX o0 Z h0];by_cases hj:j=o
  .rw[aC hj,hj];exact⟨λ_=>.inr (.inr ⟨ho0,rfl⟩),λh _=>(hot h).elim⟩
  .rw[ay hj];exact⟨λ_=>.inl rfl,λh _=>by rw[h,A k1 q];decide⟩
 refine same k1 q _ ?_;unfold qW;rw[ay k1,ay k2];repeat' split
 all_goals first|rfl|omega
theorem adz {e e':ET} (h1:e'.1=e.1) (h2:e'.2.1=e.2.1) (t:Int):fl [e'] t=fl [e] t:=by
 by_cases h:e.1=t
 .rw[zd h,zd (h1.trans h)];unfold s_;rw[h2]
 .rw[wq h,wq (λg=>h (h1.symm.trans g))]
theorem afl {L:Y ET} {e e':ET} (h1:e'.1=e.1) (h2:e'.2.1=e.2.1) {k y:Int} (h:FQ (L++[e]) k y):FQ (L++[e']) k y:=by
 unfold FQ KA at h ⊢;rw[ur,adz h1 h2,<-ur];exact h
theorem I1 {T:Ty} (xs:Y T.den) (i k:Nat) (x:T.den) (hi:i<xs.length):aI (xs.set i x) (k:Int)=if k=i then x else aI xs (k:Int):=by
 refine (rF xs (i:Int) (k:Int) x (by omega) (by omega) (by omega)).trans ?_;by_cases h:k=i
 .rw[aC h,aC (by omega)]
 .rw[ay h,ay (by omega)]
def SQ (n:Nat) (c:CT) (L:Y ET) (y:ST×ET×Bool):Prop:=y.2.2=J->SV (n+1) (L++[y.2.1]) y.1/\KN c (L++[y.2.1]) y.1/\EvF c.1 y.2.1/\YL y.2.1
theorem af1 {n:Nat} (hn:n+1<=100000) {c:CT} {L:Y ET} {s:ST} {i:Nat} {kd o v0 si:Int} {ds fs:η} {sy:SY} (hs:SV n L s) (hI:KN c L s) (hp:PE n c s (i:Int) ((i:Int),kd,o,v0,si,ds,fs)) (hm:PS c L s (i:Int) ((i:Int),kd,o,v0,si,ds,fs)) (he:EN c.1 s.1 (i:Int) kd o) (hr:Vt c.1 s.1 (i:Int) kd o) (ha:AP n s.1 sy) (a:Int) (ce fu:η) (t':TT) (hap:(qW c.1 s.1 (i:Int) kd o a).1=sy) (hva:VA c.1 s.1 s.2.1 s.2.2.1 (i:Int) kd o a) (hce:ce=Yd s.2.1 ((i:Int),kd,o,a,si,ds,fs)) (hfu:fu=Y1 s.2.2.1 ((i:Int),kd,o,a,si,ds,fs)) (ht:TH (FQ (L++[((i:Int),kd,o,v0,si,ds,fs)]) (i:Int)) (n+1) t') (hg:t'.2.1.length=0\/t'.2.2.2=bl .i64 ((aI (T:=uC) s.2.2.2 (i:Int)).2.2.2+1)/\(kd=16->t'.1=(aI (T:=uC) s.2.2.2 (i:Int)).1)):SQ n c L ((sy,ce,fu,s.2.2.2.set i t'),((i:Int),kd,o,a,si,ds,fs),J):=by
 intro _;have q1:=hp.t1;have q2:=hp.fs.th;have q3:=hp.fs.e3;have q4:=hp.fs.vc.tl;have hil:i<s.2.2.2.length:=by omega
 have hln:=hs.ln;refine ⟨⟨ha.toSB hs.sb hn,by simp[hln],λk hk=>?_⟩,⟨?_,λk hk=>?_⟩,⟨he.nm,he.t0,he.t1,he.cd⟩,⟨dv hp.d (by omega),dv hp.f (by omega)⟩⟩
 .dsimp only at hk ⊢;rw[ia]at hk;rw[I1 (T:=uC) _ _ _ _ hil];split
  .rename_i h;subst h;exact ht.mono (bU _) λy q=>afl (e:=((k:Int),kd,o,v0,si,ds,fs)) (e':=((k:Int),kd,o,a,si,ds,fs)) rfl rfl q
  .exact (hs.t k hk).mono (by omega) λy q=>⟨q.1,q.2.app _⟩
 .rw[<- hap,hce,hfu];exact hI.ac.snoc (e:=((i:Int),kd,o,a,si,ds,fs)) ⟨he,hr,hm.s1,hm.s2,hm.de,hm.fr,⟨hm.da,λx A=>⟨(hm.dq x A).1,(hm.dq x A).2.lt⟩⟩,⟨hm.fa,λx A=>⟨(hm.fq x A).1,(hm.fq x A).2.lt⟩⟩,λy q=>(hm.dq y q).2,λy q=>(hm.fq y q).2,hva⟩
 .dsimp only at hk ⊢;rw[ia]at hk;rw[I1 (T:=uC) _ _ _ _ hil];obtain⟨HY,Zg⟩:=ai6 a he hr (j:=(k:Int)) (by omega);rw[hap]at HY Zg;have hfl:=Wo L (i:Int);split
  .rename_i h;subst h;rcases hg with hg|⟨g1,g2⟩
   .exact .inl hg
   .refine .inr ⟨?_,λZ=>?_,λz=>?_⟩
    .rw[g1,hm.tg.ev,ur,zd rfl,gU (by omega)];simp
    .have U:kd=16:=vm λh=>Z.elim (Zg rfl h).1 (Zg rfl h).2
     rw[g2 U];exact hm.wt U
    .rw[ur,zd rfl]at z;simp at z
  .rename_i h;have hki:¬(k:Int)=(i:Int):=by omega
   have hfo:∀e:ET,e.1=(i:Int)->fl (L++[e]) (k:Int)=fl L (k:Int):=λe h=>by
    rw[ur,wq (by rw[h];exact λh=>hki h.symm),mb]
   have HY:=HY hki;refine (hI.t k hk).imp id λg=>⟨by rw[hfo _ rfl];exact g.ev,λZ=>g.wi (by
    rcases HY with h1|⟨h1,_⟩|⟨_,h1⟩
    .rw[<- h1];exact Z
    .exact .inl h1
    .exact Z.elim (λh=>ct (h1.symm.trans h) (by decide)) λh=>ct (h1.symm.trans h) (by decide)),λz=>?_⟩
   rw[hfo _ rfl]at z;have g2:=g.nw z;rcases HY with h1|⟨h1,_⟩|⟨_,h1⟩
   .rw[h1];exact g2
   .exact (g2.elim (λh=>ct (h1.symm.trans h) (by decide)) λh=>ct (h1.symm.trans h) (by decide))
   .exact .inr h1
theorem kD {α R:Type} (o:I α):av o (λ_=>(D:I R))=D:=by cases o<;>rfl
theorem oP {R:Type} (b:Bool):chk b (λ_=>(D:I R))=D:=by cases b<;>rfl
theorem rU {α R:Type} (x:α):lt x (λ_=>(D:I R))=D:=rfl
def Pn {R:Type} (o:I R) (Q:R->Prop):Prop:=o=D\/Ok o Q
theorem Pn.or {R:Type} {a b:I R} {Q:R->Prop} (c:Pn a Q) (hb:Pn b Q):Pn (orE a b) Q:=by
 rcases c with rfl|⟨y,rfl,h⟩
 .exact hb
 .exact .inr ⟨y,rfl,h⟩
theorem Ok.orL {R:Type} {a b:I R} {Q:R->Prop} (c:Ok a Q):Ok (orE a b) Q:=by
 obtain⟨y,rfl,h⟩:=c;exact⟨y,rfl,h⟩
theorem Pn.orR {R:Type} {a b:I R} {Q:R->Prop} (c:Pn a Q) (hb:Ok b Q):Ok (orE a b) Q:=by
 rcases c with rfl|⟨y,rfl,h⟩
 .exact hb
 .exact⟨y,rfl,h⟩
theorem HW {n:Nat} (hn:n+1<=100000) {c:CT} {L:Y ET} {s:ST} {t u:Int} (hc:CB c) (hs:SV n L s) (U:KN c L s) (G:I (ST×ET×Bool)->Prop) (Z:∀y,SQ n c L y->G (M y)) (k:ET×Bool->SY×Int×Bool->I (ST×ET×Bool))
 (hk:∀e v sy,PE n c s t e->PS c L s t e->EN c.1 s.1 t e.2.1 e.2.2.1->Vt c.1 s.1 t e.2.1 e.2.2.1->AP n s.1 sy->(sy,v)=qW c.1 s.1 t e.2.1 e.2.2.1 u->G (k (e,J) (sy,v,J))):
 G (av (nN (c,s,t)) λq=>aG (!q.2) (M ((([],0,[],[]),[],[],[]),(0,0,0,0,0,[],[]),af)) (av (pj (c.1,s.1,t,q.1.2.1,q.1.2.2.1,u)) λz=>aG (!z.2.2) (M ((([],0,[],[]),[],[],[]),(0,0,0,0,0,[],[]),af)) (k q z))):=by
 have A:=Z ((([],0,[],[]),[],[],[]),(0,0,0,0,0,[],[]),af) λh=>(by cases h)
 obtain⟨⟨e,b⟩,h1,h2⟩:=Vu n (by omega) c L s hc hs U t;rw[h1,V_];cases b with
 |false=>exact A
 |true=>
  obtain⟨hp,hm⟩:=h2 rfl;have hcd:c.1.2.2.1.length<=1000:=by have:=hp.fs.vc.vl.d;omega
  obtain⟨⟨sy,v,b⟩,h3,h4,_,_⟩:=S7 c.1 s.1 hs.sb hcd t e.2.1 e.2.2.1 u;have e0:∀{R:Type} (a b:I R),aG (!J) a b=b:=λ_ _=>rfl
  rw[e0,h3,V_];cases b with
  |false=>exact A
  |true=>
   obtain⟨g1,g2,g3,g4⟩:=h4 rfl;exact hk e v sy hp hm g1 g2 g3 g4
theorem YV {E:Nat} {L:Y ET} (sy:SY) (ce fu:η) (a:TT) (h:SV E L (sy,ce,fu,[a])) (hce:ce.length<=1000) (hfu:fu.length<=1000):nk (sy,ce,fu,[a])=M ((sy.2.1,sy.1,sy.2.2.1,sy.2.2.2).1,(sy.2.1,sy.1,sy.2.2.1,sy.2.2.2).2.1,(sy.2.1,sy.1,sy.2.2.1,sy.2.2.2).2.2.1,(sy.2.1,sy.1,sy.2.2.1,sy.2.2.2).2.2.2,(([]:η)++ce),(([]:η)++fu),((a.1,a.2.2.2),a.2.1,a.2.2.1)):=by
 have q:=h.sb.n1;have c:TH (FQ L 0) E a:=h.t 0 (by simp);refine cG ?_;unfold nk aX bN bA bH bO aV;refine aS (qL sy h.sb) ?_;refine bc (by simp;omega) (by omega) (bc (by simp;omega) (by omega) ?_);refine fP rfl (bd rfl (aT (aS (c9 a E q c) ?_)));exact fA rfl (aj rfl)
theorem S4 (sy:SY) (ce fu:η) (l:Y TT) (h0:l.length<=4) (h:l.length≠1):nk (sy,ce,fu,l)=D:=by
 unfold nk aX bN bA bH bO aV;rcases l with _|⟨a,_|⟨b,_|⟨c,_|⟨d,_|⟨e,l⟩⟩⟩⟩⟩;all_goals first|(simp at h;done)|(exfalso;simp only[bX]at h0;omega)|simp[fK,kD,oP,rU,bcT,bcF]
theorem YU {E:Nat} {L:Y ET} (sy:SY) (ce fu:η) (a b:TT) (h:SV E L (sy,ce,fu,[a,b])) (hce:ce.length<=1000) (hfu:fu.length<=1000):nj (sy,ce,fu,[a,b])=M ((sy.2.1,sy.1,sy.2.2.1,sy.2.2.2).1,(sy.2.1,sy.1,sy.2.2.1,sy.2.2.2).2.1,(sy.2.1,sy.1,sy.2.2.1,sy.2.2.2).2.2.1,(sy.2.1,sy.1,sy.2.2.1,sy.2.2.2).2.2.2,(([]:η)++ce),(([]:η)++fu),(((a.1,a.2.2.2),a.2.1,a.2.2.1).1.1,((a.1,a.2.2.2),a.2.1,a.2.2.1).1.2,((b.1,b.2.2.2),b.2.1,b.2.2.1).1.1,((b.1,b.2.2.2),b.2.1,b.2.2.1).2.1,((b.1,b.2.2.2),b.2.1,b.2.2.1).2.2,((b.1,b.2.2.2),b.2.1,b.2.2.1).1.2),((a.1,a.2.2.2),a.2.1,a.2.2.1).2):=by
 have c:=h.sb.n1;have q:TH (FQ L 0) E a:=h.t 0 (by simp);have hb:TH (FQ L 1) E b:=h.t 1 (by simp);refine cG ?_;unfold nj aX bN bA bH bO aV;refine aS (qL sy h.sb) ?_;refine bc (by simp;omega) (by omega) (bc (by simp;omega) (by omega) ?_);refine fP rfl (bd rfl (aT (aS (c9 a E c q) ?_)));refine fP rfl (bd rfl (aT (aS (c9 b E c hb) ?_)));exact fA rfl (aj rfl)
theorem S1 (sy:SY) (ce fu:η) (l:Y TT) (h0:l.length<=4) (h:l.length≠2):nj (sy,ce,fu,l)=D:=by
 unfold nj aX bN bA bH bO aV;rcases l with _|⟨a,_|⟨b,_|⟨c,_|⟨d,_|⟨e,l⟩⟩⟩⟩⟩;all_goals first|(simp at h;done)|(exfalso;simp only[bX]at h0;omega)|simp[fK,kD,oP,rU,bcT,bcF]
theorem YT {E:Nat} {L:Y ET} (sy:SY) (ce fu:η) (a b:TT) (h:SV E L (sy,ce,fu,[a,b])) (hce:ce.length<=1000) (hfu:fu.length<=1000):nh (sy,ce,fu,[a,b])=M ((sy.2.1,sy.1,sy.2.2.1,sy.2.2.2).1,(sy.2.1,sy.1,sy.2.2.1,sy.2.2.2).2.1,(sy.2.1,sy.1,sy.2.2.1,sy.2.2.2).2.2.1,(sy.2.1,sy.1,sy.2.2.1,sy.2.2.2).2.2.2,(([]:η)++ce),(([]:η)++fu),((((a.1,a.2.2.2),a.2.1,a.2.2.1).1.1,((a.1,a.2.2.2),a.2.1,a.2.2.1).2.1,((a.1,a.2.2.2),a.2.1,a.2.2.1).2.2,((a.1,a.2.2.2),a.2.1,a.2.2.1).1.2),((b.1,b.2.2.2),b.2.1,b.2.2.1).1),((b.1,b.2.2.2),b.2.1,b.2.2.1).2):=by
 have c:=h.sb.n1;have q:TH (FQ L 0) E a:=h.t 0 (by simp);have hb:TH (FQ L 1) E b:=h.t 1 (by simp);refine cG ?_;unfold nh aX bN bA bH bO aV;refine aS (qL sy h.sb) ?_;refine bc (by simp;omega) (by omega) (bc (by simp;omega) (by omega) ?_);refine fP rfl (bd rfl (aT (aS (c9 a E c q) ?_)));refine fP rfl (bd rfl (aT (aS (c9 b E c hb) ?_)));exact fA rfl (aj rfl)
theorem S0 (sy:SY) (ce fu:η) (l:Y TT) (h0:l.length<=4) (h:l.length≠2):nh (sy,ce,fu,l)=D:=by
 unfold nh aX bN bA bH bO aV;rcases l with _|⟨a,_|⟨b,_|⟨c,_|⟨d,_|⟨e,l⟩⟩⟩⟩⟩;all_goals first|(simp at h;done)|(exfalso;simp only[bX]at h0;omega)|simp[fK,kD,oP,rU,bcT,bcF]
theorem YS {E:Nat} {L:Y ET} (sy:SY) (ce fu:η) (a b c:TT) (h:SV E L (sy,ce,fu,[a,b,c])) (hce:ce.length<=1000) (hfu:fu.length<=1000):ng (sy,ce,fu,[a,b,c])=M ((sy.2.1,sy.1,sy.2.2.1,sy.2.2.2).1,(sy.2.1,sy.1,sy.2.2.1,sy.2.2.2).2.1,(sy.2.1,sy.1,sy.2.2.1,sy.2.2.2).2.2.1,(sy.2.1,sy.1,sy.2.2.1,sy.2.2.2).2.2.2,(([]:η)++ce),(([]:η)++fu),(((a.1,a.2.2.2),a.2.1,a.2.2.1).1.1,((a.1,a.2.2.2),a.2.1,a.2.2.1).1.2,(((b.1,b.2.2.2),b.2.1,b.2.2.1).1.1,((b.1,b.2.2.2),b.2.1,b.2.2.1).2.1,((b.1,b.2.2.2),b.2.1,b.2.2.1).2.2,((b.1,b.2.2.2),b.2.1,b.2.2.1).1.2),((c.1,c.2.2.2),c.2.1,c.2.2.1).1.1,((c.1,c.2.2.2),c.2.1,c.2.2.1).2.1,((c.1,c.2.2.2),c.2.1,c.2.2.1).2.2,((c.1,c.2.2.2),c.2.1,c.2.2.1).1.2),((a.1,a.2.2.2),a.2.1,a.2.2.1).2):=by
 have q:=h.sb.n1;have s:TH (FQ L 0) E a:=h.t 0 (by simp);have hb:TH (FQ L 1) E b:=h.t 1 (by simp);have hc:TH (FQ L 2) E c:=h.t 2 (by simp);refine cG ?_;unfold ng aX bN bA bH bO aV;refine aS (qL sy h.sb) ?_;refine bc (by simp;omega) (by omega) (bc (by simp;omega) (by omega) ?_);refine fP rfl (bd rfl (aT (aS (c9 a E q s) ?_)));refine fP rfl (bd rfl (aT (aS (c9 b E q hb) ?_)));refine fP rfl (bd rfl (aT (aS (c9 c E q hc) ?_)));exact fA rfl (aj rfl)
theorem SX (sy:SY) (ce fu:η) (l:Y TT) (h0:l.length<=4) (h:l.length≠3):ng (sy,ce,fu,l)=D:=by
 unfold ng aX bN bA bH bO aV;rcases l with _|⟨a,_|⟨b,_|⟨c,_|⟨d,_|⟨e,l⟩⟩⟩⟩⟩;all_goals first|(simp at h;done)|(exfalso;simp only[bX]at h0;omega)|simp[fK,kD,oP,rU,bcT,bcF]
theorem YR {E:Nat} {L:Y ET} (sy:SY) (ce fu:η) (a b c:TT) (h:SV E L (sy,ce,fu,[a,b,c])) (hce:ce.length<=1000) (hfu:fu.length<=1000):ne (sy,ce,fu,[a,b,c])=M ((sy.2.1,sy.1,sy.2.2.1,sy.2.2.2).1,(sy.2.1,sy.1,sy.2.2.1,sy.2.2.2).2.1,(sy.2.1,sy.1,sy.2.2.1,sy.2.2.2).2.2.1,(sy.2.1,sy.1,sy.2.2.1,sy.2.2.2).2.2.2,(([]:η)++ce),(([]:η)++fu),((((a.1,a.2.2.2),a.2.1,a.2.2.1).1.1,((a.1,a.2.2.2),a.2.1,a.2.2.1).2.1,((a.1,a.2.2.2),a.2.1,a.2.2.1).2.2,((a.1,a.2.2.2),a.2.1,a.2.2.1).1.2),((b.1,b.2.2.2),b.2.1,b.2.2.1).1.1,((b.1,b.2.2.2),b.2.1,b.2.2.1).1.2,((c.1,c.2.2.2),c.2.1,c.2.2.1).1.1,((c.1,c.2.2.2),c.2.1,c.2.2.1).2.1,((c.1,c.2.2.2),c.2.1,c.2.2.1).2.2,((c.1,c.2.2.2),c.2.1,c.2.2.1).1.2),((b.1,b.2.2.2),b.2.1,b.2.2.1).2):=by
 have q:=h.sb.n1;have s:TH (FQ L 0) E a:=h.t 0 (by simp);have hb:TH (FQ L 1) E b:=h.t 1 (by simp);have hc:TH (FQ L 2) E c:=h.t 2 (by simp);refine cG ?_;unfold ne aX bN bA bH bO aV;refine aS (qL sy h.sb) ?_;refine bc (by simp;omega) (by omega) (bc (by simp;omega) (by omega) ?_);refine fP rfl (bd rfl (aT (aS (c9 a E q s) ?_)));refine fP rfl (bd rfl (aT (aS (c9 b E q hb) ?_)));refine fP rfl (bd rfl (aT (aS (c9 c E q hc) ?_)));exact fA rfl (aj rfl)
theorem SU (sy:SY) (ce fu:η) (l:Y TT) (h0:l.length<=4) (h:l.length≠3):ne (sy,ce,fu,l)=D:=by
 unfold ne aX bN bA bH bO aV;rcases l with _|⟨a,_|⟨b,_|⟨c,_|⟨d,_|⟨e,l⟩⟩⟩⟩⟩;all_goals first|(simp at h;done)|(exfalso;simp only[bX]at h0;omega)|simp[fK,kD,oP,rU,bcT,bcF]
theorem YQ {E:Nat} {L:Y ET} (sy:SY) (ce fu:η) (a b c:TT) (h:SV E L (sy,ce,fu,[a,b,c])) (hce:ce.length<=1000) (hfu:fu.length<=1000):m_ (sy,ce,fu,[a,b,c])=M ((sy.2.1,sy.1,sy.2.2.1,sy.2.2.2).1,(sy.2.1,sy.1,sy.2.2.1,sy.2.2.2).2.1,(sy.2.1,sy.1,sy.2.2.1,sy.2.2.2).2.2.1,(sy.2.1,sy.1,sy.2.2.1,sy.2.2.2).2.2.2,(([]:η)++ce),(([]:η)++fu),((((a.1,a.2.2.2),a.2.1,a.2.2.1).1.1,((a.1,a.2.2.2),a.2.1,a.2.2.1).2.1,((a.1,a.2.2.2),a.2.1,a.2.2.1).2.2,((a.1,a.2.2.2),a.2.1,a.2.2.1).1.2),(((b.1,b.2.2.2),b.2.1,b.2.2.1).1.1,((b.1,b.2.2.2),b.2.1,b.2.2.1).2.1,((b.1,b.2.2.2),b.2.1,b.2.2.1).2.2,((b.1,b.2.2.2),b.2.1,b.2.2.1).1.2),((c.1,c.2.2.2),c.2.1,c.2.2.1).1),((c.1,c.2.2.2),c.2.1,c.2.2.1).2):=by
 have q:=h.sb.n1;have s:TH (FQ L 0) E a:=h.t 0 (by simp);have hb:TH (FQ L 1) E b:=h.t 1 (by simp);have hc:TH (FQ L 2) E c:=h.t 2 (by simp);refine cG ?_;unfold m_ aX bN bA bH bO aV;refine aS (qL sy h.sb) ?_;refine bc (by simp;omega) (by omega) (bc (by simp;omega) (by omega) ?_);refine fP rfl (bd rfl (aT (aS (c9 a E q s) ?_)));refine fP rfl (bd rfl (aT (aS (c9 b E q hb) ?_)));refine fP rfl (bd rfl (aT (aS (c9 c E q hc) ?_)));exact fA rfl (aj rfl)
theorem SS (sy:SY) (ce fu:η) (l:Y TT) (h0:l.length<=4) (h:l.length≠3):m_ (sy,ce,fu,l)=D:=by
 unfold m_ aX bN bA bH bO aV;rcases l with _|⟨a,_|⟨b,_|⟨c,_|⟨d,_|⟨e,l⟩⟩⟩⟩⟩;all_goals first|(simp at h;done)|(exfalso;simp only[bX]at h0;omega)|simp[fK,kD,oP,rU,bcT,bcF]
theorem YP {E:Nat} {L:Y ET} (sy:SY) (ce fu:η) (a b c d:TT) (h:SV E L (sy,ce,fu,[a,b,c,d])) (hce:ce.length<=1000) (hfu:fu.length<=1000):m8 (sy,ce,fu,[a,b,c,d])=M ((sy.2.1,sy.1,sy.2.2.1,sy.2.2.2).1,(sy.2.1,sy.1,sy.2.2.1,sy.2.2.2).2.1,(sy.2.1,sy.1,sy.2.2.1,sy.2.2.2).2.2.1,(sy.2.1,sy.1,sy.2.2.1,sy.2.2.2).2.2.2,(([]:η)++ce),(([]:η)++fu),(((a.1,a.2.2.2),a.2.1,a.2.2.1).1.1,((a.1,a.2.2.2),a.2.1,a.2.2.1).1.2,(((b.1,b.2.2.2),b.2.1,b.2.2.1).1.1,((b.1,b.2.2.2),b.2.1,b.2.2.1).2.1,((b.1,b.2.2.2),b.2.1,b.2.2.1).2.2,((b.1,b.2.2.2),b.2.1,b.2.2.1).1.2),(((c.1,c.2.2.2),c.2.1,c.2.2.1).1.1,((c.1,c.2.2.2),c.2.1,c.2.2.1).2.1,((c.1,c.2.2.2),c.2.1,c.2.2.1).2.2,((c.1,c.2.2.2),c.2.1,c.2.2.1).1.2),((d.1,d.2.2.2),d.2.1,d.2.2.1).1.1,((d.1,d.2.2.2),d.2.1,d.2.2.1).2.1,((d.1,d.2.2.2),d.2.1,d.2.2.1).2.2,((d.1,d.2.2.2),d.2.1,d.2.2.1).1.2),((a.1,a.2.2.2),a.2.1,a.2.2.1).2):=by
 have q:=h.sb.n1;have s:TH (FQ L 0) E a:=h.t 0 (by simp);have hb:TH (FQ L 1) E b:=h.t 1 (by simp);have hc:TH (FQ L 2) E c:=h.t 2 (by simp);have hd:TH (FQ L 3) E d:=h.t 3 (by simp);refine cG ?_;unfold m8 aX bN bA bH bO aV;refine aS (qL sy h.sb) ?_;refine bc (by simp;omega) (by omega) (bc (by simp;omega) (by omega) ?_);refine fP rfl (bd rfl (aT (aS (c9 a E q s) ?_)));refine fP rfl (bd rfl (aT (aS (c9 b E q hb) ?_)));refine fP rfl (bd rfl (aT (aS (c9 c E q hc) ?_)));refine fP rfl (bd rfl (aT (aS (c9 d E q hd) ?_)));exact fA rfl (aj rfl)
theorem SM (sy:SY) (ce fu:η) (l:Y TT) (h0:l.length<=4) (h:l.length≠4):m8 (sy,ce,fu,l)=D:=by
 unfold m8 aX bN bA bH bO aV;rcases l with _|⟨a,_|⟨b,_|⟨c,_|⟨d,_|⟨e,l⟩⟩⟩⟩⟩;all_goals first|(simp at h;done)|(exfalso;simp only[bX]at h0;omega)|simp[fK,kD,oP,rU,bcT,bcF]
theorem YO {E:Nat} {L:Y ET} (sy:SY) (ce fu:η) (a b c d:TT) (h:SV E L (sy,ce,fu,[a,b,c,d])) (hce:ce.length<=1000) (hfu:fu.length<=1000):m7 (sy,ce,fu,[a,b,c,d])=M ((sy.2.1,sy.1,sy.2.2.1,sy.2.2.2).1,(sy.2.1,sy.1,sy.2.2.1,sy.2.2.2).2.1,(sy.2.1,sy.1,sy.2.2.1,sy.2.2.2).2.2.1,(sy.2.1,sy.1,sy.2.2.1,sy.2.2.2).2.2.2,(([]:η)++ce),(([]:η)++fu),((((a.1,a.2.2.2),a.2.1,a.2.2.1).1.1,((a.1,a.2.2.2),a.2.1,a.2.2.1).2.1,((a.1,a.2.2.2),a.2.1,a.2.2.1).2.2,((a.1,a.2.2.2),a.2.1,a.2.2.1).1.2),((b.1,b.2.2.2),b.2.1,b.2.2.1).1.1,((b.1,b.2.2.2),b.2.1,b.2.2.1).1.2,(((c.1,c.2.2.2),c.2.1,c.2.2.1).1.1,((c.1,c.2.2.2),c.2.1,c.2.2.1).2.1,((c.1,c.2.2.2),c.2.1,c.2.2.1).2.2,((c.1,c.2.2.2),c.2.1,c.2.2.1).1.2),((d.1,d.2.2.2),d.2.1,d.2.2.1).1.1,((d.1,d.2.2.2),d.2.1,d.2.2.1).2.1,((d.1,d.2.2.2),d.2.1,d.2.2.1).2.2,((d.1,d.2.2.2),d.2.1,d.2.2.1).1.2),((b.1,b.2.2.2),b.2.1,b.2.2.1).2):=by
 have q:=h.sb.n1;have s:TH (FQ L 0) E a:=h.t 0 (by simp);have hb:TH (FQ L 1) E b:=h.t 1 (by simp);have hc:TH (FQ L 2) E c:=h.t 2 (by simp);have hd:TH (FQ L 3) E d:=h.t 3 (by simp);refine cG ?_;unfold m7 aX bN bA bH bO aV;refine aS (qL sy h.sb) ?_;refine bc (by simp;omega) (by omega) (bc (by simp;omega) (by omega) ?_);refine fP rfl (bd rfl (aT (aS (c9 a E q s) ?_)));refine fP rfl (bd rfl (aT (aS (c9 b E q hb) ?_)));refine fP rfl (bd rfl (aT (aS (c9 c E q hc) ?_)));refine fP rfl (bd rfl (aT (aS (c9 d E q hd) ?_)));exact fA rfl (aj rfl)
theorem SK (sy:SY) (ce fu:η) (l:Y TT) (h0:l.length<=4) (h:l.length≠4):m7 (sy,ce,fu,l)=D:=by
 unfold m7 aX bN bA bH bO aV;rcases l with _|⟨a,_|⟨b,_|⟨c,_|⟨d,_|⟨e,l⟩⟩⟩⟩⟩;all_goals first|(simp at h;done)|(exfalso;simp only[bX]at h0;omega)|simp[fK,kD,oP,rU,bcT,bcF]
theorem YN {E:Nat} {L:Y ET} (sy:SY) (ce fu:η) (a b c d:TT) (h:SV E L (sy,ce,fu,[a,b,c,d])) (hce:ce.length<=1000) (hfu:fu.length<=1000):m6 (sy,ce,fu,[a,b,c,d])=M ((sy.2.1,sy.1,sy.2.2.1,sy.2.2.2).1,(sy.2.1,sy.1,sy.2.2.1,sy.2.2.2).2.1,(sy.2.1,sy.1,sy.2.2.1,sy.2.2.2).2.2.1,(sy.2.1,sy.1,sy.2.2.1,sy.2.2.2).2.2.2,(([]:η)++ce),(([]:η)++fu),((((a.1,a.2.2.2),a.2.1,a.2.2.1).1.1,((a.1,a.2.2.2),a.2.1,a.2.2.1).2.1,((a.1,a.2.2.2),a.2.1,a.2.2.1).2.2,((a.1,a.2.2.2),a.2.1,a.2.2.1).1.2),(((b.1,b.2.2.2),b.2.1,b.2.2.1).1.1,((b.1,b.2.2.2),b.2.1,b.2.2.1).2.1,((b.1,b.2.2.2),b.2.1,b.2.2.1).2.2,((b.1,b.2.2.2),b.2.1,b.2.2.1).1.2),((c.1,c.2.2.2),c.2.1,c.2.2.1).1.1,((c.1,c.2.2.2),c.2.1,c.2.2.1).1.2,((d.1,d.2.2.2),d.2.1,d.2.2.1).1.1,((d.1,d.2.2.2),d.2.1,d.2.2.1).2.1,((d.1,d.2.2.2),d.2.1,d.2.2.1).2.2,((d.1,d.2.2.2),d.2.1,d.2.2.1).1.2),((c.1,c.2.2.2),c.2.1,c.2.2.1).2):=by
 have q:=h.sb.n1;have s:TH (FQ L 0) E a:=h.t 0 (by simp);have hb:TH (FQ L 1) E b:=h.t 1 (by simp);have hc:TH (FQ L 2) E c:=h.t 2 (by simp);have hd:TH (FQ L 3) E d:=h.t 3 (by simp);refine cG ?_;unfold m6 aX bN bA bH bO aV;refine aS (qL sy h.sb) ?_;refine bc (by simp;omega) (by omega) (bc (by simp;omega) (by omega) ?_);refine fP rfl (bd rfl (aT (aS (c9 a E q s) ?_)));refine fP rfl (bd rfl (aT (aS (c9 b E q hb) ?_)));refine fP rfl (bd rfl (aT (aS (c9 c E q hc) ?_)));refine fP rfl (bd rfl (aT (aS (c9 d E q hd) ?_)));exact fA rfl (aj rfl)
theorem SJ (sy:SY) (ce fu:η) (l:Y TT) (h0:l.length<=4) (h:l.length≠4):m6 (sy,ce,fu,l)=D:=by
 unfold m6 aX bN bA bH bO aV;rcases l with _|⟨a,_|⟨b,_|⟨c,_|⟨d,_|⟨e,l⟩⟩⟩⟩⟩;all_goals first|(simp at h;done)|(exfalso;simp only[bX]at h0;omega)|simp[fK,kD,oP,rU,bcT,bcF]
theorem YM {E:Nat} {L:Y ET} (sy:SY) (ce fu:η) (a b c d:TT) (h:SV E L (sy,ce,fu,[a,b,c,d])) (hce:ce.length<=1000) (hfu:fu.length<=1000):mZ (sy,ce,fu,[a,b,c,d])=M ((sy.2.1,sy.1,sy.2.2.1,sy.2.2.2).1,(sy.2.1,sy.1,sy.2.2.1,sy.2.2.2).2.1,(sy.2.1,sy.1,sy.2.2.1,sy.2.2.2).2.2.1,(sy.2.1,sy.1,sy.2.2.1,sy.2.2.2).2.2.2,(([]:η)++ce),(([]:η)++fu),((((a.1,a.2.2.2),a.2.1,a.2.2.1).1.1,((a.1,a.2.2.2),a.2.1,a.2.2.1).2.1,((a.1,a.2.2.2),a.2.1,a.2.2.1).2.2,((a.1,a.2.2.2),a.2.1,a.2.2.1).1.2),(((b.1,b.2.2.2),b.2.1,b.2.2.1).1.1,((b.1,b.2.2.2),b.2.1,b.2.2.1).2.1,((b.1,b.2.2.2),b.2.1,b.2.2.1).2.2,((b.1,b.2.2.2),b.2.1,b.2.2.1).1.2),(((c.1,c.2.2.2),c.2.1,c.2.2.1).1.1,((c.1,c.2.2.2),c.2.1,c.2.2.1).2.1,((c.1,c.2.2.2),c.2.1,c.2.2.1).2.2,((c.1,c.2.2.2),c.2.1,c.2.2.1).1.2),((d.1,d.2.2.2),d.2.1,d.2.2.1).1),((d.1,d.2.2.2),d.2.1,d.2.2.1).2):=by
 have q:=h.sb.n1;have s:TH (FQ L 0) E a:=h.t 0 (by simp);have hb:TH (FQ L 1) E b:=h.t 1 (by simp);have hc:TH (FQ L 2) E c:=h.t 2 (by simp);have hd:TH (FQ L 3) E d:=h.t 3 (by simp);refine cG ?_;unfold mZ aX bN bA bH bO aV;refine aS (qL sy h.sb) ?_;refine bc (by simp;omega) (by omega) (bc (by simp;omega) (by omega) ?_);refine fP rfl (bd rfl (aT (aS (c9 a E q s) ?_)));refine fP rfl (bd rfl (aT (aS (c9 b E q hb) ?_)));refine fP rfl (bd rfl (aT (aS (c9 c E q hc) ?_)));refine fP rfl (bd rfl (aT (aS (c9 d E q hd) ?_)));exact fA rfl (aj rfl)
theorem SH (sy:SY) (ce fu:η) (l:Y TT) (h0:l.length<=4) (h:l.length≠4):mZ (sy,ce,fu,l)=D:=by
 unfold mZ aX bN bA bH bO aV;rcases l with _|⟨a,_|⟨b,_|⟨c,_|⟨d,_|⟨e,l⟩⟩⟩⟩⟩;all_goals first|(simp at h;done)|(exfalso;simp only[bX]at h0;omega)|simp[fK,kD,oP,rU,bcT,bcF]
theorem kdx (k:Int):k=1\/k=16\/k=2\/k=3\/k=23\/k=4\/k=22\/k=5\/((k=1)=False/\(k=16)=False/\(k=2)=False/\(k=3)=False/\(k=23)=False/\(k=4)=False/\(k=22)=False/\(k=5)=False):=by
 by_cases h:k=1\/k=16\/k=2\/k=3\/k=23\/k=4\/k=22\/k=5
 .omega
 .repeat (first|exact⟨eq_false (by omega),eq_false (by omega),eq_false (by omega),eq_false (by omega),eq_false (by omega),eq_false (by omega),eq_false (by omega),eq_false (by omega)⟩|refine Or.inr ?_)
def KR {Z:Type} (n:Nat) (a:CT) (L:Y ET) (i:Nat) (u:Int) (l:Y TT) (z:Z) (k:Int->(CT×SY×(ν)×Int×(υ)×ET×(ν)×(η)×(η)×Z×(η)×Y η)->I (ST×ET×Bool)):Prop:=
 ∀(F:Int->Prop) (p:Int) (sy:SY) (kd o v si:Int) (ds fs ce fu R:η) (T:Y η) (ev:Int),
  (kd≠16->kd≠2->Ok (nl (aI (T:=vK) a.2 (i:Int),(p,R,T,bl .i64 (ev+1)))) λy=>TH F (n+1) y.1/\(y.1.2.1.length=0\/y.1.2.2.2=bl .i64 (ev+1)))->
  (kd=16\/kd=2->TH F (n+1) (p,R,T,bl .i64 (ev+1)))->
  (∀t',TH F (n+1) t'->(t'.2.1.length=0\/t'.2.2.2=bl .i64 (ev+1)/\(kd=16->t'.1=p))->SQ n a L ((sy,ce,fu,l.set i t'),((i:Int),kd,o,v,si,ds,fs),J))->(i:Int)<(a.2.length:Int)->
  ∀c,Ok (k p (a,sy,((i:Int),u),0,(0,0,0,0,0),((i:Int),kd,o,v,si,ds,fs),(c,ev),ce,fu,z,R,T)) (SQ n a L)
theorem Be {Z:Type} (N i:Nat) {U:SY×(η)×(η)×Y TT->I (Int×(Y (Int×η))×(θ)×(Y (Int×Int×Bool))×(η)×(η)×Z×(η)×Y η)} {pc ev:Z->Int} {k:Int->(CT×SY×(ν)×Int×(υ)×ET×(ν)×(η)×(η)×Z×(η)×Y η)->I (ST×ET×Bool)} {n:Nat} (hn:n+1<=100000) (q:CT) (L:Y ET) (s:ST) (t u:Int) (hc:CB q) (hs:SV n L s) (hI:KN q L s)
 (h0:∀sy ce fu (l:Y TT),l.length<=4->l.length≠N->U (sy,ce,fu,l)=D)
 (h1:∀sy ce fu (l:Y TT),SV n L (sy,ce,fu,l)->ce.length<=1000->fu.length<=1000->l.length=N->i<N/\∃y,U (sy,ce,fu,l)=M y/\y.2.2.2.2.1=ce/\y.2.2.2.2.2.1=fu/\y.2.2.2.2.2.2.2.1=(aI (T:=uC) l (i:Int)).2.1/\y.2.2.2.2.2.2.2.2=(aI (T:=uC) l (i:Int)).2.2.1/\pc y.2.2.2.2.2.2.1=(aI (T:=uC) l (i:Int)).1/\ev y.2.2.2.2.2.2.1=(aI (T:=uC) l (i:Int)).2.2.2/\KR n q L i u l y.2.2.2.2.2.2.1 k):
 Pn (SG (i:Int) U pc ev k (q,s,t,u)) (SQ n q L)/\(s.2.2.2.length=N->t=(i:Int)->Ok (SG (i:Int) U pc ev k (q,s,t,u)) (SQ n q L)):=by
 by_cases hz:s.2.2.2.length=N/\t=(i:Int)
 .obtain⟨hz1,rfl⟩:=hz;suffices h:Ok (SG (i:Int) U pc ev k (q,s,(i:Int),u)) (SQ n q L) from ⟨.inr h,λ_ _=>h⟩
  unfold SG DR Prod.p11 Prod.p12 aX bm bw cC eB kO zM B_ Prod.q10 Prod.q11 Prod.q13 bN du lJ Prod.q9 ck bf bO kW aE;refine HW hn hc hs hI (λo=>Ok o (SQ n q L)) (λy h=>aj h) _ λe v sy hp hm he hr ha hq=>?_
  obtain⟨sy0,ce,fu,l⟩:=s;obtain⟨e1,kd,o,e4,site,ds,fs⟩:=e;have het:=hp.et;dsimp only at hz1 he hr ha hq het;subst het;have vl:=hp.fs.vc.vl;have hce:=hp.fs.ce;have hfu:=hp.fs.fu;dsimp only at hce hfu;obtain⟨hiN,⟨q1,q2,q3,q4,ce',fu',z,R0,T0⟩,hcp,g1,g2,g3,g4,hpc,hve,hk⟩:=h1 sy0 ce fu l hs (by have:=vl.c;omega) (by have:=vl.f;omega) hz1;dsimp only at g1 g2 g3 g4 hpc hve hk;rw[g1,g2,g3,g4]at hcp;obtain⟨_,_,nmce,_,_,_,nmfu,_,_,_⟩:=id he.nm;have t1:(i:Int)<(q.2.length:Int):=hp.t1;have htf:TF (aI (T:=vK) q.2 (i:Int)) (aI (T:=uC) l (i:Int)):=hp.fs.t i (by omega);have hA:=hp.a;have hB:=hp.b;dsimp only at hA hB;have hvt:=hp.fs.vc.t _ (bM (T:=vK) (xs:=q.2) (j:=(i:Int)) (by omega) t1);have hci:=hc.ins _ (bM (T:=vK) (xs:=q.2) (j:=(i:Int)) (by omega) t1);have hth:TH (FQ L (i:Int)) n (aI (T:=uC) l (i:Int)):=hs.t i (by dsimp only;omega);have done:=af1 hn hs hI hp hm he hr ha;have htg:=hm.tg;have hrun:=hr.r;dsimp only at done htg;have hgv:kd=3\/kd=23->FQ (L++[((i:Int),kd,o,e4,site,ds,fs)]) (i:Int) (aI (T:=uC) l (i:Int)).2.2.2:=λh3=>by
   have h2:=hrun (by omega) (by omega);have hn0:¬(fl L (i:Int)).length=0:=λh=>(htg.nw h).elim (λg=>ct (h2.symm.trans g) (by decide)) λg=>ct (h2.symm.trans g) (by decide)
   refine ⟨by rw[htg.ev];omega,KA.last (e:=((i:Int),kd,o,e4,site,ds,fs)) ?_ htg.ev⟩;unfold s_;rcases h3 with h|h
   .rw[aR h];rfl
   .simp[h]
  have vaA:¬kd=3->¬kd=23->¬kd=5->VA q.1 sy0 ce fu (i:Int) kd o v:=λa b c=>⟨λh=>(a h).elim,λh=>(b h).elim,λh=>(c h).elim,λ_ _ _ _ _=>by rw[Sd hq]⟩
  have apA:(qW q.1 sy0 (i:Int) kd o v).1=sy:=by rw[Sd hq]
  have apB:¬kd=18->∀v',(qW q.1 sy0 (i:Int) kd o v').1=sy:=λh v'=>by rw[WS _ _ _ _ _ _ u h,<-hq]
  have keep:∀x∈(aI (T:=uC) l (i:Int)).2.2.1,TL (FQ (L++[((i:Int),kd,o,e4,site,ds,fs)]) (i:Int)) (n+1) x:=λx hx=>(hth.l x hx).mono (by omega) λy A=>⟨A.1,A.2.app _⟩
  clear g3 g4 hm hI hrun htg;revert done hgv keep;generalize FQ (L++[((i:Int),kd,o,e4,site,ds,fs)]) (i:Int)=F;generalize aI (T:=uC) l (i:Int)=th at hcp hpc hve htf hA hB hth ⊢;intro done hgv keep;refine aS hcp ?_;dsimp only;rw[hpc,hve];refine fP (aR rfl) ?_;refine aO (by omega) t1 (aT (aO htf.p0 htf.p1 (aT ?_)));have htz:th.2.2.1.length=th.2.1.length:=by have:=htf.r;have:=htf.t;omega
  have fin:∀(p:Int) (R:η) (T:Y η),R.length=th.2.1.length->T.length=th.2.2.1.length->(∀x∈T,TL F (n+1) x)->Ok (nl (aI (T:=vK) q.2 (i:Int),(p,R,T,bl .i64 (th.2.2.2+1)))) λy=>TH F (n+1) y.1/\(y.1.2.1.length=0\/y.1.2.2.2=bl .i64 (th.2.2.2+1)):=λp R T h1 h2 h3=>by
   have a1:=hth.e0;have a2:=hth.e1;have a3:=hth.r;have a4:=hth.t;rw[iK (n:=th.2.2.2+1) (by omega) (by omega)];exact Yy (n+1) hn _ hci hvt _ ⟨by dsimp only;omega,by dsimp only;omega,h3,by dsimp only;omega,by dsimp only;omega⟩
  have mark:kd=3\/kd=23->∀j:Int,∀x∈cF th.2.2.1 j [th.2.2.2],TL F (n+1) x:=λh3 j x hx=>by
   rcases Ci hx with h|h
   .exact keep x h
   .rw[h];exact⟨⟨λy A=>(by cases A),trivial⟩,λy A=>by rw[aJ]at A;have:=hth.e0;have:=hth.e1;rw[A];exact⟨by omega,by omega⟩,λy A=>by rw[aJ]at A;rw[A];exact hgv h3⟩
  have nopark:TH F (n+1) (th.1,th.2.1,th.2.2.1,bl .i64 (th.2.2.2+1)):=by
   have a1:=hth.e0;have a2:=hth.e1;rw[iK (n:=th.2.2.2+1) (by omega) (by omega)];exact⟨hth.r,hth.t,keep,by dsimp only;omega,by dsimp only;omega⟩
  clear hp hs hc h0 h1 hcp g1 g2 hr ha hq he;generalize (aI (T:=Bm) (aI (T:=vK) q.2 (i:Int)).2 th.1)=ins at hA hB ⊢;rcases kdx kd with rfl|rfl|rfl|rfl|rfl|rfl|rfl|rfl|⟨k1,k2,k3,k4,k5,k6,k7,k8⟩
  case inr.inr.inr.inr.inr.inr.inr.inr=>
   simp only[k1,k2,k3,k4,k5,k6,k7,k8,aY,bn,sX];refine hk F _ _ _ _ _ _ _ _ _ _ _ _ _ (λ_ _=>fin _ _ _ rfl rfl keep) (λh=>by rw[k2,k3]at h;exact (h.elim id id).elim) (λt' h g=>?_) t1 _;exact done v ce fu t' apA (vaA (of_eq_false k4) (of_eq_false k5) (of_eq_false k8)) (ay (of_eq_false k6)).symm (ay (of_eq_false k7)).symm h (g.imp id λh=>⟨h.1,λh2=>(of_eq_false k2 h2).elim⟩)
  all_goals simp only[aY,bn,sX]
  .refine hk F _ _ _ _ _ _ _ _ _ _ _ _ _ (λ_ _=>fin _ _ _ rfl rfl keep) (λh=>by omega) (λt' h g=>?_) t1 _;exact done v ce fu t' apA (vaA (by decide) (by decide) (by decide)) rfl rfl h (g.imp id λh=>⟨h.1,λh2=>(by cases h2)⟩)
  .refine hk F _ _ _ _ _ _ _ _ _ _ _ _ _ (λh _=>(h rfl).elim) (λ_=>nopark) (λt' h g=>?_) t1 _;exact done v ce fu t' apA (vaA (by decide) (by decide) (by decide)) rfl rfl h g
  .refine hk F _ _ _ _ _ _ _ _ _ _ _ _ _ (λ_ h=>(h rfl).elim) (λ_=>nopark) (λt' h g=>?_) t1 _;exact done v ce fu t' apA (vaA (by decide) (by decide) (by decide)) rfl rfl h (g.imp id λh=>⟨h.1,λh2=>(by cases h2)⟩)
  .obtain⟨o0,o1⟩:=nmce (.inl rfl);rw[<- hce]at o1;obtain⟨a0,a1⟩:=hA (.inl rfl);have a2:ins.2.1<(th.2.2.1.length:Int):=by rw[htz];exact a1
   refine gO (aO o0 o1 (aO o0 o1 (aj ?_)));simp only[aY,bn,sX];refine gO (aO a0 a1 (aO a0 a1 (aO a0 a2 (aO a0 a2 (aj ?_)))));refine hk F _ _ _ _ _ _ _ _ _ _ _ _ _ (λ_ _=>fin _ _ _ (bT ..) (bT ..) (mark (.inl rfl) _)) (λh=>by omega) (λt' h g=>?_) t1 _;exact done _ ce fu t' (apB (by decide) _) ⟨λ_=>rfl,λh=>(by cases h),λh=>(by cases h),λh=>(h rfl).elim⟩ rfl rfl h (g.imp id λh=>⟨h.1,λh2=>(by cases h2)⟩)
  .obtain⟨o0,o1⟩:=nmfu (.inr rfl);rw[<- hfu]at o1;obtain⟨a0,a1⟩:=hA (.inr (.inl rfl));have a2:ins.2.1<(th.2.2.1.length:Int):=by rw[htz];exact a1
   refine gO (aO o0 o1 (aO o0 o1 (aj ?_)));simp only[aY,bn,sX];refine gO (aO a0 a1 (aO a0 a1 (aO a0 a2 (aO a0 a2 (aj ?_)))));refine hk F _ _ _ _ _ _ _ _ _ _ _ _ _ (λ_ _=>fin _ _ _ (bT ..) (bT ..) (mark (.inr rfl) _)) (λh=>by omega) (λt' h g=>?_) t1 _;exact done _ ce fu t' (apB (by decide) _) ⟨λh=>(by cases h),λ_=>rfl,λh=>(by cases h),λ_ h=>(h rfl).elim⟩ rfl rfl h (g.imp id λh=>⟨h.1,λh2=>(by cases h2)⟩)
  .obtain⟨o0,o1⟩:=nmce (.inr rfl);rw[<- hce]at o1;obtain⟨a0,a1⟩:=hB (.inl rfl);refine gO (aO a0 a1 (aO a0 a1 (aO o0 o1 (aO o0 o1 (aj ?_)))));simp only[aY,bn,sX];refine hk F _ _ _ _ _ _ _ _ _ _ _ _ _ (λ_ _=>fin _ _ _ rfl rfl keep) (λh=>by omega) (λt' h g=>?_) t1 _;exact done _ _ fu t' (apB (by decide) _) ⟨λh=>(by cases h),λh=>(by cases h),λh=>(by cases h),λ_ _ _ h=>(h rfl).elim⟩ rfl rfl h (g.imp id λh=>⟨h.1,λh2=>(by cases h2)⟩)
  .obtain⟨o0,o1⟩:=nmfu (.inl rfl);rw[<- hfu]at o1;obtain⟨a0,a1⟩:=hB (.inr rfl);refine gO (aO a0 a1 (aO a0 a1 (aO o0 o1 (aO o0 o1 (aj ?_)))));simp only[aY,bn,sX];refine hk F _ _ _ _ _ _ _ _ _ _ _ _ _ (λ_ _=>fin _ _ _ rfl rfl keep) (λh=>by omega) (λt' h g=>?_) t1 _;exact done _ ce _ t' (apB (by decide) _) ⟨λh=>(by cases h),λh=>(by cases h),λh=>(by cases h),λ_ _ _ _ h=>(h rfl).elim⟩ rfl rfl h (g.imp id λh=>⟨h.1,λh2=>(by cases h2)⟩)
  .obtain⟨a0,a1⟩:=hA (.inr (.inr rfl));refine gO (aO a0 a1 (aO a0 a1 (aK (λ_=>aj ?_) λ_=>aj ?_)));all_goals
    simp only[aY,bn,sX];refine hk F _ _ _ _ _ _ _ _ _ _ _ _ _ (λ_ _=>fin _ _ _ rfl rfl keep) (λh=>by omega) (λt' h g=>?_) t1 _;exact done _ ce fu t' (apB (by decide) _) ⟨λh=>(by cases h),λh=>(by cases h),λ_=>(by decide),λ_ _ h=>(h rfl).elim⟩ rfl rfl h (g.imp id λh=>⟨h.1,λh2=>(by cases h2)⟩)
 .refine ⟨?_,λh1 h2=>(hz ⟨h1,h2⟩).elim⟩;unfold SG DR Prod.p11 Prod.p12 aX bm bw cC eB kO zM B_ Prod.q10 Prod.q11 Prod.q13 bN du lJ Prod.q9 ck bf bO kW aE;refine HW hn hc hs hI (λo=>Pn o (SQ n q L)) (λy h=>.inr (aj h)) _ λe v sy hp _ _ _ _ _=>.inl ?_
  obtain⟨sy0,ce,fu,l⟩:=s;have vl:=hp.fs.vc.vl;by_cases hl:l.length=N
  .have ht:¬t=(i:Int):=λh=>hz ⟨hl,h⟩
   dsimp only;cases U (sy0,ce,fu,l) with
   |none=>rfl
   |some y=>rw[V_,bz ht];rfl
  .show av (U (sy0,ce,fu,l)) _=D;rw[h0 sy0 ce fu l (by have h1:l.length=q.2.length:=hp.fs.th;have:=hp.fs.vc.tl;have:=vl.t;omega) hl];rfl
theorem Bf {Z W V:Type} {n:Nat} {s:CT} {L:Y ET} {i:Nat} {u:Int} {l:Y TT} {z:Z} {t1:Z->η->Y η->W} {c:W->V} {a:V->TT->Y TT} (A:∀R T t',a (c (t1 z R T)) t'=l.set i t'):KR n s L i u l z (KG (i:Int) t1 c a):=by
 intro F p sy kd o v si ds fs ce fu R T ev fin park done ht U;unfold KG DR aX bm bw cC eB kO zM B_ Prod.q10 Prod.q11 pZ bf jf bO aE cH;dsimp only;have done:∀t',TH F (n+1) t'->(t'.2.1.length=0\/t'.2.2.2=bl .i64 (ev+1)/\(kd=16->t'.1=p))->SQ n s L ((sy,ce,fu,a (c (t1 z R T)) t'),((i:Int),kd,o,v,si,ds,fs),J):=λt' h g=>by rw[A];exact done t' h g
 by_cases h1:kd=16
 .subst h1;exact gO (gO (fA rfl (aj (fA rfl (aj (fP (aR rfl) (aj (done _ (park (.inl rfl)) (.inr ⟨rfl,λ_=>rfl⟩)))))))))
 by_cases h2:kd=2
 .subst h2;exact gO (gO (fP rfl (aj (fA rfl (aj (fP (aR rfl) (aj (done _ (park (.inr rfl)) (.inr ⟨rfl,λh=>(by cases h)⟩)))))))))
 rw[bz h1,bz h2];exact gO (gO (fP rfl (aj (fP rfl (aO (eK i) ht (aT (aw (fin h1 h2) λy q=>aj (fP (aR rfl) (aj (done _ q.1 (q.2.imp id λh=>⟨h,λh2=>(h1 h2).elim⟩)))))))))))
theorem Yp {n:Nat} (hn:n+1<=100000) (q:CT) (L:Y ET) (s:ST) (t u:Int) (hc:CB q) (hs:SV n L s) (z:KN q L s):Pn (mY (q,s,t,u)) (SQ n q L)/\(s.2.2.2.length=4->t=0->Ok (mY (q,s,t,u)) (SQ n q L)):=by
 refine Be 4 0 hn q L s t u hc hs z SM λsy ce fu l hs hce hfu hl=>⟨by decide,?_⟩
 obtain⟨a,b,c,d,rfl⟩:∃a b c d,l=[a,b,c,d]:=by
  rcases l with _|⟨a,_|⟨b,_|⟨c,_|⟨d,_|⟨e,l⟩⟩⟩⟩⟩;all_goals first|exact⟨_,_,_,_,rfl⟩|(simp at hl;done)|(exfalso;simp only[bX]at hl;omega)
 refine ⟨_,YP sy ce fu a b c d hs hce hfu,rfl,rfl,rfl,rfl,rfl,rfl,Bf λR T t'=>rfl⟩
theorem Yo {n:Nat} (hn:n+1<=100000) (q:CT) (L:Y ET) (s:ST) (t u:Int) (hc:CB q) (hs:SV n L s) (z:KN q L s):Pn (mX (q,s,t,u)) (SQ n q L)/\(s.2.2.2.length=4->t=1->Ok (mX (q,s,t,u)) (SQ n q L)):=by
 refine Be 4 1 hn q L s t u hc hs z SK λsy ce fu l hs hce hfu hl=>⟨by decide,?_⟩
 obtain⟨a,b,c,d,rfl⟩:∃a b c d,l=[a,b,c,d]:=by
  rcases l with _|⟨a,_|⟨b,_|⟨c,_|⟨d,_|⟨e,l⟩⟩⟩⟩⟩;all_goals first|exact⟨_,_,_,_,rfl⟩|(simp at hl;done)|(exfalso;simp only[bX]at hl;omega)
 refine ⟨_,YO sy ce fu a b c d hs hce hfu,rfl,rfl,rfl,rfl,rfl,rfl,Bf λR T t'=>rfl⟩
theorem Yn {n:Nat} (hn:n+1<=100000) (q:CT) (L:Y ET) (s:ST) (t u:Int) (hc:CB q) (hs:SV n L s) (z:KN q L s):Pn (lB (q,s,t,u)) (SQ n q L)/\(s.2.2.2.length=4->t=2->Ok (lB (q,s,t,u)) (SQ n q L)):=by
 refine Be 4 2 hn q L s t u hc hs z SJ λsy ce fu l hs hce hfu hl=>⟨by decide,?_⟩
 obtain⟨a,b,c,d,rfl⟩:∃a b c d,l=[a,b,c,d]:=by
  rcases l with _|⟨a,_|⟨b,_|⟨c,_|⟨d,_|⟨e,l⟩⟩⟩⟩⟩;all_goals first|exact⟨_,_,_,_,rfl⟩|(simp at hl;done)|(exfalso;simp only[bX]at hl;omega)
 refine ⟨_,YN sy ce fu a b c d hs hce hfu,rfl,rfl,rfl,rfl,rfl,rfl,Bf λR T t'=>rfl⟩
theorem Ym {n:Nat} (hn:n+1<=100000) (q:CT) (L:Y ET) (s:ST) (t u:Int) (hc:CB q) (hs:SV n L s) (z:KN q L s):Pn (km (q,s,t,u)) (SQ n q L)/\(s.2.2.2.length=4->t=3->Ok (km (q,s,t,u)) (SQ n q L)):=by
 refine Be 4 3 hn q L s t u hc hs z SH λsy ce fu l hs hce hfu hl=>⟨by decide,?_⟩
 obtain⟨a,b,c,d,rfl⟩:∃a b c d,l=[a,b,c,d]:=by
  rcases l with _|⟨a,_|⟨b,_|⟨c,_|⟨d,_|⟨e,l⟩⟩⟩⟩⟩;all_goals first|exact⟨_,_,_,_,rfl⟩|(simp at hl;done)|(exfalso;simp only[bX]at hl;omega)
 refine ⟨_,YM sy ce fu a b c d hs hce hfu,rfl,rfl,rfl,rfl,rfl,rfl,Bf λR T t'=>rfl⟩
theorem Ys {n:Nat} (hn:n+1<=100000) (q:CT) (L:Y ET) (s:ST) (t u:Int) (hc:CB q) (hs:SV n L s) (z:KN q L s):Pn (jx (q,s,t,u)) (SQ n q L)/\(s.2.2.2.length=3->t=0->Ok (jx (q,s,t,u)) (SQ n q L)):=by
 refine Be 3 0 hn q L s t u hc hs z SX λsy ce fu l hs hce hfu hl=>⟨by decide,?_⟩
 obtain⟨a,b,c,rfl⟩:∃a b c,l=[a,b,c]:=by
  rcases l with _|⟨a,_|⟨b,_|⟨c,_|⟨d,_|⟨e,l⟩⟩⟩⟩⟩;all_goals first|exact⟨_,_,_,rfl⟩|(simp at hl;done)|(exfalso;simp only[bX]at hl;omega)
 refine ⟨_,YS sy ce fu a b c hs hce hfu,rfl,rfl,rfl,rfl,rfl,rfl,Bf λR T t'=>rfl⟩
theorem Yr {n:Nat} (hn:n+1<=100000) (q:CT) (L:Y ET) (s:ST) (t u:Int) (hc:CB q) (hs:SV n L s) (z:KN q L s):Pn (iL (q,s,t,u)) (SQ n q L)/\(s.2.2.2.length=3->t=1->Ok (iL (q,s,t,u)) (SQ n q L)):=by
 refine Be 3 1 hn q L s t u hc hs z SU λsy ce fu l hs hce hfu hl=>⟨by decide,?_⟩
 obtain⟨a,b,c,rfl⟩:∃a b c,l=[a,b,c]:=by
  rcases l with _|⟨a,_|⟨b,_|⟨c,_|⟨d,_|⟨e,l⟩⟩⟩⟩⟩;all_goals first|exact⟨_,_,_,rfl⟩|(simp at hl;done)|(exfalso;simp only[bX]at hl;omega)
 refine ⟨_,YR sy ce fu a b c hs hce hfu,rfl,rfl,rfl,rfl,rfl,rfl,Bf λR T t'=>rfl⟩
theorem Yq {n:Nat} (hn:n+1<=100000) (q:CT) (L:Y ET) (s:ST) (t u:Int) (hc:CB q) (hs:SV n L s) (z:KN q L s):Pn (ic (q,s,t,u)) (SQ n q L)/\(s.2.2.2.length=3->t=2->Ok (ic (q,s,t,u)) (SQ n q L)):=by
 refine Be 3 2 hn q L s t u hc hs z SS λsy ce fu l hs hce hfu hl=>⟨by decide,?_⟩
 obtain⟨a,b,c,rfl⟩:∃a b c,l=[a,b,c]:=by
  rcases l with _|⟨a,_|⟨b,_|⟨c,_|⟨d,_|⟨e,l⟩⟩⟩⟩⟩;all_goals first|exact⟨_,_,_,rfl⟩|(simp at hl;done)|(exfalso;simp only[bX]at hl;omega)
 refine ⟨_,YQ sy ce fu a b c hs hce hfu,rfl,rfl,rfl,rfl,rfl,rfl,Bf λR T t'=>rfl⟩
theorem Yu {n:Nat} (hn:n+1<=100000) (q:CT) (L:Y ET) (s:ST) (t u:Int) (hc:CB q) (hs:SV n L s) (z:KN q L s):Pn (gE (q,s,t,u)) (SQ n q L)/\(s.2.2.2.length=2->t=0->Ok (gE (q,s,t,u)) (SQ n q L)):=by
 refine Be 2 0 hn q L s t u hc hs z S1 λsy ce fu l hs hce hfu hl=>⟨by decide,?_⟩
 obtain⟨a,b,rfl⟩:∃a b,l=[a,b]:=by
  rcases l with _|⟨a,_|⟨b,_|⟨c,_|⟨d,_|⟨e,l⟩⟩⟩⟩⟩;all_goals first|exact⟨_,_,rfl⟩|(simp at hl;done)|(exfalso;simp only[bX]at hl;omega)
 refine ⟨_,YU sy ce fu a b hs hce hfu,rfl,rfl,rfl,rfl,rfl,rfl,Bf λR T t'=>rfl⟩
theorem Yt {n:Nat} (hn:n+1<=100000) (q:CT) (L:Y ET) (s:ST) (t u:Int) (hc:CB q) (hs:SV n L s) (z:KN q L s):Pn (gg (q,s,t,u)) (SQ n q L)/\(s.2.2.2.length=2->t=1->Ok (gg (q,s,t,u)) (SQ n q L)):=by
 refine Be 2 1 hn q L s t u hc hs z S0 λsy ce fu l hs hce hfu hl=>⟨by decide,?_⟩
 obtain⟨a,b,rfl⟩:∃a b,l=[a,b]:=by
  rcases l with _|⟨a,_|⟨b,_|⟨c,_|⟨d,_|⟨e,l⟩⟩⟩⟩⟩;all_goals first|exact⟨_,_,rfl⟩|(simp at hl;done)|(exfalso;simp only[bX]at hl;omega)
 refine ⟨_,YT sy ce fu a b hs hce hfu,rfl,rfl,rfl,rfl,rfl,rfl,Bf λR T t'=>rfl⟩
theorem Yv {n:Nat} (hn:n+1<=100000) (q:CT) (L:Y ET) (s:ST) (t u:Int) (hc:CB q) (hs:SV n L s) (z:KN q L s):Pn (gh (q,s,t,u)) (SQ n q L)/\(s.2.2.2.length=1->t=0->Ok (gh (q,s,t,u)) (SQ n q L)):=by
 refine Be 1 0 hn q L s t u hc hs z S4 λsy ce fu l hs hce hfu hl=>⟨by decide,?_⟩
 obtain⟨a,rfl⟩:∃a,l=[a]:=by
  rcases l with _|⟨a,_|⟨b,_|⟨c,_|⟨d,_|⟨e,l⟩⟩⟩⟩⟩;all_goals first|exact⟨_,rfl⟩|(simp at hl;done)|(exfalso;simp only[bX]at hl;omega)
 refine ⟨_,YV sy ce fu a hs hce hfu,rfl,rfl,rfl,rfl,rfl,rfl,Bf λR T t'=>rfl⟩
theorem Yw {n:Nat} (hn:n+1<=100000) (c:CT) (L:Y ET) (s:ST) (t u:Int) (hc:CB c) (hs:SV n L s) (Z:KN c L s):Ok (zU (c,s,t,u)) (SQ n c L):=by
 unfold zU;have a:=Yp hn c L s t u hc hs Z;have q:=Yo hn c L s t u hc hs Z;have z:=Yn hn c L s t u hc hs Z;have A:=Ym hn c L s t u hc hs Z;have U:=Ys hn c L s t u hc hs Z;have a31:=Yr hn c L s t u hc hs Z;have a32:=Yq hn c L s t u hc hs Z;have a20:=Yu hn c L s t u hc hs Z;have a21:=Yt hn c L s t u hc hs Z;have a10:=Yv hn c L s t u hc hs Z;by_cases hz:s.2.2.2.length<=4/\0<=t/\t<(s.2.2.2.length:Int)
 .obtain⟨h1,h2,h3⟩:=hz;have:(s.2.2.2.length=4/\t=0)\/(s.2.2.2.length=4/\t=1)\/(s.2.2.2.length=4/\t=2)\/(s.2.2.2.length=4/\t=3)\/(s.2.2.2.length=3/\t=0)\/(s.2.2.2.length=3/\t=1)\/(s.2.2.2.length=3/\t=2)\/(s.2.2.2.length=2/\t=0)\/(s.2.2.2.length=2/\t=1)\/(s.2.2.2.length=1/\t=0):=by omega
  rcases this with h|h|h|h|h|h|h|h|h|h
  .exact (a.2 h.1 h.2).orL
  .exact a.1.orR (q.2 h.1 h.2).orL
  .exact a.1.orR (q.1.orR (z.2 h.1 h.2).orL)
  .exact a.1.orR (q.1.orR (z.1.orR (A.2 h.1 h.2).orL))
  .exact a.1.orR (q.1.orR (z.1.orR (A.1.orR (U.2 h.1 h.2).orL)))
  .exact a.1.orR (q.1.orR (z.1.orR (A.1.orR (U.1.orR (a31.2 h.1 h.2).orL))))
  .exact a.1.orR (q.1.orR (z.1.orR (A.1.orR (U.1.orR (a31.1.orR (a32.2 h.1 h.2).orL)))))
  .exact a.1.orR (q.1.orR (z.1.orR (A.1.orR (U.1.orR (a31.1.orR (a32.1.orR (a20.2 h.1 h.2).orL))))))
  .exact a.1.orR (q.1.orR (z.1.orR (A.1.orR (U.1.orR (a31.1.orR (a32.1.orR (a20.1.orR (a21.2 h.1 h.2).orL)))))))
  .exact a.1.orR (q.1.orR (z.1.orR (A.1.orR (U.1.orR (a31.1.orR (a32.1.orR (a20.1.orR (a21.1.orR (a10.2 h.1 h.2)))))))))
 .refine Ok.orL ?_;unfold mY aX bm du;refine HW hn hc hs Z (λo=>Ok o (SQ n c L)) (λy h=>aj h) _ λe v sy hp _ _ _ _ _=>(hz ?_).elim
  have h1:s.2.2.2.length=c.2.length:=hp.fs.th;have h2:c.2.length=c.1.2.2.2.2.1.length:=hp.fs.vc.tl;have h3:c.1.2.2.2.2.1.length<=4:=hp.fs.vc.vl.t;have h4:0<=t:=hp.t0;have h5:t<(c.2.length:Int):=hp.t1;exact⟨by omega,h4,by omega⟩
theorem ady (c:CT) (s:ST) (l:Y ν) (hc:CB c) (hs:SV 0 [] s) (hI:KN c [] s) (hl:l.length<=9223372036854775806):Ok (vT (c,s,l)) λy=>y.1.length<=400/\(∀e∈y.1,EvF c.1 e/\YL e)/\∃sy ce fu,Acw c.1 y.1 sy ce fu:=by
 unfold vT aX bm du bA bH bO aV cR aE cH;refine qb (λx=>((l.length:Int)-x.1).toNat) (λx=>0<=x.1/\x.2.2.1=c/\SV x.2.1.length x.2.1 x.2.2.2.1/\KN c x.2.1 x.2.2.2.1/\x.2.1.length<=400/\∀e∈x.2.1,EvF c.1 e/\YL e) ?_ ⟨dj _,rfl,hs,hI,by simp,λe he=>(by cases he)⟩;rintro⟨(i:Int),es,c',s',z⟩ ⟨L,e1,e2,eI,e3,a⟩;dsimp only at L e1 e2 eI e3 a;subst e1;refine aU (λx=>x.2=(es,c',s',z)/\(x.1=J->i<(l.length:Int)/\es.length<400)) ?_ ?_
 .refine bK (λg=>aj ⟨rfl,λh=>⟨g,?_⟩⟩) λ_=>aj ⟨rfl,λh=>(by cases h)⟩
  dsimp only at h;rw[qw]at h;dsimp only[ak]at h;omega
 rintro⟨b,x⟩ ⟨Z,U⟩;dsimp only at Z U;subst Z;refine aQ (λh=>?_) λ_=>aj ⟨e3,a,_,_,_,eI.ac⟩
 obtain⟨g1,g2⟩:=U h;refine aU (λx=>x.2.1=c'/\SV x.1.length x.1 x.2.2.1/\KN c' x.1 x.2.2.1/\x.1.length<=400/\∀e∈x.1,EvF c'.1 e/\YL e) ?_ ?_
 .refine aO L g1 (aT ?_);refine aw (Yw (n:=es.length) (by omega) c' es s' _ _ hc e2 eI) λy hy=>?_
  refine aQ (λh=>?_) λ_=>aj ⟨rfl,e2,eI,e3,a⟩
  obtain⟨h1,hJ,h2,h3⟩:=hy h;refine bc (by simp;omega) (by omega) (aj ⟨rfl,?_,hJ,by simp;omega,λe he=>?_⟩)
  .dsimp only;rw[bk,eP];exact h1
  .rcases bQ.1 he with he|he
   .exact a e he
   .rw[aJ]at he;subst he;exact⟨h2,h3⟩
 rintro⟨es',c2,s2,z2⟩ ⟨k1,k2,kI,A,q⟩;dsimp only at k1 k2 kI A q;subst k1;refine aj ?_;dsimp only;rw[iK (n:=i+1) (by omega) (by omega)];exact⟨⟨by omega,rfl,k2,kI,A,q⟩,by omega⟩
theorem CB.vc {c:CT} (hc:CB c):VC c:=by
 obtain⟨b,h1,h2⟩:=Sm c hc.th hc.ins;rw[hc.ok]at h1;cases h1;exact h2 rfl
theorem ais (c:CT) (l:Y ν) (hc:CB c) (hl:l.length<=9223372036854775806):Ok (yL (c,l)) λy=>TR y.1:=by
 unfold yL;refine aS hc.ok (ey (λh=>(by cases h)) λ_=>?_);have hv:=hc.vc;refine aw (Vq c hc.ok hv) λs hs=>?_
 refine aw (ady c s l hc hs.1 hs.2 hl) λy a=>aj ?_
 exact⟨hv.vl.wb,hv.vl,λe he=>(a.2.1 e he).1,by have:=a.1;dsimp only;omega,λe he=>(a.2.1 e he).2,hc.wx,a.2.2⟩
theorem Vz (l:η) (hl:l.length<=1000000):Ok (oM l) λy=>y.length=l.length:=by
 unfold oM bA bH bO aV cR aE cH;refine cf l.length (λi x=>x.1=(i:Int)/\x.2.length=i) ?_ ?_ ⟨rfl,rfl⟩
 .rintro i ⟨a,b⟩ hi ⟨e1,e2⟩;dsimp only at e1 e2;subst e1;refine dz ?_;refine cI (aT (cI (aT (bc (by simp;omega) (by omega) (aj ?_)))));dsimp only;exact⟨gU (by omega),by simp;omega⟩
 .rintro⟨a,b⟩ ⟨e1,e2⟩;dsimp only at e1 e2;subst e1;exact dt (aj e2)
theorem fo (e:Xp):ef (Xp.op e,Xp.n e,Xp.name e,Xp.l e)=e:=by cases e;rfl
theorem yC (s:Sx):nS (Sx.op s,Sx.line s,Sx.name s,Sx.arg s,Sx.index s,Sx.expr s,Sx.body s,Sx.els s)=s:=by cases s;rfl
abbrev NV:Y ζ:=[[97],[98],[120],[121],[118]]
def GE:Nat->Xp->Prop
 |0,_=>False
 |d+1,e=>(e.op=3->e.name=[113])/\(e.op≠1->e.op≠2->1<=e.l.length)/\e.l.length<=2/\(∀x∈e.l,GE d x)/\(e.op=2->e.name∈NV)/\(e.op≠1->e.op≠2->e.op≠3->2<=e.l.length/\6<=e.op/\e.op<=18)
theorem GE.mono:∀{d:Nat} {e:Xp},GE d e->GE (d+1) e
 |0,_,h=>h.elim
 |_+1,_,h=>⟨h.1,h.2.1,h.2.2.1,λx a=>(h.2.2.2.1 x a).mono,h.2.2.2.2⟩
theorem GE.le {d k:Nat} {e:Xp} (h:GE d e) (hk:d<=k):GE k e:=by
 induction hk with
 |refl=>exact h
 |step _ a=>exact a.mono
theorem ND (n:Int):ry n=M (.mk 1 n [] []):=rfl
theorem Hq (s:ζ):pq s=M (.mk 2 0 s []):=rfl
theorem E7 (o:Int) (a b:Xp):nR (o,a,b)=M (.mk o 0 [] [a,b]):=by
 cases a;cases b;rfl
theorem tR (s:ζ) (e:Xp):jt (s,e)=M (.mk 1 0 s [] [] e [] []):=by
 cases e;rfl
abbrev MK:Type:=Int×Int×Bool×Bool×Bool×Bool
abbrev O6:Type:=η×Int
abbrev HD:Type:=Bool×Y ζ
theorem GE.num (n:Int) (d:Nat):GE (d+1) (.mk 1 n [] []):=⟨λh=>(by cases h),λh=>(h rfl).elim,by simp[Xp.l],λx a=>(by cases a),λh=>(by cases h),λh=>(h rfl).elim⟩
theorem GE.nm {s:ζ} (hs:s∈NV) (d:Nat):GE (d+1) (.mk 2 0 s []):=⟨λh=>(by cases h),λ_ h=>(h rfl).elim,by simp[Xp.l],λx a=>(by cases a),λ_=>hs,λ_ h=>(h rfl).elim⟩
theorem GE.bin {o:Int} {a b:Xp} {d:Nat} (q:6<=o/\o<=18) (s:GE d a) (hb:GE d b):GE (d+1) (.mk o 0 [] [a,b]):=
 ⟨λh=>(by have h:o=3:=h;omega),λ_ _=>by simp[Xp.l],by simp[Xp.l],λx c=>by
   simp only[Xp.l,bh,cu,gj]at c;rcases c with rfl|rfl
   .exact s
   .exact hb,λh=>(by have h:o=2:=h;omega),λ_ _ _=>⟨by simp[Xp.l],q⟩⟩
theorem GE.ix {a:Xp} {d:Nat} (q:GE d a):GE (d+1) (.mk 3 0 [113] [a]):=
 ⟨λ_=>rfl,λ_ _=>by simp[Xp.l],by simp[Xp.l],λx c=>by
   simp only[Xp.l,bh,cu,gj]at c;rw[c];exact q,λh=>(by cases h),λ_ _ h=>(h rfl).elim⟩
theorem CZ:∀(n d:Nat),d<n->d<=10->∀(m:MK) (t:O6) (h:HD),TP t->Ok (iy n ((d:Int),m,t,h)) λy=>GE (d+1) y.1/\y.2.1=m/\uH t y.2.2.1/\y.2.2.2=h
 |0,d,hd,_,_,_,_,_=>by omega
 |n+1,d,hd,h10,m,t,h,ht=>by
  rw[ym];unfold nZ aX bm bN du cW bf bA bH kW aV aE;refine aw (gw 10 t ht) λy a=>?_
  obtain⟨k,t1⟩:=y;obtain⟨s1,k0,k1,_⟩:=a;have k1:=k1 (by decide);dsimp only at s1 k0 k1;refine aU (λx=>x.2=(m,t1,h,(0,0,[]),[[97],[98],[120],[121],[118],[120],[121]])/\(x.1=af->2<=k/\(d=0->k<7))) ?_ ?_
  .refine bK (λ_=>aj ⟨rfl,λh=>(by cases h)⟩) λg=>aK (λg2=>aj ⟨rfl,λg3=>⟨g,λ_=>?_⟩⟩) λg2=>aj ⟨rfl,λ_=>⟨g,λh=>(g2 (by dsimp only;omega)).elim⟩⟩
   dsimp only at g3;rw[mg]at g3;exact g3
  rintro⟨b,x⟩ ⟨e,hb⟩;dsimp only at e hb;subst e;refine aQ (λ_=>?_) λg=>?_
  .refine aw (gw 4 t1 s1.p) λy a=>?_
   refine aS (ND _) (aj ?_);exact⟨GE.num _ _,rfl,s1.trans a.1,rfl⟩
  obtain⟨q0,q1⟩:=hb g;refine bK (λg=>?_) λg=>?_
  .refine aw (gw _ t1 s1.p) λy a=>?_
   obtain⟨Z,q,c,_⟩:=a;have c:=c (show (1:Int)<=7 by decide);refine aO q c (aO q c (aT ?_));refine aS (Hq _) (aj ?_);have hnv:∀z∈([[97],[98],[120],[121],[118],[120],[121]]:Y ζ),z∈NV:=by decide
   exact⟨GE.nm (hnv _ (bM (T:=.str) q c)) _,rfl,s1.trans Z,rfl⟩
  dsimp only at g;have hd0:d≠0:=λh=>by have:=q1 h;omega
  obtain⟨d,rfl⟩:∃k,d=k+1:=⟨d-1,by omega⟩
  refine aK (λg=>?_) λg=>?_
  .refine aw (CZ n 0 (by omega) (by omega) m t1 h s1.p) λy a=>?_
   obtain⟨e,m',t',h'⟩:=y;obtain⟨U,L,s,A⟩:=a;dsimp only at U L s A;subst L;subst A;refine bd (by simp) (aj ?_);dsimp only;rw[fo];exact⟨(GE.ix (U.le (by omega):GE (d+1) e)),rfl,s1.trans s,rfl⟩
  .refine aw (gw _ t1 s1.p) λy a=>?_
   obtain⟨k2,t2⟩:=y;obtain⟨Z,q,c,_⟩:=a;have c:=c (by decide);dsimp only at Z q c;refine aO q c (aO q c (aT ?_));have ho:(6:Int)<=aI (T:=.int .i64) [6,7,8,11,13,17] k2/\aI (T:=.int .i64) [6,7,8,11,13,17] k2<=(18:Int):=by
    have h1:=bM (T:=.int .i64) (xs:=([6,7,8,11,13,17]:η)) q c;have:∀z:Int,z∈([6,7,8,11,13,17]:η)->6<=z/\z<=18:=by decide
    exact this _ h1
   have ew:bl .i64 (((d+1:Nat):Int)-1)=(d:Int):=by rw[iK (by omega) (by omega)];omega
   dsimp only;rw[ew];refine aw (CZ n d (by omega) (by omega) m t2 h Z.p) λy a=>?_
   obtain⟨e,m',t',h'⟩:=y;obtain⟨U,L,s,A⟩:=a;dsimp only at U L s A;subst L;subst A;refine bd (by simp) ?_;refine aw (CZ n d (by omega) (by omega) m' t' h' s.p) λy a=>?_
   obtain⟨e2,m2,t2',h2⟩:=y;obtain⟨w1,w2,w3,w4⟩:=a;dsimp only at w1 w2 w3 w4;subst w2;subst w4;refine bd (by simp) ?_;refine aS (E7 _ _ _) (aj ?_);dsimp only;rw[fo];exact⟨GE.bin ho U w1,rfl,s1.trans (Z.trans (s.trans w3)),rfl⟩
theorem ZL (d:Nat) (hd:d<=10) (m:MK) (t:O6) (h:HD) (ht:TP t):Ok (fe ((d:Int),m,t,h)) λy=>GE (d+1) y.1/\y.2.1=m/\uH t y.2.2.1/\y.2.2.2=h:=CZ fuel d (by rw[jZ];omega) hd m t h ht
def NE (op:Int):Prop:=op=1\/op=2\/op=3\/op=14
def ZE (e:Xp):Prop:=GE 4 e\/e= .mk 0 0 [] []
structure NO (nT:Nat) (s:Sx):Prop where
 o0:1<=s.op
 o1:s.op<=15
 vr:s.op=1->s.index=[]->s.name∈NV
 lk:s.op=4->s.name=[109]\/s.name=[110]
 rw:s.op=5\/s.op=6->s.name=[114]
 cn:s.op=9\/s.op=10\/s.op=11->s.name=[99]
 sp:s.op=12\/s.op=13->s.name∈vL.take nT
 se:s.op=14->s.name=[102]
 ge:s.op=15->s.name=[97]/\s.arg=[102]
 el:¬s.op=2->s.els=[]
 bo:s.op=1\/9<=s.op->s.body=[]
variable {nT:Nat}
def GS (nT:Nat):Nat->Sx->Prop
 |0,_=>False
 |d+1,s=>(s.index≠[]->s.name=[113])/\s.index.length<=1/\(∀e∈s.index,GE 4 e)/\(NE s.op->GE 4 s.expr)/\ZE s.expr/\s.body.length<=8/\s.els.length<=8/\(∀x∈s.body,GS nT d x)/\(∀x∈s.els,GS nT d x)/\NO nT s
theorem GS.mono:∀{d:Nat} {s:Sx},GS nT d s->GS nT (d+1) s
 |0,_,h=>h.elim
 |_+1,_,⟨a,b,c,e,f,g,i,j,k,l⟩=>⟨a,b,c,e,f,g,i,λx q=>(j x q).mono,λx q=>(k x q).mono,l⟩
theorem GS.le {d k:Nat} {s:Sx} (h:GS nT d s) (hk:d<=k):GS nT k s:=by
 induction hk with
 |refl=>exact h
 |step _ a=>exact a.mono
theorem NO.asg {s a:ζ} {e:Xp} {i:Y Xp} (hs:i=[]->s∈NV):NO nT (.mk 1 0 s a i e [] []):=by
 constructor<;>simp[Sx.op,Sx.name,Sx.index,Sx.els,Sx.body];exact λh=>by simpa using hs h
theorem GS.asg {d:Nat} {s:ζ} (hs:s∈NV) {e:Xp} (h:GE 4 e):GS nT (d+1) (.mk 1 0 s [] [] e [] []):=
 ⟨λh=>(h rfl).elim,by simp[Sx.index],λe he=>(by cases he),λ_=>h,.inl h,by simp[Sx.body],by simp[Sx.els],λx a=>(by cases a),λx a=>(by cases a),NO.asg λ_=>hs⟩
theorem GS.aix {d:Nat} {i e:Xp} (hi:GE 4 i) (h:GE 4 e):GS nT (d+1) (.mk 1 0 [113] [] [i] e [] []):=
 ⟨λ_=>rfl,by simp[Sx.index],λe he=>(by simp only[Sx.index,aJ]at he;rw[he];exact hi),λ_=>h,.inl h,by simp[Sx.body],by simp[Sx.els],λx a=>(by cases a),λx a=>(by cases a),NO.asg λh=>(by cases h)⟩
theorem GS.we {d:Nat} {op:Int} {s a:ζ} {e:Xp} {b l:Y Sx} (h:GE 4 e) (hb:b.length<=8) (hl:l.length<=8) (c:∀x∈b,GS nT d x) (gl:∀x∈l,GS nT d x) (hn:NO nT (.mk op 0 s a [] e b l)):GS nT (d+1) (.mk op 0 s a [] e b l):=
 ⟨λh=>(h rfl).elim,by simp[Sx.index],λe he=>(by cases he),λ_=>h,.inl h,hb,hl,c,gl,hn⟩
theorem GS.wo {d:Nat} {op ln:Int} {s a:ζ} {b:Y Sx} (z:4<=op/\op≠14) (hb:b.length<=8) (q:∀x∈b,GS nT d x) (hn:NO nT (.mk op ln s a [] (.mk 0 0 [] []) b [])):GS nT (d+1) (.mk op ln s a [] (.mk 0 0 [] []) b []):=
 ⟨λh=>(h rfl).elim,by simp[Sx.index],λe he=>(by cases he),λh=>(by have h:op=1\/op=2\/op=3\/op=14:=h;omega),.inr rfl,hb,by simp[Sx.els],q,λx c=>(by cases c),hn⟩
def QS (nT:Nat) (d:Nat) (n:Int) (t:O6) (h:HD) (y:MK×O6×HD×Y Sx):Prop:=(y.2.2.2.length:Int)<=max 0 n/\(∀s∈y.2.2.2,GS nT (d+1) s)/\uH t y.2.1/\y.2.2.1.2=h.2
def QT (nT:Nat) (d:Nat) (t:O6) (h:HD) (y:Sx×MK×O6×HD):Prop:=GS nT (d+1) y.1/\uH t y.2.2.1/\y.2.2.2.2=h.2
def QB (nT:Nat) (d:Nat) (t:O6) (h:HD) (y:Y Sx×MK×O6×HD):Prop:=y.1.length<=2/\(∀s∈y.1,GS nT (d+1) s)/\uH t y.2.2.1/\y.2.2.2.2=h.2
abbrev RS:Type:=(ν×MK×O6×HD)->I (MK×O6×HD×Y Sx)
abbrev RT:Type:=(Int×MK×O6×HD)->I (Sx×MK×O6×HD)
abbrev RBk:Type:=((ζ×Int)×MK×O6×HD)->I (Y Sx×MK×O6×HD)
def SpS (nT:Nat) (rs:RS) (d:Nat):Prop:=∀(n:Int) (m:MK) (t:O6) (h:HD),n<=3->TP t->h.2.length+d<=100->Ok (rs (((d:Int),n),m,t,h)) (QS nT d n t h)
def SpT (nT:Nat) (a:RT) (d:Nat):Prop:=∀(m:MK) (t:O6) (h:HD),TP t->h.2.length+d<=100->Ok (a ((d:Int),m,t,h)) (QT nT d t h)
def SpB (nT:Nat) (a:RBk) (d:Nat):Prop:=∀(s:ζ) (m:MK) (t:O6) (h:HD),TP t->h.2.length+1+d<=100->Ok (a ((s,(d:Int)),m,t,h)) (QB nT d t h)
theorem XJ (rs:RS) (q:RT) (U:RBk) (d:Nat) (ht:SpT nT q d):SpS nT (mI rs q U) d:=by
 intro n m t h hn hp hh;unfold mI aX bm bw bN du cW bf bA bH cR aE cH eh;refine qb (λx=>(n-x.1).toNat) (λx=>0<=x.1/\(x.1<=n\/x.1=0)/\uH t x.2.2.1/\(x.2.2.2.1.length:Int)<=x.1/\(∀s∈x.2.2.2.1,GS nT (d+1) s)/\x.2.2.2.2.2=h.2) ?_ ⟨dj _,.inr rfl,uH.refl hp,by simp,λs hs=>(by cases hs),rfl⟩;rintro⟨(i:Int),m',t',l,h'⟩ ⟨i0,Z,e1,e2,e3,c⟩;dsimp only at i0 Z e1 e2 e3 c;refine aU (λx=>x.2=(m',t',l,h')/\(x.1=J->i<n)) ?_ ?_
 .refine bK (λg=>aK (λ_=>aj ⟨rfl,λ_=>g⟩) λ_=>aj ⟨rfl,λ_=>g⟩) λ_=>aj ⟨rfl,λh=>(by cases h)⟩
 rintro⟨b,x⟩ ⟨L,A⟩;dsimp only at L A;subst L;refine aQ (λhb=>?_) λ_=>aj ⟨by dsimp only;omega,e3,e1,c⟩
 have g:=A hb;refine aw (ht m' t' h' e1.p (by rw[c];exact hh)) λy hy=>?_
 obtain⟨s,m2,t2,h2⟩:=y;obtain⟨k1,k2,z⟩:=hy;dsimp only at k1 k2 z;refine bd (by simp) (bc (by simp;omega) (by omega) (aj ?_));dsimp only;rw[fo,yC,iK (n:=i+1) (by omega) (by omega)];refine ⟨⟨by omega,by omega,e1.trans k2,by simp;omega,λx a=>?_,z.trans c⟩,by omega⟩;rcases bQ.1 a with a|a
 .exact e3 x a
 .rw[aJ]at a;subst a;exact k1
theorem XN (rs:RS) (U:RT) (Z:RBk) (d:Nat) (hs:SpS nT rs d):SpB nT (mJ rs U Z) d:=by
 intro s m t h hp hh;unfold mJ aX bm bN du bH aV;refine bc (by simp;omega) (by omega) ?_;refine aw (gw 2 t hp) λy q=>?_
 obtain⟨k,t1⟩:=y;obtain⟨c,L,a,_⟩:=q;have a:=a (by decide);dsimp only at c L a;have ew:bl .i64 (1+k)=1+k:=iK (by omega) (by omega);dsimp only;rw[ew];refine aw (hs (1+k) m t1 (h.1,h.2++[s]) (by omega) c.p (by simp;omega)) λy q=>?_
 obtain⟨m2,t2,h2,l⟩:=y;obtain⟨k1,k2,A,z⟩:=q;dsimp only at k1 k2 A z;refine bd (by simp) ?_;dsimp only;rw[z];have el:bl .i64 ((aN (h.2++[s]).length)-1)=(h.2.length:Int):=by
  rw[bk,eP,iK (by simp<;>omega) (by simp<;>omega)];simp<;>omega
 rw[el];refine cV (dx (by omega) (zS (by simp;omega) (aj ?_)));refine ⟨by dsimp only;omega,k2,c.trans A,?_⟩;show dI (aP (h.2.length:Int)) (h.2++[s])=h.2;simp
theorem CL (s:ζ) (m:MK) (t:O6) (h:HD) (hh:h.2.length<=100):Ok (eQ (s,m,t,h)) λy=>y.2=(m,t,h):=by
 unfold eQ du;exact aw (yg h.2 s (by omega)) λy _=>aj rfl
theorem aa2 (rs:RS) (rt:RT) (rb:RBk) (d:Nat) (hd:d<=5) (h0:1<=d->SpS nT rs 0) (hS:1<=d->SpS nT rs (d-1)) (hB:1<=d->SpB nT rb (d-1)):SpT nT (nY rs rt rb) d:=by
 intro m t h hp hh;unfold nY aX bm bw bN du cW bf bA bH kW aE eh;refine aw (gw 18 t hp) λy q=>?_
 obtain⟨k,t1⟩:=y;obtain⟨s1,k0,k1,_⟩:=q;have k1:=k1 (by decide);dsimp only at s1 k0 k1;have hE:∀(j:Nat) (m':MK) (t':O6) (h':HD),j<=1->TP t'->Ok (fe ((j:Int),m',t',h')) λy=>GE 4 y.1/\y.2.1=m'/\uH t' y.2.2.1/\y.2.2.2=h':=λj m' t' h' hj ht'=>(ZL j (by omega) m' t' h' ht').mono λy q=>⟨q.1.le (by omega),q.2⟩
 have ed:bl .i64 ((d:Int)-1)=(d:Int)-1:=iK (by omega) (by omega);have ed1:1<=d->(d:Int)-1=((d-1:Nat):Int):=λ_=>by omega
 refine aU (λx=>x.2=((m.1,bl .i64 (m.2.1-1),m.2.2),t1,(0,0,[],[],0,0,[]),h)/\(x.1=J->1<=d)) ?_ ?_
 .refine bK (λg=>aT (bK (λ_=>aj ⟨rfl,λ_=>?_⟩) λ_=>aj ⟨rfl,λh=>(by cases h)⟩)) λ_=>aj ⟨rfl,λh=>(by cases h)⟩
  dsimp only at g;omega
 generalize ((m.1,bl .i64 (m.2.1-1),m.2.2):MK)=m0;rintro⟨nest,x⟩ ⟨e,hn⟩;dsimp only at e hn;subst e;refine bK (λ_=>?_) λg4=>?_
 .refine aO k0 (by dsimp only[ai];omega) (aO k0 (by dsimp only[ai];omega) (aT ?_));refine aw (hE 1 m0 t1 h (by omega) s1.p) λy q=>?_
  obtain⟨e,m2,t2,h2⟩:=y;obtain⟨v1,v2,v3,v4⟩:=q;dsimp only at v1 v2 v3 v4;subst v2;subst v4;refine bd (by simp) (aS (tR _ _) (aj ?_));dsimp only;rw[fo,yC];have hnv:∀z∈([[120],[121],[120],[118]]:Y ζ),z∈NV:=by decide
  exact⟨GS.asg (hnv _ (bM (T:=.str) k0 (by dsimp only[ai];omega))) v1,s1.trans v3,rfl⟩
 dsimp only at g4;refine aK (λ_=>?_) λg5=>?_
 .refine aw (gw 2 t1 s1.p) λy q=>?_
  obtain⟨u1,u2,u3,_⟩:=q;have u3:=u3 (by decide);refine aO u2 u3 (aO u2 u3 (aT ?_));refine aw (hE 1 m0 y.2 h (by omega) u1.p) λz L=>?_
  obtain⟨e,m2,t2,h2⟩:=z;obtain⟨v1,v2,v3,v4⟩:=L;dsimp only at v1 v2 v3 v4;subst v2;subst v4;refine bd (by simp) (aS (tR _ _) (aj ?_));dsimp only;rw[fo,yC];have hnv:∀z∈([[97],[98]]:Y ζ),z∈NV:=by decide
  exact⟨GS.asg (hnv _ (bM (T:=.str) u2 u3)) v1,s1.trans (u1.trans v3),rfl⟩
 dsimp only at g5;refine aK (λ_=>?_) λg6=>?_
 .refine aw (hE 0 m0 t1 h (by omega) s1.p) λz L=>?_
  obtain⟨e,m2,t2,h2⟩:=z;obtain⟨v1,v2,v3,v4⟩:=L;dsimp only at v1 v2 v3 v4;subst v2;subst v4;refine bd (by simp) ?_;refine aw (hE 1 m2 t2 h2 (by omega) v3.p) λz L=>?_
  obtain⟨e',m3,t3,h3⟩:=z;obtain⟨w1,Z,w3,w4⟩:=L;dsimp only at w1 Z w3 w4;subst Z;subst w4;refine bd (by simp) (aj ?_);dsimp only;rw[fo,fo];exact⟨GS.aix v1 w1,s1.trans (v3.trans w3),rfl⟩
 dsimp only at g6;have L:∀(c:Prop),c->c:=λ_ h=>h
 have dd:1<=d->d-1+1=d:=λ_=>by omega
 have w8:8<=k->bl .i64 (k-8)=k-8:=λ_=>iK (by omega) (by omega)
 refine aU (λx=>x.2=(m0,t1,(0,0,[],[],0,0,[]),h)/\(x.1=J->1<=d)) ?_ ?_
 .refine aK (λ_=>aj ⟨rfl,λg=>?_⟩) λ_=>aj ⟨rfl,λh=>(by cases h)⟩
  dsimp only at g;rw[qw]at g;omega
 rintro⟨b,x⟩ ⟨e,hb⟩;dsimp only at e hb;subst e;refine aQ (λa=>?_) λ_=>?_
 .have A:=hb a;refine aw (hE 1 m0 t1 h (by omega) s1.p) λz L=>?_
  obtain⟨e,m2,t2,h2⟩:=z;obtain⟨v1,v2,v3,v4⟩:=L;dsimp only at v1 v2 v3 v4;subst v2;subst v4;refine bd (by simp) ?_;dsimp only;rw[ed,ed1 A];refine aw (hS A 1 m2 t2 h2 (by omega) v3.p (by omega)) λz L=>?_
  obtain⟨m3,t3,h3,l⟩:=z;obtain⟨w1,Z,w3,w4⟩:=L;dsimp only at w1 Z w3 w4;rw[dd A]at Z;refine bd (by simp) ?_;refine aU (λx=>x.2.2.2.1=(2,0,[],[],e.op,e.n,e.name,e.l)/\uH t1 x.2.1/\x.2.2.2.2.1.2=h2.2/\x.2.2.2.2.2.1=l/\x.2.2.2.2.2.2.length<=8/\∀s∈x.2.2.2.2.2.2,GS nT d s) ?_ ?_
  .refine aw (gw 2 t3 w3.p) λy q=>?_
   refine aK (λ_=>?_) λ_=>aj ⟨rfl,v3.trans (w3.trans q.1),w4,rfl,by simp,λs hs=>(by cases hs)⟩
   dsimp only;refine aw (hS A 1 m3 y.2 h3 (by omega) q.1.p (by rw[w4];omega)) λz L=>?_
   obtain⟨m4,t4,h4,l2⟩:=z;obtain⟨x1,x2,x3,x4⟩:=L;dsimp only at x1 x2 x3 x4;rw[dd A]at x2;exact bd (by simp) (aj ⟨rfl,v3.trans (w3.trans (q.1.trans x3)),x4.trans w4,rfl,by dsimp only;omega,x2⟩)
  rintro⟨m5,t5,z5,e5,h5,l5,l6⟩ ⟨x1,x2,x3,x4,x5,x6⟩;dsimp only at x1 x2 x3 x4 x5 x6;subst x1;subst x4;refine aj ?_;dsimp only;rw[fo];exact⟨GS.we v1 (by first|omega|(dsimp only;omega)) x5 Z x6 (by constructor<;>simp[Sx.op,Sx.name,Sx.index,Sx.arg,Sx.els,Sx.body]),s1.trans x2,x3⟩
 refine aU (λx=>x.2=(m0,t1,(0,0,[],[],0,0,[]),h)/\(x.1=J->1<=d)) ?_ ?_
 .refine aK (λ_=>aj ⟨rfl,λg=>?_⟩) λ_=>aj ⟨rfl,λh=>(by cases h)⟩
  dsimp only at g;rw[qw]at g;omega
 rintro⟨b,x⟩ ⟨e,hb⟩;dsimp only at e hb;subst e;refine aQ (λa=>?_) λ_=>?_
 .have A:=hb a;refine aS (Hq _) (aS (ND _) (aS (E7 _ _ _) ?_));dsimp only;rw[ed,ed1 A];refine aw (hS A 1 _ t1 h (by omega) s1.p (by omega)) λz L=>?_
  obtain⟨m3,t3,h3,l⟩:=z;obtain⟨w1,Z,w3,w4⟩:=L;dsimp only at w1 Z w3 w4;rw[dd A]at Z;refine bd (by simp) ?_;refine aS (Hq _) (aS (ND _) (aS (E7 _ _ _) (aS (tR _ _) ?_)));refine bc (by simp;omega) (by omega) (aj ?_);dsimp only;rw[fo,fo,yC];refine ⟨GS.we (GE.bin (by omega) (GE.nm (by decide) 2) (GE.num _ 2)) (by simp;omega) (by simp) (λx U=>?_) (λx U=>(by cases U)) (by constructor<;>simp[Sx.op,Sx.name,Sx.index,Sx.arg,Sx.els,Sx.body]),s1.trans w3,w4⟩;rcases bQ.1 U with U|U
  .exact Z x U
  .rw[aJ]at U;subst U;rw[<- dd A];exact GS.asg (by decide) (GE.bin (by omega) (GE.nm (by decide) 2) (GE.num _ 2))
 refine aU (λx=>x.2=(m0,t1,(0,0,[],[],0,0,[]),h)/\(x.1=J->nest=J/\(k=8\/k=9))) ?_ ?_
 .refine aK (λg=>aQ (λgn=>?_) λ_=>aj ⟨rfl,λh=>(by cases h)⟩) λ_=>aK (λg=>aQ (λgn=>?_) λ_=>aj ⟨rfl,λh=>(by cases h)⟩) λ_=>aj ⟨rfl,λh=>(by cases h)⟩
  all_goals
   dsimp only at g ⊢;rw[w8 (by omega)];refine aO (by omega) (by simp;omega) (aO (by omega) (by simp;omega) (aT ?_));refine aw (CL _ m0 t1 h (by omega)) λy q=>?_
   obtain⟨yb,y2⟩:=y;dsimp only at q;subst q;exact bd (by simp) (aj ⟨rfl,λ_=>⟨gn,by omega⟩⟩)
 rintro⟨b,x⟩ ⟨e,hb⟩;dsimp only at e hb;subst e;refine aQ (λa=>?_) λ_=>?_
 .obtain⟨q1,q2⟩:=hb a;have A:=hn q1;have hnm:aI (T:=.str) [[109],[110]] (k-8)=[109]\/aI (T:=.str) [[109],[110]] (k-8)=[110]:=by rcases q2 with rfl|rfl<;>simp[aI]
  dsimp only;rw[w8 (by omega),ed,ed1 A];refine aO (by omega) (by simp;omega) (aO (by omega) (by simp;omega) (aT ?_));refine aw (hB A _ m0 t1 h s1.p (by omega)) λz L=>?_
  obtain⟨l,m3,t3,h3⟩:=z;obtain⟨w1,Z,w3,w4⟩:=L;dsimp only at w1 Z w3 w4;rw[dd A]at Z;exact bd (by simp) (aj ⟨GS.wo (by omega) (by first|omega|(dsimp only;omega)) Z (by constructor<;>simp[Sx.op,Sx.name,Sx.index,Sx.arg,Sx.els,Sx.body];exact hnm),s1.trans w3,w4⟩)
 refine aU (λx=>x.2=(m0,t1,(0,0,[],[],0,0,[]),h)/\(x.1=J->nest=J/\(k=10\/k=11))) ?_ ?_
 .refine aK (λg=>aQ (λgn=>?_) λ_=>aj ⟨rfl,λh=>(by cases h)⟩) λ_=>aK (λg=>aQ (λgn=>?_) λ_=>aj ⟨rfl,λh=>(by cases h)⟩) λ_=>aj ⟨rfl,λh=>(by cases h)⟩
  all_goals
   dsimp only at g ⊢;refine aw (CL _ m0 t1 h (by omega)) λy q=>?_
   obtain⟨yb,y2⟩:=y;dsimp only at q;subst q;exact bd (by simp) (aj ⟨rfl,λ_=>⟨gn,by omega⟩⟩)
 rintro⟨b,x⟩ ⟨e,hb⟩;dsimp only at e hb;subst e;refine aQ (λa=>?_) λ_=>?_
 .obtain⟨q1,q2⟩:=hb a;have A:=hn q1;dsimp only;rw[ed,ed1 A,iK (n:=k-10) (by omega) (by omega),iK (n:=k-10+5) (by omega) (by omega)];refine aw (hB A _ m0 t1 h s1.p (by omega)) λz L=>?_
  obtain⟨l,m3,t3,h3⟩:=z;obtain⟨w1,Z,w3,w4⟩:=L;dsimp only at w1 Z w3 w4;rw[dd A]at Z;exact bd (by simp) (aj ⟨GS.wo (by omega) (by first|omega|(dsimp only;omega)) Z (by constructor<;>simp[Sx.op,Sx.name,Sx.index,Sx.arg,Sx.els,Sx.body]<;>omega),s1.trans w3,w4⟩)
 refine aU (λx=>x.2=(m0,t1,(0,0,[],[],0,0,[]),h)/\(x.1=J->nest=J)) ?_ ?_
 .exact aK (λ_=>aj ⟨rfl,λg=>g⟩) λ_=>aj ⟨rfl,λh=>(by cases h)⟩
 rintro⟨b,x⟩ ⟨e,hb⟩;dsimp only at e hb;subst e;refine aQ (λa=>?_) λ_=>?_
 .have A:=hn (hb a);refine aw (gw 2 t1 s1.p) λy q=>?_
  obtain⟨u1,u2,u3,_⟩:=q;have u3:=u3 (by decide);dsimp only;rw[iK (n:=1+y.1) (by omega) (by omega)];refine aw (h0 A (1+y.1) _ y.2 h (by omega) u1.p (by omega)) λz L=>?_
  obtain⟨m3,t3,h3,l⟩:=z;obtain⟨w1,Z,w3,w4⟩:=L;dsimp only at w1 Z w3 w4;exact bd (by simp) (aj ⟨GS.wo (by omega) (by first|omega|(dsimp only;omega)) (λx U=>(Z x U).le (by omega)) (by constructor<;>simp[Sx.op,Sx.name,Sx.index,Sx.arg,Sx.els,Sx.body]),s1.trans (u1.trans w3),w4⟩)
 refine aU (λx=>x.2=(m0,t1,(0,0,[],[],0,0,[]),h)/\(x.1=J->nest=J)) ?_ ?_
 .exact aK (λ_=>aQ (λgn=>aj ⟨rfl,λ_=>gn⟩) λ_=>aj ⟨rfl,λh=>(by cases h)⟩) λ_=>aj ⟨rfl,λh=>(by cases h)⟩
 rintro⟨b,x⟩ ⟨e,hb⟩;dsimp only at e hb;subst e;refine aQ (λa=>?_) λ_=>?_
 .have A:=hn (hb a);dsimp only;rw[ed,ed1 A];refine aw (hS A 2 _ t1 h (by omega) s1.p (by omega)) λz L=>?_
  obtain⟨m3,t3,h3,l⟩:=z;obtain⟨w1,Z,w3,w4⟩:=L;dsimp only at w1 Z w3 w4;rw[dd A]at Z;exact bd (by simp) (aj ⟨GS.wo (by omega) (by first|omega|(dsimp only;omega)) Z (by constructor<;>simp[Sx.op,Sx.name,Sx.index,Sx.arg,Sx.els,Sx.body]),s1.trans w3,w4⟩)
 refine aU (λx=>x.2=(m0,t1,(0,0,[],[],0,0,[]),h)/\(x.1=J->nest=J)) ?_ ?_
 .refine aK (λ_=>aQ (λgn=>aQ (λ_=>?_) λ_=>aj ⟨rfl,λh=>(by cases h)⟩) λ_=>aj ⟨rfl,λh=>(by cases h)⟩) λ_=>aj ⟨rfl,λh=>(by cases h)⟩
  refine aw (CL _ m0 t1 h (by omega)) λy q=>?_
  obtain⟨yb,y2⟩:=y;dsimp only at q;subst q;exact bd (by simp) (aj ⟨rfl,λ_=>gn⟩)
 rintro⟨b,x⟩ ⟨e,hb⟩;dsimp only at e hb;subst e;refine aQ (λa=>?_) λ_=>?_
 .have A:=hn (hb a);refine aS (Hq _) (aS (tR _ _) (aj ?_));dsimp only;rw[fo,yC];refine ⟨GS.wo (by omega) (by simp) (λx U=>?_) (by constructor<;>simp[Sx.op,Sx.name,Sx.index,Sx.arg,Sx.els,Sx.body]),s1,rfl⟩;simp only[bh,cu,gj]at U;rw[<- dd A];rcases U with rfl|rfl
  .exact GS.wo (by omega) (by simp) (λx U=>(by cases U)) (by constructor<;>simp[Sx.op,Sx.name,Sx.index,Sx.arg,Sx.els,Sx.body])
  .exact GS.asg (by decide) (GE.nm (by decide) 3)
 refine aU (λx=>x.2=(m0,t1,(0,0,[],[],0,0,[]),h)/\(x.1=J->nest=J)) ?_ ?_
 .refine aK (λ_=>aQ (λgn=>?_) λ_=>aj ⟨rfl,λh=>(by cases h)⟩) λ_=>aj ⟨rfl,λh=>(by cases h)⟩
  refine aw (CL _ m0 t1 h (by omega)) λy q=>?_
  obtain⟨yb,y2⟩:=y;dsimp only at q;subst q;exact bd (by simp) (aj ⟨rfl,λ_=>gn⟩)
 rintro⟨b,x⟩ ⟨e,hb⟩;dsimp only at e hb;subst e;refine aQ (λa=>?_) λ_=>?_
 .have A:=hn (hb a);refine aw (gw 2 t1 s1.p) λy q=>aj ?_
  obtain⟨u1,u2,u3,_⟩:=q;have u3:=u3 (by decide);dsimp only;rw[iK (n:=10+y.1) (by omega) (by omega)];refine ⟨GS.wo (by omega) (by simp) (λx U=>?_) (by constructor<;>simp[Sx.op,Sx.name,Sx.index,Sx.arg,Sx.els,Sx.body]),s1.trans u1,rfl⟩;simp only[bh,cu,gj]at U;rw[U,<-dd A];exact GS.wo (by omega) (by simp) (λx U=>(by cases U)) (by constructor<;>simp[Sx.op,Sx.name,Sx.index,Sx.arg,Sx.els,Sx.body]<;>omega)
 refine aU (λx=>x.2=(m0,t1,(0,0,[],[],0,0,[]),h)) ?_ ?_
 .exact aK (λ_=>aQ (λ_=>aQ (λ_=>aj rfl) λ_=>aj rfl) λ_=>aj rfl) λ_=>aj rfl
 rintro⟨b,x⟩ e;dsimp only at e;subst e;refine aQ (λa=>?_) λ_=>?_
 .refine aw (hE 1 _ t1 h (by omega) s1.p) λz L=>?_
  obtain⟨e,m2,t2,h2⟩:=z;obtain⟨v1,v2,v3,v4⟩:=L;dsimp only at v1 v2 v3 v4;subst v2;subst v4;refine bd (by simp) (aj ?_);dsimp only;rw[fo];exact⟨GS.we v1 (by simp) (by simp) (λx U=>(by cases U)) (λx U=>(by cases U)) (by constructor<;>simp[Sx.op,Sx.name,Sx.index,Sx.arg,Sx.els,Sx.body]),s1.trans v3,rfl⟩
 refine aU (λx=>x.2.1=m0/\uH t1 x.2.2.1/\x.2.2.2.2=h) ?_ ?_
 .refine aK (λ_=>aQ (λ_=>?_) λ_=>aj ⟨rfl,uH.refl s1.p,rfl⟩) λ_=>aj ⟨rfl,uH.refl s1.p,rfl⟩
  exact aw (gw 2 t1 s1.p) λy q=>aj ⟨rfl,q.1,rfl⟩
 rintro⟨b,m9,t9,z9,h9⟩ ⟨e1,e2,e3⟩;dsimp only at e1 e2 e3;subst e1;subst e3;refine aQ (λa=>?_) λ_=>?_
 .exact aj ⟨GS.wo (by omega) (by simp) (λx U=>(by cases U)) (by constructor<;>simp[Sx.op,Sx.name,Sx.index,Sx.arg,Sx.els,Sx.body]),s1.trans e2,rfl⟩
 refine aw (hE 1 _ t9 h9 (by omega) e2.p) λz L=>?_
 obtain⟨e,m2,t2,h2⟩:=z;obtain⟨v1,v2,v3,v4⟩:=L;dsimp only at v1 v2 v3 v4;subst v2;subst v4;refine bd (by simp) (aS (tR _ _) (aj ?_));dsimp only;rw[fo,yC];exact⟨GS.asg (by decide) v1,s1.trans (e2.trans v3),rfl⟩
theorem My:∀(n:Nat),(∀d:Nat,d<=5->3*d+1<=n->SpT nT (eJ n) d)/\(∀d:Nat,d<=5->3*d+2<=n->SpS nT (dH n) d)/\(∀d:Nat,d<=5->3*d+3<=n->SpB nT (dY n) d)
 |0=>⟨λd _ h=>by omega,λd _ h=>by omega,λd _ h=>by omega⟩
 |n+1=>by
  obtain⟨c,a,q⟩:=My n;refine ⟨λd h1 h2=>?_,λd h1 h2=>?_,λd h1 h2=>?_⟩
  .exact aa2 (dH n) (eJ n) (dY n) d h1 (λh=>a 0 (by omega) (by omega)) (λh=>a (d-1) (by omega) (by omega)) (λh=>q (d-1) (by omega) (by omega))
  .exact XJ (dH n) (eJ n) (dY n) d (c d h1 (by omega))
  .exact XN (dH n) (eJ n) (dY n) d (a d h1 (by omega))
theorem Xo (d:Nat) (hd:d<=5):SpS nT qn d:=(My fuel).2.1 d hd (by rw[jZ];omega)
def GX:Nat->Xp->Prop
 |0,_=>False
 |d+1,e=>e.l.length<=2/\∀x∈e.l,GX d x
theorem GE.x:∀{d:Nat} {e:Xp},GE d e->GX d e
 |0,_,h=>h.elim
 |_+1,_,h=>⟨h.2.2.1,λx a=>(h.2.2.2.1 x a).x⟩
theorem ZE.x {e:Xp} (h:ZE e):GX 4 e:=by
 rcases h with h|rfl
 .exact h.x
 .exact⟨by simp[Xp.l],λx a=>(by cases a)⟩
def GT:Nat->Sx->Prop
 |0,_=>False
 |d+1,s=>s.index.length<=1/\(∀e∈s.index,GX 4 e)/\GX 4 s.expr/\s.body.length<=8/\s.els.length<=8/\(∀x∈s.body,GT d x)/\(∀x∈s.els,GT d x)
theorem GS.t {nT:Nat}:∀{d:Nat} {s:Sx},GS nT d s->GT d s
 |0,_,h=>h.elim
 |_+1,_,⟨_,b,c,_,f,g,i,j,k,_⟩=>⟨b,λe he=>(c e he).x,f.x,g,i,λx a=>(j x a).t,λx a=>(k x a).t⟩
theorem xL (s:Sx):nS (Sx.op s,Sx.line s,Sx.name s,Sx.arg s,Sx.index s,ef (Xp.op (Sx.expr s),Xp.n (Sx.expr s),Xp.name (Sx.expr s),Xp.l (Sx.expr s)),Sx.body s,Sx.els s)=s:=by
 rw[fo,yC]
theorem Sp (k:Int):Ok (mw k) λ_=>True:=by
 unfold mw bf jG aE;with_reducible repeat' first|(refine OS.ok ?_;constructor)|refine IM.mk λ_=>?_
 all_goals trivial
theorem qJ (e:Xp):Ok (pn e) λ_=>True:=by
 unfold pn bf aE;with_reducible repeat' first|(refine OS.ok ?_;constructor)|refine IM.mk λ_=>?_
 all_goals trivial
theorem zf:∀(n d:Nat) (e:Xp),d<n->GX d e->Ok (ii n e) λ_=>True
 |0,_,_,h,_=>by omega
 |n+1,0,_,_,h=>h.elim
 |n+1,d+1,e,hn,h=>by
  obtain⟨h1,h2⟩:=h;rw[sx];unfold mh bf bA jf bO cR aE cH;refine aU (λx=>x.2=e) (aK (λ_=>aj (fo e)) λ_=>aj (fo e)) ?_;rintro⟨b,x⟩ q;dsimp only at q;subst q;refine aU (λy=>y.2=x) ?_ ?_
  .refine aw (Sp _) λ_ _=>?_
   with_reducible repeat' first|refine b9 (λ_=>?_) λ_=>?_|refine bK (λ_=>?_) λ_=>?_|refine ey (λ_=>?_) λ_=>?_|refine aQ (λ_=>?_) λ_=>?_|exact aj (fo x)|refine aw (iB _) λ_ _=>?_
  rintro⟨s,y⟩ c;dsimp only at c;subst c;refine aQ (λ_=>aj trivial) λ_=>?_
  refine cf y.l.length (λi x=>x.1=(i:Int)/\x.2=y) ?_ ?_ ⟨rfl,fo y⟩
  .rintro i ⟨a,z⟩ hi ⟨e1,e2⟩;dsimp only at e1 e2;subst e1;subst e2;refine dz ?_;refine cI (aT ?_);refine aw (zf n d _ (by omega) (h2 _ (bM (T:=.ex) (xs:=z.l) (j:=(i:Int)) (by omega) (by omega)))) λ_ _=>?_
   refine ey (λ_=>aj trivial) λ_=>aj ?_
   dsimp only;exact⟨gU (by omega),fo z⟩
  .rintro⟨a,z⟩ ⟨e1,e2⟩;dsimp only at e1 e2;subst e1;subst e2;exact dt (aj trivial)
theorem gq (e:Xp) (h:GX 4 e):Ok (jg e) λ_=>True:=zf fuel 4 e (by rw[jZ];omega) h
theorem KU (d:Int×Int×ζ×Int×Int×ζ):Ok (kc d) λ_=>True:=by
 unfold kc aX bm cC fw bf bA jf aE;refine aU (λ_=>True) ?_ λx _=>aQ (λ_=>aj trivial) λ_=>?_
 .with_reducible repeat' first|refine b9 (λ_=>?_) λ_=>?_|refine bK (λ_=>?_) λ_=>?_|refine ey (λ_=>?_) λ_=>?_|exact aj trivial|refine aw (iB _) λ_ _=>?_
 refine aU (λ_=>True) ?_ λx _=>aQ (λ_=>aj trivial) λ_=>?_
 .with_reducible repeat' first|refine b9 (λ_=>?_) λ_=>?_|refine aK (λ_=>?_) λ_=>?_|refine ey (λ_=>?_) λ_=>?_|exact aj trivial|refine aw (iB _) λ_ _=>?_
 with_reducible repeat' first|(refine OS.ok ?_;constructor)|refine IM.mk λ_=>?_
 all_goals trivial
theorem GW (a:Sx->I Bool) (rs:Y Sx->I Bool) (l:Y Sx) (hl:l.length<=1000) (h:∀s∈l,Ok (a s) λ_=>True):Ok (jA a rs l) λ_=>True:=by
 unfold jA bA wS aV cR aE cH;refine cf l.length (λi x=>x=(i:Int)) ?_ ?_ rfl
 .rintro i x hi rfl;refine dz ?_;refine cI ?_;refine aw (h _ (bM (T:=.sm) (xs:=l) (j:=(i:Int)) (by omega) (by omega))) λ_ _=>?_
  exact ey (λ_=>aj trivial) λ_=>aj (gU (by omega))
 .rintro x rfl;exact dt (aj trivial)
theorem I7 (c:Sx->I Bool) (rs:Y Sx->I Bool) (s:Sx) (h1:∀e∈s.index,GX 4 e) (h2:GX 4 s.expr) (hb:Ok (rs s.body) λ_=>True) (he:Ok (rs s.els) λ_=>True):Ok (kg c rs s) λ_=>True:=by
 unfold kg bf bA jG jf bO aE eh;refine aU (λx=>x.2=s) ?_ ?_
 .with_reducible repeat' first|refine b9 (λ_=>?_) λ_=>?_|refine aK (λ_=>?_) λ_=>?_|refine bK (λ_=>?_) λ_=>?_|refine fH (λ_=>?_) λ_=>?_|refine ey (λ_=>?_) λ_=>?_|refine aQ (λ_=>?_) λ_=>?_|exact aj (xL _)|refine aw (iB _) λ_ _=>?_|refine aw (qJ _) λ_ _=>?_|refine aw (gq _ h2x) λ_ _=>?_
 rintro⟨b,x⟩ a;dsimp only at a;have a:=a.symm;subst a;refine aQ (λ_=>aj trivial) λ_=>?_
 refine aU (λx=>x.2=s) ?_ ?_
 .with_reducible repeat' first|refine b9 (λ_=>?_) λ_=>?_|refine aK (λ_=>?_) λ_=>?_|refine bK (λ_=>?_) λ_=>?_|refine fH (λ_=>?_) λ_=>?_|refine ey (λ_=>?_) λ_=>?_|refine aQ (λ_=>?_) λ_=>?_|exact aj (xL _)|refine aw (iB _) λ_ _=>?_|refine aw (qJ _) λ_ _=>?_|refine aw (gq _ h2x) λ_ _=>?_
 rintro⟨b,x⟩ a;dsimp only at a;have a:=a.symm;subst a;refine aU (λx=>x.2=s) ?_ ?_
 .with_reducible repeat' first|refine b9 (λ_=>?_) λ_=>?_|refine aK (λ_=>?_) λ_=>?_|refine bK (λ_=>?_) λ_=>?_|refine fH (λ_=>?_) λ_=>?_|refine ey (λ_=>?_) λ_=>?_|refine aQ (λ_=>?_) λ_=>?_|exact aj (xL _)|refine aw (iB _) λ_ _=>?_|refine aw (qJ _) λ_ _=>?_|refine aw (gq _ h2x) λ_ _=>?_
 rintro⟨b,x⟩ a;dsimp only at a;have a:=a.symm;subst a;refine aQ (λ_=>aj trivial) λ_=>?_
 refine aU (λx=>x.2=s) ?_ ?_
 .with_reducible repeat' first|refine b9 (λ_=>?_) λ_=>?_|refine aK (λ_=>?_) λ_=>?_|refine bK (λ_=>?_) λ_=>?_|refine fH (λ_=>?_) λ_=>?_|refine ey (λ_=>?_) λ_=>?_|refine aQ (λ_=>?_) λ_=>?_|exact aj (xL _)|refine aw (iB _) λ_ _=>?_|refine aw (qJ _) λ_ _=>?_|refine aw (gq _ h2x) λ_ _=>?_
 rintro⟨b,x⟩ a;dsimp only at a;have a:=a.symm;subst a;refine aQ (λ_=>aj trivial) λ_=>?_
 refine aU (λx=>x.2=s) ?_ ?_
 .with_reducible repeat' first|refine b9 (λ_=>?_) λ_=>?_|refine aK (λ_=>?_) λ_=>?_|refine bK (λ_=>?_) λ_=>?_|refine fH (λ_=>?_) λ_=>?_|refine ey (λ_=>?_) λ_=>?_|refine aQ (λ_=>?_) λ_=>?_|exact aj (xL _)|refine aw (iB _) λ_ _=>?_|refine aw (qJ _) λ_ _=>?_|refine aw (gq _ h2x) λ_ _=>?_
  all_goals
   rename_i g;dsimp only[ak]at g;refine cI (aT ?_);refine aw (gq _ (h1 _ (bM (T:=.ex) (xs:=Sx.index _) (j:=0) (by omega) (by omega)))) λ_ _=>aj (xL _)
 rintro⟨b,x⟩ a;dsimp only at a;have a:=a.symm;subst a;refine aQ (λ_=>aj trivial) λ_=>?_
 refine aU (λx=>x.2=s) ?_ ?_
 .with_reducible repeat' first|refine b9 (λ_=>?_) λ_=>?_|refine aK (λ_=>?_) λ_=>?_|refine bK (λ_=>?_) λ_=>?_|refine fH (λ_=>?_) λ_=>?_|refine ey (λ_=>?_) λ_=>?_|refine aQ (λ_=>?_) λ_=>?_|exact aj (xL _)|refine aw (iB _) λ_ _=>?_|refine aw (qJ _) λ_ _=>?_|refine aw (gq _ h2x) λ_ _=>?_
 rintro⟨b,x⟩ a;dsimp only at a;have a:=a.symm;subst a;refine aU (λx=>x.2=s) ?_ ?_
 .have h2x:GX 4 (ef (Xp.op (Sx.expr s),Xp.n (Sx.expr s),Xp.name (Sx.expr s),Xp.l (Sx.expr s))):=by rw[fo];exact h2
  with_reducible repeat' first|refine b9 (λ_=>?_) λ_=>?_|refine aK (λ_=>?_) λ_=>?_|refine bK (λ_=>?_) λ_=>?_|refine fH (λ_=>?_) λ_=>?_|refine ey (λ_=>?_) λ_=>?_|refine aQ (λ_=>?_) λ_=>?_|exact aj (xL _)|refine aw (iB _) λ_ _=>?_|refine aw (qJ _) λ_ _=>?_|refine aw (gq _ h2x) λ_ _=>?_
 rintro⟨b,x⟩ a;dsimp only at a;have a:=a.symm;subst a;refine aQ (λ_=>aj trivial) λ_=>?_
 refine aU (λx=>x.2=s) ?_ ?_
 .with_reducible repeat' first|refine b9 (λ_=>?_) λ_=>?_|refine aK (λ_=>?_) λ_=>?_|refine bK (λ_=>?_) λ_=>?_|refine fH (λ_=>?_) λ_=>?_|refine ey (λ_=>?_) λ_=>?_|refine aQ (λ_=>?_) λ_=>?_|exact aj (xL _)|refine aw (iB _) λ_ _=>?_|refine aw (qJ _) λ_ _=>?_|refine aw (gq _ h2x) λ_ _=>?_
 rintro⟨b,x⟩ a;dsimp only at a;have a:=a.symm;subst a;refine aU (λx=>x.2=s) ?_ ?_
 .with_reducible repeat' first|refine b9 (λ_=>?_) λ_=>?_|refine aK (λ_=>?_) λ_=>?_|refine bK (λ_=>?_) λ_=>?_|refine fH (λ_=>?_) λ_=>?_|refine ey (λ_=>?_) λ_=>?_|refine aQ (λ_=>?_) λ_=>?_|exact aj (xL _)|refine aw (iB _) λ_ _=>?_|refine aw (qJ _) λ_ _=>?_|refine aw (gq _ h2x) λ_ _=>?_
 rintro⟨b,x⟩ a;dsimp only at a;have a:=a.symm;subst a;refine aQ (λ_=>aj trivial) λ_=>?_
 refine aU (λ_=>True) ?_ λ_ _=>aj trivial
 refine aw hb λ_ _=>aQ (λ_=>aw he λ_ _=>aj trivial) λ_=>aj trivial
theorem Jd:∀(n:Nat),(∀(d:Nat) (s:Sx),2*d<n->GT d s->Ok (eE n s) λ_=>True)/\(∀(d:Nat) (l:Y Sx),2*d+1<n->l.length<=1000->(∀s∈l,GT d s)->Ok (dD n l) λ_=>True)
 |0=>⟨λd _ h=>by omega,λd _ h=>by omega⟩
 |n+1=>by
  obtain⟨c,a⟩:=Jd n;refine ⟨λd s hd h=>?_,λd l hd hl h=>?_⟩
  .cases d with
   |zero=>exact h.elim
   |succ d=>
    obtain⟨_,L,A,Z,U,z,q⟩:=h;exact I7 (eE n) (dD n) s L A (a d _ (by omega) (by omega) z) (a d _ (by omega) (by omega) q)
  .exact GW (eE n) (dD n) l hl λs hs=>c d s (by omega) (h s hs)
theorem Kt (d:Nat) (hd:d<=100) (l:Y Sx) (hl:l.length<=1000) (h:∀s∈l,GT d s):Ok (nQ l) λ_=>True:=(Jd fuel).2 d l (by rw[jZ];omega) hl h
abbrev DT:Type:=Int×Int×ζ×Int×Int×ζ
abbrev HT:Type:=ζ×Int×Y ζ×Y Sx
abbrev PG:Type:=Y DT×Y HT
structure PX (p:PG):Prop where
 d:p.1.length<=100
 t:p.2.length<=8
 l:∀t∈p.2,t.2.2.1.length<=100
 b:∀t∈p.2,t.2.2.2.length<=100
 s:∀t∈p.2,∀s∈t.2.2.2,GT 5 s
theorem Yx (p:PG) (h:PX p):Ok (pK p) λ_=>True:=by
 obtain⟨hd,ht,hl,hb,hs⟩:=h;unfold pK aX bw cW bA bO aV cR aE cH;refine cf p.1.length (λi x=>x.1=(i:Int)/\x.2=p) ?_ ?_ ⟨rfl,rfl⟩
 .rintro i ⟨a,x⟩ hi ⟨e1,e2⟩;dsimp only at e1 e2;subst e1;subst e2;refine dz ?_;refine cI (aT ?_);refine aw (KU _) λ_ _=>?_
  exact ey (λ_=>aj trivial) λ_=>aj ⟨gU (by omega),rfl⟩
 rintro⟨a,x⟩ ⟨e1,e2⟩;dsimp only at e1 e2;subst e1;subst e2;refine dt ?_;refine aw (P:=λ_=>True) ?_ λ_ _=>aj trivial
 refine cf x.2.length (λi y=>y.1=(i:Int)/\y.2=x) ?_ ?_ ⟨rfl,rfl⟩
 .rintro i ⟨a,x⟩ hi ⟨e1,e2⟩;dsimp only at e1 e2;subst e1;have e2:=e2.symm;subst e2;refine dz ?_;refine cI (aT ?_);have hm:=bM (T:=yz) (xs:=x.2) (j:=(i:Int)) (by omega) (by omega);have h1:=hl _ hm;have h2:=hb _ hm;have s:=hs _ hm;revert h1 h2 s;generalize (aI (T:=yz) x.2 (i:Int))=t;intro h1 h2 s;refine cf t.2.2.1.length (λk y=>y.1=(k:Int)/\y.2=(x,t)) ?_ ?_ ⟨rfl,rfl⟩
  .rintro k ⟨a,z⟩ hk ⟨q,c⟩;dsimp only at q c;subst q;subst c;refine dz ?_;refine cI (aT ?_);refine aw (iB _) λ_ _=>?_
   exact ey (λ_=>aj trivial) λ_=>aj ⟨gU (by omega),rfl⟩
  .rintro⟨a,z⟩ ⟨q,c⟩;dsimp only at q c;subst q;subst c;refine dt ?_;refine aw (P:=λr=>match r with|.inl y=>y.1=((i+1:Nat):Int)/\y.2=x|.inr _=>True) ?_ ?_
   .refine aU (λy=>y.2=x) ?_ ?_
    .refine aw (iB _) λ_ _=>ey (λ_=>aj rfl) λ_=>?_
     exact aw (Kt 5 (by omega) _ (by dsimp only;omega) s) λ_ _=>aj rfl
    rintro⟨b,y⟩ e;dsimp only at e;subst e;exact aQ (λ_=>aj trivial) λ_=>aj ⟨gU (by omega),rfl⟩
   .rintro (y|y) A
    .exact aj A
    .exact aj trivial
 .rintro⟨a,y⟩ ⟨e1,e2⟩;dsimp only at e1 e2;subst e1;subst e2;exact dt (aj trivial)
theorem wQ (l:Y DT) (s:ζ) (hl:l.length<=1000):Ok (ig (l,s)) λr=> -1<=r/\r<(l.length:Int):=by
 unfold ig bA bO aV cR aE cH;refine cf l.length (λi x=>x=(i:Int)) ?_ ?_ rfl
 .rintro i x hi rfl;refine dz ?_;refine cI (aT ?_);exact aK (λ_=>aj ⟨by omega,by omega⟩) λ_=>aj (gU (by omega))
 .rintro x rfl;exact dt (aj ⟨by omega,by omega⟩)
theorem sD (l:Y HT) (s:ζ) (hl:l.length<=1000):Ok (gV (l,s)) λr=> -1<=r/\r<(l.length:Int):=by
 unfold gV bA bO aV cR aE cH;refine cf l.length (λi x=>x=(i:Int)) ?_ ?_ rfl
 .rintro i x hi rfl;refine dz ?_;refine cI (aT ?_);exact aK (λ_=>aj ⟨by omega,by omega⟩) λ_=>aj (gU (by omega))
 .rintro x rfl;exact dt (aj ⟨by omega,by omega⟩)
def DD (p:PG) (s:ζ):Prop:=∃v,ig (p.1,s)=M v/\0<=v/\v<(p.1.length:Int)
theorem YI (p:PG) (h:PX p) (t:Int) (s:ζ):Ok (pJ (p,t,s)) λk=>k≠0->k≠7->k≠8->DD p s:=by
 have hd:=h.d;have ht:=h.t;unfold pJ bf bA jG jf wS bO aV aE;refine aU (λx=>x.2=p) ?_ ?_
 .refine fH (λz=>bK (λq=>?_) λ_=>aj rfl) λ_=>aj rfl
  dsimp only[ak]at z q;refine aO z q (aT ?_);have hm:=h.l _ (bM (T:=yz) (xs:=p.2) (j:=t) z q);exact aw (yg _ s (dv hm (by omega))) λ_ _=>aj rfl
 rintro⟨b,x⟩ e;dsimp only at e;have e:=e.symm;subst e;refine aQ (λ_=>aj λ_ _ h=>(h rfl).elim) λ_=>?_
 obtain⟨v,hv,v0,c⟩:=wQ p.1 s (by omega);refine aS hv ?_;refine bK (λ_=>?_) λg=>?_
 .exact aw (sD p.2 s (by omega)) λ_ _=>fH (λ_=>aj λ_ h=>(h rfl).elim) λ_=>aj λh=>(h rfl).elim
 have a:DD p s:=⟨v,hv,g,c⟩
 refine aO g c (aT ?_);refine aK (λ_=>?_) λ_=>?_
 .exact aO g c (aT (b9 (λ_=>aj λ_ _ _=>a) λ_=>aj λ_ _ _=>a))
 refine aK (λ_=>aj λ_ _ _=>a) λ_=>?_
 refine aU (λx=>x.2=p) (aK (λ_=>aj rfl) λ_=>aK (λ_=>aj rfl) λ_=>aK (λ_=>aj rfl) λ_=>aj rfl) ?_;rintro⟨b,x⟩ e;dsimp only at e;have e:=e.symm;subst e;exact aQ (λ_=>aO g c (aT (aj λ_ _ _=>a))) λ_=>aj λ_ _ _=>a
theorem oW (p:PG) (h:PX p) (t:Int) (s:ζ) (a b:Int):Ok (gF (p,t,s,a,b)) λr=>r=0->(a≠7/\a≠8)->(b≠7/\b≠8)->DD p s:=by
 unfold gF aX bm du bf jf aE;refine aw (YI p h t s) λk hk=>?_
 refine aK (λ_=>aj λh=>(by cases h)) λg=>?_
 refine aU (λx=>x=af->k=a\/k=b) ?_ ?_
 .refine b9 (λ_=>aj λh=>?_) λh=>aj λ_=>.inl h
  simp at h;exact .inr h
 rintro x c;refine aQ (λ_=>aj λh=>(by cases h)) λh=>aj λ_ h1 h2=>hk g ?_ ?_
 .rcases c h with h|h<;>omega
 .rcases c h with h|h<;>omega
theorem Mz:∀(n d:Nat) (e:Xp),d<n->GX d e->Ok (nC n e) λ_=>True
 |0,_,_,h,_=>by omega
 |n+1,0,_,_,h=>h.elim
 |n+1,d+1,e,hn,h=>by
  obtain⟨h1,h2⟩:=h;rw[xS];unfold uk bA bO cR aE cH;refine cf e.l.length (λi x=>x.1.2.2=(i:Int)/\x.2=e) ?_ ?_ ⟨rfl,fo e⟩
  .rintro i ⟨⟨a,b,c⟩,z⟩ hi ⟨e1,e2⟩;dsimp only at e1 e2;subst e1;subst e2;refine dz ?_;refine cI (aT ?_);refine aw (Mz n d _ (by omega) (h2 _ (bM (T:=.ex) (xs:=z.l) (j:=(i:Int)) (by omega) (by omega)))) λ_ _=>aj ?_
   exact⟨gU (by omega),fo z⟩
  .rintro⟨⟨a,b,c⟩,z⟩ ⟨e1,e2⟩;dsimp only at e1 e2;subst e1;subst e2;exact dt (aj trivial)
theorem FE (p:PG) (hp:PX p) (t:Int):∀(n d:Nat) (e:Xp),d<n->GX d e->Ok (nB n (p,t,e)) λ_=>True
 |0,_,_,h,_=>by omega
 |n+1,0,_,_,h=>h.elim
 |n+1,d+1,e,hn,h=>by
  obtain⟨h1,h2⟩:=h;rw[xR];unfold uj bf bA bO cR aE cH;refine aU (λx=>x.2.1=p/\x.2.2=e) ?_ ?_
  .refine aK (λ_=>aw (oW p hp t _ _ _) λ_ _=>aj ⟨rfl,fo e⟩) λ_=>aK (λ_=>aw (oW p hp t _ _ _) λ_ _=>aj ⟨rfl,fo e⟩) λ_=>aj ⟨rfl,fo e⟩
  rintro⟨r,z,e'⟩ ⟨s,q⟩;dsimp only at s q;have s:=s.symm;subst s;have q:=q.symm;subst q;refine qb (λx=>((e.l.length:Int)-x.1.2).toNat) (λx=>0<=x.1.2/\x.2.1=p/\x.2.2=e) ?_ ⟨dj _,rfl,fo e⟩;rintro⟨⟨a,(b:Int)⟩,z,e'⟩ ⟨b0,s,q⟩;dsimp only at b0 s q;have s:=s.symm;subst s;have q:=q.symm;subst q;refine aU (λx=>x.2.1=p/\x.2.2=e/\(x.1=J->b<(e.l.length:Int))) ?_ ?_
  .exact bK (λg=>aj ⟨rfl,fo e,λ_=>g⟩) λ_=>aj ⟨rfl,fo e,λh=>(by cases h)⟩
  rintro⟨c,z,e'⟩ ⟨s,q,A⟩;dsimp only at s q A;have s:=s.symm;subst s;have q:=q.symm;subst q;refine aQ (λhc=>?_) λ_=>aj trivial
  have g:=A hc;refine aO b0 g (aT ?_);refine aw (FE p hp t n d _ (by omega) (h2 _ (bM (T:=.ex) (xs:=e.l) (j:=b) b0 g))) λ_ _=>aj ?_
  dsimp only;rw[iK (n:=b+1) (by omega) (by omega)];exact⟨⟨by omega,rfl,fo e⟩,by omega⟩
theorem wP (p:PG) (hp:PX p) (t:Int) (e:Xp) (h:GX 4 e):Ok (mr (p,t,e)) λ_=>True:=by
 unfold mr bA aE;have q:GX 4 (ef (Xp.op e,Xp.n e,Xp.name e,Xp.l e)):=by rw[fo];exact h
 refine aw (gq _ q) λ_ _=>ey (λ_=>aj trivial) λ_=>?_
 refine aw (Mz fuel 4 _ (by rw[jZ];omega) q) λ_ _=>?_
 refine aU (λx=>x.2.1=p/\x.2.2=e) (bK (λ_=>aj ⟨rfl,fo e⟩) λ_=>aj ⟨rfl,fo e⟩) ?_;rintro⟨r,s,e'⟩ ⟨c,a⟩;dsimp only at c a;have c:=c.symm;subst c;have a:=a.symm;subst a;exact aQ (λ_=>aj trivial) λ_=>aw (FE p hp t fuel 4 _ (by rw[jZ];omega) q) λ_ _=>aj trivial
theorem fI (b:Bool):Ok (c5 b) λ_=>True:=by
 unfold c5;exact aQ (λ_=>aj trivial) λ_=>aj trivial
theorem tV (x:ν):Ok (i_ x) λr=>r=0->x.1=0/\x.2=0:=by
 unfold i_ jf;exact b9 (λh=>aj λh2=>(h h2).elim) λh=>aj λh2=>⟨h,h2⟩
abbrev WK:Type:=(Y DT×Y HT×Int)×(Bool×Y Sx)×Y ζ×Y ζ
theorem Xt (a b:Int) (s:ζ) (w:WK) (h:w.2.1.2.length<=100):Ok (dW ((a,b,s),w)) λy=>y.2=w:=by
 unfold dW aX bf bA kW aV cR aE cH;refine cf w.2.1.2.length (λi x=>x.1=(i:Int)/\x.2=w) ?_ ?_ ⟨rfl,rfl⟩
 .rintro i ⟨c,x⟩ hi ⟨e1,e2⟩;dsimp only at e1 e2;subst e1;have e2:=e2.symm;subst e2;refine dz ?_;refine cI (cI (aT ?_));refine aU (λx=>x.2=w) ?_ ?_
  .refine aK (λ_=>aK (λ_=>aj rfl) λ_=>aj rfl) λ_=>aK (λ_=>aK (λ_=>aj rfl) λ_=>aj rfl) λ_=>aj rfl
  rintro⟨c,x⟩ e;dsimp only at e;have e:=e.symm;subst e;exact aQ (λ_=>aj rfl) λ_=>aj ⟨gU (by omega),rfl⟩
 .rintro⟨c,x⟩ ⟨e1,e2⟩;dsimp only at e1 e2;subst e1;have e2:=e2.symm;subst e2;exact dt (aj rfl)
def Pm:Nat->Sx->Nat
 |0,_=>0
 |d+1,s=>1+(s.body.map (Pm d)).sum+(s.els.map (Pm d)).sum
def nJ (d:Nat) (l:Y Sx):Nat:=(l.map (Pm d)).sum
def KS:Nat->Nat
 |0=>0
 |d+1=>1+16*KS d
theorem Nq {α:Type} {f:α->Nat} {k:Nat}:∀{l:Y α},(∀x∈l,f x<=k)->(l.map f).sum<=l.length*k
 |[],_=>by simp
 |x::r,h=>by
  have:=Nq (l:=r) λy a=>h y (cE _ a)
  have:=h x (c4 ..);rw[eS,List.sum_cons,bX,iV];omega
theorem U1:∀{d:Nat} {s:Sx},GT d s->Pm d s<=KS d
 |0,_,h=>h.elim
 |d+1,s,⟨_,_,_,U,L,A,z⟩=>by
  have a:=Nq (f:=Pm d) (l:=s.body) λx q=>U1 (A x q)
  have b:=Nq (f:=Pm d) (l:=s.els) λx q=>U1 (z x q)
  have c:=cK (KS d) U;have e:=cK (KS d) L;show 1+_+_<=1+16*KS d;omega
theorem OL:∀{d:Nat} {s:Sx},GT d s->Pm (d+1) s=Pm d s
 |0,_,h=>h.elim
 |d+1,s,⟨_,_,_,_,_,q,c⟩=>by
  show 1+(s.body.map (Pm (d+1))).sum+(s.els.map (Pm (d+1))).sum=1+(s.body.map (Pm d)).sum+(s.els.map (Pm d)).sum;rw[mm λx a=>OL (q x a),mm λx a=>OL (c x a)]
theorem aak {d:Nat} {l:Y Sx} (h:∀s∈l,GT d s):nJ d l<=l.length*KS d:=Nq λx a=>U1 (h x a)
theorem wF {d:Nat} {l:Y Sx} {i:Nat} (hi:i<l.length):nJ d (l.take (i+1))=nJ d (l.take i)+Pm d (aI (T:=.sm) l (i:Int)):=by
 unfold nJ;rw[ol (T:=.sm) hi,cQ,Fi];simp
theorem OM {d:Nat} (l:Y Sx) (i:Nat):nJ d (l.take i)<=nJ d l:=by
 conv=>rhs;rw[<- Bi i l]
 unfold nJ;rw[cQ,Fi];omega
theorem EK:∀(n d:Nat) (l:Y Sx),d<n->l.length<=1000->(∀s∈l,GT d s)->KS d<=100000->nD n l=M ((nJ d l:Nat):Int)
 |0,_,_,h,_,_,_=>by omega
 |n+1,d,l,hn,hl,h,q=>by
  refine cG ?_;rw[xT];unfold ul bA wS aV cR aE cH;have hb:=aak h;have c:=Nat.mul_le_mul hl q;refine cf l.length (λi x=>x.2=(i:Int)/\x.1=(l.length:Int)-i+(nJ d (l.take i):Nat)) ?_ ?_ ⟨rfl,by simp[nJ]⟩
  .rintro i ⟨a,b⟩ hi ⟨e1,e2⟩;dsimp only at e1 e2;subst e1;subst e2;have hp:=OM (d:=d) l (i+1);rw[wF hi]at hp;refine dz ?_;refine cI (aT ?_);rw[wF hi];have hm:=h _ (bM (T:=.sm) (xs:=l) (j:=(i:Int)) (by omega) (by omega));revert hm hp;generalize (aI (T:=.sm) l (i:Int))=s;intro hp hm;cases d with
   |zero=>exact hm.elim
   |succ d=>
    obtain⟨_,_,_,U,L,A,z⟩:=hm;have hk:KS (d+1)=1+16*KS d:=rfl;have hc:Pm (d+1) s=1+nJ d s.body+nJ d s.els:=rfl;rw[hc]at hp ⊢;refine aS (EK n d _ (by omega) (by omega) A (by omega)) ?_;refine cI (aT ?_);refine aS (EK n d _ (by omega) (by omega) z (by omega)) (aj ⟨gU (by omega),?_⟩);dsimp only;rw[iK (n:=(l.length:Int)-i+(nJ (d+1) (l.take i):Nat)+(nJ d s.body:Nat)) (by omega) (by omega),iK (by omega) (by omega)];omega
  .rintro⟨a,b⟩ ⟨e1,e2⟩;dsimp only at e1 e2;subst e1;subst e2;rw[cO];exact dt (aj (by dsimp only;omega))
theorem Ux (l:Y DT) (hl:l.length<=100):Ok (rq l) λ_=>True:=by
 unfold rq aX bm bw bN du fw bf bA jG jf bH bO aV cR aE cH;refine cf l.length (λi x=>x.2.2.2.2=(i:Int)) ?_ ?_ rfl
 .rintro i ⟨a,b,c,d,e⟩ hi e1;dsimp only at e1;subst e1;refine dz ?_;refine aU (λ_=>True) ?_ λx _=>aj (gU (by omega))
  refine cI (aT ?_);have htk:(dI (aP (i:Int)) l).length<=100:=by rw[bJ];omega
  refine cV (dx (by dsimp only;omega) (dx (by dsimp only;omega) ?_));refine aw (wQ _ _ (dv htk (by omega))) λv hv=>?_
  refine fH (λ_=>aj trivial) λ_=>bK (λ_=>aj trivial) λ_=>?_
  refine aU (λ_=>True) ?_ λx _=>?_
  .refine aU (λ_=>True) (aK (λ_=>aj trivial) λ_=>aj trivial) λx _=>aQ (λ_=>aj trivial) λ_=>?_
   refine aU (λ_=>True) (aK (λ_=>aj trivial) λ_=>aj trivial) λx _=>aQ (λ_=>aj trivial) λ_=>?_
   exact aK (λ_=>aj trivial) λ_=>aj trivial
  refine aU (λ_=>True) (bK (λ_=>aj trivial) λ_=>bK (λ_=>aj trivial) λ_=>bK (λ_=>aj trivial) λ_=>aj trivial) λx _=>aQ (λ_=>aj trivial) λ_=>?_
  refine aK (λ_=>?_) λ_=>aj trivial
  refine cV (dx (by dsimp only;omega) (dx (by dsimp only;omega) ?_));refine aw (wQ _ _ (dv htk (by omega))) λv hv=>?_
  refine bK (λ_=>aj trivial) λg=>?_
  have h2:=hv.2;rw[bJ]at h2;exact aO g (by dsimp only at h2 ⊢;omega) (aT (b9 (λ_=>aj trivial) λ_=>aj trivial))
 .rintro⟨a,b,c,d,e⟩ e1;dsimp only at e1;subst e1;exact dt (aj trivial)
theorem Nm (p:PG) (h:PX p):Ok (nP p) λ_=>True:=by
 have hd:=h.d;have ht:=h.t;unfold nP aX bm bw bA jG bH bO aV cR aE cH;refine cf p.2.length (λi x=>x.1=(i:Int)/\x.2=p) ?_ ?_ ⟨rfl,rfl⟩
 .rintro i ⟨a,x⟩ hi ⟨e1,e2⟩;dsimp only at e1 e2;subst e1;have e2:=e2.symm;subst e2;refine dz ?_;refine cI (aT ?_);refine aU (λx=>x.2.1=p) ?_ ?_
  .refine aw (wQ _ _ (by dsimp only;omega)) λv hv=>fH (λ_=>aj rfl) λ_=>?_
   refine cV (dx (by dsimp only;omega) (dx (by dsimp only;omega) ?_));exact aw (sD _ _ (by rw[bJ];dsimp only;omega)) λ_ _=>aj rfl
  rintro⟨b,x,z⟩ e;dsimp only at e;have e:=e.symm;subst e;exact aQ (λ_=>aj trivial) λ_=>aj ⟨gU (by omega),rfl⟩
 rintro⟨a,x⟩ ⟨e1,e2⟩;dsimp only at e1 e2;subst e1;have e2:=e2.symm;subst e2;refine dt ?_;refine aw (P:=λ_=>True) ?_ λ_ _=>aj trivial
 refine cf p.2.length (λi x=>x.1=(i:Int)/\x.2=p) ?_ ?_ ⟨rfl,rfl⟩
 .rintro i ⟨a,x⟩ hi ⟨e1,e2⟩;dsimp only at e1 e2;subst e1;have e2:=e2.symm;subst e2;refine dz ?_;refine cI (aT ?_);have hm:=h.l _ (bM (T:=yz) (xs:=p.2) (j:=(i:Int)) (by omega) (by omega));revert hm;generalize (aI (T:=yz) p.2 (i:Int))=t;intro hm;refine bK (λ_=>aj trivial) λ_=>?_
  refine cf t.2.2.1.length (λk y=>y.1=(k:Int)/\y.2=(p,t)) ?_ ?_ ⟨rfl,rfl⟩
  .rintro k ⟨a,z⟩ hk ⟨q,c⟩;dsimp only at q c;subst q;subst c;refine dz ?_;refine cI (aT ?_);refine aU (λx=>x.2=(p,t)) ?_ ?_
   .refine aw (wQ _ _ (by dsimp only;omega)) λv hv=>fH (λ_=>aj rfl) λ_=>?_
    refine aw (sD _ _ (by dsimp only;omega)) λv hv=>fH (λ_=>aj rfl) λ_=>?_
    refine cV (dx (by dsimp only;omega) (dx (by dsimp only;omega) ?_));exact aw (yg _ _ (by rw[bJ];dsimp only;omega)) λ_ _=>aj rfl
   rintro⟨b,x⟩ e;dsimp only at e;subst e;exact aQ (λ_=>aj trivial) λ_=>aj ⟨gU (by omega),rfl⟩
  .rintro⟨a,z⟩ ⟨q,c⟩;dsimp only at q c;subst q;subst c;exact dt (aj ⟨gU (by omega),rfl⟩)
 .rintro⟨a,x⟩ ⟨e1,e2⟩;dsimp only at e1 e2;subst e1;have e2:=e2.symm;subst e2;exact dt (aj trivial)
structure WQ (w:WK) (y:Int×WK):Prop where
 p:y.2.1=w.1
 a:y.2.2.1=w.2.1
 s:y.2.2.2.1.length<=w.2.2.1.length+1
 t:y.2.2.2.2.length<=w.2.2.2.length+1
theorem WQ.same (w:WK) (e:Int):WQ w (e,w):=⟨rfl,rfl,Nat.le_succ _,Nat.le_succ _⟩
theorem ahh (s:Sx) (z:Y DT) (T:Y HT) (t:Int) (A:Bool×Y Sx) (sp se:Y ζ) (hp:PX (z,T)) (hA:A.2.length<=100) (h1:sp.length<=100000000) (h2:se.length<=100000000) (q:∀e∈s.index,GX 4 e) (he:GX 4 s.expr):Ok (mq (s,((z,T,t),A,sp,se))) (WQ ((z,T,t),A,sp,se)):=by
 have hex:GX 4 (ef (Xp.op s.expr,Xp.n s.expr,Xp.name s.expr,Xp.l s.expr)):=by rw[fo];exact he
 have hin:∀(a b:Int) (n:ζ),Ok (dW ((a,b,n),((z,T,t),A,sp,se))) λy=>y.2=((z,T,t),A,sp,se):=λa b n=>Xt a b n _ hA
 have hth:T.length<=1000:=by have:=hp.t;dsimp only at this;omega
 have hdl:z.length<=1000:=by have:=hp.d;dsimp only at this;omega
 have sm:∀e,WQ ((z,T,t),A,sp,se) (e,((z,T,t),A,sp,se)):=WQ.same _;unfold mq aX bm bw cC bN du cW fw bf jG jf bH bO aE eh;refine aw (hin _ _ _) λy c=>?_
 obtain⟨b1,L⟩:=y;dsimp only at c;subst c;refine bd (by simp) ?_;refine aw (hin _ _ _) λy c=>?_
 obtain⟨b2,L⟩:=y;dsimp only at c;subst c;refine bd (by simp) ?_;refine aw (hin _ _ _) λy c=>?_
 obtain⟨b3,L⟩:=y;dsimp only at c;subst c;refine bd (by simp) ?_;refine aK (λ_=>?_) λ_=>?_
 .refine aK (λ_=>?_) λg=>?_
  .exact aw (oW _ hp _ _ _ _) λ_ _=>aw (wP _ hp _ _ hex) λ_ _=>aw (tV _) λ_ _=>aj (sm _)
  .refine aw (oW _ hp _ _ _ _) λ_ _=>?_
   dsimp only[ak]at g;refine cI (aT ?_);refine aw (wP _ hp _ _ (q _ (bM (T:=.ex) (xs:=s.index) (j:=0) (by omega) (by omega)))) λ_ _=>?_
   exact aw (wP _ hp _ _ hex) λ_ _=>aw (tV _) λ_ _=>aw (tV _) λ_ _=>aj (sm _)
 refine aU (λx=>x.2=((z,T,t),A,s,(z,T),sp,se)) (aK (λ_=>aj (by dsimp only;rw[xL])) λ_=>aj (by dsimp only;rw[xL])) ?_;rintro⟨b,x⟩ e;dsimp only at e;subst e;refine aQ (λ_=>aw (wP _ hp _ _ hex) λ_ _=>aj (sm _)) λ_=>?_
 refine aK (λ_=>?_) λ_=>?_
 .refine aU (λx=>WQ ((z,T,t),A,sp,se) x) ?_ λx q=>aj q
  refine aw (oW _ hp _ _ _ _) λ_ _=>aQ (λ_=>?_) λ_=>?_
  .exact aw (fI _) λ_ _=>aw (tV _) λ_ _=>aj (sm _)
  .refine aw (hin _ _ _) λy c=>?_
   obtain⟨U,L⟩:=y;dsimp only at c;subst c;exact bd (by simp) (aw (fI _) λ_ _=>aw (tV _) λ_ _=>aj (sm _))
 refine aU (λx=>x.2=((z,T,t),A,s,(z,T),sp,se)) (aK (λ_=>aj (by dsimp only;rw[xL])) λ_=>aj (by dsimp only;rw[xL])) ?_;rintro⟨b,x⟩ e;dsimp only at e;subst e;refine aQ (λ_=>?_) λ_=>?_
 .refine aU (λx=>WQ ((z,T,t),A,sp,se) x) ?_ λx q=>aj q
  refine aw (oW _ hp _ _ _ _) λ_ _=>aQ (λ_=>?_) λ_=>?_
  .exact aw (fI _) λ_ _=>aw (tV _) λ_ _=>aj (sm _)
  .refine aw (hin _ _ _) λy c=>?_
   obtain⟨U,L⟩:=y;dsimp only at c;subst c;exact bd (by simp) (aw (fI _) λ_ _=>aw (tV _) λ_ _=>aj (sm _))
 refine aK (λ_=>aw (fI _) λ_ _=>aj (sm _)) λ_=>?_
 refine aK (λ_=>?_) λ_=>?_
 .refine aU (λx=>WQ ((z,T,t),A,sp,se) x) ?_ λx q=>aj q
  exact aQ (λ_=>aw (fI _) λ_ _=>aj (sm _)) λ_=>aw (fI _) λ_ _=>aj (sm _)
 refine aU (λx=>x.2=((z,T,t),A,s,(z,T),sp,se)) (aK (λ_=>aj (by dsimp only;rw[xL])) λ_=>aK (λ_=>aj (by dsimp only;rw[xL])) λ_=>aj (by dsimp only;rw[xL])) ?_;rintro⟨b,x⟩ e;dsimp only at e;subst e;refine aQ (λ_=>?_) λ_=>?_
 .refine aw (oW _ hp _ _ _ _) λr hr=>b9 (λ_=>aj (sm _)) λg=>?_
  obtain⟨v,hv,v0,Z⟩:=hr g (by omega) (by omega);refine aS hv (aO v0 Z (aT ?_));refine aw (hin _ _ _) λy c=>?_
  obtain⟨U,L⟩:=y;dsimp only at c;subst c;refine bd (by simp) ?_;refine aU (λx=>WQ ((z,T,t),A,sp,se) x) ?_ λx q=>aj q
  refine aQ (λ_=>aw (fI _) λ_ _=>aj (sm _)) λ_=>ey (λ_=>aw (fI _) λ_ _=>aj (sm _)) λ_=>?_
  exact aK (λ_=>aw (fI _) λ_ _=>aj (sm _)) λ_=>aw (fI _) λ_ _=>aj (sm _)
 refine aK (λ_=>?_) λ_=>?_
 .refine aw (oW _ hp _ _ _ _) λr hr=>b9 (λ_=>aj (sm _)) λg=>?_
  refine aw (sD T _ hth) λv hv=>?_
  refine aU (λx=>x.2=((z,T,t),A,s,sp,se)) ?_ ?_
  .refine aQ (λ_=>aj (by dsimp only;rw[xL])) λ_=>aQ (λ_=>aj (by dsimp only;rw[xL])) λ_=>aQ (λ_=>aj (by dsimp only;rw[xL])) λ_=>aK (λ_=>aj (by dsimp only;rw[xL])) λ_=>aj (by dsimp only;rw[xL])
  rintro⟨b,x⟩ e;dsimp only at e;subst e;refine aQ (λ_=>aj (sm _)) λ_=>?_
  refine aw (yg sp _ (by omega)) λ_ _=>fH (λ_=>aj (sm _)) λ_=>?_
  exact bc (by simp;omega) (by omega) (aj ⟨rfl,rfl,by simp,Nat.le_succ _⟩)
 refine aK (λ_=>?_) λ_=>?_
 .refine aU (λx=>WQ ((z,T,t),A,sp,se) x) ?_ λx q=>aj q
  refine aw (oW _ hp _ _ _ _) λr hr=>?_
  refine aQ (λ_=>aw (fI _) λ_ _=>aw (tV _) λ_ _=>aj (sm _)) λ_=>?_
  refine aQ (λ_=>aw (fI _) λ_ _=>aw (tV _) λ_ _=>aj (sm _)) λ_=>?_
  exact aw (sD T _ hth) λv hv=>aw (fI _) λ_ _=>aw (tV _) λ_ _=>aj (sm _)
 refine aK (λ_=>?_) λ_=>?_
 .refine aU (λx=>x.2=((z,T,t),A,s,(z,T),sp,se)) ?_ ?_
  .refine aw (oW _ hp _ _ _ _) λr hr=>?_
   exact aQ (λ_=>aw (fI _) λ_ _=>aw (tV _) λ_ _=>aj (by dsimp only;rw[xL])) λ_=>aw (fI _) λ_ _=>aw (tV _) λ_ _=>aj (by dsimp only;rw[xL])
  rintro⟨b,x⟩ e;dsimp only at e;subst e;refine aU (λx=>x.2=((z,T,t),A,s,(z,T),sp,se)) ?_ ?_
  .refine aU (λx=>x.2=((z,T,t),A,s,(z,T),sp,se)) ?_ ?_
   .exact aK (λ_=>aw (yg se _ (by omega)) λ_ _=>aj (by dsimp only;rw[xL])) λ_=>aj (by dsimp only;rw[xL])
   rintro⟨b,x⟩ e;dsimp only at e;subst e;exact aQ (λ_=>aj (by dsimp only;rw[xL])) λ_=>aj (by dsimp only;rw[xL])
  rintro⟨b,x⟩ e;dsimp only at e;subst e;refine bc (by simp;omega) (by omega) ?_;exact aw (wP _ hp _ _ hex) λ_ _=>aw (tV _) λ_ _=>aj ⟨rfl,rfl,Nat.le_succ _,by simp⟩
 exact aw (oW _ hp _ _ _ _) λ_ _=>aw (oW _ hp _ _ _ _) λ_ _=>aw (fI _) λ_ _=>aw (tV _) λ_ _=>aw (tV _) λ_ _=>aj (sm _)
abbrev RA4:Type:=(Y Sx×WK)->I (ν×WK)
structure QA (l:List Sx) (d:Nat) (w:WK) (y:ν×WK):Prop where
 p:y.2.1=w.1
 a:y.2.2.1.2.length=w.2.1.2.length
 s:y.2.2.2.1.length<=w.2.2.1.length+l.length*KS d
 t:y.2.2.2.2.length<=w.2.2.2.length+l.length*KS d
def SpA (rr:RA4) (d:Nat):Prop:=∀(l:Y Sx) (w:WK),l.length<=100->(∀s∈l,GT d s)->PX (w.1.1,w.1.2.1)->w.2.1.2.length+d<=50->w.2.2.1.length+l.length*KS d<=100000000->w.2.2.2.length+l.length*KS d<=100000000->Ok (rr (l,w)) (QA l d w)
theorem adx (rr:RA4) (d:Nat) (hr:∀d',d=d'+1->SpA rr d'):SpA (mA rr) d:=by
 rintro l ⟨⟨z,T,t⟩,A,sp,se⟩ hl hg hp hA h1 h2;dsimp only at hp hA h1 h2;have hK:∀i:Nat,i<=l.length->i*KS d<=l.length*KS d:=λi hi=>cK _ hi
 unfold mA aX bm bw bN du cW ck bf bA jf bH bO aV cR aE cH eh;refine cf l.length (λi x=>x.1=(i:Int)/\x.2.1=(z,T,t)/\x.2.2.1.2.length=A.2.length/\x.2.2.2.1.length<=sp.length+i*KS d/\x.2.2.2.2.length<=se.length+i*KS d) ?_ ?_ ⟨rfl,rfl,rfl,by simp,by simp⟩
 .rintro i ⟨a,P,A',sp',se'⟩ hi ⟨e1,e2,e3,Z,U⟩;dsimp only at e1 e2 e3 Z U;subst e1;subst e2;have hKi:=hK (i+1) (by omega);have hKs:=iV i (KS d);rw[Nat.succ_eq_add_one]at hKs;refine dz ?_;refine cI (aT ?_);have hm:=hg _ (bM (T:=.sm) (xs:=l) (j:=(i:Int)) (by omega) (by omega));revert hm;generalize (aI (T:=.sm) l (i:Int))=s;intro hm;cases d with
  |zero=>exact hm.elim
  |succ d=>
   have hR:=hr d rfl;obtain⟨_,g2,g3,g4,g5,g6,g7⟩:=hm;have hk:KS (d+1)=1+16*KS d:=rfl;have kb:s.body.length*KS d<=8*KS d:=cK _ g4;have ke:s.els.length*KS d<=8*KS d:=cK _ g5;dsimp only;rw[xL];refine aw (ahh s z T t A' sp' se' hp (by omega) (by omega) (by omega) g2 g3) λy L=>?_
   obtain⟨e,P2,A2,sp2,se2⟩:=y;obtain⟨q,c,q3,q4⟩:=L;dsimp only at q c q3 q4;subst q;subst c;refine bd (by simp) ?_;refine aU (λx=>x.2=((z,T,t),s,A2,sp2,se2)) (bK (λ_=>aj rfl) λ_=>aj rfl) ?_;rintro⟨e,x⟩ ex;dsimp only at ex;subst ex;refine b9 (λ_=>aj ⟨rfl,e3,by dsimp only;omega,by dsimp only;omega⟩) λ_=>?_
   refine bc (by simp;omega) (by omega) (aO (by simp) (by simp;omega) (aO (by simp) (by simp;omega) ?_));dsimp only;rw[xL];refine aw (hR s.body ((z,T,t),(A2.1,cF (A2.2++[_]) _ s),sp2,se2) (by omega) g6 hp ?_ ?_ ?_) λy L=>?_
   .dsimp only;rw[bT];simp;omega
   .dsimp only;omega
   .dsimp only;omega
   obtain⟨e6,P6,A6,sp6,se6⟩:=y;obtain⟨q,c,q5,q6⟩:=L;dsimp only at q c q5 q6;subst q;rw[bT,bk,eP]at c;refine bd (by simp) ?_;refine aU (λx=>x.2.1=(z,T,t)/\x.2.2.1.2.length=A2.2.length+1/\x.2.2.2.1.length<=sp2.length+16*KS d/\x.2.2.2.2.length<=se2.length+16*KS d) ?_ ?_
   .refine aK (λ_=>?_) λ_=>aj ⟨rfl,c,by dsimp only;omega,by dsimp only;omega⟩
    refine aw (hR s.els ((z,T,t),A6,sp6,se6) (by omega) g7 hp (by dsimp only;omega) (by dsimp only;omega) (by dsimp only;omega)) λy L=>?_
    obtain⟨e7,P7,A7,sp7,se7⟩:=y;obtain⟨r1,r2,r5,r6⟩:=L;dsimp only at r1 r2 r5 r6;subst r1;exact bd (by simp) (aj ⟨rfl,r2.trans c,by dsimp only;omega,by dsimp only;omega⟩)
   rintro⟨e8,P8,A8,sp8,se8⟩ ⟨r1,r2,r5,r6⟩;dsimp only at r1 r2 r5 r6;subst r1;have el:bl .i64 ((aN A8.2.length)-1)=(A2.2.length:Int):=by
    rw[r2,iK (by simp<;>omega) (by simp<;>omega)];simp<;>omega
   dsimp only;rw[el];have tk:(dI (aP (A2.2.length:Int)) A8.2).length=A2.2.length:=by rw[bJ];omega
   refine cV (dx (by omega) (zS (by rw[r2];omega) ?_));refine b9 (λ_=>aj ⟨rfl,by dsimp only;omega,by dsimp only;omega,by dsimp only;omega⟩) λ_=>aj ?_
   exact⟨gU (by omega),rfl,by dsimp only;omega,by dsimp only;omega,by dsimp only;omega⟩
 .rintro⟨a,P,A',sp',se'⟩ ⟨e1,e2,e3,Z,U⟩;dsimp only at e1 e2 e3 Z U;subst e1;subst e2;exact dt (aj ⟨rfl,e3,Z,U⟩)
theorem Ws:∀(n d:Nat),d<n->SpA (iH n) d
 |0,_,h=>by omega
 |n+1,d,h=>adx (iH n) d λa hd=>Ws n a (by omega)
theorem DL (p:PG) (h:PX p):Ok (fx p) λr=>r.1=0->(p.2.map λt=>nJ 5 t.2.2.2).sum<=60:=by
 have hd:=h.d;have ht:=h.t;unfold fx aX bm bw bN cW bA jf bH bO aV cR aE cH;refine aw (Yx p h) λ_ _=>ey (λ_=>aj λh=>(by cases h)) λ_=>?_
 refine aw (Ux p.1 hd) λ_ _=>b9 (λhn=>aj λh=>(hn h).elim) λ_=>bK (λ_=>aj λh=>(by cases h)) λ_=>?_
 refine aw (Nm p h) λ_ _=>b9 (λhn=>aj λh=>(hn h).elim) λ_=>?_
 have L:KS 5=69905:=rfl;refine cf p.2.length (λi x=>x.1.2=(i:Int)/\x.2=p/\x.1.1=((((p.2.take i).map λt=>nJ 5 t.2.2.2).sum:Nat):Int)/\(x.1.1:Int)<=((i*6990500:Nat):Int)) ?_ ?_ ⟨rfl,rfl,by simp,by simp⟩
 .rintro i ⟨⟨(c:Int),a⟩,x⟩ hi ⟨e1,e2,e3,q⟩;dsimp only at e1 e2 e3 q;subst e1;have e2:=e2.symm;subst e2;refine dz ?_;refine cI (aT ?_);have hm:=bM (T:=yz) (xs:=p.2) (j:=(i:Int)) (by omega) (by omega);have hb:=h.b _ hm;have hcb:=aak (h.s _ hm);have hcb2:=cK (KS 5) hb;rw[L]at hcb hcb2;refine aS (EK fuel 5 _ (by rw[jZ];omega) (dv hb (by omega)) (h.s _ hm) (by rw[L];omega)) (aj ⟨gU (by omega),rfl,?_,?_⟩)
  .dsimp only;rw[ol (T:=yz) hi,cQ,Fi,iK (by omega) (by omega),e3];simp
  .dsimp only;rw[iK (by omega) (by omega)];omega
 rintro⟨⟨(c:Int),a⟩,x⟩ ⟨e1,e2,e3,q⟩;dsimp only at e1 e2 e3 q;subst e1;have e2:=e2.symm;subst e2;rw[cO]at e3;refine dt ?_;refine aw (P:=λr=>r.1=0->(p.2.map λt=>nJ 5 t.2.2.2).sum<=60) ?_ λ_ h=>aj h
 refine bK (λ_=>aj λh=>(by cases h)) λU=>?_
 have U:c<=60:=U;refine cf p.2.length (λi x=>x.1=(i:Int)/\x.2.1=p/\x.2.2.1.1=p.1/\x.2.2.1.2.1=p.2/\x.2.2.2.1.2.length=0/\x.2.2.2.2.1.length<=i*6990500/\x.2.2.2.2.2.length<=i*6990500) ?_ ?_ ⟨rfl,rfl,rfl,rfl,rfl,by simp,by simp⟩
 .rintro i ⟨a,x,⟨z,T,t⟩,A,sp,se⟩ hi ⟨e1,e2,e3,q,e5,e6,e7⟩;dsimp only at e1 e2 e3 q e5 e6 e7;subst e1;have e2:=e2.symm;subst e2;subst e3;subst q;refine dz ?_;refine cI (aT ?_);have hm:=bM (T:=yz) (xs:=p.2) (j:=(i:Int)) (by omega) (by omega);have hb:=h.b _ hm;have hs:=h.s _ hm;revert hb hs;dsimp only;generalize (aI (T:=yz) p.2 (i:Int))=th;intro hb hs;have hk:KS 5=69905:=rfl;have hle:th.2.2.2.length*KS 5<=100*KS 5:=cK _ hb;rw[hk]at hle;refine aw (Ws fuel 5 (by rw[jZ];omega) th.2.2.2 ((p.1,p.2,(i:Int)),A,sp,se) hb hs h (by dsimp only;omega) (by dsimp only;rw[hk];omega) (by dsimp only;rw[hk];omega)) λy hy=>?_
  obtain⟨e,P2,A2,sp2,se2⟩:=y;obtain⟨Z,q2,q3,q4⟩:=hy;dsimp only at Z q2 q3 q4;subst Z;rw[hk]at q3 q4;refine bd (by simp) (b9 (λhn=>aj λh=>(hn h).elim) λ_=>aj ?_);exact⟨gU (by omega),rfl,rfl,rfl,by dsimp only;omega,by dsimp only;omega,by dsimp only;omega⟩
 .rintro⟨a,x,P,w⟩ ⟨e1,e2,_⟩;dsimp only at e1 e2;subst e1;have e2:=e2.symm;subst e2;exact dt (aj λ_=>by omega)
theorem c6 {R:Type} {o o':I R} {Q:R->Prop} (h:o=o') (hk:Ok o' Q):Ok o Q:=h▸hk
def D0:Y DT:=[(1,0,[120],0,0,[]),(1,0,[121],0,1,[]),(2,0,[118],0,0,[]),(1,0,[113],2,0,[]),(3,0,[109],0,0,[]),(3,0,[110],0,0,[]),(4,0,[114],0,0,[]),(5,0,[99],0,0,[109]),(6,0,[102],0,0,[])]
def L0:Y ζ:=[[97],[98]]
set_option maxHeartbeats 20000000 in
theorem ala:∃r,fx (D0,[([109,97,105,110],0,L0,[nS (1,0,[120],[],[],ef (1,1,[],[]),[],[])])])=M r/\r.1=0:=by
 suffices h:Ok (fx (D0,[([109,97,105,110],0,L0,[nS (1,0,[120],[],[],ef (1,1,[],[]),[],[])])])) λr=>r.1=0 by
  obtain⟨y,h1,h2⟩:=h;exact⟨y,h1,h2⟩
 unfold fx aX bm bw bN cW bA jf bH bO aV cR aE cH;with_reducible repeat' first|exact aj rfl|refine V8 ?_|refine V7 ?_|refine V6 ?_|refine V4 ?_|refine P0 ?_|refine ad6 ?_|refine aT ?_|refine fP rfl ?_|refine fA rfl ?_|refine bd rfl ?_|refine V5 ?_|refine P1 ?_|refine c6 (pK.eq_1 ..) ?_|refine c6 (kc.eq_1 ..) ?_|refine c6 (fk.eq_1 ..) ?_|refine c6 (jL.eq_1 ..) ?_|refine c6 (kE.eq_1 ..) ?_|refine c6 (lE.eq_1 ..) ?_|refine c6 (po.eq_1 ..) ?_|refine c6 (ru.eq_1 ..) ?_|refine c6 (nQ.eq_1 ..) ?_|refine c6 (jA.eq_1 ..) ?_|refine c6 (kg.eq_1 ..) ?_|refine c6 (mh.eq_1 ..) ?_|refine c6 (jg.eq_1 ..) ?_|refine c6 (mw.eq_1 ..) ?_|refine c6 (pn.eq_1 ..) ?_|refine c6 (rq.eq_1 ..) ?_|refine c6 (ig.eq_1 ..) ?_|refine c6 (nP.eq_1 ..) ?_|refine c6 (gV.eq_1 ..) ?_|refine c6 (ja.eq_1 ..) ?_|refine c6 (BF.eq_1 ..) ?_|refine c6 (ul.eq_1 ..) ?_|refine c6 (vu.eq_1 ..) ?_|refine c6 (mA.eq_1 ..) ?_|refine c6 (mq.eq_1 ..) ?_|refine c6 (dW.eq_1 ..) ?_|refine c6 (gF.eq_1 ..) ?_|refine c6 (pJ.eq_1 ..) ?_|refine c6 (mr.eq_1 ..) ?_|refine c6 (BE.eq_1 ..) ?_|refine c6 (uk.eq_1 ..) ?_|refine c6 (BD.eq_1 ..) ?_|refine c6 (uj.eq_1 ..) ?_|refine c6 (i_.eq_1 ..) ?_|refine c6 (c5.eq_1 ..) ?_|refine c6 (ck.eq_1 ..) ?_|refine c6 (congrFun (gR dD jZ) _) ?_|refine c6 (yl _ _) ?_|refine c6 (congrFun (gR eE jZ) _) ?_|refine c6 (za _ _) ?_|refine c6 (congrFun (gR ii jZ) _) ?_|refine c6 (sx _ _) ?_|refine c6 (congrFun (gR nD jZ) _) ?_|refine c6 (xT _ _) ?_|refine c6 (congrFun (gR iH jZ) _) ?_|refine c6 (BR _ _) ?_|refine c6 (congrFun (gR nC jZ) _) ?_|refine c6 (xS _ _) ?_|refine c6 (congrFun (gR nB jZ) _) ?_|refine c6 (xR _ _) ?_
 all_goals trace_state
structure TM (nT:Nat) (t:HT):Prop where
 l:t.2.2.1=L0
 b:t.2.2.2.length<=8
 s:∀s∈t.2.2.2,GS nT 3 s
structure PJ (p:PG):Prop where
 d:p.1=D0
 t0:1<=p.2.length
 t:p.2.length<=4
 m:∀t∈p.2,TM p.2.length t
 n:p.2.map Prod.fst=vL.take p.2.length
theorem PJ.x {p:PG} (h:PJ p):PX p:=⟨by rw[h.d];decide,by have:=h.t;omega,λt ht=>by rw[(h.m t ht).l];decide,λt ht=>by have:=(h.m t ht).b;omega,λt ht s hs=>((h.m t ht).s s hs).le (by omega:3<=5) |>.t⟩
theorem Rj:sk ()=M D0:=rfl
theorem abd:∀m:Nat,m<5->∀j:Nat,j<m->aI (T:=.str) vL (j:Int)∈vL.take m:=by decide
theorem PC {nT:Nat} (op:Int) {n:ζ} (c:op=12\/op=13) (hn:n∈vL.take nT):GS nT 3 (nS (op,0,n,[],[],ef (0,0,[],[]),[],[])):=GS.wo (by omega) (by simp) (λx a=>(by cases a)) (by rcases c with rfl|rfl<;>(constructor<;>simp[Sx.op,Sx.name,Sx.index,Sx.arg,Sx.els,Sx.body]<;>exact hn))
theorem Gz (x:η) (hl:x.length<=9223372036854775807) (hx:∀z∈x,0<=z/\z<=255):Ok (oL x) λp=>PJ p/\∃r,fx p=M r/\r.1=0:=by
 unfold oL aX bm bw cC eB kO zM bN fw lJ pZ Prod.q9 bf bA jf bH kW cR aE cH eh;refine aS Rj ?_;refine aw (gw 3 (x,0) ⟨hl,hx,by dsimp only;omega,by dsimp only;omega⟩) λy L=>?_
 obtain⟨n,t0⟩:=y;obtain⟨s0,n0,n1,_⟩:=L;have n1:=n1 (by decide);dsimp only at s0 n0 n1;have ew:bl .i64 (2+n)=2+n:=iK (by omega) (by omega);obtain⟨nT,hnT⟩:∃m:Nat,2+n=(m:Int):=⟨(2+n).toNat,by omega⟩
 refine cf nT (λi x=>x.1=(i:Int)/\x.2.2.1=D0/\x.2.2.2.1=vL/\TP x.2.2.2.2.1/\x.2.2.2.2.2.1.2=[]/\x.2.2.2.2.2.2.map Prod.fst=vL.take i/\∀t∈x.2.2.2.2.2.2,TM nT t) ?_ ?_ ⟨rfl,rfl,rfl,s0.p,rfl,rfl,λt ht=>(by cases ht)⟩
 .rintro i ⟨a,m,A,N,t,h,th⟩ hi ⟨e1,e2,e3,e4,e5,e6,e7⟩;dsimp only at e1 e2 e3 e4 e5 e6 e7;subst e1;subst e2;refine bK (λg=>?_) λg=>(by dsimp only at g;rw[ew]at g;omega)
  have l4:N.length=4:=by rw[e3];rfl
  refine cI (cI (aT ?_));have hthl:th.length=i:=by have:=gR ai e6;rw[bx,bJ]at this;have q4:vL.length=4:=rfl;omega
  refine aU (λx=>x.2.2.2.1.1=aI (T:=.str) N (i:Int)/\x.2.1=D0/\x.2.2.1=vL/\TP x.2.2.2.2.1/\x.2.2.2.2.2.1.2=[]/\x.2.2.2.2.2.2.1=th/\x.2.2.2.2.2.2.2.1=L0/\x.2.2.2.2.2.2.2.2.length<=3/\∀s∈x.2.2.2.2.2.2.2.2,GS nT 3 s) ?_ ?_
  .refine aK (λ_=>?_) λ_=>aj ⟨rfl,rfl,e3,e4,e5,rfl,rfl,by simp,λs hs=>(by cases hs)⟩
   refine cf (1+n).toNat (λk x=>x.2.2.2.2.1.1=aI (T:=.str) N (i:Int)/\x.1=1+(k:Int)/\x.2.2.1=D0/\x.2.2.2.1=vL/\TP x.2.2.2.2.2.1/\x.2.2.2.2.2.2.1.2=[]/\x.2.2.2.2.2.2.2.1=th/\x.2.2.2.2.2.2.2.2.1=L0/\x.2.2.2.2.2.2.2.2.2.length<=k/\∀s∈x.2.2.2.2.2.2.2.2.2,GS nT 3 s) ?_ ?_ ⟨rfl,rfl,rfl,e3,e4,e5,rfl,rfl,by simp,λs hs=>(by cases hs)⟩
   .rintro k ⟨c,m1,D1,N1,z1,t1,h1,th1,l1,b1⟩ hk ⟨fz,f1,f2,q,f4,f5,f6,Z,f8,U⟩;dsimp only at fz f1 f2 q f4 f5 f6 Z f8 U;subst f1;refine bK (λ_=>?_) λg=>(by dsimp only at g;rw[ew]at g;omega)
    have l41:N1.length=4:=by rw[q];rfl
    refine cI (cI (aT ?_));refine bc (by simp;omega) (by omega) (aj ?_);dsimp only;rw[iK (n:=1+(k:Int)+1) (by omega) (by omega)];refine ⟨fz,by omega,f2,q,f4,f5,f6,Z,by simp;omega,λs hs=>?_⟩;rcases bQ.1 hs with hs|hs
    .exact U s hs
    .rw[aJ]at hs;rw[hs];refine PC 12 (.inl rfl) ?_;rw[q,show 1+(k:Int)=((1+k:Nat):Int) by omega];exact abd nT (by omega) (1+k) (by omega)
   .rintro⟨c,m1,D1,N1,z1,t1,h1,th1,l1,b1⟩ ⟨fz,f1,f2,q,f4,f5,f6,Z,f8,U⟩;dsimp only at fz f1 f2 q f4 f5 f6 Z f8 U;subst f1;refine bK (λg=>(by dsimp only at g;rw[ew]at g;omega)) λ_=>aj ?_
    exact⟨fz,f2,q,f4,f5,f6,Z,by dsimp only;omega,U⟩
  rintro⟨m1,D1,N1,z1,t1,h1,th1,l1,b1⟩ ⟨fz,f2,q,f4,f5,f6,Z,f8,U⟩;dsimp only at fz f2 q f4 f5 f6 Z f8 U;subst f2;subst f6;subst Z;refine aw (gw 3 t1 f4) λy L=>?_
  obtain⟨k2,t2⟩:=y;obtain⟨u1,u2,u3,_⟩:=L;have u3:=u3 (by decide);dsimp only at u1 u2 u3;dsimp only;rw[iK (n:=1+k2) (by omega) (by omega)];refine aw (Xo (nT:=nT) 2 (by omega) (1+k2) m1 t2 h1 (by omega) u1.p (by rw[f5];simp)) λy L=>?_
  obtain⟨m3,t3,h3,l3⟩:=y;obtain⟨w1,w2,w3,w4⟩:=L;dsimp only at w1 w2 w3 w4;refine bd (by simp) (bc (by simp;omega) (by omega) ?_);have hbody:∀s∈b1++l3,GS nT 3 s:=λs hs=>by
   rcases bQ.1 hs with hs|hs
   .exact U s hs
   .exact w2 s hs
  have hlen:(b1++l3).length<=6:=by rw[bk];omega
  refine aU (λx=>x.2.2.2.1.1=aI (T:=.str) N (i:Int)/\x.2.1=D0/\x.2.2.1=vL/\TP x.2.2.2.2.1/\x.2.2.2.2.2.1.2=[]/\x.2.2.2.2.2.2.1=th1/\x.2.2.2.2.2.2.2.1=L0/\x.2.2.2.2.2.2.2.2.length<=8/\∀s∈x.2.2.2.2.2.2.2.2,GS nT 3 s) ?_ ?_
  .refine aU (λx=>x.2.2.2.2.1.1=aI (T:=.str) N (i:Int)/\x.2.2.1=D0/\x.2.2.2.1=vL/\TP x.2.2.2.2.2.1/\x.2.2.2.2.2.2.1.2=[]/\x.2.2.2.2.2.2.2.1=th1/\x.2.2.2.2.2.2.2.2.1=L0/\x.2.2.2.2.2.2.2.2.2=b1++l3) ?_ ?_
   .refine aK (λ_=>?_) λ_=>aj ⟨fz,rfl,q,w3.p,w4.trans f5,rfl,rfl,rfl⟩
    exact aw (gw 3 t3 w3.p) λy L=>aj ⟨fz,rfl,q,L.1.p,w4.trans f5,rfl,rfl,rfl⟩
   rintro⟨b,m4,D4,N4,z4,t4,h4,th4,l4,b4⟩ ⟨pz,p2,p3,p4,p5,p6,p7,p8⟩;dsimp only at pz p2 p3 p4 p5 p6 p7 p8;subst p2;subst p6;subst p7;subst p8;have l44:N4.length=4:=by rw[p3];rfl
   refine aQ (λ_=>?_) λ_=>aj ⟨pz,rfl,p3,p4,p5,rfl,rfl,by dsimp only;omega,hbody⟩
   refine cI (cI (aT ?_));refine bc (by simp at hlen ⊢;omega) (by omega) (aj ⟨pz,rfl,p3,p4,p5,rfl,rfl,by dsimp only;rw[bk,eP];omega,λs hs=>?_⟩);rcases bQ.1 hs with hs|hs
   .exact hbody s hs
   .rw[aJ]at hs;rw[hs];refine PC 13 (.inr rfl) ?_;rw[p3];exact abd nT (by omega) 1 (by omega)
  rintro⟨m4,D4,N4,z4,t4,h4,th4,l4,b4⟩ ⟨pz,p2,p3,p4,p5,p6,p7,p8,p9⟩;dsimp only at pz p2 p3 p4 p5 p6 p7 p8 p9;subst p2;subst p6;subst p7;refine bc (by simp;omega) (by omega) (aj ?_);dsimp only;refine ⟨gU (by omega),rfl,p3,p4,p5,by rw[ol (T:=.str) (xs:=vL) (i:=i) (by have q4:vL.length=4:=rfl;omega),cQ,e6,<-e3];show _++[z4.1]=_;rw[pz],λt ht=>?_⟩;rcases bQ.1 ht with ht|ht
  .exact e7 t ht
  .rw[aJ]at ht;rw[ht];exact⟨rfl,p8,p9⟩
 .rintro⟨a,m,A,N,t,h,th⟩ ⟨e1,e2,e3,e4,e5,e6,e7⟩;dsimp only at e1 e2 e3 e4 e5 e6 e7;subst e1;subst e2;refine bK (λg=>(by dsimp only at g;rw[ew]at g;omega)) λ_=>?_
  have hthl:th.length=nT:=by have:=gR ai e6;rw[bx,bJ]at this;have q4:vL.length=4:=rfl;omega
  have hpm:PJ (D0,th):=⟨rfl,by dsimp only;omega,by dsimp only;omega,by dsimp only;rw[hthl];exact e7,by dsimp only;rw[hthl];exact e6⟩
  refine aw (P:=λp=>PJ p/\∃r,fx p=M r/\r.1=0) ?_ λr hr=>aj hr
  obtain⟨y,L,_⟩:=DL (D0,th) hpm.x;refine aS L (b9 (λ_=>?_) λh=>aj ⟨hpm,y,L,h⟩);refine aS Rj (aS (ND _) (aS (tR _ _) (aj ?_)));refine ⟨⟨rfl,by simp,by simp,λt ht=>?_,rfl⟩,ala⟩;simp only[aJ]at ht;rw[ht];refine ⟨rfl,by simp,λs hs=>?_⟩;simp only[aJ]at hs;rw[hs,fo,yC];exact GS.asg (by decide) (GE.num _ 3)
end
end Go.Proofs.YtloaobgmjdjhhaaGreatDoor.AI
