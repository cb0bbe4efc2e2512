/-
  Texts of the proof, part 4 of 6: what is used to prove the statement. No condition.
-/
import Derived.Test.YtocjfbiifiaagaaGreatDoorShbSchedulesQ2
namespace Go.Proofs.YtocjfbiifiaagaaGreatDoor.AI
open Go.RowKit
set_option maxRecDepth 100000
set_option maxHeartbeats 4000000
set_option linter.unusedVariables false
set_option linter.unusedSimpArgs false
set_option linter.defProp false
open _root_.Bool renaming true→J,false→af
open _root_.Int renaming ofNat_eq_natCast→aw,toNat→aO,ofNat→aS,reduceEq→bO,toNat_natCast→cR,reduceNeg→dD,le_trans→qM
open _root_.List renaming length→l!,length→aj,replicate→aE,take→dy,range→dA,length_singleton→dI,cons_append→gG,map→im,nil_append→jH,length_cons→jW,take_succ_cons→yn,foldl_cons→Ad
open _root_.Nat renaming beq→aA,add_zero→dQ,le_succ→Sk
open _root_.Option renaming some→Z,none→U
open _root_.Prod renaming a→be,b→bA,c→bM,d→ct,e→cE,h→c_,g→dF,f→fe,j→gy,i→kZ,o→rY,n→vq,k→vu,m→zW,l→Ac,s→HN,v→Lu,q→Pk
open _root_.Sum renaming inr→bL
noncomputable section
def nh (x y:Int):kA x y=max x y:=by
 unfold kA;by_cases h:x<y
 .rw[xw h,aC rfl];omega
 .simp;omega
def Zy (a b c:Int):kA (kA a b) c=kA a (kA b c):=by
 simp only[nh];omega
variable {z:η}
def yQ {b:η} (a:l! z=l! b) (h:∀i,z.getD i 0=b.getD i 0):z=b:=by
 apply em a;intro i h1 A;have:=h i
 grind
def uB (a b c:η):jl (jl a b) c=jl a (jl b c):=
 yQ (by simp only[rK];omega) λi=>by simp only[tK,Zy]
def En (n:Int) (c:η):Prop:=l! c<=4/\∀i,0<=c.getD i 0/\c.getD i 0<=n
variable {a:Int}
def En.nil (h:0<=a):En a []:=⟨by simp,λi=>by simp;exact h⟩
def En.mono {m:Int} (h:En a z) (hm:a<=m):En m z:=⟨h.1,λi=>⟨(h.2 i).1,qM (h.2 i).2 hm⟩⟩
def En.jl {n:η} (A:En a n) (b:En a z):En a (jl n z):=⟨by rw[rK];have:=A.1;have:=b.1;omega,λi=>by
 rw[tK];let⟨h1,h2⟩:=A.2 i;let⟨L,I⟩:=b.2 i;unfold kA;split<;>exact⟨by assumption,by assumption⟩⟩
variable {i:Nat}
def En.tk (h:En a z) (ht:i<4):En (a+1) (tk z i):=⟨by rw[QZ];have:=h.1;omega,λt=>by
 rw[BV];let⟨h1,I⟩:=h.2 t;let⟨A,c⟩:=h.2 i;split<;>omega⟩
def pO (h:En a z):jl z []=z:=yQ (by simp[rK]) λi=>by
 rw[tK,nh];have:=(h.2 i).1
 grind
def aub (h:En a z):jl [] z=z:=yQ (by simp[rK]) λi=>by
 rw[tK,nh];have:=(h.2 i).1
 grind
def EK (n:Int) (l:Y η):Prop:=∀i,En n (l.getD i [])
def EK.mono {m:Int} {l:Y η} (h:EK a l) (hm:a<=m):EK m l:=λi=>(h i).mono hm
def EK.set {l:Y η} (h:EK a l) (c:En a z) (j:Nat):EK a (l.set j z):=λi=>by
 rw[aD,iR];by_cases e:j=i
 .subst e;rw[aC rfl];split
  .exact c
  .have:=h j;simp[aD]at this;rw[eA (by omega)]at this;exact this
 .rw[av e,<-aD];exact h i
def EK.repl (h:0<=a) (k:Nat):EK a (aE k []):=λi=>by
 rw[aD,sY];split<;>exact En.nil h
structure HS where
 T:List η
 S:List η
 L:List η
 R:List η
 C:List η
 F:List η
 X:η
 N:List η
 W:η
def HS.t (h:HS):HTp:=(h.T,h.S,h.L,h.R,h.C,h.F,h.X,h.N,h.W)
structure EV where
 th:Nat
 k:Nat
 ob:Nat
 va:Int
abbrev WTc:=Y (ζ×Int)
def Ta (z:WTc) (o:Nat):Nat:=((z.getD o ([],0)).2).toNat
def BU (z:Y (ζ×n?)) (o:Nat):Bool:=(z.getD o ([],0,0,af,0)).2.2.2.1
def s5 (w:xR) (h:HS) (e:EV):Y η:=
 if e.k=1 then [h.S.getD e.th []]
 else if e.k=21 then [h.T.getD e.ob []]
 else if e.k=6\/e.k=10 then [h.L.getD e.ob [],h.R.getD e.ob []]
 else if e.k=8 then [h.L.getD e.ob []]
 else if e.k=17 then [h.L.getD (Ta w.2.2.1 e.ob) [],h.R.getD (Ta w.2.2.1 e.ob) [],h.N.getD e.th []]
 else if e.k=3 then [h.C.getD e.ob []]
 else if e.k=23 then [h.F.getD e.ob []]
 else if e.k=12 then [h.X]
 else []
def wO (w:xR) (h:HS) (e:EV):η:=tk ((s5 w h e).foldl jl (h.T.getD e.th [])) e.th
def jat (l:Y η) (i:Nat) (c:η):Y η:=l.set i (jl (l.getD i []) c)
def FF (p:Nat->Bool) (c:η) (h:HS):HS:={h with N:=h.N.mapIdx λu x=>if p u then c else x,W:=h.W.mapIdx λu x=>if p u then -1 else x}
def iD (w:xR) (h:HS) (e:EV) (c:η):HS:=
 let h:={h with T:=h.T.set e.th c}
 if e.k=20 then {h with S:=h.S.set e.ob c}
 else if e.k=7\/e.k=11 then {h with L:=jat h.L e.ob c}
 else if e.k=9 then {h with R:=jat h.R e.ob c}
 else if e.k=16 then {h with L:=jat h.L (Ta w.2.2.1 e.ob) c,W:=h.W.set e.th e.ob}
 else if e.k=4 then (if BU w.1 e.ob then {h with C:=jat h.C e.ob c} else h)
 else if e.k=22 then {h with F:=jat h.F e.ob c}
 else if e.k=13 then {h with X:=jl h.X c}
 else if e.k=18 then (if 0<=e.va/\e.va<l! h.N then {h with N:=h.N.set e.va.toNat c,W:=h.W.set e.va.toNat (-1)} else h)
 else if e.k=19 then FF (λu=>decide (h.W.getD u 0=(e.ob:Int))) c h
 else h
def Jj (w:xR) (h:HS) (e:EV):HS×η:=(iD w h e (wO w h e),wO w h e)
structure EOK (w:xR) (h:HS) (e:EV):Prop where
 th4:e.th<4
 th:e.th<l! h.T
 k1:1<=e.k
 k2:e.k<=23
 sp:e.k=20\/e.k=21->e.ob<l! h.T
 lk:6<=e.k/\e.k<=11->e.ob<l! h.L
 cd:e.k=16\/e.k=17->e.ob<l! w.2.2.1/\0<=(w.2.2.1.getD e.ob ([],0)).2/\Ta w.2.2.1 e.ob<l! h.L
 ce:e.k=3\/e.k=4->e.ob<l! h.C/\e.ob<l! w.1
 fu:e.k=22\/e.k=23->e.ob<l! h.F
structure UQ (n:Int) (h:HS):Prop where
 n0:0<=n
 n1:n<=1000000
 T:EK n h.T
 S:EK n h.S
 L:EK n h.L
 R:EK n h.R
 C:EK n h.C
 F:EK n h.F
 X:En n h.X
 N:EK n h.N
 lT:l! h.T<=1000
 lS:l! h.S=l! h.T
 lN:l! h.N=l! h.T
 lW:l! h.W=l! h.T
 lL:l! h.L<=1000
 lR:l! h.R=l! h.L
 lC:l! h.C<=1000
 lF:l! h.F<=1000
def En.lb (h:En a z):l! z<=BN:=by have:=h.1;unfold BN;omega
def EK.GL {l:Y η} (h:EK a l) (A:l! l<=1000):GL l:=⟨by unfold BN;omega,λc z=>by
 let⟨i,hi⟩:=fG z;have:=(h i).lb
 rwa [aD,hi]at this⟩
def UQ.GH {h:HS} (o:UQ a h):GH h.t:=
 ⟨o.T.GL o.lT,o.S.GL (by rw[o.lS];exact o.lT),o.L.GL o.lL,o.R.GL (by rw[o.lR];exact o.lL),o.C.GL o.lC,o.F.GL o.lF,o.X.lb,o.N.GL (by rw[o.lN];exact o.lT),by show l! h.W<=BN;have:=o.lT;rw[o.lW];unfold BN;omega⟩
def En.join {n:η} (A:En a n) (b:En a z):j_ (n,z)=Z (AI.jl n z):=af4 n z A.lb b.lb
def Sy {w:xR} {h:HS} (o:UQ a h) (e:EV):∀c∈s5 w h e,En a c:=by
 intro c z;unfold s5 at z;repeat' (split at z)
 all_goals simp[bh,b7,eE]at z
 .subst z;exact o.S _
 .subst z;exact o.T _
 .rcases z with rfl|rfl
  .exact o.L _
  .exact o.R _
 .subst z;exact o.L _
 .rcases z with rfl|rfl|rfl
  .exact o.L _
  .exact o.R _
  .exact o.N _
 .subst z;exact o.C _
 .subst z;exact o.F _
 .subst z;exact o.X
def AJ :∀(l:Y η) (c:η),En a c->(∀x∈l,En a x)->En a (l.foldl jl c)
 |[],_,z,_=>z
 |x::r,c,z,h=>AJ r _ (z.jl (h x (dK ..))) λy A=>h y (cY _ A)
def OL {w:xR} {h:HS} (o:UQ a h) {e:EV} (he:e.th<4):En (a+1) (wO w h e):=(AJ _ _ (o.T _) (Sy o e)).tk he
def EK.jat {l:Y η} (h:EK a l) (c:En a z) (i:Nat):EK a (jat l i z):=h.set ((h i).jl c) i
def EK.mapIdx {l:Y η} (h:EK a l) (A:En a z) (p:Nat->Bool):EK a (l.mapIdx λu x=>if p u then z else x):=λi=>by
 rw[aD,List.getElem?_mapIdx];have:=h i;rw[aD]at this;cases c:l[i]? with
 |none=>rw[c]at this;exact this
 |some x=>grind
def ae5 {w:xR} {h:HS} (o:UQ a h) (A:a+1<=1000000) {e:EV} (c:En (a+1) z):UQ (a+1) (iD w h e z):=by
 have m:a<=a+1:=by omega
 have oT:EK (a+1) (h.T.set e.th z):=(o.T.mono m).set c _;have b:UQ (a+1) {h with T:=h.T.set e.th z}:=⟨by have:=o.n0;omega,A,oT,o.S.mono m,o.L.mono m,o.R.mono m,o.C.mono m,o.F.mono m,o.X.mono m,o.N.mono m,by simpa using o.lT,by simpa using o.lS,by simpa using o.lN,by simpa using o.lW,o.lL,o.lR,o.lC,o.lF⟩
 unfold iD;simp only[];repeat' split
 .exact {b with S:=(o.S.mono m).set c _,lS:=by simpa using b.lS}
 .exact {b with L:=(o.L.mono m).jat c _,lL:=by simpa[jat] using b.lL,lR:=by simpa[jat] using b.lR}
 .exact {b with R:=(o.R.mono m).jat c _,lR:=by simpa[jat] using b.lR}
 .exact {b with L:=(o.L.mono m).jat c _,lL:=by simpa[jat] using b.lL,lR:=by simpa[jat] using b.lR,lW:=by simpa using b.lW}
 .exact {b with C:=(o.C.mono m).jat c _,lC:=by simpa[jat] using b.lC}
 .exact b
 .exact {b with F:=(o.F.mono m).jat c _,lF:=by simpa[jat] using b.lF}
 .exact {b with X:=(o.X.mono m).jl c}
 .exact {b with N:=(o.N.mono m).set c _,lN:=by simpa using b.lN,lW:=by simpa using b.lW}
 .exact b
 .exact {b with N:=(o.N.mono m).mapIdx c _,lN:=by simpa[FF] using b.lN,lW:=by simpa[FF] using b.lW}
 .exact b
def aiz {w:xR} {h:HS} (o:UQ a h) (z:a+1<=1000000) {e:EV} (he:e.th<4):UQ (a+1) (Jj w h e).1:=ae5 o z (OL o he)
variable {m:Nat}
def av0 (h:i=m):aA i m=J:=by subst h;exact qI i
def W5 (l:Y η) (i:Nat) (h:i<l! l):vN ((i:Int),l)=Z (l.getD i [],l):=by
 unfold vN ck bQ aZ aH;rw[Bi (by omega)];simp only[eY,ov];rw[VZ (by grind)];simp only[eY];rw[cH (dc h),cH (dc h),pQ]
def vP (l:Y η) (i:Nat) (c:η) (h:i<l! l) (z:EK a l) (A:En a c):mK ((i:Int),l,c)=Z (jat l i c,c):=by
 unfold mK ck kw aZ aH;rw[s_ (by omega)];simp[ep,ov];rw[xw (by grind)];rw[cH (dc h),cH (dc h),pQ,YD _ _ (z i).lb A.lb,dm,cH (dc h),cH (dc h),eR];rfl
def tL (l:Y η) (i:Nat) (c:η):l! (jat l i c)=l! l:=by simp[jat]
def ace (h:HS) (u:Nat) (c:η) (h1:u<l! h.N) (z:u<l! h.W) (A:En a c):yL ((u:Int),h.X,h.T,h.S,h.L,h.R,h.C,h.F,h.N,h.W,c)=Z (h.X,h.T,h.S,h.L,h.R,h.C,h.F,h.N.set u c,h.W.set u (-1),c):=by
 unfold yL be bA bM cE fe kZ vu Ac Prod.p ck;rw[Sh c A.lb,dm,cH (dc h1),cH (dc h1),cH (dc z),cH (dc z),eR,eR]
def adu (z:WTc) (i:Nat):aI (.st (.pr .str (.int .i64))) z (i:Int)=z.getD i ([],0):=yX (T:=.st (.pr .str (.int .i64))) z i
def apn (z:Y (ζ×n?)) (i:Nat):aI (.st (.pr .str (.pr (.int .i64) (.pr (.int .i64) (.pr .bool (.int .i64)))))) z (i:Int)=z.getD i ([],0,0,af,0):=yX (T:=.st (.pr .str (.pr (.int .i64) (.pr (.int .i64) (.pr .bool (.int .i64)))))) z i
abbrev S!:=Int×Int×Int×Int×Int×x!
abbrev ETp:Type:=S!
structure EvT (e:EV) (x:ETp):Prop where
 th:x.1=(e.th:Int)
 k:x.2.1=(e.k:Int)
 ob:e.k∈[3,4,6,7,8,9,10,11,16,17,18,19,20,21,22,23]->x.2.2.1=(e.ob:Int)
 va:x.2.2.2.1=e.va
def adi (A:a=(i:Int)) (h1:1<=i) (I:i<=23):(i=1/\a=1)\/(i=2/\a=2)\/(i=3/\a=3)\/(i=4/\a=4)\/(i=5/\a=5)\/(i=6/\a=6)\/(i=7/\a=7)\/(i=8/\a=8)\/(i=9/\a=9)\/(i=10/\a=10)\/(i=11/\a=11)\/(i=12/\a=12)\/(i=13/\a=13)\/(i=14/\a=14)\/(i=15/\a=15)\/(i=16/\a=16)\/(i=17/\a=17)\/(i=18/\a=18)\/(i=19/\a=19)\/(i=20/\a=20)\/(i=21/\a=21)\/(i=22/\a=22)\/(i=23/\a=23):=by
 have h:i=1\/i=2\/i=3\/i=4\/i=5\/i=6\/i=7\/i=8\/i=9\/i=10\/i=11\/i=12\/i=13\/i=14\/i=15\/i=16\/i=17\/i=18\/i=19\/i=20\/i=21\/i=22\/i=23:=by omega
 subst A;rcases h with rfl|rfl|rfl|rfl|rfl|rfl|rfl|rfl|rfl|rfl|rfl|rfl|rfl|rfl|rfl|rfl|rfl|rfl|rfl|rfl|rfl|rfl|rfl<;>simp
def abq (a:Nat):(aA a a&&J)=J:=by rw[av0 rfl];rfl
def Ys {w:xR} {h:HS} (o:UQ a h) {e:EV} (ok:EOK w h e) {x:ETp} (hx:EvT e x):tI (x,h.X,w,h.T,h.S,h.L,h.R,h.C,h.F,h.N,h.W)=Z (s5 w h e,x,h.X,w,h.T,h.S,h.L,h.R,h.C,h.F,h.N,h.W):=by
 let⟨x1,x2,I,x4,x5,x6,x7⟩:=x;let⟨w1,w2,w3,w4,w5,w6⟩:=w;let⟨th,k,ob,va⟩:=e;let⟨q1,q2,q3,q4⟩:=hx;simp only at q1 q2 q3 q4;subst q1 q4;have t1:=ok.th;simp only at t1;have fS:ef (th:Int) (l! h.S)=J:=dc (by rw[o.lS];exact t1);have fN:ef (th:Int) (l! h.N)=J:=dc (by rw[o.lN];exact t1);have fT:k=21->ef (ob:Int) (l! h.T)=J/\I=(ob:Int):=λe=>by
  subst e;have:=ok.sp (.inr rfl);exact⟨dc this,q3 (by decide)⟩
 have fL:(k=6\/k=10\/k=8)->ef (ob:Int) (l! h.L)=J/\ef (ob:Int) (l! h.R)=J/\I=(ob:Int):=λe=>by
  have h1:ob<l! h.L:=ok.lk (by rcases e with rfl|rfl|rfl<;>(simp only[];omega));exact⟨dc h1,dc (by rw[o.lR];exact h1),q3 (by rcases e with rfl|rfl|rfl<;>decide)⟩
 have fC:k=3->ef (ob:Int) (l! h.C)=J/\I=(ob:Int):=λe=>by
  subst e;have:=(ok.ce (.inl rfl)).1;exact⟨dc this,q3 (by decide)⟩
 have fF:k=23->ef (ob:Int) (l! h.F)=J/\I=(ob:Int):=λe=>by
  subst e;have:=ok.fu (.inr rfl);exact⟨dc this,q3 (by decide)⟩
 unfold tI s5 zW be bA bM cE fe kZ vu Ac Prod.p Pk c_ gy ck bj wT bV aH;rcases adi q2 ok.k1 ok.k2 with ⟨e,e'⟩|⟨e,e'⟩|⟨e,e'⟩|⟨e,e'⟩|⟨e,e'⟩|⟨e,e'⟩|⟨e,e'⟩|⟨e,e'⟩|⟨e,e'⟩|⟨e,e'⟩|⟨e,e'⟩|⟨e,e'⟩|⟨e,e'⟩|⟨e,e'⟩|⟨e,e'⟩|⟨e,e'⟩|⟨e,e'⟩|⟨e,e'⟩|⟨e,e'⟩|⟨e,e'⟩|⟨e,e'⟩|⟨e,e'⟩|⟨e,e'⟩<;>clear q2<;>subst e<;>subst e'
 case inr.inr.inr.inr.inr.inr.inr.inr.inr.inr.inr.inr.inr.inr.inr.inr.inl=>
  have q3:=q3 (by decide);subst q3;let⟨d1,d2,d3⟩:=ok.cd (.inr rfl);simp only at d1 d2 d3;have d4:Ta w3 ob<l! h.R:=by rw[o.lR];exact d3
  have e1:(w3.getD ob ([],0)).2=((Ta w3 ob:Nat):Int):=by unfold Ta;omega
  simp only[bO,dH,eH,ep,eY,ov,cH,dc d1,adu,e1,W5 _ _ d3,W5 _ _ d4,dm,abq,fN,pQ];rfl
 case inr.inr.inl=>
  obtain⟨z,rfl⟩:=fC rfl;simp only[bO,dH,eH,ep,eY,ov,cH,z,pQ];rfl
 case inr.inr.inr.inr.inr.inr.inr.inr.inr.inr.inr.inr.inr.inr.inr.inr.inr.inr.inr.inr.inr.inr=>
  obtain⟨z,rfl⟩:=fF rfl;simp only[bO,dH,eH,ep,eY,ov,cH,z,pQ];rfl
 case inr.inr.inr.inr.inr.inr.inr.inr.inr.inr.inr.inr.inr.inr.inr.inr.inr.inr.inr.inr.inl=>
  obtain⟨z,rfl⟩:=fT rfl;simp only[bO,dH,eH,ep,eY,ov,cH,z,pQ];rfl
 case inl=>
  simp only[bO,dH,eH,ep,eY,ov,cH,fS,pQ];rfl
 case inr.inr.inr.inr.inr.inl=>
  obtain⟨z,A,rfl⟩:=fL (by decide);simp only[bO,dH,eH,ep,eY,ov,cH,z,A,pQ];rfl
 case inr.inr.inr.inr.inr.inr.inr.inr.inr.inl=>
  obtain⟨z,A,rfl⟩:=fL (by decide);simp only[bO,dH,eH,ep,eY,ov,cH,z,A,pQ];rfl
 case inr.inr.inr.inr.inr.inr.inr.inl=>
  obtain⟨z,A,rfl⟩:=fL (by decide);simp only[bO,dH,eH,ep,eY,ov,cH,z,A,pQ];rfl
 all_goals
  simp only[bO,dH,eH,ep,eY,ov];rfl
variable {R:Type}
def Iq {σ:Type} {f:σ->M (σ⊕R)} {x0:σ} {r:R} (n:Nat) (A:n<18446744073709551616) (st:Nat->σ) (z:x0=st 0) (h0:∀i,i<n->f (st i)=Z (.inl (st (i+1)))) (h1:f (st n)=Z (.inr r)):hZ f x0=Z r:=by
 subst z;exact Cg n A st h0 h1
def Pp (p:Nat->Bool) (c:R) (u:Nat) (l:Y R):Y R:=l.mapIdx λk x=>if decide (k<u)&&p k then c else x
def ail (p:Nat->Bool) (c:R) (l:Y R):Pp p c 0 l=l:=by
 unfold Pp;apply em
 .simp
 .simp
def L8 (p:Nat->Bool) (c:R) (u:Nat) (l:Y R):l! (Pp p c u l)=l! l:=by simp[Pp]
def U5 (p:Nat->Bool) (c:R) (u:Nat) (l:Y R) (h:l! l<=u):Pp p c u l=l.mapIdx λk x=>if p k then c else x:=by
 unfold Pp;apply em
 .simp
 .grind
def aca (p:Nat->Bool) (c:R) (u:Nat) (l:Y R) (hp:p u=J):(Pp p c u l).set u c=Pp p c (u+1) l:=by
 unfold Pp;apply em
 .simp
 .grind
def U4 (p:Nat->Bool) (c:R) (u:Nat) (l:Y R) (hp:p u=af):Pp p c u l=Pp p c (u+1) l:=by
 unfold Pp
 grind
def atp (p:Nat->Bool) (c:Int) (u:Nat) (l:η):(Pp p c u l).getD u 0=l.getD u 0:=by
 unfold Pp;rw[aD,List.getElem?_mapIdx,aD];cases l[u]? with
 |none=>rfl
 |some x=>simp
def HS.e (h:HS) (c:η):η×Y η×Y η×Y η×Y η×Y η×Y η×Y η×x!:=(h.X,h.T,h.S,h.L,h.R,h.C,h.F,h.N,h.W,c)
def W6 {w:xR} {h:HS} (o:UQ a h) (hn:a+1<=1000000) {e:EV} (ok:EOK w h e) {x:ETp} (hx:EvT e x) (A:En (a+1) z):rG ((w,x),h.e z)=Z ((iD w h e z).e z):=by
 let⟨x1,x2,x3,c,x5,x6,x7⟩:=x;let⟨w1,w2,I,w4,w5,w6⟩:=w;let⟨th,k,ob,va⟩:=e;let⟨q1,q2,q3,q4⟩:=hx;simp only at q1 q2 q3 q4;subst q1 q4;have t1:=ok.th;simp only at t1;have m:a<=a+1:=by omega
 have fT:ef (th:Int) (l! h.T)=J:=dc t1;have fW:ef (th:Int) (l! h.W)=J:=dc (by rw[o.lW];exact t1);have cl:=Sh z A.lb;unfold rG Dl HS.e zW HN Prod.r Prod.y Prod.u Prod.w Prod.z Prod.B be bA bM cE fe kZ vu Ac Prod.p Prod.F Prod.E Prod.C c_ vq Lu ck bj bQ kw wT bV aZ cP aH cL;rcases adi q2 ok.k1 ok.k2 with ⟨e,e'⟩|⟨e,e'⟩|⟨e,e'⟩|⟨e,e'⟩|⟨e,e'⟩|⟨e,e'⟩|⟨e,e'⟩|⟨e,e'⟩|⟨e,e'⟩|⟨e,e'⟩|⟨e,e'⟩|⟨e,e'⟩|⟨e,e'⟩|⟨e,e'⟩|⟨e,e'⟩|⟨e,e'⟩|⟨e,e'⟩|⟨e,e'⟩|⟨e,e'⟩|⟨e,e'⟩|⟨e,e'⟩|⟨e,e'⟩|⟨e,e'⟩<;>clear q2<;>subst e<;>subst e'
 case inr.inr.inr.inr.inr.inr.inr.inr.inr.inr.inr.inr.inr.inr.inr.inr.inr.inr.inr.inl=>
  obtain rfl:=q3 (by decide);have f:ef (ob:Int) (l! h.S)=J:=dc (by rw[o.lS];exact ok.sp (.inl rfl));simp only[bO,dH,eH,ep,eY,ov,dm,cH,cl,fT,f,eR];rfl
 case inr.inr.inr.inr.inr.inr.inl=>
  obtain rfl:=q3 (by decide);have f:ob<l! h.L:=ok.lk (by simp only[];omega);simp only[bO,dH,eH,ep,eY,ov,dm,cH,cl,fT,eR,vP _ _ _ f (o.L.mono m) A,tL,abq];rfl
 case inr.inr.inr.inr.inr.inr.inr.inr.inr.inr.inl=>
  obtain rfl:=q3 (by decide);have f:ob<l! h.L:=ok.lk (by simp only[];omega);simp only[bO,dH,eH,ep,eY,ov,dm,cH,cl,fT,eR,vP _ _ _ f (o.L.mono m) A,tL,abq];rfl
 case inr.inr.inr.inr.inr.inr.inr.inr.inl=>
  obtain rfl:=q3 (by decide);have f:ob<l! h.R:=by rw[o.lR];exact ok.lk (by simp only[];omega)
  simp only[bO,dH,eH,ep,eY,ov,dm,cH,cl,fT,eR,vP _ _ _ f (o.R.mono m) A,tL,abq];rfl
 case inr.inr.inr.inr.inr.inr.inr.inr.inr.inr.inr.inr.inr.inr.inr.inl=>
  obtain rfl:=q3 (by decide);let⟨d1,d2,d3⟩:=ok.cd (.inl rfl);simp only at d1 d2 d3;have e1:(I.getD ob ([],0)).2=((Ta I ob:Nat):Int):=by unfold Ta;omega
  simp only[bO,dH,eH,ep,eY,ov,dm,cH,cl,fT,fW,eR,dc d1,adu,e1,vP _ _ _ d3 (o.L.mono m) A,tL,abq];rfl
 case inr.inr.inr.inl=>
  obtain rfl:=q3 (by decide);let⟨d1,d2⟩:=ok.ce (.inr rfl);simp only at d1 d2;simp only[bO,dH,eH,ep,eY,ov,dm,cH,cl,fT,eR,dc d2,apn];cases hv:(w1.getD ob ([],0,0,af,0)).2.2.2.1 with
  |true=>
   simp only[ep,dm,cH,vP _ _ _ d1 (o.C.mono m) A,tL,abq,ov];have hE:iD (w1,w2,I,w4,w5,w6) h ⟨th,4,ob,c⟩ z=if BU w1 ob then {h with T:=h.T.set th z,C:=jat h.C ob z} else {h with T:=h.T.set th z}:=rfl
   rw[hE,show BU w1 ob=J from hv];rfl
  |false=>
   simp only[eY,ov];have hE:iD (w1,w2,I,w4,w5,w6) h ⟨th,4,ob,c⟩ z=if BU w1 ob then {h with T:=h.T.set th z,C:=jat h.C ob z} else {h with T:=h.T.set th z}:=rfl
   rw[hE,show BU w1 ob=af from hv];rfl
 case inr.inr.inr.inr.inr.inr.inr.inr.inr.inr.inr.inr.inr.inr.inr.inr.inr.inr.inr.inr.inr.inl=>
  obtain rfl:=q3 (by decide);have f:ob<l! h.F:=ok.fu (.inl rfl);simp only[bO,dH,eH,ep,eY,ov,dm,cH,cl,fT,eR,vP _ _ _ f (o.F.mono m) A,tL,abq];rfl
 case inr.inr.inr.inr.inr.inr.inr.inr.inr.inr.inr.inr.inl=>
  simp only[bO,dH,eH,ep,eY,ov,dm,cH,cl,fT,eR,YD _ _ (o.X.mono m).lb A.lb];rfl
 case inr.inr.inr.inr.inr.inr.inr.inr.inr.inr.inr.inr.inr.inr.inr.inr.inr.inl=>
  simp only[bO,dH,eH,ep,eY,ov,dm,cH,cl,fT,eR];have hE:iD (w1,w2,I,w4,w5,w6) h ⟨th,18,ob,c⟩ z=if 0<=c/\c<l! h.N then {h with T:=h.T.set th z,N:=h.N.set c.toNat z,W:=h.W.set c.toNat (-1)} else {h with T:=h.T.set th z}:=rfl
  rw[hE];by_cases h0:0<=c
  .by_cases h1:c<l! h.N
   .rw[s_ h0];simp only[ep,ov];rw[xw (show c<aS (l! h.N) from h1)];obtain⟨v,rfl⟩:∃v:Nat,c=(v:Int):=⟨c.toNat,by omega⟩
    have v1:v<l! h.N:=by omega
    have v2:v<l! h.W:=by rw[o.lW,<-o.lN];exact v1
    have:=ace {h with T:=h.T.set th z} v z v1 v2 A;simp only[]at this;simp only[ep,this,dm,fV,cH,av0 rfl,ou,ov];rw[aC ⟨h0,h1⟩];rfl
   .rw[s_ h0];simp only[ep,ov];rw[Bi (show aS (l! h.N)<=c from tW.1 h1)];simp only[eY,ov];rw[av (λq=>h1 q.2)]
  .rw[VZ (by omega)];simp only[eY,ov];rw[av (λq=>h0 q.1)]
 case inr.inr.inr.inr.inr.inr.inr.inr.inr.inr.inr.inr.inr.inr.inr.inr.inr.inr.inl=>
  obtain rfl:=q3 (by decide);simp only[bO,dH,eH,ep,eY,ov,dm,cH,cl,fT,eR];rw[Iq (r:=bL (h.X,h.T.set th z,h.S,h.L,h.R,h.C,h.F,Pp (λu=>decide (h.W.getD u 0=(ob:Int))) z (l! h.W) h.N,Pp (λu=>decide (h.W.getD u 0=(ob:Int))) (-1) (l! h.W) h.W,z)) (l! h.W) (by have:=o.lW;have:=o.lT;omega)
   (λi=>((i:Int),h.X,h.T.set th z,h.S,h.L,h.R,h.C,h.F,Pp (λu=>decide (h.W.getD u 0=(ob:Int))) z i h.N,Pp (λu=>decide (h.W.getD u 0=(ob:Int))) (-1) i h.W,z,(th:Int),(19:Int),(ob:Int),c,x5,x6,x7)) ?_ ?_ ?_]
  .simp only[ov];rw[U5 _ _ _ h.W (bK _),U5 _ _ _ h.N (by rw[o.lN,o.lW];exact bK _)];rfl
  .simp only[ail];rfl
  .intro i hi;simp only[];have hN:i<l! (Pp (λu=>decide (h.W.getD u 0=(ob:Int))) z i h.N):=by rw[L8,o.lN,<-o.lW];exact hi
   have hW:i<l! (Pp (λu=>decide (h.W.getD u 0=(ob:Int))) (-1) i h.W):=by rw[L8];exact hi
   rw[xw (by simp;omega),ep,cH (dc hW),cH (dc hW),auh,atp];have ws:=rx hi (show (l! h.W)<=1099511627776 by have:=o.lW;have:=o.lT;omega);by_cases hp:h.W.getD i 0=(ob:Int)
   .rw[aU hp,ep];have:=ace {h with T:=h.T.set th z,N:=Pp (λu=>decide (h.W.getD u 0=(ob:Int))) z i h.N,W:=Pp (λu=>decide (h.W.getD u 0=(ob:Int))) (-1) i h.W} i z hN hW A;simp only[]at this;rw[this,dm,cH (by simp only[fV,av0 rfl,ou]),ov,ws,aca _ _ _ _ (aU hp),aca _ _ _ _ (aU hp)]
   .rw[dt hp,eY,ov,ws,<-U4 _ _ _ _ (dt hp),<-U4 _ _ _ _ (dt hp)]
  .simp only[];rw[Bi (by simp),eY]
 all_goals
  simp only[bO,dH,eH,ep,eY,ov,dm,cH,cl,fT,eR];rfl
def Np (l:Y η) (c:η) (i:Nat) (hi:i<l! l):(l.take (i+1)).foldl jl c=jl ((l.take i).foldl jl c) (l.getD i []):=by
 rw[List.take_add_one,gd,aF hi,aD,aF hi];rfl
def Jk (w:xR) (h:HS) (e:EV):l! (s5 w h e)<=3:=by
 unfold s5;repeat' split
 all_goals simp
def alu {w:xR} {h:HS} (o:UQ a h) (e:EV) (i:Nat):0<=((s5 w h e).foldl jl (h.T.getD e.th [])).getD i 0/\((s5 w h e).foldl jl (h.T.getD e.th [])).getD i 0<9223372036854775807:=by
 have:=(AJ _ _ (o.T e.th) (Sy (w:=w) o e)).2 i;have:=o.n1;omega
def xF (w:xR) (h:HS) (e:EV) (c:η):(iD w h e c).T.length=l! h.T/\(iD w h e c).S.length=l! h.S/\(iD w h e c).L.length=l! h.L/\(iD w h e c).R.length=l! h.R/\(iD w h e c).C.length=l! h.C/\(iD w h e c).F.length=l! h.F/\(iD w h e c).N.length=l! h.N/\(iD w h e c).W.length=l! h.W:=by
 unfold iD;simp[];repeat' split
 all_goals simp[jat,FF]
def ar8 {w:xR} {h:HS} (o:UQ a h) (hn:a+1<=1000000) {e:EV} (ok:EOK w h e) {x:ETp} (hx:EvT e x):uA (w,h.t,x)=Z ((Jj w h e).1.t,(Jj w h e).2):=by
 have s2:=Ys o ok hx;have hce:En (a+1) (wO w h e):=OL o ok.th4;have en:=W6 o hn ok hx hce;have cp:=R5 h.t o.GH;have sl:=Jk w h e;have sE:=Sy (w:=w) o e;have hlen:=xF w h e (wO w h e);let⟨x1,x2,x3,x4,x5,x6,x7⟩:=x;let⟨w1,w2,w3,I,A,z⟩:=w;have t1:=hx.th;subst t1;unfold HS.t at cp;have fT:ef (e.th:Int) (l! h.T)=J:=dc ok.th;unfold uA Gz HS.t zW HN be bA bM cE fe kZ vu Ac Pk Prod.t c_ gy rY Lu ck bQ wT bV aZ cP cL;rw[cp,dm];rw[cH fT,cH fT,s2,dm];rw[cH (by simp)];refine Iq (l! (s5 (w1,w2,w3,I,A,z) h e)) (by omega) (λi=>((i:Int),(w1,w2,w3,I,A,z),((e.th:Int),x2,x3,x4,x5,x6,x7),h.X,((s5 (w1,w2,w3,I,A,z) h e).take i).foldl jl (h.T.getD e.th []),h.T,h.S,h.L,h.R,h.C,h.F,h.N,h.W)) ?_ ?_ ?_
 .rfl
 .intro i hi;rw[xw (by grind),ep,cH (dc hi),pQ,(AJ _ _ (o.T e.th) (λy hy=>sE y (il hy))).join (sE _ (GF hi)),dm,rx hi (by omega),Np _ _ _ hi]
 .simp only[];rw[Bi (by simp),eY,fE (bK _)];have hl:=alu (w:=(w1,w2,w3,I,A,z)) o e e.th;rw[aex _ e.th (AJ _ _ (o.T e.th) sE).lb ok.th4 hl.1 hl.2,dm];unfold HS.e at en;unfold wO at en hlen;rw[en,dm];rw[cH (by simp_all)];rfl
def Ok (o:M R) (Q:R->Prop):Prop:=∃y,o=Z y/\Q y
def Ok.mono {o:M R} {Q Q':R->Prop} (h:Ok o Q) (z:∀y,Q y->Q' y):Ok o Q':=by let⟨y,h1,A⟩:=h;exact⟨y,h1,z y A⟩
def Ok.and {o:M R} {Q Q':R->Prop} (h:Ok o Q) (h':Ok o Q'):Ok o λy=>Q y/\Q' y:=by
 let⟨y,h1,L⟩:=h;let⟨z,A,I⟩:=h';rw[h1]at A;cases A;exact⟨y,h1,L,I⟩
def ak {y:R} {Q:R->Prop} (h:Q y):Ok (Z y) Q:=⟨y,rfl,h⟩
def ay9 {o:M R} {y:R} {Q:R->Prop} (e:o=Z y) (h:Q y):Ok o Q:=⟨y,e,h⟩
variable {b:Bool}
def bl {k:M R} {Q:R->Prop} (h:b=J) (z:Ok k Q):Ok (chk b λ_=>k) Q:=by subst h;exact z
def aR {t f:M R} {Q:R->Prop} (ht:b=J->Ok t Q) (hf:b=af->Ok f Q):Ok (aJ b t f) Q:=by
 cases b with
 |true=>exact ht rfl
 |false=>exact hf rfl
def qu {t f:M R} {Q:R->Prop} (h:b=J) (ht:Ok t Q):Ok (aJ b t f) Q:=by subst h;exact ht
def jJ {t f:M R} {Q:R->Prop} (h:b=af) (hf:Ok f Q):Ok (aJ b t f) Q:=by subst h;exact hf
def ay {α:Type} {o:M α} {k:α->M R} {P:α->Prop} {Q:R->Prop} (h:Ok o P) (A:∀x,P x->Ok (k x) Q):Ok (ax o k) Q:=by
 obtain⟨x,rfl,z⟩:=h;exact A x z
def aX {α:Type} {o:M α} {k:α->M R} {x:α} {Q:R->Prop} (h:o=Z x) (z:Ok (k x) Q):Ok (ax o k) Q:=by subst h;exact z
def aT {α:Type} {x:α} {k:α->M R} {Q:R->Prop} (h:Ok (k x) Q):Ok (lt x k) Q:=h
def aV {α:Type} {o:M (R⊕α)} {k:α->M R} {Q:R->Prop} (P:α->Prop) (h:Ok o λr=>match r with|.inl r=>Q r|.inr x=>P x) (A:∀x,P x->Ok (k x) Q):Ok (jn o k) Q:=by
 obtain⟨r,rfl,z⟩:=h;cases r with
 |inl r=>exact⟨r,rfl,z⟩
 |inr x=>exact A x z
def gP {α:Type} {o:M (R⊕α)} {k:α->M R} {Q:R->Prop} (h:Ok o λr=>match r with|.inl r=>Q r|.inr x=>Ok (k x) Q):Ok (jn o k) Q:=aV (λx=>Ok (k x) Q) h λ_ h=>h
def aot {α:Type} {a b:α} {r:M R} {Q:R->Prop} (e:a=b) (h:Ok r Q):Ok (same a b r) Q:=by unfold same;rw[aC e];exact h
def qO {σ:Type} {f:σ->M (σ⊕R)} {Q:R->Prop} (μ:σ->Nat) (I:σ->Prop) (h:∀x,I x->Ok (f x) λr=>match r with|.inl y=>I y/\μ y<μ x|.inr r=>Q r) {x:σ} (A:I x):Ok (iter f x) Q:=by
 have key:∀n x,μ x<n->I x->∃m r,iterN f m x=Z r/\Q r:=by
  intro n;induction n with
  |zero=>intro x hm;omega
  |succ n L=>
   intro x hm A;let⟨r,h1,z⟩:=h x A;cases r with
   |inl y=>
    let⟨m,r,h3,h4⟩:=L y (by omega) z.1;exact⟨m+1,r,by rw[iterN,h1];exact h3,h4⟩
   |inr r=>exact⟨1,r,by rw[iterN,h1],z⟩
 let⟨m,r,h1,z⟩:=key (μ x+1) x (ox _) A;exact⟨r,Cf h1,z⟩
def b9 {σ:Type} {f:σ->M (σ⊕R)} {Q:R->Prop} (n:Nat) (I:Nat->σ->Prop) (h0:∀i x,i<n->I i x->Ok (f x) λr=>match r with|.inl y=>I (i+1) y|.inr r=>Q r) (h1:∀x,I n x->Ok (f x) λr=>match r with|.inl _=>False|.inr r=>Q r) {x:σ} (L:I 0 x):Ok (iter f x) Q:=by
 have key:∀m i x,i+m=n->I i x->∃k r,iterN f k x=Z r/\Q r:=by
  intro m;induction m with
  |zero=>
   intro i x hi L;have:i=n:=by omega
   subst this;let⟨r,A,z⟩:=h1 x L;cases r with
   |inl y=>exact z.elim
   |inr r=>exact⟨1,r,by rw[iterN,A],z⟩
  |succ m ih=>
   intro i x hi L;let⟨r,A,z⟩:=h0 i x (by omega) L;cases r with
   |inl y=>
    let⟨k,r,g3,g4⟩:=ih (i+1) y (by omega) z;exact⟨k+1,r,by rw[iterN,A];exact g3,g4⟩
   |inr r=>exact⟨1,r,by rw[iterN,A],z⟩
 let⟨m,r,A,z⟩:=key n 0 x (by omega) L;exact⟨r,Cf A,z⟩
def itQ {σ:Type} (f:σ->M (σ⊕R)) (Q:R->Prop):σ⊕R->Prop
 |.inl y=>Ok (iter f y) Q
 |.inr r=>Q r
def jnQ {α:Type} (k:α->M R) (Q:R->Prop):R⊕α->Prop
 |.inl r=>Q r
 |.inr x=>Ok (k x) Q
def aos {σ:Type} {f:σ->M (σ⊕R)} {x:σ} {Q:R->Prop} (h:Ok (f x) (itQ f Q)):Ok (iter f x) Q:=by
 let⟨r,h1,I⟩:=h;cases r with
 |inr r=>exact⟨r,Cf (n:=1) (by rw[iterN,h1]),I⟩
 |inl y=>
  let⟨z,A,L⟩:=I;unfold iter at A;split at A
  .exact⟨z,Cf (n:=_+1) (by rw[iterN,h1];exact A),L⟩
  .cases A
def ad7 {σ:Type} {f:σ->M (σ⊕R)} {y:σ} {Q:R->Prop} (h:Ok (iter f y) Q):Ok (Z (.inl y)) (itQ f Q):=⟨_,rfl,h⟩
def ad6 {σ:Type} {f:σ->M (σ⊕R)} {r:R} {Q:R->Prop} (h:Ok (Z r) Q):Ok (Z (.inr r)) (itQ f Q):=by
 let⟨_,h1,z⟩:=h;cases h1;exact⟨_,rfl,z⟩
def VN {α:Type} {o:M (R⊕α)} {k:α->M R} {Q:R->Prop} (h:Ok o (jnQ k Q)):Ok (jn o k) Q:=by
 obtain⟨r,rfl,z⟩:=h;cases r with
 |inl r=>exact⟨r,rfl,z⟩
 |inr x=>exact z
def ad5 {α:Type} {r:R} {k:α->M R} {Q:R->Prop} (h:Ok (Z r) Q):Ok (Z (.inl r)) (jnQ k Q):=by
 let⟨_,h1,z⟩:=h;cases h1;exact⟨_,rfl,z⟩
def ad4 {α:Type} {x:α} {k:α->M R} {Q:R->Prop} (h:Ok (k x) Q):Ok (Z (.inr x)) (jnQ k Q):=⟨_,rfl,h⟩
def oQ {α:Type} (k:α->M R) (Q:R->Prop) (x:α):Prop:=Ok (k x) Q
def VM {α:Type} {o:M α} {k:α->M R} {Q:R->Prop} (h:Ok o (oQ k Q)):Ok (ax o k) Q:=ay h λ_ h=>h
def VK {α:Type} {x:α} {k:α->M R} {Q:R->Prop} (h:Ok (k x) Q):Ok (Z x) (oQ k Q):=⟨_,rfl,h⟩
def pu :ef a i=J↔0<=a/\a<i:=by simp[ef,cX,gI]
def xx {b:Int}:cX a b=J↔a<=b:=by simp[cX]
def t_ {b:Int}:gI a b=J↔a<b:=by simp[gI]
def jS {b:Int}:gI a b=af↔b<=a:=by simp[gI]
def mf {b:Int}:cX a b=af↔b<a:=by simp[cX]
def afg :bg i m=J↔i<=1099511627776/\i*m<=1099511627776:=by simp[bg]
def cz {o:M R} {v:R} (h:Ok o (·=v)):o=Z v:=by let⟨y,h1,z⟩:=h;rw[h1,z]
section steps
variable {R:Type} {k t f:M R} {Q:R->Prop}
def aP {j:Int} (h0:0<=j) (h1:j<i) (z:Ok k Q):Ok (chk (ef j i) λ_=>k) Q:=bl (pu.2 ⟨h0,h1⟩) z
def bP (h0:i<=1073741824) (h1:m<=1024) (z:Ok k Q):Ok (chk (bg i m) λ_=>k) Q:=
 bl (afg.2 ⟨by omega,c7 (Nat.mul_le_mul h0 h1) (by omega)⟩) z
def a! {i m:Nat} (d:Ok k Q) (h:i<=1073741824:=by first|omega|(simp;omega)|(dsimp only;omega)) (g:m<=1024:=by omega):Ok (chk (bg i m) λ_=>k) Q:=bP h g d
def cW {a:Bool} (h:Ok (chk a λ_=>chk b λ_=>k) Q):Ok (chk (a&&b) λ_=>k) Q:=by
 cases a with
 |true=>exact h
 |false=>let⟨y,h,_⟩:=h;cases h
def dG {b:Int} (h:a<=b) (z:Ok k Q):Ok (chk (cX a b) λ_=>k) Q:=bl (xx.2 h) z
def a? {a b:Int} (d:Ok k Q) (h:a<=b:=by first|omega|(simp;omega)|(dsimp only;omega)):Ok (chk (cX a b) λ_=>k) Q:=dG h d
def De {b:Int} (h:a<b) (z:Ok k Q):Ok (chk (gI a b) λ_=>k) Q:=bl (t_.2 h) z
def ad8 {p:Prop} {i:Decidable p} (h:p) (z:Ok k Q):Ok (chk (decide p) λ_=>k) Q:=bl (aU h) z
def B6 {p:Prop} {i:Decidable p} (h:¬p) (z:Ok k Q):Ok (chk (!decide p) λ_=>k) Q:=bl (by simp[h]) z
def mE (h:i=m) (z:Ok k Q):Ok (chk (aA i m) λ_=>k) Q:=bl (by subst h;exact qI i) z
def D_ (z:Ok k Q):Ok (chk J λ_=>k) Q:=z
def bD {b:Int} (ht:a<b->Ok t Q) (hf:b<=a->Ok f Q):Ok (aJ (gI a b) t f) Q:=aR (λh=>ht (t_.1 h)) (λh=>hf (jS.1 h))
def fK {b:Int} (ht:a<=b->Ok t Q) (hf:b<a->Ok f Q):Ok (aJ (cX a b) t f) Q:=aR (λh=>ht (xx.1 h)) (λh=>hf (mf.1 h))
def aK {p:Prop} {i:Decidable p} (ht:p->Ok t Q) (hf:¬p->Ok f Q):Ok (aJ (decide p) t f) Q:=aR (λh=>ht (bi h)) (λh=>hf (qV h))
def bU {p:Prop} {i:Decidable p} (ht:¬p->Ok t Q) (hf:p->Ok f Q):Ok (aJ (!decide p) t f) Q:=aR (λh=>ht (by simpa using h)) (λh=>hf (by simpa using h))
def eC (ht:b=af->Ok t Q) (hf:b=J->Ok f Q):Ok (aJ (!b) t f) Q:=aR (λh=>ht (by simpa using h)) (λh=>hf (by simpa using h))
def vh (ht:Ok t Q):Ok (aJ J t f) Q:=ht
def dR (hf:Ok f Q):Ok (aJ af t f) Q:=hf
def b_ (z:Ok k Q) (h0:0<=a:=by first|omega|(dsimp only;omega)) (h1:a<i:=by first|omega|(dsimp only;omega)):Ok (chk (ef a i) λ_=>k) Q:=aP h0 h1 z
def c8 {b:Int} (ht:Ok t Q) (h:a<b:=by first|omega|(dsimp only[aw];omega)):Ok (aJ (gI a b) t f) Q:=bD (λ_=>ht) λg=>bT h (tW.2 g)
def c9 {b:Int} (hf:Ok f Q) (h:b<=a:=by first|omega|(dsimp only[aw];omega)):Ok (aJ (gI a b) t f) Q:=bD (λg=>bT g (tW.2 h)) λ_=>hf
end steps
def s6:(∀(p:Prop) [Decidable p],(decide p=J)=p)/\(∀p:Prop,(True\/p)=True)/\(∀p:Prop,(p\/True)=True)/\(∀p:Prop,(True->p)=p)/\(∀p:Prop,(True/\p)=p)/\∀p:Prop,(p/\True)=p:=⟨λ_=>bu,true_or,or_true,λ_=>true_implies _,EO,and_true⟩
def Pr:(∀i:Decidable True,@decide True i=J)/\(∀i:Decidable False,@decide False i=af)/\(∀{R:Type} (t f:M R),aJ J t f=t)/\(∀{R:Type} (t f:M R),aJ af t f=f)/\(∀{α R:Type} (x:α) (k:α->M R),jn (Z (.inr x)) k=k x)/\(∀{α R:Type} (r:R) (k:α->M R),jn (Z (.inl r)) k=Z r)/\(∀{α R:Type} (x:α) (k:α->M R),ax (Z x) k=k x)/\(∀{α R:Type} (x:α) (k:α->M R),lt x k=k x)/\(!J)=af/\(!af)=J:=⟨eH,dH,λ_ _=>rfl,λ_ _=>rfl,λ_ _=>rfl,λ_ _=>rfl,λ_ _=>rfl,λ_ _=>rfl,rfl,rfl⟩
structure IM (p q:Prop):Prop where
 h:p->q
inductive OS {R:Type}:Option R->(R->Prop)->Prop where
 |cand {a b:Bool} {k:Option R} {Q:R->Prop} (h:Ok (chk a λ_=>chk b λ_=>k) Q):OS (chk (a&&b) λ_=>k) Q
 |ef {j:Int} {n:Nat} {k:Option R} {Q:R->Prop} (h0:0<=j) (h1:j<n) (hk:Ok k Q):OS (chk (ef j n) λ_=>k) Q
 |room {n b:Nat} {k:Option R} {Q:R->Prop} (h0:n<=1073741824) (h1:b<=1024) (hk:Ok k Q):OS (chk (bg n b) λ_=>k) Q
 |cile {a b:Int} {k:Option R} {Q:R->Prop} (h:a<=b) (hk:Ok k Q):OS (chk (cX a b) λ_=>k) Q
 |cilt {a b:Int} {k:Option R} {Q:R->Prop} (h:a<b) (hk:Ok k Q):OS (chk (gI a b) λ_=>k) Q
 |cdec {p:Prop} {i:Decidable p} {k:Option R} {Q:R->Prop} (h:p) (hk:Ok k Q):OS (chk (decide p) λ_=>k) Q
 |cndec {p:Prop} {i:Decidable p} {k:Option R} {Q:R->Prop} (h:¬p) (hk:Ok k Q):OS (chk (!decide p) λ_=>k) Q
 |cbeq {a b:Nat} {k:Option R} {Q:R->Prop} (h:a=b) (hk:Ok k Q):OS (chk (aA a b) λ_=>k) Q
 |cT {k:Option R} {Q:R->Prop} (hk:Ok k Q):OS (chk J λ_=>k) Q
 |lt {α:Type} {x:α} {k:α->Option R} {Q:R->Prop} (h:Ok (k x) Q):OS (lt x k) Q
 |b1 {t f:Option R} {Q:R->Prop} (h:Ok t Q):OS (aJ J t f) Q
 |b0 {t f:Option R} {Q:R->Prop} (h:Ok f Q):OS (aJ af t f) Q
 |gI {a b:Int} {t f:Option R} {Q:R->Prop} (ht:IM (a<b) (Ok t Q)) (hf:IM (b<=a) (Ok f Q)):OS (aJ (gI a b) t f) Q
 |cX {a b:Int} {t f:Option R} {Q:R->Prop} (ht:IM (a<=b) (Ok t Q)) (hf:IM (b<a) (Ok f Q)):OS (aJ (cX a b) t f) Q
 |dec {p:Prop} {i:Decidable p} {t f:Option R} {Q:R->Prop} (ht:IM p (Ok t Q)) (hf:IM (¬p) (Ok f Q)):OS (aJ (decide p) t f) Q
 |ndec {p:Prop} {i:Decidable p} {t f:Option R} {Q:R->Prop} (ht:IM (¬p) (Ok t Q)) (hf:IM p (Ok f Q)):OS (aJ (!decide p) t f) Q
 |not {b:Bool} {t f:Option R} {Q:R->Prop} (ht:IM (b=af) (Ok t Q)) (hf:IM (b=J) (Ok f Q)):OS (aJ (!b) t f) Q
 |aJ {b:Bool} {t f:Option R} {Q:R->Prop} (ht:IM (b=J) (Ok t Q)) (hf:IM (b=af) (Ok f Q)):OS (aJ b t f) Q
 |jc {α:Type} {o:Option (R⊕α)} {k:α->Option R} {Q:R->Prop} (h:Ok o λr=>match r with|.inl r=>Q r|.inr x=>Ok (k x) Q):OS (jn o k) Q
 |some {y:R} {Q:R->Prop} (h:Q y):OS (Z y) Q
def OS.ok {o:M R} {Q:R->Prop} (h:OS o Q):Ok o Q:=by
 cases h with
 |cand h=>exact cW h
 |ef a b h=>exact aP a b h
 |room a b h=>exact bP a b h
 |cile a h=>exact dG a h
 |cilt a h=>exact De a h
 |cdec a h=>exact ad8 a h
 |cndec a h=>exact B6 a h
 |cbeq a h=>exact mE a h
 |cT h|lt h|b1 h|b0 h=>exact h
 |gI a b=>exact bD a.h b.h
 |cX a b=>exact fK a.h b.h
 |dec a b=>exact aK a.h b.h
 |ndec a b=>exact bU a.h b.h
 |not a b=>exact eC a.h b.h
 |aJ a b=>exact aR a.h b.h
 |jc h=>
  let⟨r,e,h⟩:=h;exact gP ⟨r,e,by cases r<;>exact h⟩
 |some h=>exact ak h
def bcT (t f:M R):aJ J t f=t:=rfl
def bcF (t f:M R):aJ af t f=f:=rfl
def jnr {α:Type} (x:α) (k:α->M R):jn (Z (.inr x)) k=k x:=rfl
def UV {α:Type} (x:α) (k:α->M R):ax (Z x) k=k x:=rfl
inductive Lr:Int->Prop where
 |k1:Lr 1
 |k2:Lr 2
 |k3:Lr 3
 |k4:Lr 4
 |k5:Lr 5
 |k6:Lr 6
 |k7:Lr 7
 |k8:Lr 8
 |k9:Lr 9
 |k10:Lr 10
 |k11:Lr 11
 |k12:Lr 12
 |k13:Lr 13
 |k14:Lr 14
 |k15:Lr 15
 |k16:Lr 16
 |k17:Lr 17
 |k18:Lr 18
 |k19:Lr 19
 |k20:Lr 20
 |k21:Lr 21
 |k22:Lr 22
 |k23:Lr 23
 |no {k:Int} (h:¬k=1/\¬k=2/\¬k=3/\¬k=4/\¬k=5/\¬k=6/\¬k=7/\¬k=8/\¬k=9/\¬k=10/\¬k=11/\¬k=12/\¬k=13/\¬k=14/\¬k=15/\¬k=16/\¬k=17/\¬k=18/\¬k=19/\¬k=20/\¬k=21/\¬k=22/\¬k=23) (h2:k<1\/23<k):Lr k
def kdI (k:Int):Lr k:=by
 by_cases h:k<1\/23<k
 .exact .no (by omega) h
 .have:k=1\/k=2\/k=3\/k=4\/k=5\/k=6\/k=7\/k=8\/k=9\/k=10\/k=11\/k=12\/k=13\/k=14\/k=15\/k=16\/k=17\/k=18\/k=19\/k=20\/k=21\/k=22\/k=23:=by omega
  repeat' (rcases this with rfl|this)
  all_goals first|(subst this;constructor)|constructor
def gr {n:Int} (h0: -9223372036854775808<=n:=by omega) (h1:n<=9223372036854775807:=by omega):a_ .i64 n=n:=by
 rw[Ly];unfold QW;simp[cX,h0,h1]
def gZ (h:i<9223372036854775807:=by omega):a_ .i64 ((i:Int)+1)=((i+1:Nat):Int):=by rw[gr];omega
def sL {T:Ty} (xs:Y T.den) (i:Nat):aI _ xs (i:Int)=xs.getD i T.zero:=by unfold aI;simp
def GD (xs:η) (i:Nat):aI aN xs (i:Int)=xs.getD i 0:=sL (T:=aN) xs i
def bC {T:Ty} {xs:Y T.den} {j:Int} (h0:0<=j) (h1:j<l! xs):aI _ xs j∈xs:=by
 unfold aI;rw[aD,aF (by omega)];exact List.getElem_mem _
def bN (xs:Y R) (j:Int) (x:R):l! (ca xs j x)=l! xs:=by unfold ca;simp
def FM {xs:Y R} {x y:R} (h:y∈ca xs a x):y∈xs\/y=x:=List.mem_or_eq_of_mem_set h
def kJ {σ:Type} {f:σ->M (σ⊕R)} {Q:R->Prop} (n:Nat) (hn:n<=1000000) (I:Nat->σ->Prop) (h0:∀i x,i<n->I i x->Ok (f x) λr=>match r with|.inl y=>I (i+1) y|.inr r=>Q r) (h1:∀x,I n x->Ok (f x) λr=>match r with|.inl _=>False|.inr r=>Q r) {x:σ} (L:I 0 x):Ok (hZ f x) Q:=by
 have key:∀m i x,i+m=n->I i x->∃r,iterN f (m+1) x=Z r/\Q r:=by
  intro m;induction m with
  |zero=>
   intro i x hi L;have:i=n:=by omega
   subst this;let⟨r,A,z⟩:=h1 x L;cases r with
   |inl y=>exact z.elim
   |inr r=>exact⟨r,by rw[iterN,A],z⟩
  |succ m ih=>
   intro i x hi L;let⟨r,A,z⟩:=h0 i x (by omega) L;cases r with
   |inl y=>
    let⟨r,g3,g4⟩:=ih (i+1) y (by omega) z;exact⟨r,by rw[iterN,A];exact g3,g4⟩
   |inr r=>exact⟨r,Ch (n:=1) (by rw[iterN,A]) (by omega),z⟩
 let⟨r,A,z⟩:=key n 0 x (by omega) L;exact⟨r,Ch A (by omega),z⟩
abbrev WT:Type:=z!
abbrev SY:Type:=Y (Int×η)×Int×θ×Y (Int×Int×Bool)
def Rk (a b:Int):sw (a,b)=Z (decide (0<=a/\a<b)):=by
 refine cz ?_;unfold sw kw aH;with_reducible repeat' first|apply OS.ok;constructor|refine IM.mk λ_=>?_
 .by_cases h:a<b<;>simp[*,gI]
 .simp;omega
def Fw (l:η) (n:Int) (L:l! l<=1000000):oM (l,n)=Z (l.contains n):=by
 refine cz ?_;refine b9 (l! l) (λi x=>x=(i:Int)/\∀k,k<i->l.getD k 0≠n) ?_ ?_ ⟨rfl,λk z=>by omega⟩
 .rintro i x hi ⟨rfl,I⟩;with_reducible repeat' first|apply OS.ok;constructor|refine IM.mk λ_=>?_
  all_goals try simp only[aw,s6] at*
  .omega
  .omega
  .rename_i h;rw[GD]at h
   grind
  .rename_i h;rw[GD]at h;refine ⟨gZ,λk z=>?_⟩
   grind
  .omega
 .rintro x ⟨rfl,I⟩;with_reducible repeat' first|apply OS.ok;constructor|refine IM.mk λ_=>?_
  all_goals try simp only[aw,s6] at*
  .omega
  .omega
  .omega
  .omega
  .symm
   rw[Sn];intro A;rw[iX]at A;let⟨k,z,he⟩:=List.getElem_of_mem A
   grind
def iO {T:Ty} {xs:Y T.den} {p:T.den->Prop} (h:∀k:Nat,k<aj xs->p (aI _ xs (k:Int))):∀c∈xs,p c:=λc A=>by
 let⟨k,z,he⟩:=List.getElem_of_mem A;have:=h k z;rw[sL,aD,aF z,Option.getD_some,he]at this;exact this
def UR (w:WT) (s:SY) (hw:l! w.2.2.1<=1000000):Ok (pf (w,s)) λb=>b=J->(∀c∈w.2.2.1,0<=c.2/\c.2<l! w.2.1)/\l! s.1=l! w.2.1/\l! s.2.2.1=l! w.2.2.2.1/\l! s.2.2.2=l! w.2.2.2.2.1:=by
 unfold pf be bA bM c_ bj bQ bJ aZ cP aH cL;refine b9 (l! w.2.2.1) (λi x=>x.1=(i:Int)/\x.2=(w,s)/\∀k:Nat,k<i->0<=(aI itK w.2.2.1 (k:Int)).2/\(aI itK w.2.2.1 (k:Int)).2<l! w.2.1) ?_ ?_ ⟨rfl,rfl,λk hk=>by omega⟩
 .rintro i ⟨x1,L⟩ hi ⟨A,z,I⟩;subst A z;with_reducible repeat' first|apply OS.ok;constructor|refine IM.mk λ_=>?_
  all_goals try simp only[aw,s6] at*
  all_goals first|omega|skip
  .intro h;cases h
  .intro h;cases h
  .refine ⟨gZ,λk hk=>?_⟩
   grind
 .rintro⟨x1,L⟩ ⟨A,z,I⟩;subst A z;with_reducible repeat' first|apply OS.ok;constructor|refine IM.mk λ_=>?_
  all_goals try simp only[aw,s6] at*
  all_goals first|omega|skip
  refine ay (P:=λb=>b=J->l! s.1=l! w.2.1/\l! s.2.2.1=l! w.2.2.2.1/\l! s.2.2.2=l! w.2.2.2.2.1) ?_ ?_
  .with_reducible repeat' first|apply OS.ok;constructor|refine IM.mk λ_=>?_
   all_goals try simp only[aw,s6] at*
   .omega
   .intro h;cases h
   .intro h;cases h
  .intro b hb;with_reducible repeat' first|apply OS.ok;constructor|refine IM.mk λ_=>?_
   exact λh=>⟨iO (T:=itK) I,hb h⟩
structure NM (w:WT) (k o:Int):Prop where
 k1:1<=k
 k2:k<=23
 ce:k=3\/k=4->0<=o/\o<l! w.1
 lk:6<=k/\k<=11->0<=o/\o<l! w.2.1
 cd:16<=k/\k<=19->0<=o/\o<l! w.2.2.1
 th:k=20\/k=21->0<=o/\o<l! w.2.2.2.2.1
 fu:k=22\/k=23->0<=o/\o<l! w.2.2.2.1
 no:k=1\/k=2\/k=5\/(12<=k/\k<=15)->o= -1
 mu:k=6\/k=7->(aI tU w.2.1 o).2=af
 rw:8<=k/\k<=11->(aI tU w.2.1 o).2=J
def ak3 (w:WT) (k o:Int):Ok (qZ (w,k,o)) λb=>b=J->NM w k o:=by
 unfold qZ be bA bM cE bj bJ aZ aH;cases kdI k
 case no z _=>
  simp[z,bO,dD,Pr];exact ak nofun
 all_goals simp only[bO,dD,Pr,Rk]
 all_goals with_reducible repeat' first|apply OS.ok;constructor|refine IM.mk λ_=>?_
 all_goals try simp only[aw,s6] at*
 all_goals first|omega|(intro h;cases h;done)|(intro h;constructor<;>first|omega|(intro A;first|omega|(simpa using h)))
structure SB (n:Nat) (s:SY):Prop where
 n1:n<=100000
 lk:l! s.1<=1000
 rd:∀l∈s.1,l! l.2<=n
 dn:l! s.2.2.1<=1000
 th:l! s.2.2.2<=1000
structure EN (w:WT) (s:SY) (t k o:Int):Prop where
 nm:NM w k o
 t0:0<=t
 t1:t<l! w.2.2.2.2.1
 cd:∀c∈w.2.2.1,0<=c.2/\c.2<l! w.2.1
 e1:l! s.1=l! w.2.1
 e2:l! s.2.2.1=l! w.2.2.2.1
 e3:l! s.2.2.2=l! w.2.2.2.2.1
structure QK (w:WT) (s:SY) (t k o:Int):Prop where
 b:k=1->(aI hP s.2.2.2 t).1=1
 wk:k=17->(aI hP s.2.2.2 t).1=4/\(aI hP s.2.2.2 t).2.1=o/\(aI dO s.1 (aI itK w.2.2.1 o).2).1= -1
 r:k≠1->k≠17->(aI hP s.2.2.2 t).1=2
 aq:k=6\/k=8\/k=10->(aI dO s.1 o).1= -1
 wr:k=10->(aI dO s.1 o).2.length=0
 ra:k=8->(aI dO s.1 o).2.contains t=af
 rl:k=7\/k=11->(aI dO s.1 o).1=t
 rr:k=9->(aI dO s.1 o).2.contains t=J
 xb:k=12->s.2.1= -1
 xe:k=13->s.2.1=t
 ab:k=14->(aI hP s.2.2.2 t).2.2=af
 ae:k=15->(aI hP s.2.2.2 t).2.2=J
 nt:k=16\/k=18\/k=19->(aI dO s.1 (aI itK w.2.2.1 o).2).1=t
 sp:k=20->¬o=t/\(aI hP s.2.2.2 o).1=0
 jo:k=21->¬o=t/\(aI hP s.2.2.2 o).1=5
 se:k=22->aI (.bool) s.2.2.1 o=af
 ge:k=23->aI (.bool) s.2.2.1 o=J
def Pe (w:WT) (s:SY) (L:SB i s) (hw:l! w.2.2.1<=1000) (t k o:Int):Ok (ic (w,s,t,k,o)) λb=>b=J->EN w s t k o/\QK w s t k o:=by
 unfold ic be bA bM ct dF c_ bj gO bJ aZ aH;refine aV (λx=>x.2=(w,s)/\(x.1=af->EN w s t k o)) ?_ ?_
 .refine ay (UR w s (by omega)) λb hb=>?_
  with_reducible repeat' first|apply OS.ok;constructor|refine IM.mk λ_=>?_
  .exact⟨rfl,nofun⟩
  .simp only[Rk,UV];with_reducible repeat' first|apply OS.ok;constructor|refine IM.mk λ_=>?_
   .exact⟨rfl,nofun⟩
   .refine ay (ak3 w k o) λc hc=>?_
    with_reducible repeat' first|apply OS.ok;constructor|refine IM.mk λ_=>?_
    all_goals try simp only[aw,s6] at*
    rename_i h1 h2;obtain⟨f1,f2,f3,f4⟩:=hb h1;exact λh=>⟨hc (by simpa using h),by omega,by omega,f1,f2,f3,f4⟩
 .rintro⟨x1,x2⟩ ⟨z,I⟩;dsimp only at z I;subst z;refine aR (λh=>ak λh=>by cases h) (λh=>?_);have he:=I h;obtain⟨nm,t0,t1,cd,e1,e2,e3⟩:=id he;obtain⟨_,_,ce,A,cn,th,fu⟩:=nm;have hm:16<=k/\k<=19->0<=(aI itK w.2.2.1 o).2/\(aI itK w.2.2.1 o).2<l! w.2.1:=λh=>cd _ (bC (cn h).1 (cn h).2)
  have hH:6<=k/\k<=11->oM ((aI dO s.1 o).2,t)=Z ((aI dO s.1 o).2.contains t):=λh=>Fw _ _ (by
   have:=L.rd _ (bC (T:=dO) (A h).1 (by have:=(A h).2;omega));have:=L.n1;omega)
  cases kdI k
  case no hk _=>omega
  all_goals simp only[bO,dD,Pr]
  all_goals with_reducible repeat' first|apply OS.ok;constructor|refine IM.mk λ_=>?_
  all_goals try simp only[hH (by omega),UV]
  all_goals with_reducible repeat' first|apply OS.ok;constructor|refine IM.mk λ_=>?_
  all_goals try simp only[aw,s6] at*
  all_goals first|omega|(intro h;cases h;done)|exact (hm ⟨by decide,by decide⟩).1|(rw [e1];exact (hm ⟨by decide,by decide⟩).2)|(intro h;refine ⟨he,?_⟩;constructor<;>first|omega|(intros;first|omega|assumption|(simpa using h)|exact⟨by assumption,by first|assumption|exact⟨by assumption,by assumption⟩⟩))|(refine ⟨he,?_⟩;constructor<;>first|omega|(intros;first|omega|assumption))
def m6:η->Int->η
 |[],n=>[n]
 |x::r,n=>if x<n then x::m6 r n else if x=n then x::r else n::x::r
def H8 (n:Int):∀(i:Nat) (l:η),i<=l! l->(∀k,k<i->l.getD k 0<n)->m6 l n=l.take i++m6 (l.drop i) n
 |0,l,_,_=>by simp
 |i+1,[],h,_=>by simp at h
 |i+1,x::r,h,z=>by
  have h0:=z 0 (by omega);simp at h0;have:=H8 n i r (by grind) (λk A=>by have:=z (k+1) (by omega);simpa using this);rw[m6,aC h0,this,yn,KF,gG]
def Jq (n:Int):∀l:η,l! (m6 l n)<=l! l+1
 |[]=>by simp[m6]
 |x::r=>by
  have:=Jq n r;rw[m6];split
  .simp;omega
  .split<;>simp
def Ml {n y:Int}:∀{l:η},y∈m6 l n↔y=n\/y∈l
 |[]=>by simp[m6]
 |x::r=>by
  have:=Ml (n:=n) (y:=y) (l:=r);rw[m6];split
  .grind
  .grind
def KB:η->Prop
 |[]=>True
 |x::r=>(∀y∈r,x<y)/\KB r
def VD :∀{l:η},KB l->KB (m6 l a)
 |[],_=>by simp[m6,KB]
 |x::r,h=>by
  rw[m6];split
  .rename_i A;refine ⟨λy z=>?_,VD h.2⟩;rcases Ml.1 z with rfl|z
   .exact A
   .exact h.1 y z
  .split
   .exact h
   .rename_i h1 I;refine ⟨λy z=>?_,h⟩;rcases bh.1 z with rfl|z
    .omega
    .have:=h.1 y z;omega
def amw (l:η) (n:Int) (hl:l! l<=1000000):yJ (l,n)=Z (m6 l n):=by
 refine cz ?_;unfold yJ bQ bV bJ aZ cP aH cL;have fin:∀i:Nat,i<=l! l->(∀k,k<i->l.getD k 0<n)->(i<l! l->¬l.getD i 0<n/\l.getD i 0≠n)->l.take i++[n]++l.drop i=m6 l n:=λi hi L hn=>by
  rw[H8 n i l hi L];cases hd:l.drop i with
  |nil=>simp[m6]
  |cons y r=>
   have hlt:i<l! l:=by grind
   have A:l.getD i 0=y:=by
    rw[aD,<-List.head?_drop,hd];rfl
   let⟨h1,h2⟩:=hn hlt;rw[A]at h1 h2;rw[m6,av h1,av h2];simp
 refine b9 (l! l) (λi x=>x=(i:Int)/\∀k,k<i->l.getD k 0<n) ?_ ?_ ⟨rfl,λk L=>by omega⟩
 .rintro i x hi ⟨rfl,z⟩;by_cases hlt:l.getD i 0<n
  .with_reducible repeat' first|apply OS.ok;constructor|refine IM.mk λ_=>?_
   all_goals try simp only[aw,s6] at*
   all_goals first|omega|skip
   .refine ⟨gZ,λk L=>?_⟩
    grind
   next h=>exact bT hlt (tW.2 h)
  .have key:l.getD i 0=n->m6 l n=l:=λhe=>by
    rw[H8 n i l (by omega) z];cases hd:l.drop i with
    |nil=>have:=d_ aj hd;simp at this;omega
    |cons y r=>
     have A:l.getD i 0=y:=by rw[aD,<-List.head?_drop,hd];rfl
     rw[A]at he;rw[m6,av (by omega),aC he,<-hd,EM]
   with_reducible repeat' first|apply OS.ok;constructor|refine IM.mk λ_=>?_
   all_goals try simp only[aw,s6] at*
   all_goals first|omega|skip
   next h=>exact bT h hlt
   .refine ay (P:=λr=>r=m6 l n) ?_ λr I=>ak I
    with_reducible repeat' first|apply OS.ok;constructor|refine IM.mk λ_=>?_
    all_goals try simp only[aw,s6] at*
    all_goals first|omega|skip
    next h=>exact (key h).symm
    .simp;omega
    .simp;omega
    .simp;omega
    next h=>simpa using fin i (by omega) z (λ_=>⟨hlt,h⟩)
 .rintro x ⟨rfl,z⟩;with_reducible repeat' first|apply OS.ok;constructor|refine IM.mk λ_=>?_
  all_goals try simp only[aw,s6] at*
  all_goals first|omega|skip
  refine ay (P:=λr=>r=m6 l n) ?_ λr I=>ak I
  with_reducible repeat' first|apply OS.ok;constructor|refine IM.mk λ_=>?_
  all_goals try simp only[aw,s6] at*
  all_goals first|omega|skip
  .simp;omega
  .simp;omega
  .simp;omega
  .simpa using fin (l! l) (by omega) z (λh=>by omega)
def wV (a b:η):η:=b.foldl m6 (a.foldl m6 [])
def yY:∀(b acc:η),l! (b.foldl m6 acc)<=l! acc+l! b
 |[],acc=>by simp
 |x::r,acc=>by
  have:=yY r (m6 acc x);have:=Jq x acc;rw[Ad,jW];omega
def Nr:∀{b acc:η},KB acc->KB (b.foldl m6 acc)
 |[],_,h=>h
 |x::r,acc,h=>by rw[Ad];exact Nr (VD h)
def Nq :∀{b acc:η},a∈b.foldl m6 acc↔a∈acc\/a∈b
 |[],acc=>by simp
 |x::r,acc=>by
  rw[Ad,Nq,Ml]
  grind
def U6 (a b:η):KB (wV a b):=Nr (Nr trivial)
def l7 {b:η} {y:Int}:y∈wV z b↔y∈z\/y∈b:=by unfold wV;rw[Nq,Nq];simp
def aip (a b:η):l! (wV a b)<=l! a+l! b:=by
 have:=yY b (a.foldl m6 []);have:=yY a [];unfold wV;simp at *;omega
def Rr {acc:η} (hi:i<l! z):(z.take (i+1)).foldl m6 acc=m6 ((z.take i).foldl m6 acc) (z.getD i 0):=by
 rw[qJ hi,gd,aD,aF hi];rfl
def Yr (a b:η) (ha:l! a<=400000) (hb:l! b<=400000):wh (a,b)=Z (wV a b):=by
 refine cz ?_;refine b9 (l! a) (λi x=>x.2=(i:Int)/\x.1=(a.take i).foldl m6 []) ?_ ?_ ⟨rfl,rfl⟩
 .rintro i ⟨x1,A⟩ hi ⟨h1,z⟩;subst h1 z;have I:l! ((a.take i).foldl m6 [])<=1000000:=by have:=yY (a.take i) [];simp at *;omega
  with_reducible repeat' first|apply OS.ok;constructor|refine IM.mk λ_=>?_
  all_goals try simp[aw,s6] at*
  all_goals first|omega|skip
  refine aX (amw _ _ I) (ak ?_);refine ⟨gZ,?_⟩;rw[GD,Rr hi]
 .rintro⟨x1,A⟩ ⟨h1,z⟩;subst h1 z;rw[dh];have hla:=yY a [];with_reducible repeat' first|apply OS.ok;constructor|refine IM.mk λ_=>?_
  all_goals try simp[aw,s6] at*
  all_goals first|omega|skip
  refine ay (P:=λr=>r=wV a b) ?_ λr L=>ak L
  refine b9 (l! b) (λi x=>x.2=(i:Int)/\x.1=(b.take i).foldl m6 (a.foldl m6 [])) ?_ ?_ ⟨rfl,rfl⟩
  .rintro i ⟨x1,A⟩ hi ⟨h1,z⟩;subst h1 z;have I:l! ((b.take i).foldl m6 (a.foldl m6 []))<=1000000:=by have:=yY (b.take i) (a.foldl m6 []);simp at *;omega
   with_reducible repeat' first|apply OS.ok;constructor|refine IM.mk λ_=>?_
   all_goals first|omega|skip
   refine aX (amw _ _ I) (ak ?_);refine ⟨gZ,?_⟩;rw[GD,Rr hi]
  .rintro⟨x1,A⟩ ⟨h1,z⟩;subst h1 z;rw[dh];with_reducible repeat' first|apply OS.ok;constructor|refine IM.mk λ_=>?_
   all_goals first|omega|rfl
def FA (c:Int) (x:c!):Bool:=decide (x.1=3)&&decide (x.2.1=c)
def wl (th:Y c!) (c:Int):Nat->η
 |0=>[]
 |i+1=>if FA c (aI hP th (i:Int)) then wl th c i++[(i:Int)] else wl th c i
def vT (th:Y c!) (c:Int):∀i,l! (wl th c i)<=i
 |0=>bK _
 |i+1=>by have:=vT th c i;rw[wl];split<;>simp<;>omega
def oz {th:Y c!} {c u:Int}:∀{i:Nat},u∈wl th c i↔0<=u/\u<i/\FA c (aI hP th u)=J
 |0=>by simp[wl];omega
 |i+1=>by
  have z:= @oz th c u i;rw[wl]
  grind
variable {Q:Y (Int×Int×Bool)}
def axt (h1:(aI hP Q (i:Int)).1=3) (z:(aI hP Q (i:Int)).2.1=a):wl Q a (i+1)=wl Q a i++[(i:Int)]:=by
 rw[wl,aC];unfold FA;rw[h1,z];simp
def as6 (h1:¬(aI hP Q (i:Int)).1=3):wl Q a (i+1)=wl Q a i:=by
 rw[wl,av];unfold FA;rw[dt h1];simp
def as5 (h1:¬(aI hP Q (i:Int)).2.1=a):wl Q a (i+1)=wl Q a i:=by
 rw[wl,av];unfold FA;rw[dt h1];simp
def O3 (s:SY) (c:Int) (A:l! s.2.2.2<=1000):pe (s,c)=Z (wl s.2.2.2 c (l! s.2.2.2)):=by
 refine cz ?_;unfold pe ct bj bQ bV bJ aZ cP aH cL;refine b9 (l! s.2.2.2) (λi x=>x=((i:Int),s,wl s.2.2.2 c i)) ?_ ?_ rfl
 .rintro i x hi rfl;have I:=vT s.2.2.2 c i;with_reducible repeat' first|apply OS.ok;constructor|refine IM.mk λ_=>?_
  all_goals try simp only[aw,s6] at*
  all_goals first|omega|skip
  all_goals first|(simp;omega)|skip
  next h1 z=>rw[axt h1 z,gZ]
  next h1 z=>rw[as5 z,gZ]
  next h1=>rw[as6 h1,gZ]
 .rintro x rfl;with_reducible repeat' first|apply OS.ok;constructor|refine IM.mk λ_=>?_
  all_goals try simp[aw,s6] at*
  all_goals first|omega|rfl
def wo (l:η) (n:Int):η:=l.filter λx=> !decide (x=n)
def YQ (l:η) (n:Int) (A:l! l<=1000000):su (l,n)=Z (wo l n):=by
 refine cz ?_;unfold su bQ gO bV bJ aZ cP aH cL;refine b9 (l! l) (λi x=>x=((i:Int),wo (l.take i) n)) ?_ ?_ rfl
 .rintro i x hi rfl;have z:l! (wo (l.take i) n)<=i:=c7 (List.length_filter_le ..) (fR ..);have ht:wo (l.take (i+1)) n=if aI aN l (i:Int)=n then wo (l.take i) n else wo (l.take i) n++[aI aN l (i:Int)]:=by
   unfold wo;rw[qJ hi,List.filter_append,GD,aD,aF hi]
   grind
  with_reducible repeat' first|apply OS.ok;constructor|refine IM.mk λ_=>?_
  all_goals try simp only[aw,s6] at*
  all_goals first|omega|skip
  .simp;omega
  next h=>rw[ht,av h,gZ]
  next h=>rw[ht,aC h,gZ]
 .rintro x rfl;with_reducible repeat' first|apply OS.ok;constructor|refine IM.mk λ_=>?_
  all_goals try simp[aw,s6] at*
  all_goals first|omega|(rw [dh])
def nV {T:Ty} {xs:Y T.den} (hi:i<aj xs):dy (i+1) xs=dy i xs++[aI _ xs (i:Int)]:=by
 rw[qJ hi,sL,aD,aF hi];rfl
def L5 (s:SY) (z:SB i s):gU s=Z (s.2.1,s.1,s.2.2.1,s.2.2.2):=by
 refine cz ?_;let⟨A,s2,L,I⟩:=s;have hn:=z.n1;have g1:=z.lk;have g2:=z.dn;have g3:=z.th;dsimp only at g1 g2 g3;unfold gU be bA bM ct c_ bQ bV bJ aZ cP aH cL;with_reducible repeat' first|apply OS.ok;constructor|refine IM.mk λ_=>?_
 .simp;omega
 .omega
 .simp;omega
 .omega
 refine b9 (l! A) (λn x=>x=((n:Int),(A,s2,L,I),0,s2,A.take n,L,I)) ?_ ?_ ?_
 .rintro n x hi rfl;have hg:=z.rd _ (bC (T:=dO) (xs:=A) (j:=(n:Int)) (by omega) (by omega));with_reducible repeat' first|apply OS.ok;constructor|refine IM.mk λ_=>?_
  all_goals try simp only[aw,s6] at*
  all_goals first|omega|skip
  .simp;omega
  .simp;omega
  .rw[gZ,nV (T:=dO) hi];rfl
 .rintro x rfl;with_reducible repeat' first|apply OS.ok;constructor|refine IM.mk λ_=>?_
  all_goals try simp only[aw,s6] at*
  all_goals first|omega|skip
  simp
 .simp
def Kw (s:SY) (c:Int) (I:l! s.2.2.2<=1000):mb ((s.2.1,c),s.1,s.2.2.1,s.2.2.2)=Z (wl s.2.2.2 c (l! s.2.2.2)):=by
 refine cz ?_;refine ay (P:=λy=>y=(wl s.2.2.2 c (l! s.2.2.2),s.1,s.2.2.1,s.2.2.2)) ?_ λy A=>by subst A;exact aot rfl (ak rfl)
 unfold nE be bA bM ct c_ bj bQ bV lx aZ cP aH cL;refine b9 (l! s.2.2.2) (λi x=>x=((i:Int),s.1,s.2.2.1,s.2.2.2,s.2.1,wl s.2.2.2 c i)) ?_ ?_ rfl
 .rintro i x hi rfl;have L:=vT s.2.2.2 c i;with_reducible repeat' first|apply OS.ok;constructor|refine IM.mk λ_=>?_
  all_goals try simp only[aw,s6] at*
  all_goals first|omega|skip
  all_goals first|(simp;omega)|skip
  next h1 z=>rw[axt h1 z,gZ]
  next h1 z=>rw[as5 z,gZ]
  next h1=>rw[as6 h1,gZ]
 .rintro x rfl;with_reducible repeat' first|apply OS.ok;constructor|refine IM.mk λ_=>?_
  all_goals try simp[aw,s6] at*
  all_goals first|omega|rfl
structure AP (n:Nat) (s y:SY):Prop where
 a1:l! y.1=l! s.1
 a2:l! y.2.2.1=l! s.2.2.1
 a3:l! y.2.2.2=l! s.2.2.2
 rd:∀l∈y.1,l! l.2<=n+1
def AP.toSB {s y:SY} (h:AP i s y) (z:SB i s) (A:i+1<=100000):SB (i+1) y:=
 ⟨A,by rw[h.a1];exact z.lk,h.rd,by rw[h.a2];exact z.dn,by rw[h.a3];exact z.th⟩
def AP.same {s:SY} (z:SB i s) (x:Int) (d:θ) (t:Y c!) (hd:l! d=l! s.2.2.1) (ht:l! t=l! s.2.2.2):AP i s (s.1,x,d,t):=
 ⟨rfl,hd,ht,λl A=>fD (z.rd l A)⟩
def AP.set {s:SY} (z:SB i s) (j a:Int) (r:η) (A:l! r<=i+1) (x:Int) (d:θ) (t:Y c!) (hd:l! d=l! s.2.2.1) (ht:l! t=l! s.2.2.2):AP i s (ca s.1 j (a,r),x,d,t):=
 ⟨bN _ _ _,hd,ht,λl I=>by
   rcases FM I with h|rfl
   .exact fD (z.rd l h)
   .exact A⟩
def xl (th:Y c!) (t st:Int):Y c!:=ca th t (st,(aI hP th t).2)
def owP (z:Y f?) (o t:Int):Y f?:=ca z o (t,(aI dO z o).2)
def rdP (z:Y f?) (o:Int) (l:η):Y f?:=ca z o ((aI dO z o).1,l)
def cdP (th:Y c!) (t c:Int):Y c!:=ca th t ((aI hP th t).1,c,(aI hP th t).2.2)
def atP (th:Y c!) (t:Int) (b:Bool):Y c!:=ca th t ((aI hP th t).1,(aI hP th t).2.1,b)
def F_ (th:Y c!) (l:η):Y c!:=l.foldl (λx u=>xl x u 4) th
def BQ (l:η) (u:Int):Int:=if (l! l)=0 then -1 else if l.contains u then u else aI aN l 0
def KQ (w:WT) (o:Int):Int:=(aI itK w.2.2.1 o).2
def kT (w:WT) (s:SY) (t k o u:Int):SY×Int:=
 if k=1 then ((s.1,s.2.1,s.2.2.1,xl s.2.2.2 t 2),0)
 else if k=2 then ((s.1,s.2.1,s.2.2.1,xl s.2.2.2 t 5),0)
 else if k=6\/k=10 then ((owP s.1 o t,s.2),0)
 else if k=7\/k=11 then ((owP s.1 o (-1),s.2),0)
 else if k=8 then ((rdP s.1 o (wV (aI dO s.1 o).2 [t]),s.2),0)
 else if k=9 then ((rdP s.1 o (wo (aI dO s.1 o).2 t),s.2),0)
 else if k=12 then ((s.1,t,s.2.2),0)
 else if k=13 then ((s.1,-1,s.2.2),0)
 else if k=14 then ((s.1,s.2.1,s.2.2.1,atP s.2.2.2 t J),0)
 else if k=15 then ((s.1,s.2.1,s.2.2.1,atP s.2.2.2 t af),0)
 else if k=16 then ((owP s.1 (KQ w o) (-1),s.2.1,s.2.2.1,cdP (xl s.2.2.2 t 3) t o),0)
 else if k=17 then ((owP s.1 (KQ w o) t,s.2.1,s.2.2.1,cdP (xl s.2.2.2 t 2) t 0),0)
 else if k=18 then (if (l! (wl s.2.2.2 o (l! s.2.2.2)))=0 then (s,-1) else ((s.1,s.2.1,s.2.2.1,xl s.2.2.2 (BQ (wl s.2.2.2 o (l! s.2.2.2)) u) 4),BQ (wl s.2.2.2 o (l! s.2.2.2)) u))
 else if k=19 then ((s.1,s.2.1,s.2.2.1,F_ s.2.2.2 (wl s.2.2.2 o (l! s.2.2.2))),(l! (wl s.2.2.2 o (l! s.2.2.2)):Int))
 else if k=20 then ((s.1,s.2.1,s.2.2.1,xl s.2.2.2 o 1),0)
 else if k=22 then ((s.1,s.2.1,ca s.2.2.1 o J,s.2.2.2),0)
 else (s,0)
def F9 (l:η):∀th,l! (F_ th l)=l! th:=by
 induction l with
 |nil=>intro th;rfl
 |cons x r z=>intro th;unfold F_;rw[Ad];exact (z _).trans (bN ..)
def ak4 (hi:i<l! z):F_ Q (z.take (i+1))=xl (F_ Q (z.take i)) (aI aN z (i:Int)) 4:=by
 unfold F_;rw[qJ hi,gd,GD,aD,aF hi];rfl
def Dw (u:Int) (l:¬l! z=0):BQ z u∈z:=by
 unfold BQ;rw[av l];split
 next h=>exact iX.1 h
 .exact bC (T:=aN) (by omega) (by omega)
def HM (w:WT) (s:SY) (z:SB i s) (hw:l! w.2.2.1<=1000) (t k o u:Int):Ok (oK (w,s,t,k,o,u)) λy=>(y.2.2=J->EN w s t k o/\QK w s t k o/\AP i s y.1/\(y.1,y.2.1)=kT w s t k o u)/\(y.2.2=af->y.1=([],0,[],[]))/\(ic (w,s,t,k,o)=Z J->y.2.2=J):=by
 unfold oK be bA bM cE ct dF c_ gy ck bj bQ bJ lx aZ cP aH cL;obtain⟨b,hb0,hb⟩:=Pe w s z hw t k o;refine aX hb0 ?_;refine eC (λh=>ak ⟨nofun,λ_=>rfl,λh2=>(by rw[hb0,h]at h2;cases h2)⟩) (λh=>?_);obtain⟨he,hry⟩:=hb h;refine aX (L5 s z) ?_;suffices hmain:Ok _ _ from aV (λx=>AP i s (x.2.2.2.1,x.2.1,x.2.2.2.2)/\((x.2.2.2.1,x.2.1,x.2.2.2.2),x.1)=kT w s t k o u) hmain λx hx=>ak ⟨λ_=>⟨he,hry,hx⟩,nofun,λ_=>rfl⟩
 obtain⟨nm,t0,t1,cd,e1,e2,e3⟩:=id he;obtain⟨_,_,ce,lk,cn,th,fu⟩:=nm;have hn:=z.n1;have hlk:=z.lk;have hm:16<=k/\k<=19->0<=(aI itK w.2.2.1 o).2/\(aI itK w.2.2.1 o).2<l! w.2.1:=λh=>cd _ (bC (cn h).1 (cn h).2)
 have L:∀j:Int,0<=j->j<l! s.1->(aI dO s.1 j).2.length<=i:=λj h0 h1=>z.rd _ (bC (T:=dO) h0 h1)
 cases kdI k
 case no hk _=>omega
 all_goals simp only[bO,dD,Pr]
 all_goals with_reducible repeat' first|apply OS.ok;constructor|refine IM.mk λ_=>?_
 all_goals try simp only[aw,s6] at*
 all_goals try rw[bN]
 all_goals first|omega|exact (hm ⟨by decide,by decide⟩).1|exact e1▸(hm ⟨by decide,by decide⟩).2|exact⟨AP.same z _ _ _ rfl rfl,rfl⟩|exact⟨AP.same z _ _ _ rfl (bN _ _ _),rfl⟩|exact⟨AP.same z _ _ _ (bN _ _ _) rfl,rfl⟩|skip
 all_goals try exact⟨AP.set z _ _ _ (fD (L o (by omega) (by omega))) _ _ _ rfl rfl,rfl⟩
 .have:=L o (by omega) (by omega);refine aX (Yr _ _ (c7 this (by have:=z.n1;omega)) (by simp)) ?_;with_reducible repeat' first|apply OS.ok;constructor|refine IM.mk λ_=>?_
  all_goals try simp only[aw,s6] at*
  all_goals first|omega|skip
  exact⟨AP.set z _ _ _ (by have:=aip (aI dO s.1 o).2 [t];simp at this;omega) _ _ _ rfl rfl,rfl⟩
 .have:=L o (by omega) (by omega);have hl:l! (wo (aI dO s.1 o).2 t)<=(aI dO s.1 o).2.length:=List.length_filter_le ..;refine aX (YQ _ _ (by omega)) ?_;with_reducible repeat' first|apply OS.ok;constructor|refine IM.mk λ_=>?_
  all_goals try simp only[aw,s6] at*
  all_goals first|omega|skip
  exact⟨AP.set z _ _ _ (c7 hl (by omega)) _ _ _ rfl rfl,rfl⟩
 .exact⟨AP.set z _ _ _ (fD (L _ (hm ⟨by decide,by decide⟩).1 (by rw[e1];exact (hm ⟨by decide,by decide⟩).2))) _ _ _ rfl (by rw[bN,bN]),rfl⟩
 .exact⟨AP.set z _ _ _ (fD (L _ (hm ⟨by decide,by decide⟩).1 (by rw[e1];exact (hm ⟨by decide,by decide⟩).2))) _ _ _ rfl (by rw[bN,bN]),rfl⟩
 .refine aX (Kw s o z.th) ?_;have hth:=z.th;have hll:=vT s.2.2.2 o (l! s.2.2.2);have hml:∀u∈wl s.2.2.2 o (l! s.2.2.2),0<=u/\u<l! s.2.2.2:=λu I=>⟨(oz.1 I).1,(oz.1 I).2.1⟩
  have hap:kT w s t 18 o u=if (l! (wl s.2.2.2 o (l! s.2.2.2)))=0 then (s,-1) else ((s.1,s.2.1,s.2.2.1,xl s.2.2.2 (BQ (wl s.2.2.2 o (l! s.2.2.2)) u) 4),BQ (wl s.2.2.2 o (l! s.2.2.2)) u):=rfl
  unfold BQ at hap;revert hll hml hap;generalize wl s.2.2.2 o (l! s.2.2.2)=l;intro hll hml hap;with_reducible repeat' first|apply OS.ok;constructor|refine IM.mk λ_=>?_
  all_goals try simp only[aw,s6] at*
  all_goals first|omega|skip
  .have A:=hml _ (bC (T:=aN) (xs:=l) (j:=0) (by omega) (by omega));rw[av (by omega),av (by omega)]at hap;simp only[Fw l u (by omega),UV];refine aR (λhc=>?_) λhc=>?_
   .have I:=hml u (iX.1 hc);rw[hc,aC rfl]at hap;refine ak (aP I.1 I.2 (aP I.1 I.2 (ak ⟨AP.same z _ _ _ rfl (bN ..),?_⟩)));rw[hap];rfl
   .rw[hc,av (by decide)]at hap;refine ak (aP A.1 A.2 (aP A.1 A.2 (ak ⟨AP.same z _ _ _ rfl (bN ..),?_⟩)));rw[hap];rfl
  .rw[aC (by omega)]at hap;exact⟨AP.same z _ _ _ rfl rfl,hap.symm⟩
 .refine aX (Kw s o z.th) ?_;have hth:=z.th;have hll:=vT s.2.2.2 o (l! s.2.2.2);have hml:∀u∈wl s.2.2.2 o (l! s.2.2.2),0<=u/\u<l! s.2.2.2:=λu I=>⟨(oz.1 I).1,(oz.1 I).2.1⟩
  have hap:kT w s t 19 o u=((s.1,s.2.1,s.2.2.1,F_ s.2.2.2 (wl s.2.2.2 o (l! s.2.2.2))),(l! (wl s.2.2.2 o (l! s.2.2.2)):Int)):=rfl;rw[hap];clear hap;generalize wl s.2.2.2 o (l! s.2.2.2)=l at hll hml ⊢;refine b9 (l! l) (λn x=>x=((n:Int),s.2.1,0,s.1,s.2.2.1,F_ s.2.2.2 (l.take n))) ?_ ?_ rfl
  .rintro n x hi rfl;have A:=hml _ (bC (T:=aN) (xs:=l) (j:=(n:Int)) (by omega) (by omega));have hq:=F9 (l.take n) s.2.2.2;with_reducible repeat' first|apply OS.ok;constructor|refine IM.mk λ_=>?_
   all_goals try simp only[aw,s6] at*
   all_goals first|omega|skip
   rw[gZ,ak4 hi];rfl
  .rintro x rfl;rw[dh];with_reducible repeat' first|apply OS.ok;constructor|refine IM.mk λ_=>?_
   all_goals try simp only[aw,s6] at*
   all_goals first|omega|skip
   exact AP.same z _ _ _ rfl (F9 ..)
abbrev SN:Type:=SY×η×x!
abbrev ET:Type:=S!
def apd (a b:Int):Ga (a,b)=Z (decide (0<=a/\a<b)):=Rk a b
structure NB (n:Nat) (s:SN):Prop where
 sb:SB n s.1
 c:l! s.2.1<=1000
 f:l! s.2.2.1<=1000
 k:l! s.2.2.2<=1000
structure SP (n:Nat) (s y:SN):Prop where
 ap:AP n s.1 y.1
 c:l! y.2.1=l! s.2.1
 f:l! y.2.2.1=l! s.2.2.1
 k:l! y.2.2.2=l! s.2.2.2
def SP.NB {s y:SN} (h:SP i s y) (z:NB i s) (A:i+1<=100000):NB (i+1) y:=
 ⟨h.ap.toSB z.sb A,by rw[h.c];exact z.c,by rw[h.f];exact z.f,by rw[h.k];exact z.k⟩
def sn0:SN:=(([],0,[],[]),[],[],[])
structure F16 (w:WT) (s:SN):Prop where
 c:l! s.2.1=l! w.1
 f:l! s.2.2.1=l! w.2.2.2.1
 k:l! s.2.2.2=l! w.2.2.2.2.1
def ai5 (w:WT) (s:SN) (z:l! w.2.2.1<=1000):Ok (vM (w,s)) λb=>b=J->F16 w s:=by
 unfold vM be bA bM dF bj aZ aH;refine gP (ay (UR w s.1 (by omega)) λb A=>?_);with_reducible repeat' first|apply OS.ok;constructor|refine IM.mk λ_=>?_
 all_goals try simp[aw,s6] at*
 all_goals first|(intro h;constructor<;>omega)|(intro h;cases h;done)
def aeq:∀(l:η),(∀k:Nat,k+1<l! l->l.getD k 0<l.getD (k+1) 0)->KB l
 |[],_=>trivial
 |[x],_=>⟨λy L=>(by cases L),trivial⟩
 |x::y::r,h=>by
  have I:=aeq (y::r) λk hk=>by have:=h (k+1) (by grind);simpa using this
  have h0:=h 0 (by simp);simp at h0;refine ⟨λz A=>?_,I⟩;rcases bh.1 A with rfl|A
  .exact h0
  .have:=I.1 z A;omega
structure AN (c:Int) (l:η):Prop where
 a:KB l
 m:∀x:Int,x∈l->1<=x/\x<c
def AW:∀(l:η) (z hi:Int),KB l->(∀y∈l,z<=y/\y<hi)->(l! l:Int)<=max 0 (hi-z)
 |[],z,hi,_,_=>by simp;omega
 |x::r,z,hi,h,hm=>by
  have h1:=hm x (dK ..);have I:=AW r (x+1) hi h.2 λy A=>⟨by have:=h.1 y A;omega,(hm y (cY _ A)).2⟩
  grind
def AN.len (h:AN a z):(l! z:Int)<=max 0 a:=by
 have:=AW z 1 a h.a h.m;omega
def aug (A:∀k:Nat,k<i->1<=aI aN z (k:Int)/\aI aN z (k:Int)<a) (ha:∀k:Nat,k+1<i->z.getD k 0<z.getD (k+1) 0):(i:Int)<=max 0 a:=by
 have key:∀k:Nat,k<i->(k:Int)+1<=z.getD k 0:=by
  intro k;induction k with
  |zero=>intro I;have:=(A 0 I).1;exact this
  |succ k ih=>grind
 rcases Nat.eq_zero_or_pos i with l|l
 .omega
 .have h1:=key (i-1) (by omega);have L:=(A (i-1) (by omega)).2;rw[GD]at L
  grind
def MB (l:η) (c:Int) (hl:l! l<=1000000000\/c<=1000000000):Ok (pa (l,c)) λb=>b=J->AN c l:=by
 refine b9 (l! l) (λi x=>x=(i:Int)/\(∀k:Nat,k<i->1<=aI aN l (k:Int)/\aI aN l (k:Int)<c)/\∀k:Nat,k+1<i->l.getD k 0<l.getD (k+1) 0) ?_ ?_ ⟨rfl,λk z=>by omega,λk z=>by omega⟩
 .rintro i x hi ⟨rfl,A,I⟩;have hbd:i<=1000000000:=by
   have:=aug A I;omega
  have L:0<(i:Int)->a_ .i64 ((i:Int)-1)=((i-1:Nat):Int):=λh=>by rw[gr];omega
  have hq:(0<i->l.getD (i-1) 0<l.getD i 0)->1<=aI aN l (i:Int)/\aI aN l (i:Int)<c->a_ .i64 ((i:Int)+1)=((i+1:Nat):Int)/\(∀k:Nat,k<i+1->1<=aI aN l (k:Int)/\aI aN l (k:Int)<c)/\∀k:Nat,k+1<i+1->l.getD k 0<l.getD (k+1) 0:=λg1 g2=>by
   refine ⟨gZ,λk z=>?_,λk z=>?_⟩
   .grind
   .grind
  with_reducible repeat' first|apply OS.ok;constructor|refine IM.mk λ_=>?_
  all_goals try simp only[aw,s6] at*
  all_goals first|omega|(intro h;cases h;done)|(rw [L (by omega)];omega)|skip
  .rename_i h1 h2 h3 h4;rw[L h3,GD,GD]at h4
   grind
  .grind
 .rintro x ⟨rfl,A,I⟩;with_reducible repeat' first|apply OS.ok;constructor|refine IM.mk λ_=>?_
  all_goals try simp only[aw,s6] at*
  all_goals first|omega|skip
  exact⟨aeq l λk z=>I k z,iO (T:=aN) A⟩
structure VA (w:WT) (sy:SY) (ce fu:η) (t k o v:Int):Prop where
 ld:k=3->v=aI aN ce o
 gt:k=23->v=aI aN fu o
 br:k=5->v=0\/v=1
 el:¬k=3->¬k=23->¬k=5->¬k=4->¬k=22->v=(kT w sy t k o v).2
def ite2 {c:Prop} [Decidable c] {a b:SY×Int} (A:a.2=0) (z:b.2=0):(if c then a else b).2=0:=by by_cases h:c<;>simp[h,A,z]
def ame (w:WT) (z:SY) (t k o u:Int) (h1:¬k=18) (A:¬k=19):(kT w z t k o u).2=0:=by
 unfold kT;rw[av h1,av A];repeat (first|exact rfl|refine ite2 rfl ?_)
def Ye (w:WT) (z:SY) (t k o u A:Int) (h1:¬k=18):kT w z t k o u=kT w z t k o A:=by
 unfold kT;rw[av h1,av h1]
def CX (w:WT) (z:SY) (t o u:Int):kT w z t 18 o u=if (l! (wl z.2.2.2 o (l! z.2.2.2)))=0 then (z,-1) else ((z.1,z.2.1,z.2.2.1,xl z.2.2.2 (BQ (wl z.2.2.2 o (l! z.2.2.2)) u) 4),BQ (wl z.2.2.2 o (l! z.2.2.2)) u):=rfl
def amf (w:WT) (z:SY) (t o u:Int):(kT w z t 19 o u).2=(l! (wl z.2.2.2 o (l! z.2.2.2)):Int):=rfl
def aio (w:WT) (s:SN) (hs:NB i s) (hf:F16 w s) (e:ET) (he:EN w s.1 e.1 e.2.1 e.2.2.1):Ok (v_ (s,e)) λb=>b=J->VA w s.1 s.2.1 s.2.2.1 e.1 e.2.1 e.2.2.1 e.2.2.2.1:=by
 let⟨t,k,o,v,si,de,fr⟩:=e;let⟨I,s2,s3,s4⟩:=s;let⟨nm,t0,t1,cd,e1,e2,e3⟩:=he;let⟨_,_,ce,lk,cn,th,fu,_,_,_⟩:=nm;let⟨f1,f2,f3⟩:=hf;have hth:=hs.sb.th;dsimp only at*
 have hW:=O3 I o hth;have hWl:=vT I.2.2.2 o (l! I.2.2.2);refine aK (λh=>?_) λn3=>?_
 .have h:k=3:=h;let⟨c0,c1⟩:=ce (.inl h);exact aP c0 (by grind) (aT (ak λA=>⟨λ_=>bi A,λz=>by omega,λz=>by omega,λz=>(z h).elim⟩))
 refine aK (λh=>?_) λL=>?_
 .have h:k=23:=h;let⟨c0,c1⟩:=fu (.inr h);exact aP c0 (by grind) (aT (ak λA=>⟨λz=>by omega,λ_=>bi A,λz=>by omega,λ_ z=>(z h).elim⟩))
 refine aK (λh=>?_) λn5=>?_
 .have h:k=5:=h;exact gP (aK (λA=>ak (ak λ_=>⟨λz=>by omega,λz=>by omega,λ_=>.inl A,λ_ _ z=>(z h).elim⟩)) λ_=>ak (ak λA=>⟨λz=>by omega,λz=>by omega,λ_=>.inr (bi A),λ_ _ z=>(z h).elim⟩))
 refine aV (λx=>x.2=((I,s2,s3,s4),t,k,o,v,si,de,fr)/\(x.1=J->k=4\/k=22)) (aK (λh=>ak ⟨rfl,λ_=>.inl h⟩) λ_=>ak ⟨rfl,λh=>.inr (bi h)⟩) ?_;rintro⟨b,x⟩ ⟨e,hb⟩;subst e;refine aR (λh=>ak λ_=>⟨λz=>(n3 z).elim,λz=>(L z).elim,λz=>(n5 z).elim,λ_ _ _ h4 h5=>(hb h).elim (λh=>(h4 h).elim) λh=>(h5 h).elim⟩) λ_=>?_
 have fin:v=(kT w I t k o v).2->VA w I s2 s3 t k o v:=λh=>⟨λz=>(n3 z).elim,λz=>(L z).elim,λz=>(n5 z).elim,λ_ _ _ _ _=>h⟩
 refine aK (λh=>?_) λn18=>?_
 .have h:k=18:=h;subst h;rw[CX]at fin;refine aX hW ?_;revert fin hWl;generalize wl I.2.2.2 o (l! I.2.2.2)=l;intro hWl fin;refine aK (λh=>ak λA=>fin ?_) λh=>?_
  .grind
  .dsimp [aw]at h;have hne:¬l! l=0:=by omega
   refine gP (fK (λ_=>bD (λ_=>?_) λ_=>ak (ak nofun)) λ_=>ak (ak nofun));refine aX (Fw _ _ (by omega)) (ak (ak λA=>fin ?_));rw[av hne];unfold BQ;rw[av hne,aC A]
 refine aK (λh=>?_) λn19=>?_
 .have h:k=19:=h;subst h;exact aX hW (ak λA=>fin (bi A))
 exact ak λA=>fin (by rw[ame _ _ _ _ _ _ n18 n19];exact bi A)
structure S16 (w:WT) (s:SN) (e:ET):Prop where
 rd:QK w s.1 e.1 e.2.1 e.2.2.1
 s1:e.2.1=1\/e.2.1=2->e.2.2.2.2.1= -1
 s2:¬(e.2.1=1\/e.2.1=2)->0<=e.2.2.2.2.1/\e.2.2.2.2.1<l! w.2.2.2.2.2/\(aI qG w.2.2.2.2.2 e.2.2.2.2.1).1=e.1
 de:0<l! e.2.2.2.2.2.1->e.2.1=5\/(e.2.1=3\/e.2.1=4)/\¬(aI kF w.1 e.2.2.1).2.2.1=0
 fr:0<l! e.2.2.2.2.2.2->e.2.1=4\/e.2.1=22
 nd:AN (aI aN s.2.2.2 e.1) e.2.2.2.2.2.1
 nf:AN (aI aN s.2.2.2 e.1) e.2.2.2.2.2.2
 va:VA w s.1 s.2.1 s.2.2.1 e.1 e.2.1 e.2.2.1 e.2.2.2.1
def ceP (z:η) (e:ET):η:=if e.2.1=4 then ca z e.2.2.1 e.2.2.2.1 else z
def fuP (z:η) (e:ET):η:=if e.2.1=22 then ca z e.2.2.1 e.2.2.2.1 else z
def nxP (w:WT) (s:SN) (e:ET):SN:=((kT w s.1 e.1 e.2.1 e.2.2.1 e.2.2.2.1).1,ceP s.2.1 e,fuP s.2.2.1 e,ca s.2.2.2 e.1 (a_ .i64 (aI aN s.2.2.2 e.1+1)))
def Dz (w:WT) (s:SN) (hs:NB i s) (hw:l! w.2.2.1<=1000) (e:ET) (hd:l! e.2.2.2.2.2.1<=1000000000\/(aI aN s.2.2.2 e.1:Int)<=1000000000) (hf:l! e.2.2.2.2.2.2<=1000000000\/(aI aN s.2.2.2 e.1:Int)<=1000000000):Ok (kU (w,s,e)) λy=>(y.2=J->EN w s.1 e.1 e.2.1 e.2.2.1/\SP i s y.1/\S16 w s e/\y.1=nxP w s e)/\(y.2=af->y.1=sn0):=by
 have hz:∀{Q:SN×Bool->Prop},Q (sn0,af)->Ok (Z (sn0,af)) Q:=λh=>ak h
 have z0:((sn0,af).2=J->EN w s.1 e.1 e.2.1 e.2.2.1/\SP i s (sn0,af).1/\S16 w s e/\(sn0,af).1=nxP w s e)/\((sn0,af).2=af->(sn0,af).1=sn0):=⟨nofun,λ_=>rfl⟩
 unfold kU be bA bM cE fe ct dF c_ gy vq ck bj bQ gO bV bJ lx aZ cP aH cL;refine aV (λx=>x.2=(w,s,e,0)/\(x.1=af->F16 w s/\(EN w s.1 e.1 e.2.1 e.2.2.1/\QK w s.1 e.1 e.2.1 e.2.2.1)/\ic (w,s.1,e.1,e.2.1,e.2.2.1)=Z J)) ?_ ?_
 .refine ay (ai5 w s hw) λb hb=>?_
  with_reducible repeat' first|apply OS.ok;constructor|refine IM.mk λ_=>?_
  .exact⟨rfl,nofun⟩
  simp only[apd,UV];with_reducible repeat' first|apply OS.ok;constructor|refine IM.mk λ_=>?_
  .exact⟨rfl,nofun⟩
  .exact⟨rfl,nofun⟩
  .exact⟨rfl,nofun⟩
  let⟨c,hc0,hc⟩:=Pe w s.1 hs.sb hw e.1 e.2.1 e.2.2.1;refine aX hc0 (ak ⟨rfl,λh=>?_⟩);have h:c=J:=by simpa using h
  exact⟨hb (by assumption),hc h,h▸hc0⟩
 rintro⟨x1,I⟩ ⟨z,hx⟩;dsimp only at z hx;subst z;refine aR (λ_=>hz z0) λh1=>?_
 let⟨hF,⟨hE,hR⟩,hEn⟩:=hx h1;clear hx h1;refine aV (λx=>x=(w,s,e,0)/\(e.2.1=1\/e.2.1=2->e.2.2.2.2.1= -1)/\(¬(e.2.1=1\/e.2.1=2)->0<=e.2.2.2.2.1/\e.2.2.2.2.1<l! w.2.2.2.2.2/\(aI qG w.2.2.2.2.2 e.2.2.2.2.1).1=e.1)) ?_ ?_
 .refine aV (λx=>x.2=(w,s,e,0)/\(x.1=J->e.2.1=1\/e.2.1=2)/\(x.1=af->¬(e.2.1=1\/e.2.1=2))) ?_ ?_
  .refine aK (λh=>ak ⟨rfl,λ_=>.inl h,nofun⟩) λh=>ak ⟨rfl,λA=>.inr (bi A),λA=>?_⟩
   have:=qV A;exact λh3=>h3.elim h this
  rintro⟨x1,I⟩ ⟨z,hy1,hy2⟩;dsimp only at z hy1 hy2;subst z;refine aR (λhk=>?_) λhk=>?_
  .exact bU (λ_=>ak z0) λh=>ak ⟨rfl,λ_=>h,λh3=>(h3 (hy1 hk)).elim⟩
  .refine aV (λx=>x.2=(w,s,e,0)/\(x.1=af->0<=e.2.2.2.2.1/\e.2.2.2.2.1<l! w.2.2.2.2.2/\(aI qG w.2.2.2.2.2 e.2.2.2.2.1).1=e.1)) ?_ ?_
   .simp only[apd,UV];refine bU (λ_=>ak ⟨rfl,nofun⟩) λh=>aP h.1 h.2 (aT (ak ⟨rfl,λA=>⟨h.1,h.2,?_⟩⟩))
    simpa using A
   rintro⟨x1,I⟩ ⟨z,hz⟩;dsimp only at z hz;subst z;exact aR (λ_=>ak z0) λh=>ak ⟨rfl,λh3=>((hy2 hk) h3).elim,λ_=>hz h⟩
 rintro x ⟨rfl,hS1,hS2⟩;let⟨nm,t0,t1,cd,e1,e2,e3⟩:=id hE;let⟨_,_,ce,lk,cn,th,fu,_,_,_⟩:=nm;let⟨f1,f2,f3⟩:=id hF;refine aV (λx=>x.2=(w,s,e,0)/\(x.1=J->e.2.1=3\/e.2.1=4)) ?_ ?_
 .with_reducible repeat' first|apply OS.ok;constructor|refine IM.mk λ_=>?_
  .exact⟨rfl,λ_=>.inl (by assumption)⟩
  .exact⟨rfl,λh=>.inr (bi h)⟩
 rintro⟨x1,I⟩ ⟨z,L⟩;dsimp only at z L;subst z;refine aV (λx=>x.2=(w,s,e,0)/\(x.1=af->0<l! e.2.2.2.2.2.1->e.2.1=5\/(e.2.1=3\/e.2.1=4)/\¬(aI kF w.1 e.2.2.1).2.2.1=0)) ?_ ?_
 .refine bD (λ_=>bU (λ_=>aR (λh=>?_) λ_=>ak ⟨rfl,nofun⟩) λh5=>ak ⟨rfl,λ_ _=>.inl h5⟩) λh=>ak ⟨rfl,λ_ A=>?_⟩
  .refine aP (ce (L h)).1 (ce (L h)).2 (aT (ak ⟨rfl,λA _=>.inr ⟨L h,?_⟩⟩));simpa using A
  .dsimp only[aw]at h;omega
 rintro⟨x1,I⟩ ⟨z,hDe⟩;dsimp only at z hDe;subst z;refine aR (λ_=>hz z0) λhde=>?_
 refine aV (λx=>x.2=(w,s,e,0)/\(x.1=af->0<l! e.2.2.2.2.2.2->e.2.1=4\/e.2.1=22)) ?_ ?_
 .refine bD (λ_=>bU (λ_=>ak ⟨rfl,λh _=>.inr (by simpa using h)⟩) λh4=>ak ⟨rfl,λ_ _=>.inl h4⟩) λh=>ak ⟨rfl,λ_ A=>?_⟩
  dsimp only[aw]at h;omega
 rintro⟨x1,I⟩ ⟨z,hFr⟩;dsimp only at z hFr;subst z;refine aR (λ_=>hz z0) λhfr=>?_
 have hk:=hs.k;have hc:=hs.c;have hfu:=hs.f;refine aV (λx=>x.2=(w,s,e,0)/\(x.1=af->AN (aI aN s.2.2.2 e.1) e.2.2.2.2.2.1/\AN (aI aN s.2.2.2 e.1) e.2.2.2.2.2.2/\VA w s.1 s.2.1 s.2.2.1 e.1 e.2.1 e.2.2.1 e.2.2.2.1)) ?_ ?_
 .have hv:=aio w s hs hF e hE;refine aP t0 (by rw[f3];exact t1) (aT (ay (MB _ _ hd) λb hb=>?_));refine eC (λ_=>ak ⟨rfl,nofun⟩) λb1=>?_
  refine aP t0 (by rw[f3];exact t1) (aT (ay (MB _ _ hf) λb hb2=>?_));refine eC (λ_=>ak ⟨rfl,nofun⟩) λb2=>?_
  exact ay hv λb hb3=>ak ⟨rfl,λh=>⟨hb b1,hb2 b2,hb3 (by simpa using h)⟩⟩
 rintro⟨x1,I⟩ ⟨z,hNum⟩;dsimp only at z hNum;subst z;refine aR (λ_=>hz z0) λhnu=>?_
 let⟨hN1,hN2,hVA⟩:=hNum hnu;have hS:S16 w s e:=⟨hR,hS1,hS2,hDe hde,hFr hfr,hN1,hN2,hVA⟩
 refine a! (a! (a! ?_));refine aV (λx=>x.2=(w,s,e,0,0,s.2.1,s.2.2.1,s.2.2.2)/\kT w s.1 e.1 e.2.1 e.2.2.1 x.1=kT w s.1 e.1 e.2.1 e.2.2.1 e.2.2.2.1) ?_ ?_
 .exact aK (λ_=>ak ⟨rfl,rfl⟩) λh=>ak ⟨rfl,Ye _ _ _ _ _ _ _ h⟩
 rintro⟨x1,I⟩ ⟨z,hxu⟩;dsimp only at z hxu;subst z;refine ay (HM w s.1 hs.sb hw e.1 e.2.1 e.2.2.1 x1) λy hy=>?_
 let⟨_,_,hap,hyq⟩:=hy.1 (hy.2.2 hEn);rw[hxu]at hyq;refine aV (λx=>x.1=e/\x.2.2.1=y.1/\x.2.2.2.1=ceP s.2.1 e/\x.2.2.2.2=(s.2.2.1,s.2.2.2)) ?_ ?_
 .unfold ceP;refine aK (λh=>?_) λh=>ak ⟨rfl,rfl,(av h).symm,rfl⟩
  have hc4:=ce (.inr h);with_reducible repeat' first|apply OS.ok;constructor|refine IM.mk λ_=>?_
  all_goals try simp only[aw,s6] at*
  all_goals first|omega|exact (aC h).symm
 rintro⟨x1,I,x3,x4,x5,x6⟩ ⟨h1,A,h3,h4⟩;simp only[aQ]at h1 A h3 h4;obtain⟨rfl,rfl⟩:=h4;subst h1 A h3;refine aV (λx=>x.1=x1/\x.2.2.1=y.1/\x.2.2.2.1=ceP s.2.1 x1/\x.2.2.2.2.1=fuP s.2.2.1 x1/\x.2.2.2.2.2=s.2.2.2) ?_ ?_
 .unfold fuP;refine aK (λh=>?_) λh=>ak ⟨rfl,rfl,rfl,(av h).symm,rfl⟩
  have hc4:=fu (.inl h);with_reducible repeat' first|apply OS.ok;constructor|refine IM.mk λ_=>?_
  all_goals try simp only[aw,s6] at*
  all_goals first|omega|exact (aC h).symm
 rintro⟨x1,I,x3,x4,x5,x6⟩ ⟨h1,A,h4,h5,h6⟩;simp only at h1 A h4 h5 h6;subst h1 A h4 h5 h6;have l1:l! (ceP s.2.1 x1)=l! s.2.1:=by unfold ceP;split<;>simp[bN]
 have l2:l! (fuP s.2.2.1 x1)=l! s.2.2.1:=by unfold fuP;split<;>simp[bN]
 with_reducible repeat' first|apply OS.ok;constructor|refine IM.mk λ_=>?_
 all_goals try simp only[aw,s6] at*
 all_goals first|omega|skip
 exact⟨⟨hE,⟨hap,l1,l2,by rw[bN]⟩,hS,by unfold nxP;rw[<- hyq]⟩,nofun⟩
def YC:Ok (lA ()) λl=>l! l=22:=by
 unfold lA;with_reducible repeat' first|apply OS.ok;constructor|refine IM.mk λ_=>?_
 all_goals rfl
def UP (s:ζ):Ok (mc s) λ_=>True:=by
 refine ay YC λl z=>?_
 refine b9 (l! l) (λi x=>x=(i:Int)) ?_ ?_ rfl
 .rintro i x hi rfl;with_reducible repeat' first|apply OS.ok;constructor|refine IM.mk λ_=>?_
  all_goals try simp[aw,s6] at*
  all_goals first|omega|exact gZ
 .rintro x rfl;with_reducible repeat' first|apply OS.ok;constructor|refine IM.mk λ_=>?_
  all_goals try simp[aw,s6] at*
  all_goals omega
def Sc (c:Int):Ok (mB c) λ_=>True:=by
 unfold mB kw aH;with_reducible repeat' first|apply OS.ok;constructor|refine IM.mk λ_=>?_
 all_goals exact trivial
def akp (c:Int):Ok (ri c) λ_=>True:=by
 unfold ri tD kw aH;refine gP (ay (Sc c) λ_ _=>?_);with_reducible repeat' first|apply OS.ok;constructor|refine IM.mk λ_=>?_
 all_goals try exact trivial
 refine ay (P:=λ_=>True) ?_ λ_ _=>?_
 .with_reducible repeat' first|apply OS.ok;constructor|refine IM.mk λ_=>?_
  all_goals exact trivial
 .with_reducible repeat' first|apply OS.ok;constructor|refine IM.mk λ_=>?_
  all_goals exact trivial
def iP (s:ζ):Ok (fY s) λ_=>True:=by
 refine aV (λb=>b=af->l! s<=12) ?_ ?_
 .with_reducible repeat' first|apply OS.ok;constructor|refine IM.mk λ_=>?_
  .grind
  .grind
  .omega
  .grind
  refine ay (Sc _) λ_ _=>?_
  with_reducible repeat' first|apply OS.ok;constructor|refine IM.mk λ_=>?_
  .grind
  refine ay (UP _) λ_ _=>ak λ_=>?_
  grind
 .rintro b z;refine aR (λ_=>ak trivial) λh=>?_
  have z:=z h;refine b9 (l! s) (λi x=>x=(i:Int)) ?_ ?_ rfl
  .rintro i x hi rfl;with_reducible repeat' first|apply OS.ok;constructor|refine IM.mk λ_=>?_
   all_goals try simp[aw,s6] at*
   all_goals first|omega|skip
   refine ay (akp _) λ_ _=>?_
   with_reducible repeat' first|apply OS.ok;constructor|refine IM.mk λ_=>?_
   .exact trivial
   .exact gZ
  .rintro x rfl;with_reducible repeat' first|apply OS.ok;constructor|refine IM.mk λ_=>?_
   all_goals try simp[aw,s6] at*
   all_goals first|omega|exact trivial
def BD (l:Y ζ) (s:ζ) (I:l! l<=1000000000):Ok (jZ (l,s)) λr=> -1<=r/\r<l! l/\(0<=r->aI (.str) l r=s)/\(r<0->s∉l):=by
 refine b9 (l! l) (λi x=>x=(i:Int)/\∀k:Nat,k<i->aI (.str) l (k:Int)≠s) ?_ ?_ ⟨rfl,λk A=>by omega⟩
 .rintro i x hi ⟨rfl,z⟩;with_reducible repeat' first|apply OS.ok;constructor|refine IM.mk λ_=>?_
  all_goals try simp[aw,s6] at*
  all_goals first|omega|skip
  .grind
  .refine ⟨gZ,λk A=>?_⟩
   grind
 .rintro x ⟨rfl,z⟩;with_reducible repeat' first|apply OS.ok;constructor|refine IM.mk λ_=>?_
  all_goals try simp only[aw,s6] at*
  all_goals first|omega|skip
  exact⟨by omega,by omega,λh=>by omega,λ_ h=>iO (T:=.str) (p:=λc=>c≠s) z s h rfl⟩
structure VL (w:WT):Prop where
 c:l! w.1<=12
 l:l! w.2.1<=4
 d:l! w.2.2.1<=2
 f:l! w.2.2.2.1<=2
 t0:1<=l! w.2.2.2.2.1
 t:l! w.2.2.2.2.1<=4
 s:l! w.2.2.2.2.2<=60
def ak1 (w:WT) (h:VL w):Ok (q_ w) λy=>l! y.1<=100:=by
 let⟨w1,L,I,w4,w5,w6⟩:=w;let⟨h1,h2,h3,h4,_,h5,h6⟩:=h;dsimp only at*
 unfold q_ be bA bM cE dF vq bj bQ gO bV bJ aZ cP aH cL;refine qO (λx=>((l! w1:Int)-x.1).toNat) (λx=>x.2.1=(w1,L,I,w4,w5,w6)/\0<=x.1/\x.1<=(l! w1:Int)/\(l! x.2.2:Int)<=x.1) ?_ ⟨rfl,by simp,by simp,by simp⟩;rintro⟨x1,x2,x3⟩ ⟨e,g1,g2,g3⟩;dsimp only at e g1 g2 g3;subst e;refine bD (λg4=>?_) λg4=>?_
 .dsimp only[aw]at g4;refine aV (λx=>x.2.1=(w1,L,I,w4,w5,w6)/\x1<x.1/\x.1<=(l! w1:Int)/\(l! x.2.2:Int)<=x.1) ?_ ?_
  .refine b_ (aT (a! ?_));refine aK (λ_=>?_) λ_=>?_
   .with_reducible repeat' first|apply OS.ok;constructor|refine IM.mk λ_=>?_
    .exact iQ _
    .rw[gr];exact⟨rfl,by dsimp only;omega,by dsimp only;omega,by simp;omega⟩
   .generalize hz:aI _ _ x1=z;obtain⟨z1,(z2:Int),(A:Int),z4,z5⟩:=z;dsimp only;refine aV (λx=>x.2=((w1,L,I,w4,w5,w6),x3++[z1],z1,z2,A,z4,z5)/\(x.1=af->1<=A/\A<=4/\x1+A<=l! w1)) ?_ ?_
    .with_reducible repeat' first|apply OS.ok;constructor|refine IM.mk λ_=>?_
     .exact⟨rfl,nofun⟩
     .exact⟨rfl,nofun⟩
     .refine ⟨rfl,λh=>?_⟩;dsimp only[aw] at*
      rw[gr,jS]at h;omega
    .rintro⟨b,y⟩ ⟨e,hb⟩;dsimp only at e hb;subst e;refine aR (λ_=>ak (iQ _)) λh=>?_
     let⟨q1,q2,q3⟩:=hb h;refine qO (λx=>(A-x.1).toNat) (λx=>x.2=((w1,L,I,w4,w5,w6),x3++[z1],z1,z2,A,z4,z5)/\0<=x.1/\x.1<=A) ?_ ⟨rfl,by simp,by dsimp only;omega⟩;rintro⟨k,y⟩ ⟨e,k0,k1⟩;dsimp only at e k0 k1;subst e;refine bD (λk2=>?_) λk2=>?_
     .dsimp only at k2;have e1:a_ .i64 (x1+k)=x1+k:=gr;refine aP (by dsimp only;rw[e1];omega) (by dsimp only;rw[e1];omega) (aT ?_);refine aV (λx=>x.2=((w1,L,I,w4,w5,w6),x3++[z1],z1,z2,A,z4,z5)) ?_ ?_
      .with_reducible repeat' first|apply OS.ok;constructor|refine IM.mk λ_=>?_
       all_goals rfl
      .rintro⟨b,y⟩ e;dsimp only at e;subst e;refine aR (λ_=>ak (iQ _)) λ_=>ak ?_
       dsimp only;rw[gr];exact⟨⟨rfl,by omega,by omega⟩,by omega⟩
     .dsimp only at k2;refine ak ?_;dsimp only;rw[gr];exact⟨rfl,by omega,by omega,by simp;omega⟩
  .rintro⟨y1,y2,y3⟩ ⟨e,g5,g6,g7⟩;dsimp only at e g5 g6 g7;subst e;refine ak ⟨⟨rfl,by dsimp only;omega,g6,g7⟩,?_⟩;dsimp only;omega
 .dsimp only[aw]at g4;refine ay (P:=λy=>l! y.1<=100) ?_ λy hy=>ak hy
  refine b9 (l! L) (λi x=>x.1=(i:Int)/\x.2.1=(w1,L,I,w4,w5,w6)/\l! x.2.2<=12+i) ?_ ?_ ⟨rfl,rfl,by dsimp only;omega⟩
  .rintro i ⟨a,b,c⟩ hi ⟨e1,e2,e3⟩;dsimp only at e1 e2 e3;subst e1 e2;with_reducible repeat' first|apply OS.ok;constructor|refine IM.mk λ_=>?_
   all_goals try simp only[aw,s6] at*
   all_goals first|omega|(simp;omega)|skip
   exact⟨gZ,by simp;omega⟩
  .rintro⟨a,b,c⟩ ⟨e1,e2,e3⟩;dsimp only at e1 e2 e3;subst e1 e2;refine bD (λg4=>(by dsimp only[aw]at g4;omega)) λ_=>?_
   refine ay (P:=λy=>l! y.1<=100) ?_ λy hy=>ak hy
   refine b9 (l! I) (λi x=>x.1=(i:Int)/\x.2.1=(w1,L,I,w4,w5,w6)/\l! x.2.2<=16+i) ?_ ?_ ⟨rfl,rfl,by dsimp only;omega⟩
   .rintro i ⟨a,b,c⟩ hi ⟨e1,e2,e3⟩;dsimp only at e1 e2 e3;subst e1 e2;with_reducible repeat' first|apply OS.ok;constructor|refine IM.mk λ_=>?_
    all_goals try simp only[aw,s6] at*
    all_goals first|omega|(simp;omega)|skip
    exact⟨gZ,by simp;omega⟩
   .rintro⟨a,b,c⟩ ⟨e1,e2,e3⟩;dsimp only at e1 e2 e3;subst e1 e2;refine bD (λg4=>(by dsimp only[aw]at g4;omega)) λ_=>?_
    refine ay (P:=λy=>l! y.1<=100) ?_ λy hy=>ak hy
    with_reducible repeat' first|apply OS.ok;constructor|refine IM.mk λ_=>?_
    all_goals try simp only[aw,s6] at*
    all_goals first|omega|(simp;omega)
def YK (T:Int) (o:M ν) (s:π):M ν:=
 match o with
 |none=>U
 |some (t,n)=>if s.1=t/\s.2.1=n then Z (t,n+1) else if t<s.1/\s.1<T/\s.2.1=0 then Z (s.1,1) else U
def Ps (T:Int) (l:Y π):M ν:=l.foldl (YK T) (Z (0,0))
def SV0 (w:WT):Prop:=Ps (l! w.2.2.2.2.1) w.2.2.2.2.2≠U
def Md {T:Int} {l:Y π} (hi:i<l! l):Ps T (l.take (i+1))=YK T (Ps T (l.take i)) (aI qG l (i:Int)):=by
 rw[nV (T:=qG) hi];unfold Ps;rw[gd];rfl
def Ve (T:Int):∀l:Y π,l.foldl (YK T) U=U
 |[]=>rfl
 |_::r=>Ve T r
def acm {l:Y π} (h:Ps a l≠U) (i:Nat):Ps a (l.take i)≠U:=λz=>h (by
 unfold Ps at z ⊢;rw[<- EM i l,gd,z,Ve])
def aj4 {t n:Int} {z:π} (h:YK a (Z (t,n)) z≠U):YK a (Z (t,n)) z=Z (z.1,z.2.1+1)/\(z.1=t/\z.2.1=n\/t<z.1/\z.1<a/\z.2.1=0):=by
 unfold YK at h ⊢
 grind
def ED (w:WT):Ok (iz w) λb=>b=J->VL w/\SV0 w:=by
 unfold iz be bA bM cE c_ gy bj bQ kw gO bV bJ aZ cP aH cL;refine aV (λx=>x.2=w/\(x.1=af->VL w)) ?_ ?_
 .with_reducible repeat' first|apply OS.ok;constructor|refine IM.mk λ_=>?_
  all_goals first|exact⟨rfl,λh=>(by cases h)⟩|skip
  dsimp only[aw] at*
  refine ⟨rfl,λh=>?_⟩;rw[jS]at h;constructor<;>omega
 rintro⟨b,x⟩ ⟨e,hb⟩;dsimp only at e hb;subst e;refine aR (λ_=>ak λh=>(by cases h)) λh=>?_
 have hv:=hb h;refine ay (ak1 _ hv) λy hy=>?_
 refine eC (λ_=>ak λh=>(by cases h)) λ_=>?_
 let⟨w1,w2,L,w4,I,A⟩:=x;have h6:=hv.s;have h3:=hv.d;dsimp only at h6 h3;refine b9 (l! y.1) (λi x=>x.1=(i:Int)/\x.2=(w1,w2,L,w4,I,A)) ?_ ?_ ⟨rfl,rfl⟩
 .rintro i ⟨a,b⟩ hi ⟨e1,e2⟩;dsimp only at e1 e2;subst e1 e2;refine bD (λg4=>?_) λg4=>(by dsimp only[aw]at g4;omega)
  refine aV (λx=>x.2=(w1,w2,L,w4,I,A)) ?_ ?_
  .refine b_ (aT (ay (iP _) λ_ _=>?_));refine eC (λ_=>ak rfl) λ_=>?_
   with_reducible repeat' first|apply OS.ok;constructor|refine IM.mk λ_=>?_
   all_goals try simp only[aw,s6] at*
   all_goals first|omega|skip
   refine ay (BD _ _ (by simp;omega)) λ_ _=>ak rfl
  .rintro⟨a,b⟩ e;dsimp only at e;subst e;with_reducible repeat' first|apply OS.ok;constructor|refine IM.mk λ_=>?_
   .exact λh=>(by cases h)
   .dsimp only;exact⟨gZ,rfl⟩
 rintro⟨a,b⟩ ⟨e1,e2⟩;dsimp only at e1 e2;subst e1 e2;refine bD (λg4=>(by dsimp only[aw]at g4;omega)) λ_=>?_
 refine ay (P:=λb=>b=J->VL (w1,w2,L,w4,I,A)/\SV0 (w1,w2,L,w4,I,A)) ?_ λy hy=>ak hy
 refine b9 (l! L) (λi x=>x.1=(i:Int)/\x.2=(w1,w2,L,w4,I,A)) ?_ ?_ ⟨rfl,rfl⟩
 .rintro i ⟨a,b⟩ hi ⟨e1,e2⟩;dsimp only at e1 e2;subst e1 e2;refine bD (λg4=>?_) λg4=>(by dsimp only[aw]at g4;omega)
  refine b_ (aT ?_);refine aV (λx=>x.2=(w1,w2,L,w4,I,A)) ?_ ?_
  .with_reducible repeat' first|apply OS.ok;constructor|refine IM.mk λ_=>?_
   all_goals try simp only[aw,s6] at*
   all_goals first|omega|rfl
  .rintro⟨a,b⟩ e;dsimp only at e;subst e;with_reducible repeat' first|apply OS.ok;constructor|refine IM.mk λ_=>?_
   .exact λh=>(by cases h)
   .dsimp only;exact⟨gZ,rfl⟩
 rintro⟨a,b⟩ ⟨e1,e2⟩;dsimp only at e1 e2;subst e1 e2;refine bD (λg4=>(by dsimp only[aw]at g4;omega)) λ_=>?_
 refine ay (P:=λb=>b=J->VL (w1,w2,L,w4,I,A)/\SV0 (w1,w2,L,w4,I,A)) ?_ λy hy=>ak hy
 refine b9 (l! A) (λi x=>x.1=(i:Int)/\x.2=(w1,w2,L,w4,I,A)/\Ps (l! I) (A.take i)=Z (if i=0 then (0,0) else ((aI qG A ((i-1:Nat):Int)).1,(aI qG A ((i-1:Nat):Int)).2.1+1))/\(¬i=0->(0:Int)<=(aI qG A ((i-1:Nat):Int)).2.1/\(i:Int)>(aI qG A ((i-1:Nat):Int)).2.1)) ?_ ?_ ⟨rfl,rfl,rfl,λh=>(h rfl).elim⟩
 .rintro i ⟨a,b⟩ hi ⟨e1,e2,e3,hpb⟩;dsimp only at e1 e2;subst e1 e2;have hw:¬(i:Int)=0->a_ .i64 ((i:Int)-1)=((i-1:Nat):Int):=λh=>by rw[gr];omega
  have hnx:=Md (T:=l! I) hi;rw[e3]at hnx;clear e3;refine bD (λg4=>?_) λg4=>(by dsimp only[aw]at g4;omega)
  refine aV (λx=>x=(w1,w2,L,w4,I,A)/\Ps (l! I) (A.take (i+1))=Z (((aI qG A (i:Int)).1,(aI qG A (i:Int)).2.1+1))/\(0:Int)<=(aI qG A (i:Int)).2.1/\((i+1:Nat):Int)>(aI qG A (i:Int)).2.1) ?_ ?_
  .refine b_ (aT ?_);rw[hnx];generalize hz:aI qG A (i:Int)=z;obtain⟨(z1:Int),(z2:Int),(z3:Int)⟩:=z;dsimp only;refine aV (λx=>x.2=((w1,w2,L,w4,I,A),z1,z2,z3)/\(x.1=af->0<=z1/\z1<l! I)) ?_ ?_
   .refine bD (λ_=>ak ⟨rfl,λh=>(by cases h)⟩) λg=>ak ⟨rfl,λh=>⟨g,?_⟩⟩
    rw[mf]at h;exact h
   rintro⟨c,y⟩ ⟨e,hzr⟩;dsimp only at e hzr;subst e;refine aR (λ_=>ak λh=>(by cases h)) λhzb=>?_
   let⟨z0,zT⟩:=hzr hzb;refine aV (λx=>x.2=((w1,w2,L,w4,I,A),z1,z2,z3)/\(x.1=J->i=0\/¬(aI qG A ((i-1:Nat):Int)).1=z1)/\(x.1=af->¬(i:Int)=0/\(aI qG A ((i-1:Nat):Int)).1=z1)) ?_ ?_
   .refine aK (λh=>ak ⟨rfl,λ_=>.inl (by have h:((i:Nat):Int)=0:=h;omega),λh=>(by cases h)⟩) λh=>?_
    rw[hw h];refine b_ (aT (ak ⟨rfl,λh2=>.inr (by simpa using h2),λh2=>⟨h,by simpa using h2⟩⟩))
   rintro⟨c,y⟩ ⟨e,hc1,hc⟩;dsimp only at e hc1 hc;subst e;refine aR (λhct=>?_) λhcf=>?_
   .refine aV (λx=>x.2=(w1,w2,L,w4,I,A)/\(x.1=af->z2=0/\(¬i=0->((aI qG A ((i-1:Nat):Int)).1:Int)<z1))) ?_ ?_
    .refine bU (λ_=>ak ⟨rfl,λh=>(by cases h)⟩) λhz2=>?_
     refine bD (λh=>?_) λhi0=>ak ⟨rfl,λ_=>⟨hz2,λh=>by have hi0:((i:Nat):Int)<=0:=hi0;omega⟩⟩
     have h:(0:Int)<((i:Nat):Int):=h;rw[hw (by omega)];refine b_ (aT (ak ⟨rfl,λh2=>⟨hz2,λh3=>?_⟩⟩));rw[jS]at h2;have h4:=(hc1 hct).resolve_left h3;have h2:(aI qG A ((i-1:Nat):Int)).1<=z1:=h2;exact Int.lt_iff_le_and_ne.2 ⟨h2,h4⟩
    rintro⟨c,y⟩ ⟨e,hy⟩;dsimp only at e hy;subst e;refine aR (λ_=>ak λh=>(by cases h)) λh=>ak ⟨rfl,?_⟩
    let⟨q1,q2⟩:=hy h;have q1:z2=0:=q1;subst q1;refine ⟨?_,eS 0,by show _>(0:Int);omega⟩;unfold YK
    grind
   .obtain⟨hi0,hpr⟩:=hc hcf;rw[hw hi0];refine b_ (aT ?_);refine bU (λ_=>ak λh=>(by cases h)) λh=>ak ⟨rfl,?_⟩
    let⟨b0,b1⟩:=hpb (by omega);have h:z2=a_ .i64 ((aI qG A ((i-1:Nat):Int)).2.1+1):=h;rw[gr]at h;refine ⟨?_,by omega,by omega⟩;rw[av (by omega)];unfold YK;dsimp only;rw[aC ⟨hpr.symm,h⟩,hpr,h]
  .rintro x ⟨rfl,hx,hx2⟩;refine ak ?_;dsimp only;refine ⟨gZ,rfl,?_,λ_=>hx2⟩;rw[av (by omega)];exact hx
 .rintro⟨a,b⟩ ⟨e1,e2,e3,_⟩;dsimp only at e1 e2;subst e1 e2;refine bD (λg4=>(by dsimp only[aw]at g4;omega)) λ_=>?_
  rw[dh]at e3;exact ak λ_=>⟨hv,by unfold SV0;dsimp only;rw[e3];simp⟩
def LG (e:ET):Bool:=decide (e.2.1=3)||decide (e.2.1=23)
def fl (l:Y ET) (t:Int):θ:=(l.filter λe=>decide (e.1=t)).map LG
def EI (l:Y ET) (t y:Int):Prop:=0<=y/\(fl l t).getD y.toNat af=J
def tO (l m:Y ET) (t:Int):fl (l++m) t=fl l t++fl m t:=by unfold fl;rw[List.filter_append,cg]
def yf {e:ET} (h:e.1=a):fl [e] a=[LG e]:=by unfold fl;simp[h]
def uE {e:ET} (h:¬e.1=a):fl [e] a=[]:=by unfold fl;simp[h]
variable {L:Y ET}
def EI.app {y:Int} (h:EI L a y) (m:Y ET):EI (L++m) a y:=by
 let⟨h0,h1⟩:=h;refine ⟨h0,?_⟩;rw[tO]
 grind
def EI.lt {y:Int} (h:EI L a y):y<l! (fl L a):=by
 let⟨h0,h1⟩:=h;rcases cN y.toNat (l! (fl L a)) with g|g
 .omega
 .rw[aD,eA g]at h1;cases h1
def EI.last {e:ET} (h:LG e=J) (z:a=l! (fl L e.1)):EI (L++[e]) e.1 a:=by
 subst z;refine ⟨by omega,?_⟩;rw[tO,yf rfl,aD,bS (by simp),h];simp
def Bp (l:Y ET) (t:Int):l! (fl l t)<=l! l:=by unfold fl;rw[bx];exact List.length_filter_le ..
structure SCx (w:WT) (l:List ET) (sy:SY) (ce fu:η) (e:ET):Prop where
 en:EN w sy e.1 e.2.1 e.2.2.1
 rd:QK w sy e.1 e.2.1 e.2.2.1
 s1:e.2.1=1\/e.2.1=2->e.2.2.2.2.1= -1
 s2:¬(e.2.1=1\/e.2.1=2)->0<=e.2.2.2.2.1/\e.2.2.2.2.1<l! w.2.2.2.2.2/\(aI qG w.2.2.2.2.2 e.2.2.2.2.1).1=e.1
 de:0<l! e.2.2.2.2.2.1->e.2.1=5\/(e.2.1=3\/e.2.1=4)/\¬(aI kF w.1 e.2.2.1).2.2.1=0
 fr:0<l! e.2.2.2.2.2.2->e.2.1=4\/e.2.1=22
 nd:AN (l! (fl l e.1)) e.2.2.2.2.2.1
 nf:AN (l! (fl l e.1)) e.2.2.2.2.2.2
 rd1:∀y∈e.2.2.2.2.2.1,EI l e.1 y
 rd2:∀y∈e.2.2.2.2.2.2,EI l e.1 y
 va:VA w sy ce fu e.1 e.2.1 e.2.2.1 e.2.2.2.1
def thP:Nat->Y c!
 |0=>[]
 |n+1=>(1,0,af)::aE n (0,0,af)
def KL (w:WT):SY:=(aE (l! w.2.1) (-1,[]),-1,aE (l! w.2.2.2.1) af,thP (l! w.2.2.2.2.1))
def ce0 (w:WT):η:=w.1.map λc=>c.2.2.2.2
def fu0 (w:WT):η:=aE (l! w.2.2.2.1) 0
inductive Acw (w:WT):List ET->SY->η->η->Prop
 |nil:Acw w [] (KL w) (ce0 w) (fu0 w)
 |snoc {l:List ET} {sy:SY} {ce fu:η} {e:ET} (h:Acw w l sy ce fu) (hs:SCx w l sy ce fu e):Acw w (l++[e]) (kT w sy e.1 e.2.1 e.2.2.1 e.2.2.2.1).1 (ceP ce e) (fuP fu e)
def aiu (i:Nat):thP (i+2)=thP (i+1)++[(0,0,af)]:=by
 show (1,0,af)::aE (i+1) (0,0,af)=(1,0,af)::aE i (0,0,af)++[(0,0,af)]
 rw[HP,gG]
def C8:∀n,l! (thP n)=n
 |0=>rfl
 |n+1=>by simp[thP]
def O6 (w:WT) (h:VL w):tB w=Z (KL w):=by
 let⟨w1,A,w3,I,L,w6⟩:=w;let⟨h1,h2,h3,h4,_,h5,h6⟩:=h;dsimp only at*
 refine cz ?_;unfold tB be bA bM cE dF c_ gy bj bQ bV aZ cP aH cL;refine b9 (l! A) (λi x=>x.1=(i:Int)/\x.2.1=(w1,A,w3,I,L,w6)/\x.2.2.2=(-1,aE i (-1,[]))) ?_ ?_ ⟨rfl,rfl,rfl⟩
 .rintro i ⟨a,b,c,d,e⟩ hi ⟨e1,e2,z⟩;obtain⟨rfl,rfl⟩:=z;subst e1 e2;with_reducible repeat' first|apply OS.ok;constructor|refine IM.mk λ_=>?_
  all_goals try simp[aw,s6] at*
  all_goals first|omega|(simp;omega)|skip
  exact⟨gZ,by rw[HP]⟩
 rintro⟨a,b,c,d,e⟩ ⟨e1,e2,z⟩;obtain⟨rfl,rfl⟩:=z;subst e2;refine bD (λg4=>(by grind)) λ_=>?_
 refine ay (P:=λs=>s=KL (w1,A,w3,I,L,w6)) ?_ λy hy=>ak hy
 refine b9 (l! I) (λi x=>x.1=(i:Int)/\x.2.1=(w1,A,w3,I,L,w6)/\x.2.2.2=(-1,aE (l! A) (-1,[]),aE i af)) ?_ ?_ ⟨rfl,rfl,rfl⟩
 .rintro i ⟨a,b,c,d,e',f⟩ hi ⟨e1,e2,z⟩;obtain⟨rfl,rfl,rfl⟩:=z;subst e1 e2;with_reducible repeat' first|apply OS.ok;constructor|refine IM.mk λ_=>?_
  all_goals try simp[aw,s6] at*
  all_goals first|omega|(simp;omega)|skip
  exact⟨gZ,by rw[HP]⟩
 rintro⟨a,b,c,d,e',f⟩ ⟨e1,e2,z⟩;obtain⟨rfl,rfl,rfl⟩:=z;subst e2;refine bD (λg4=>(by grind)) λ_=>?_
 refine ay (P:=λs=>s=KL (w1,A,w3,I,L,w6)) ?_ λy hy=>ak hy
 refine b9 (l! L) (λi x=>x.1=(i:Int)/\x.2.1=(w1,A,w3,I,L,w6)/\x.2.2.2=(-1,aE (l! A) (-1,[]),aE (l! I) af,thP i)) ?_ ?_ ⟨rfl,rfl,rfl⟩
 .rintro i ⟨a,b,c,d,e'',f',g⟩ hi ⟨e1,e2,z⟩;obtain⟨rfl,rfl,rfl,rfl⟩:=z;subst e1 e2;have hl:=C8 i;refine bD (λ_=>?_) λg4=>(by grind)
  refine gP (aK (λh0=>ak ?_) λh0=>ak ?_)
  .have h0:((i:Nat):Int)=0:=h0;have h0:i=0:=by omega
   subst h0;exact bP (by grind) (by omega) (ak ⟨rfl,rfl,rfl⟩)
  .have h0:¬((i:Nat):Int)=0:=h0;obtain⟨j,rfl⟩:∃j,i=j+1:=⟨i-1,by omega⟩
   refine bP (by grind) (by omega) (ak ⟨gZ,rfl,?_⟩);rw[aiu]
 rintro⟨a,b,c,d,e'',f',g⟩ ⟨e1,e2,z⟩;obtain⟨rfl,rfl,rfl,rfl⟩:=z;refine bD (λg4=>(by grind)) λ_=>ak rfl
def Y8 {w:WT} (h:VL w):SB 0 (KL w):=by
 let⟨h1,h2,h3,L,_,I,A⟩:=h;refine ⟨by omega,by simp[KL];omega,λl z=>?_,by simp[KL];omega,by simp[KL,C8];omega⟩;rw[z_ z];simp
def A_ (w:WT) (h:VL w):mI w=Z (KL w,ce0 w,fu0 w,aE (l! w.2.2.2.2.1) 0):=by
 have hs:=O6 w h;let⟨w1,w2,w3,A,z,L⟩:=w;let⟨h1,h2,h3,h4,_,h5,h6⟩:=h;refine cz ?_;unfold mI be bA bM ct c_ bQ bV bJ aZ cP aH cL;refine aX hs ?_;with_reducible repeat' first|apply OS.ok;constructor|refine IM.mk λ_=>?_
 all_goals try simp[aw,s6] at*
 all_goals first|omega|skip
 refine b9 (l! w1) (λi x=>x.1=(i:Int)/\x.2.1=(w1,w2,w3,A,z,L)/\x.2.2.2=(KL (w1,w2,w3,A,z,L),(w1.take i).map (λc=>c.2.2.2.2),aE (l! A) 0,aE (l! z) 0)) ?_ ?_ ⟨rfl,rfl,rfl⟩
 .rintro i ⟨a,b,c,d,e,f,g⟩ hi ⟨e1,e2,I⟩;obtain⟨rfl,rfl,rfl,rfl⟩:=I;subst e1 e2;with_reducible repeat' first|apply OS.ok;constructor|refine IM.mk λ_=>?_
  all_goals try simp only[aw,s6] at*
  all_goals first|omega|(simp;omega)|skip
  exact⟨gZ,by rw[nV (T:=kF) hi,cg];rfl⟩
 rintro⟨a,b,c,d,e,f,g⟩ ⟨e1,e2,I⟩;obtain⟨rfl,rfl,rfl,rfl⟩:=I;refine bD (λg4=>(by grind)) λ_=>ak ?_
 rw[dh];rfl
def aby (w:WT) (h:VL w):Ok (mI w) λs=>NB 0 s/\l! s.2.1=l! w.1/\l! s.2.2.1=l! w.2.2.2.1/\l! s.2.2.2=l! w.2.2.2.2.1:=
 ay9 (A_ w h) ⟨⟨Y8 h,by have:=h.c;simp[ce0];omega,by have:=h.f;simp[fu0];omega,by have:=h.t;simp;omega⟩,by simp[ce0],by simp[fu0],by simp⟩
def Vw (l:Y ET) (i t:Int) (ns:η) (hl:l! l<=1000000000) (hi:0<=i/\i<=l! l) (L:l! ns<=1000000000):Ok (oH (l,i,t,ns)) λb=>b=J->∀y∈ns,EI (l.take i.toNat) t y:=by
 unfold oH be ct bj bQ gO bJ aZ cP aH cL;refine b9 (l! ns) (λk x=>x=(k:Int)/\∀j:Nat,j<k->EI (l.take i.toNat) t (aI aN ns (j:Int))) ?_ ?_ ⟨rfl,λj hj=>(by omega)⟩
 .rintro k x hk ⟨rfl,hx⟩;refine bD (λg4=>?_) λg4=>(by grind)
  refine qO (λx=>(i-x.2.2).toNat) (λx=>0<=x.2.2/\x.2.2<=i/\x.1=(l! (fl (l.take x.2.2.toNat) t):Int)/\(x.2.1=J->EI (l.take x.2.2.toNat) t (aI aN ns (k:Int)))) ?_ ⟨by simp,hi.1,by simp[fl],nofun⟩;rintro⟨a,b,(c:Int)⟩ ⟨I,c1,ha,A⟩;dsimp only at I c1 ha A;subst ha;obtain⟨c,rfl⟩:∃n:Nat,c=(n:Int):=⟨c.toNat,by omega⟩
  rw[cR]at A;dsimp only;rw[cR];have hfl:=Bp (l.take c) t;have htl:=fR c l;refine bD (λg5=>?_) λg5=>?_
  .have g5:(c:Int)<i:=g5;have htk:l.take (c+1)=l.take c++[aI gm l (c:Int)]:=nV (T:=gm) (by omega);refine aV (λy=>y.1=(l! (fl (l.take (c+1)) t):Int)/\(y.2=J->EI (l.take (c+1)) t (aI aN ns (k:Int)))) ?_ ?_
   .rw[htk,tO];refine aP I (by omega) (aT ?_);refine bU (λhne=>ak ⟨by rw[uE hne];simp,λh=>(A h).app _⟩) λhe=>?_
    have he:(aI gm l (c:Int)).1=t:=he;refine aV (λy=>y=J->EI (l.take c++[aI gm l (c:Int)]) t (aI aN ns (k:Int))) ?_ λy hy=>ak ⟨?_,hy⟩
    .refine aR (λh=>ak λ_=>(A h).app _) λ_=>?_
     refine b_ (aT ?_);refine aK (λL=>?_) λ_=>ak nofun
     have z:LG (aI gm l (c:Int))=J->EI (l.take c++[aI gm l (c:Int)]) t (aI aN ns (k:Int)):=λh=>by
      rw[<- he]at L ⊢;exact EI.last h L.symm
     refine aP I (by omega) (aT ?_);refine aK (λh=>ak λ_=>z (by unfold LG;rw[aU h];rfl)) λ_=>?_
     exact aP I (by first|omega|(dsimp only;omega)) (aT (ak λh=>z (by unfold LG;rw[h];simp)))
    .dsimp only;rw[yf he,gZ];simp
   .rintro⟨p,q⟩ ⟨hp,z⟩;refine ak ?_;dsimp only at hp z ⊢;rw[gZ,cR]
    grind
  .refine ay (P:=λr=>match r with|.inl y=>y=((k+1:Nat):Int)/\∀j:Nat,j<k+1->EI (l.take i.toNat) t (aI aN ns (j:Int))|.inr r=>r=J->∀y∈ns,EI (l.take i.toNat) t y) ?_ λr hr=>ak ?_
   .refine eC (λ_=>ak nofun) λh=>ak ⟨gZ,λj hj=>?_⟩
    grind
   .grind
 .rintro x ⟨rfl,hx⟩;refine bD (λg4=>(by grind)) λ_=>ak λ_=>iO (T:=aN) hx
def CN (l:Y ET) (c:η):Prop:=∀t:Int,0<=t->t<l! c->aI aN c t=(l! (fl l t):Int)
def mi {T:Ty} (xs:Y T.den) (j k:Int) (x:T.den) (I:0<=j) (z:j<l! xs) (A:0<=k):aI _ (ca xs j x) k=if k=j then x else aI _ xs k:=by
 unfold aI ca
 grind
def CN.next (h:CN L z) (e:ET) (h0:0<=e.1) (h1:e.1<l! z) (hl:l! L<1000000):CN (L++[e]) (ca z e.1 (a_ .i64 (aI aN z e.1+1))):=λt I A=>by
 rw[bN]at A;have:=Bp L e.1;rw[mi (T:=aN) _ _ _ _ h0 h1 I,tO];split
 next c=>subst c;rw[yf rfl,h _ h0 h1,gZ];simp
 next c=>rw[uE λl=>c l.symm,h _ I A];simp
def CN.bd (h:CN L z) (t:Int):(aI aN z t:Int)<=l! L:=by
 have key:∀c:Int,aI aN z t=c->c<=l! L:=by
  intro c e;rcases cN t.toNat (l! z) with g|g
  .have h1:=h (t.toNat:Int) (by omega) (by omega);have I:=Bp L ((t.toNat:Nat):Int);have A:aI aN z t=aI aN z ((t.toNat:Nat):Int):=by unfold aI;rw[cR]
   grind
  .have:c=0:=by
    rw[<- e];unfold aI;rw[aD,eA g];rfl
   omega
 exact key _ rfl
structure EvF (w:WT) (e:ET):Prop where
 nm:NM w e.2.1 e.2.2.1
 t0:0<=e.1
 t1:e.1<l! w.2.2.2.2.1
 cd:∀c∈w.2.2.1,0<=c.2/\c.2<l! w.2.1
def anc (w:WT) (l:Y ET):Ok (oI (w,l)) λy=>y.2=0->(VL w/\SV0 w)/\(∀e∈l,EvF w e)/\∃sy ce fu,Acw w l sy ce fu:=by
 unfold oI cE ct gy bQ bJ aZ cP aH cL;refine bD (λ_=>ak nofun) λhl=>?_
 dsimp only[aw]at hl;refine ay (ED w) λb hb=>?_
 refine eC (λ_=>ak nofun) λh=>?_
 let⟨L,hsv⟩:=hb h;refine aX (A_ w L) ?_;have hs:NB 0 (KL w,ce0 w,fu0 w,aE (l! w.2.2.2.2.1) 0):=⟨Y8 L,by have:=L.c;simp[ce0];omega,by have:=L.f;simp[fu0];omega,by have:=L.t;simp;omega⟩
 have hw:l! w.2.2.1<=1000:=by have:=L.d;omega
 refine b9 (l! l) (λi x=>x.1=(i:Int)/\x.2.1=(w,l)/\NB i x.2.2/\(∀k:Nat,k<i->EvF w (aI gm l (k:Int)))/\Acw w (l.take i) x.2.2.1 x.2.2.2.1 x.2.2.2.2.1/\CN (l.take i) x.2.2.2.2.2/\l! x.2.2.2.2.2=l! w.2.2.2.2.1) ?_ ?_ ⟨rfl,rfl,hs,λk hk=>(by omega),.nil,λt t0 t1=>?_,by simp⟩
 .rintro i ⟨a,b,s⟩ hi ⟨e1,e2,e3,e4,e5,e6,e7⟩;dsimp only at e1 e2 e3 e4 e5 e6 e7;subst e1 e2;refine bD (λg4=>?_) λg4=>(by grind)
  refine b_ (aT ?_);have hmem:=bC (T:=gm) (xs:=l) (j:=(i:Int)) (by omega) (by omega);have hbd:=e6.bd (aI gm l (i:Int)).1;have htl:=fR i l;have hbd:(aI aN s.2.2.2 (aI gm l (i:Int)).1:Int)<=1000000:=by grind
  refine ay (Dz w s e3 hw _ (.inr (qM hbd (by decide))) (.inr (qM hbd (by decide)))) λy hy=>?_
  have d1:y.2=J->(aI gm l (i:Int)).2.2.2.2.2.1.length<=1000000000:=λh=>by
   have h3:((aI gm l (i:Int)).2.2.2.2.2.1.length:Int)<=max (0:Int) (aI aN s.2.2.2 (aI gm l (i:Int)).1):=(hy.1 h).2.2.1.nd.len
   grind
  have d2:y.2=J->(aI gm l (i:Int)).2.2.2.2.2.2.length<=1000000000:=λh=>by
   have h3:((aI gm l (i:Int)).2.2.2.2.2.2.length:Int)<=max (0:Int) (aI aN s.2.2.2 (aI gm l (i:Int)).1):=(hy.1 h).2.2.1.nf.len
   grind
  refine aV (λx=>x.2.1=(w,l)/\x.2.2.2=y.1/\(x.1=af->y.2=J/\(∀z∈(aI gm l (i:Int)).2.2.2.2.2.1,EI (l.take i) (aI gm l (i:Int)).1 z)/\∀z∈(aI gm l (i:Int)).2.2.2.2.2.2,EI (l.take i) (aI gm l (i:Int)).1 z)) ?_ ?_
  .refine eC (λ_=>ak ⟨rfl,rfl,nofun⟩) λh=>?_
   refine ay (Vw l _ _ _ (by omega) ⟨by dsimp only;omega,by dsimp only;omega⟩ (d1 h)) λb1 hr1=>?_
   refine eC (λ_=>ak ⟨rfl,rfl,nofun⟩) λhb1=>?_
   refine ay (Vw l _ _ _ (by omega) ⟨by dsimp only;omega,by dsimp only;omega⟩ (d2 h)) λb2 hr2=>ak ⟨rfl,rfl,λhb2=>⟨h,hr1 hb1,hr2 (by simpa using hb2)⟩⟩
  .rintro⟨c,p,q,r⟩ ⟨f1,f2,f3⟩;dsimp only at f1 f2 f3;subst f1 f2;refine aR (λ_=>ak nofun) λh=>?_
   let⟨f4,r1,r2⟩:=f3 h;let⟨A,g2,I,g4⟩:=hy.1 f4;refine ak ?_;dsimp only;have htk:l.take (i+1)=l.take i++[aI gm l (i:Int)]:=nV (T:=gm) hi;have hc:=e6 _ A.t0 (by rw[e7];exact A.t1);have hnx:=d_ Prod.fst g4;have hac:=e5.snoc (e:=aI gm l (i:Int)) ⟨A,I.rd,I.s1,I.s2,I.de,I.fr,by rw[<- hc];exact I.nd,by rw[<- hc];exact I.nf,r1,r2,I.va⟩;refine ⟨gZ,rfl,g2.NB e3 (by omega),λk hk=>?_,by rw[htk,g4];exact hac,by rw[htk,g4];exact e6.next _ A.t0 (by rw[e7];exact A.t1) (by omega),by rw[g4];unfold nxP;rw[bN];exact e7⟩;rcases cN k i with h1|h1
   .exact e4 k h1
   .rw[show k=i by omega];exact⟨A.nm,A.t0,A.t1,A.cd⟩
 .rintro⟨a,b,s⟩ ⟨e1,e2,e3,e4,e5,_⟩;dsimp only at e1 e2 e3 e4 e5;subst e1 e2;rw[dh]at e5;refine bD (λg4=>(by grind)) λ_=>ak λ_=>⟨⟨L,hsv⟩,iO (T:=gm) e4,_,_,_,e5⟩
 .rw[ey]at t1;obtain⟨t,rfl⟩:∃n:Nat,t=(n:Int):=⟨t.toNat,by omega⟩
  rw[GD,aD,sY];split<;>simp[fl]
structure TP (t:η×Int):Prop where
 l0:l! t.1<=9223372036854775807
 by_:∀x∈t.1,0<=x/\x<=255
 a0:0<=t.2
 a1:t.2<=l! t.1
structure xa (t t':η×Int):Prop where
 e:t'.1=t.1
 m:t.2<=t'.2
 p:TP t'
def xa.refl {t:n!} (h:TP t):xa t t:=⟨rfl,eS _,h⟩
def xa.trans {a b c:n!} (h:xa a b) (g:xa b c):xa a c:=⟨g.e.trans h.e,qM h.m g.m,g.p⟩
def gE (n:Int) (t:n!) (h:TP t):Ok (bF (n,t)) λy=>xa t y.2/\0<=y.1/\(1<=n->y.1<n)/\(t.2<l! t.1->1<=n->t.2<y.2.2):=by
 let⟨L,a⟩:=t;have hT:=h;let⟨l0,I,a0,a1⟩:=h;dsimp only at l0 I a0 a1;unfold bF kw bV bJ aZ aH cL;refine aV (λx=>x.2=(L,a)/\(x.1=J->a=l! L\/n<1)/\(x.1=af->a<l! L/\1<=n)) ?_ ?_
 .refine fK (λh=>ak ⟨rfl,λ_=>?_,nofun⟩) λh=>ak ⟨rfl,λA=>?_,λA=>?_⟩
  .grind
  .rw[t_]at A;exact .inr A
  .rw[jS]at A;dsimp [aw]at h A;omega
 rintro⟨b,x⟩ ⟨e,h1,A⟩;subst e;refine aR (λh=>ak ⟨xa.refl hT,eS _,λh3=>(by omega),λh3 h4=>?_⟩) λh=>?_
 .grind
 let⟨q1,q2⟩:=A h;refine aT ?_;have e1:a_ .i64 (a+1)=a+1:=gr;rw[e1,gr (n:=a+1-1) (by omega) (by omega),show a+1-1=a by omega];have hz:=I _ (bC (T:=.int .u8) (xs:=L) (j:=a) a0 q1);refine aP a0 q1 (aT ?_);generalize (aI _ _ a)=z at hz;rw[gr (n:=z) (by omega) (by omega)];refine B6 (by omega) (ak ?_);dsimp only;refine ⟨⟨rfl,by dsimp only;omega,⟨l0,I,by dsimp only;omega,by dsimp only;omega⟩⟩,Int.tmod_nonneg _ hz.1,λ_=>?_,λ_ _=>by omega⟩;exact Int.tmod_lt_of_pos _ (by omega)
def YS (s:SY) (z:l! s.2.2.2<=1000) (y:η×x!):Ok (oG (s,y)) λl=>l! l<=l! s.2.2.2:=by
 refine b9 (l! s.2.2.2) (λi x=>x.1=(i:Int)/\l! x.2<=i) ?_ ?_ ⟨rfl,by simp⟩
 .rintro i ⟨a,b⟩ hi ⟨e1,e2⟩;subst e1;with_reducible repeat' first|apply OS.ok;constructor|refine IM.mk λ_=>?_
  all_goals try simp only[aw,s6] at*
  all_goals first|omega|(simp;omega)|skip
  .exact⟨gZ,by simp;omega⟩
  .exact⟨gZ,by omega⟩
 .rintro⟨a,b⟩ ⟨e1,e2⟩;refine bD (λA=>(by grind)) λ_=>ak e2
def afm (k u:Int) (t:n!) (h:TP t):Ok (qC ((k,u),t)) λy=>xa t y.2/\(k=3\/k=4->0<=y.1/\y.1<5):=by
 unfold qC bj lx aH cL;cases kdI k
 case no I _=>
  simp only[I,bO,dD,Pr];exact ak ⟨xa.refl h,λh=>(by grind)⟩
 all_goals first
  |exact ak ⟨xa.refl h,λh=>(by grind)⟩
  |exact ay (gE 2 t h) λy A=>ak ⟨A.1,λh=>(by omega)⟩
  |exact ay (gE 3 t h) λy A=>ak ⟨A.1,λh=>(by grind)⟩
  |skip
 all_goals
  refine ay (gE 8 t h) λy A=>?_
  have h1:=A.2.1;have L:=A.2.2.1 (by omega);refine aP h1 (by omega) (aP h1 (by omega) (aT (ak ⟨A.1,λ_=>?_⟩)));have:∀z:Int,z∈([0,0,0,1,1,2,3,4]:η)->0<=z/\z<5:=by decide
  exact this _ (bC (T:=aN) h1 (by omega))
structure SZ (n:Nat) (s:SN):Prop where
 nb:NB n s
 c:l! s.2.1=5
 f:l! s.2.2.1=1
 k:l! s.2.2.2=4
def SZ.step {s y:SN} (h:SZ i s) (hp:SP i s y) (z:i+1<=100000):SZ (i+1) y:=
 ⟨hp.NB h.nb z,by rw[hp.c];exact h.c,by rw[hp.f];exact h.f,by rw[hp.k];exact h.k⟩
def afa (s:SN) (A:SZ i s) (k o:Int) (ho:k=3->0<=o/\o<5) (t:n!) (h:TP t):Ok (sj ((s,k,o),t)) λy=>xa t y.2:=by
 let⟨s1,s2,s3,L⟩:=s;have hc:=A.c;have hf:=A.f;have hth:=A.nb.sb.th;dsimp only at hc hf hth;have I:=YS s1 hth (s2,s3,L);unfold sj be bj bQ bJ aZ aH;cases kdI k
 case no hk _=>
  simp[hk,bO,dD,Pr];exact ak (xa.refl h)
 all_goals simp[bO,dD,Pr]
 all_goals first
  |exact ak (xa.refl h)
  |exact ay (gE 2 t h) λy z=>ak z.1
  |exact ay (gE 3 t h) λy z=>ak z.1
  |exact ay I λy z=>ak (xa.refl h)
  |exact aP (by decide) (by omega) (aT (ak (xa.refl h)))
  |exact aP (ho rfl).1 (by omega) (aT (ak (xa.refl h)))
  |skip
 refine ay I λl hl=>?_
 refine bD (λh1=>?_) λ_=>ak (xa.refl h)
 refine ay (gE _ t h) λy z=>?_
 have h2:=z.2.2.1 (by grind);exact aP z.2.1 h2 (aT (ak z.1))
def ao9 (t:n!) (h:TP t) (r:η) (hr:l! r<=1000000):Ok (iw (t,r)) λy=>l! y.1<=l! r/\xa t y.2.1/\y.2.2=r:=by
 refine b9 (l! r) (λi x=>x.1=(i:Int)/\xa t x.2.1/\x.2.2.1=r/\l! x.2.2.2<=i) ?_ ?_ ⟨rfl,xa.refl h,rfl,by simp⟩
 .rintro i ⟨a,b,c,d⟩ hi ⟨e1,e2,z,I⟩;dsimp only at e1 e2 z I;subst e1 z;refine bD (λg4=>?_) λg4=>(by grind)
  refine aV (λx=>xa t x.1/\x.2.1=c/\l! x.2.2<=i+1) ?_ ?_
  .refine b_ (b_ (aT ?_));refine aV (λx=>xa t x.2.1/\x.2.2=(c,d)) ?_ ?_
   .refine aR (λ_=>?_) λ_=>ak ⟨e2,rfl⟩
    exact ay (gE 2 b e2.p) λy hy=>ak ⟨e2.trans hy.1,rfl⟩
   .rintro⟨p,q,u⟩ ⟨A,L⟩;subst L;refine aR (λ_=>?_) λ_=>ak ⟨A,rfl,by dsimp only;omega⟩
    exact bP (by grind) (by omega) (ak ⟨A,rfl,by simp;omega⟩)
  .rintro⟨p,q,u⟩ ⟨A,L,f3⟩;subst L;refine ak ?_;exact⟨gZ,A,rfl,f3⟩
 .rintro⟨a,b,c,d⟩ ⟨e1,e2,z,I⟩;dsimp only at e1 e2 z I;subst z;refine bD (λg4=>(by grind)) λ_=>ak ⟨I,e2,rfl⟩
def akg:vx ()=Z [3,3,3,3,3,4,4,4,4,4,5,5,5,6,6,6,7,7,7,8,9,10,11,12,13,14,14,15,16,16,17,17,18,18,19,20,1,1,2,21,22,23,23]:=rfl
abbrev RR:Type:=η×η×x!
structure RB4 (m:Nat) (r:RR):Prop where
 r0:l! r.1<=m
 r1:l! r.2.1<=m
 r2:l! r.2.2.1<=m
 r3:l! r.2.2.2<=m
def alh (s:SN) (hs:SZ i s) (w:WT) (hw:l! w.1=5) (t:n!) (h:TP t) (r:RR) (hr:RB4 1000000 r):Ok (sq ((s,w),t,r)) λy=>xa t y.2.1/\y.2.2=r/\(t.2<l! t.1->t.2<y.2.1.2)/\l! y.1.2.2.2.2.2.1<=1000000/\l! y.1.2.2.2.2.2.2<=1000000:=by
 let⟨r0,r1,r2,r3⟩:=r;let⟨h0,h1,h2,h3⟩:=hr;dsimp only at h0 h1 h2 h3;unfold sq zW HN Prod.r be bA bM cE fe kZ vu Ac Pk Prod.t c_ gy bj bV bJ aZ aH;refine ay (gE 4 t h) λy hy=>?_
 refine aX akg ?_;refine ay (gE _ y.2 hy.1.p) λz hz=>?_
 let⟨y1,yt⟩:=y;let⟨z1,zt⟩:=z;let⟨ty,yy0,yy1,yy2⟩:=hy;let⟨tz,zz0,zz1,_⟩:=hz;dsimp only at ty yy0 yy1 yy2 tz zz0 zz1;have yy1:=yy1 (by decide);have hzl:=zz1 (by decide);refine aP zz0 hzl (aT ?_);generalize (aI _ _ z1)=k;refine ay (gE 6 zt tz.p) λv I=>?_
 let⟨v1,vt⟩:=v;have tv:=I.1;dsimp only at tv;have tt:=(ty.trans tz).trans tv;have hadv:t.2<l! t.1->t.2<vt.2:=λh=>by
  have:=yy2 h (by decide);have:=tz.m;have:=tv.m;omega
 refine aV (λx=>x.1=vt/\x.2.1=r0/\x.2.2.1=r1/\x.2.2.2.1=r2/\x.2.2.2.2.1=r3/\x.2.2.2.2.2.1=s/\x.2.2.2.2.2.2.1=w) ?_ ?_
 .refine aV (λx=>x.2.1=vt/\x.2.2.1=r0/\x.2.2.2.1=r1/\x.2.2.2.2.1=r2/\x.2.2.2.2.2.1=r3/\x.2.2.2.2.2.2.1=s/\x.2.2.2.2.2.2.2.1=w) ?_ ?_
  .with_reducible repeat' first|apply OS.ok;constructor|refine IM.mk λ_=>?_
   all_goals exact⟨rfl,rfl,rfl,rfl,rfl,rfl,rfl⟩
  .rintro⟨p,q⟩ hq;dsimp only at hq;with_reducible repeat' first|apply OS.ok;constructor|refine IM.mk λ_=>?_
   all_goals exact hq
 rintro⟨x1,x2,x3,x4,x5,x6,x7,x8,x9,x10⟩ ⟨L,f2,f3,f4,f5,f6,f7⟩;dsimp only at L f2 f3 f4 f5 f6 f7;subst L f2 f3 f4 f5 f6 f7;refine ay (afm _ _ _ tv.p) λo ho=>?_
 let⟨o1,ot⟩:=o;let⟨to,ho⟩:=ho;dsimp only at to ho;refine ay (afa _ hs _ _ (λhk=>ho (.inl hk)) _ to.p) λq hq=>?_
 let⟨q1,qt⟩:=q;dsimp only at hq;have tq:=(tt.trans to).trans hq;have hadv2:t.2<l! t.1->t.2<qt.2:=λh=>by have:=hadv h;have:=to.m;have:=hq.m;omega
 have row:∀(T:n!) (c:η) {R:Type} (k:η×((η×Int)×η)->M R) (Q:R->Prop),xa t T->l! c<=1000000->(∀v T',xa T T'->l! v<=1000000->Ok (k (v,T',c)) Q)->Ok (ax (iw (T,c)) k) Q:=λT c R k Q A hc hk=>by
  refine ay (ao9 T A.p c hc) λy hy=>?_
  grind
 refine aV (λx=>xa t x.1/\(t.2<l! t.1->t.2<x.1.2)/\x.2.1=x2/\x.2.2.1=x3/\x.2.2.2.1=x4/\x.2.2.2.2.1=x5/\l! x.2.2.2.2.2.2.2.2.2.2.2<=1000000) ?_ ?_
 .refine aV (λx=>x.2.1=qt/\x.2.2.1=x2/\x.2.2.2.1=x3/\x.2.2.2.2.1=x4/\x.2.2.2.2.2.1=x5) ?_ ?_
  .refine aK (λ_=>ak ⟨rfl,rfl,rfl,rfl,rfl⟩) λ_=>?_
   refine aK (λhk=>?_) λ_=>aK (λhk=>?_) λ_=>ak ⟨rfl,rfl,rfl,rfl,rfl⟩
   .exact aP (ho (.inl hk)).1 (by dsimp only;rw[hw];exact (ho (.inl hk)).2) (aT (ak ⟨rfl,rfl,rfl,rfl,rfl⟩))
   .exact aP (ho (.inr hk)).1 (by dsimp only;rw[hw];exact (ho (.inr hk)).2) (aT (ak ⟨rfl,rfl,rfl,rfl,rfl⟩))
  .rintro⟨b,p1,p2,p3,p4,p5,p6⟩ ⟨L,f2,f3,f4,f5⟩;dsimp only at L f2 f3 f4 f5;subst L f2 f3 f4 f5;refine aR (λ_=>?_) λ_=>ak ⟨tq,hadv2,rfl,rfl,rfl,rfl,by simp⟩
   have adv3:∀T',xa p1 T'->t.2<l! t.1->t.2<T'.2:=λT' A h=>by have:=hadv2 h;have:=A.m;omega
   refine aK (λ_=>?_) λ_=>aK (λ_=>?_) λ_=>aK (λ_=>?_) λ_=>aK (λ_=>?_) λ_=>?_
   .refine row p1 p2 _ _ tq h0 λv T' A I=>?_
    refine cW (mE rfl (D_ ?_));exact ak ⟨tq.trans A,adv3 T' A,rfl,rfl,rfl,rfl,I⟩
   .refine row p1 p3 _ _ tq h1 λv T' A I=>?_
    refine cW (mE rfl (D_ ?_));exact ak ⟨tq.trans A,adv3 T' A,rfl,rfl,rfl,rfl,I⟩
   .refine row p1 p4 _ _ tq h2 λv T' A I=>?_
    refine cW (mE rfl (D_ ?_));exact ak ⟨tq.trans A,adv3 T' A,rfl,rfl,rfl,rfl,I⟩
   .refine row p1 p5 _ _ tq h3 λv T' A I=>?_
    refine cW (mE rfl (D_ ?_));exact ak ⟨tq.trans A,adv3 T' A,rfl,rfl,rfl,rfl,I⟩
   .omega
 rintro⟨u1,u2,u3,u4,u5,u6,u7,u8,u9,u10,u11,u12⟩ ⟨L,f2,f3,f4,f5,f6,f7⟩;dsimp only at L f2 f3 f4 f5 f6 f7;subst f3 f4 f5 f6;refine aV (λx=>xa t x.1/\(t.2<l! t.1->t.2<x.1.2)/\x.2.1=u2/\x.2.2.1=u3/\x.2.2.2.1=u4/\x.2.2.2.2.1=u5/\l! x.2.2.2.2.2.2.2.2.2.2.2.1<=1000000/\l! x.2.2.2.2.2.2.2.2.2.2.2.2<=1000000) ?_ ?_
 .refine aV (λx=>x.2=(u1,u2,u3,u4,u5,u6,u7,u8,u9,u10,u11,u12)) ?_ ?_
  .with_reducible repeat' first|apply OS.ok;constructor|refine IM.mk λ_=>?_
   all_goals rfl
  .rintro⟨b,x⟩ e;dsimp only at e;subst e;refine aR (λ_=>?_) λ_=>ak ⟨L,f2,rfl,rfl,rfl,rfl,f7,by simp⟩
   have adv3:∀T',xa u1 T'->t.2<l! t.1->t.2<T'.2:=λT' A h=>by have:=f2 h;have:=A.m;omega
   refine aK (λ_=>?_) λ_=>aK (λ_=>?_) λ_=>aK (λ_=>?_) λ_=>aK (λ_=>?_) λ_=>?_
   .refine row u1 u2 _ _ L h0 λv T' A I=>?_
    refine cW (mE rfl (D_ ?_));exact ak ⟨L.trans A,adv3 T' A,rfl,rfl,rfl,rfl,f7,I⟩
   .refine row u1 u3 _ _ L h1 λv T' A I=>?_
    refine cW (mE rfl (D_ ?_));exact ak ⟨L.trans A,adv3 T' A,rfl,rfl,rfl,rfl,f7,I⟩
   .refine row u1 u4 _ _ L h2 λv T' A I=>?_
    refine cW (mE rfl (D_ ?_));exact ak ⟨L.trans A,adv3 T' A,rfl,rfl,rfl,rfl,f7,I⟩
   .refine row u1 u5 _ _ L h3 λv T' A I=>?_
    refine cW (mE rfl (D_ ?_));exact ak ⟨L.trans A,adv3 T' A,rfl,rfl,rfl,rfl,f7,I⟩
   .omega
 rintro⟨a1,a2,a3,a4,a5,a6,a7⟩ ⟨g1,g2,g3,g4,g5,g6,g7,g8⟩;dsimp only at g1 g2 g3 g4 g5 g6 g7 g8;subst g3 g4 g5 g6;exact ak ⟨g1,rfl,g2,g7,g8⟩
def EvS (e:ET):Prop:=l! e.2.2.2.2.2.1<=1000000/\l! e.2.2.2.2.2.2<=1000000
def aom (hm:m<=1000) (s:SN) (hs:SZ m s) (w:WT) (hw:l! w.1=5) (hwt:l! w.2.2.2.2.1=4) (hwc:l! w.2.2.1<=1000) (n:Int) (hn:n<=60) (t:n!) (h:TP t):Ok (ui ((s,w,n,af),t)) λy=>(∀e∈y.1,EvS e)/\l! y.1<=60:=by
 unfold ui be bA bM cE fe kZ vu Ac Prod.p ct c_ gy vq rY Lu bj bQ bV bJ aZ cP aH;refine cW (cW (cW (dG (by simp) (dG (eS _) (bP (by grind) (by omega) (ad8 (by grind) ?_))))));refine aV (λx=>x=(t,s,w,[],[],[],[])) ⟨_,rfl,rfl⟩ ?_;rintro x rfl;refine qO (λx=>((l! t.1:Int)-x.1.2).toNat) (λx=>xa t x.1/\x.2.2.1=w/\SZ (m+l! x.2.2.2.1) x.2.1/\l! x.2.2.2.1<=60/\(∀e∈x.2.2.2.1,EvS e)/\RB4 (l! x.2.2.2.1) x.2.2.2.2) ?_ ⟨xa.refl h,rfl,(by simpa using hs),by simp,λe he=>(by cases he),⟨by simp,by simp,by simp,by simp⟩⟩;rintro⟨A,s,w',out,r⟩ ⟨i1,i2,i3,i4,i5,i6⟩;dsimp only at i1 i2 i3 i4 i5 i6;subst i2;refine aV (λx=>x.2=(A,s,w',out,r)/\(x.1=J->l! out<60/\A.2<l! A.1)) ?_ ?_
 .refine bD (λh1=>ak ⟨rfl,λh2=>?_⟩) λ_=>ak ⟨rfl,nofun⟩
  rw[t_]at h2
  grind
 rintro⟨b,x⟩ ⟨e,hb⟩;dsimp only at e hb;subst e;refine aR (λh1=>?_) λ_=>ak ⟨i5,i4⟩
 let⟨ho,ht⟩:=hb h1;let⟨q0,q1,q2,q3⟩:=id i6;refine aV (λx=>xa A x.1/\A.2<x.1.2/\x.2.2.1=w'/\SZ (m+l! x.2.2.2.1) x.2.1/\l! x.2.2.2.1<=60/\(∀e∈x.2.2.2.1,EvS e)/\RB4 (l! x.2.2.2.1) x.2.2.2.2) ?_ ?_
 .refine ay (alh s i3 w' hw A i1.p r ⟨by omega,by omega,by omega,by omega⟩) λy hy=>?_
  let⟨ev,tp',r'⟩:=y;let⟨j1,j2,j3,L,I⟩:=hy;dsimp only at j1 j2 j3 L I;subst j2;have j3:=j3 ht;refine cW (mE rfl (cW (mE rfl (cW (mE rfl (cW (mE rfl (D_ ?_))))))));refine ay (Dz w' s i3.nb hwc ev (.inl (by omega)) (.inl (by omega))) λz hz=>?_
  refine eC (λ_=>ak ⟨j1,j3,rfl,i3,i4,i5,i6⟩) λh2=>?_
  let⟨z1,z2⟩:=z;let⟨hE,hS,_⟩:=hz.1 h2;have hS2:=i3.step hS (by omega);refine aV (λx=>x.1=tp'/\x.2.2.1=w'/\x.2.2.2.1=out/\EvS x.2.2.2.2.1/\x.2.2.2.2.2.1=z1/\RB4 (l! out+1) x.2.2.2.2.2.2) ?_ ?_
  .refine aV (λx=>x.2=(tp',s,w',out,ev,z1,r')) ?_ ?_
   .refine aK (λ_=>ak rfl) λ_=>ak rfl
   .rintro⟨b,x⟩ e;dsimp only at e;subst e;have hk:=i3.k;let⟨ev1,ev2⟩:=ev;have t0:=hE.t0;have t1:=hE.t1;rw[hwt]at t1;dsimp only at t0 t1;refine aR (λ_=>?_) λ_=>ak ⟨rfl,rfl,rfl,⟨L,I⟩,rfl,⟨by dsimp only;omega,by dsimp only;omega,by dsimp only;omega,by dsimp only;omega⟩⟩
    refine aK (λ_=>?_) λ_=>aK (λ_=>?_) λ_=>aK (λ_=>?_) λ_=>aK (λ_=>?_) λ_=>?_
    .exact aP (by decide) (by dsimp only;omega) (aT (a! (ak ⟨rfl,rfl,rfl,⟨L,I⟩,rfl,⟨by simp;omega,by dsimp only;omega,by dsimp only;omega,by dsimp only;omega⟩⟩)))
    .exact aP (by decide) (by dsimp only;omega) (aT (a! (ak ⟨rfl,rfl,rfl,⟨L,I⟩,rfl,⟨by dsimp only;omega,by simp;omega,by dsimp only;omega,by dsimp only;omega⟩⟩)))
    .exact aP (by decide) (by dsimp only;omega) (aT (a! (ak ⟨rfl,rfl,rfl,⟨L,I⟩,rfl,⟨by dsimp only;omega,by dsimp only;omega,by simp;omega,by dsimp only;omega⟩⟩)))
    .exact aP (by decide) (by dsimp only;omega) (aT (a! (ak ⟨rfl,rfl,rfl,⟨L,I⟩,rfl,⟨by dsimp only;omega,by dsimp only;omega,by dsimp only;omega,by simp;omega⟩⟩)))
    .dsimp only at *;omega
  .rintro⟨x1,x2,x3,x4,x5,x6,x7⟩ ⟨k1,k2,k3,k4,k5,k6⟩;dsimp only at k1 k2 k3 k4 k5 k6;subst k1 k2 k3 k5;refine a! (ak ⟨j1,j3,rfl,?_,by simp;omega,λe he=>?_,?_⟩)
   .grind
   .grind
   .grind
 rintro⟨tp',s',w'',out',r'⟩ ⟨k1,k2,k3,k4,k5,k6,k7⟩;dsimp only at k1 k2 k3 k4 k5 k6 k7;have e1:=i1.e;have a1:=k1.p.a1;have e2:=k1.e;refine ak ⟨⟨i1.trans k1,k3,k4,k5,k6,k7⟩,?_⟩;dsimp only;rw[e2,e1]at a1;omega
def C0:Y (ζ×n?):=[([120],0,0,af,0),([121],0,0,af,1),([118],0,0,J,0),([113],0,2,af,0),([113],1,2,af,0)]
def Kx:Y H!:=[([109],af),([110],af),([114],J)]
def QU:Y (ζ×Int):=[([99],0)]
def YI:Y ζ:=[[102]]
def zP:Y ζ:=[[109,97,105,110],[116,49],[116,50],[116,51]]
structure WX (w:WT):Prop where
 c:w.1=C0
 l:w.2.1=Kx
 d:w.2.2.1=QU
 f:w.2.2.2.1=YI
 t:∃n,1<=n/\n<=4/\w.2.2.2.2.1=zP.take n
 s:l! w.2.2.2.2.2<=60
 v:SV0 w
structure W0 (w:WT):Prop where
 c:l! w.1=5
 l:l! w.2.1=3
 d:l! w.2.2.1=1
 f:l! w.2.2.2.1=1
 t:l! w.2.2.2.2.1=4
 s:l! w.2.2.2.2.2<=24
 x:WX w
def W0.vl {w:WT} (h:W0 w):VL w:=⟨by rw[h.c];decide,by rw[h.l];decide,by rw[h.d];decide,by rw[h.f];decide,by rw[h.t];decide,by rw[h.t];decide,by have:=h.s;omega⟩
def nxS (i j:Nat):ν:=if j=0 then (if i=0 then (0,0) else ((i:Int)-1,6)) else (i,j)
def acn {l:Y π} {s:π}:Ps a (l++[s])=YK a (Ps a l) s:=by unfold Ps;rw[gd];rfl
def Yo:Ok (o9 ()) W0:=by
 unfold o9 be bA bM cE gy bQ bV cP aH cL;refine b9 4 (λi x=>x.1=(i:Int)/\x.2.1=C0/\x.2.2.1=Kx/\x.2.2.2.1=QU/\x.2.2.2.2.1=YI/\x.2.2.2.2.2.1=zP/\l! x.2.2.2.2.2.2<=6*i/\Ps 4 x.2.2.2.2.2.2=Z (nxS i 0)) ?_ ?_ ⟨rfl,rfl,rfl,rfl,rfl,rfl,by simp,rfl⟩
 .rintro i ⟨a,w1,w2,w3,w4,w5,w6⟩ hi ⟨e1,e2,e3,e4,e5,L,e7,I⟩;subst e1;refine bD (λ_=>?_) λg=>(by grind)
  refine b9 6 (λj x=>x.1=(j:Int)/\x.2.1=w1/\x.2.2.1=w2/\x.2.2.2.1=w3/\x.2.2.2.2.1=w4/\x.2.2.2.2.2.1=w5/\l! x.2.2.2.2.2.2<=6*i+j/\Ps 4 x.2.2.2.2.2.2=Z (nxS i j)) ?_ ?_ ⟨rfl,rfl,rfl,rfl,rfl,rfl,by dsimp only;omega,I⟩
  .rintro j ⟨b,v1,v2,v3,v4,v5,v6⟩ hj ⟨d1,d2,d3,d4,d5,d6,d7,d8⟩;dsimp only at d1 d2 d3 d4 d5 d6 d7 d8;subst d1;refine c8 ?_;refine bP (by grind) (by omega) (ak ?_);refine ⟨gZ,d2,d3,d4,d5,d6,by simp;omega,?_⟩;rw[acn,d8];by_cases z:j=0
   .subst z;by_cases A:i=0
    .subst A;rfl
    .rw[show nxS i 0=((i:Int)-1,6) by unfold nxS;simp[A],show nxS i (0+1)=((i:Int),1) by unfold nxS;simp];unfold YK
     grind
   .rw[show nxS i j=((i:Int),(j:Int)) by unfold nxS;simp[z],show nxS i (j+1)=((i:Int),(j:Int)+1) by unfold nxS;simp];unfold YK
    grind
  .rintro⟨b,v1,v2,v3,v4,v5,v6⟩ ⟨d1,d2,d3,d4,d5,d6,d7,d8⟩;subst d1 d2 d3 d4 d5 d6;refine c9 (ak ?_);refine ⟨gZ,e2,e3,e4,e5,L,by omega,?_⟩;rw[d8];unfold nxS;simp
 .rintro⟨a,w1,w2,w3,w4,w5,w6⟩ ⟨e1,e2,e3,e4,e5,L,e7,I⟩;dsimp only at e1 e2 e3 e4 e5 L e7 I;subst e2 e3 e4 e5 L;refine bD (λg=>(by grind)) λ_=>ak ?_
  refine ⟨rfl,rfl,rfl,rfl,rfl,by dsimp only;omega,rfl,rfl,rfl,rfl,⟨4,by decide,by decide,rfl⟩,by dsimp only;omega,?_⟩;show Ps 4 w6≠U;rw[I];simp
def SZ.mono {s:SN} (h:SZ i s) (hnm:i<=m) (hm:m<=100000):SZ m s:=
 ⟨⟨⟨hm,h.nb.sb.lk,λl z=>c7 (h.nb.sb.rd l z) hnm,h.nb.sb.dn,h.nb.sb.th⟩,h.nb.c,h.nb.f,h.nb.k⟩,h.c,h.f,h.k⟩
def abx (w:WT) (z:W0 w):Ok (mI w) λs=>SZ 0 s:=by
 refine (aby w z.vl).mono λs A=>⟨A.1,?_,?_,?_⟩
 .rw[A.2.1,z.c]
 .rw[A.2.2.1,z.f]
 .rw[A.2.2.2,z.t]
structure WB (w:WT):Prop where
 c:l! w.1<=12
 l:l! w.2.1<=4
 d:l! w.2.2.1<=2
 f:l! w.2.2.2.1<=2
 t:l! w.2.2.2.2.1<=4
 s:l! w.2.2.2.2.2<=60
def VL.wb {w:WT} (h:VL w):WB w:=⟨h.c,h.l,h.d,h.f,h.t,h.s⟩
structure TR (y:WT×List ET):Prop where
 wb:WB y.1
 vl:VL y.1
 ev:∀e∈y.2,EvF y.1 e
 len:l! y.2<=400
 ls:∀e∈y.2,EvS e
 wx:WX y.1
 ac:∃sy ce fu,Acw y.1 y.2 sy ce fu
def Me (L:η) (n:Int) (hl:l! L<=9223372036854775807) (hb:∀x∈L,0<=x/\x<=255):Ok (sr (L,n)) TR:=by
 unfold sr be bA bM dF c_ bQ kw gO bV lx aZ cP aH cL;refine aV (λx=>l! x<=600/\∀z∈x,0<=z/\z<=255) ?_ ?_
 .refine bD (λg=>?_) λg=>?_
  .dsimp only[aw]at g;refine cW (a? (a? (ak ⟨by dsimp only;rw[bR];simp;omega,λz hz=>hb z (il hz)⟩)))
  .dsimp only[aw]at g;exact ak ⟨by dsimp only;omega,hb⟩
 rintro L' ⟨hL,hB⟩;refine ay Yo λw A=>?_
 have hvl:=A.vl;refine ay (abx w A) λs hs=>?_
 refine ay (gE 3 (L',0) ⟨by dsimp only;omega,hB,by dsimp only;omega,by dsimp only;omega⟩) λy hy=>?_
 let⟨y1,yt⟩:=y;let⟨ty,yy0,yy1,_⟩:=hy;have yy1:=yy1 (by decide);dsimp only at ty yy0 yy1;have ew:a_ .i64 (1+y1)=1+y1:=gr;refine qO (λx=>(1+y1+1-x.1).toNat) (λx=>1<=x.1/\x.1<=2+y1/\x.2.1=yt/\x.2.2.1=w/\x.2.2.2.1=s/\((l! x.2.2.2.2:Nat):Int)<=2*x.1/\∀e∈x.2.2.2.2,EvS e) ?_ ⟨by dsimp only;omega,by dsimp only;omega,rfl,rfl,rfl,by simp,λe he=>?_⟩
 .rintro⟨a,t,w',s',es⟩ ⟨e1,e2,e3,e4,e5,e6,e7⟩;dsimp only at e1 e2 e3 e4 e5 e6 e7;subst e3 e4 e5;refine fK (λg=>?_) λg=>?_
  .dsimp only at g;rw[ew]at g;refine a! (ak ?_);dsimp only;rw[gr (n:=a+1) (by omega) (by omega)];refine ⟨⟨by omega,by omega,rfl,rfl,rfl,by simp;omega,λe he=>?_⟩,by omega⟩;rcases cq.1 he with he|he
   .exact e7 e he
   .simp only[bh,b7,eE]at he;rcases he with he|he<;>subst he<;>exact⟨by simp,by simp⟩
  .refine ay (P:=TR) ?_ λr hr=>ak hr
   refine b9 (l! es) (λi x=>x.1=(i:Int)/\TP x.2.1/\x.2.2.1=w'/\SZ i x.2.2.2.1/\x.2.2.2.2.1=es/\l! x.2.2.2.2.2<=i/\∀e∈x.2.2.2.2.2,EvS e) ?_ ?_ ⟨rfl,ty.p,rfl,hs,rfl,by simp,λe he=>(by cases he)⟩
   .rintro i ⟨b,t,w',s',es',out⟩ hi ⟨d1,d2,d3,I,d5,d6,d7⟩;dsimp only at d1 d2 d3 I d5 d6 d7;subst d1 d3 d5;refine c8 ?_;refine aV (λx=>TP x.1/\x.2.1=w'/\SZ (i+1) x.2.2.1/\x.2.2.2.1=es'/\l! x.2.2.2.2<=i+1/\∀e∈x.2.2.2.2,EvS e) ?_ ?_
    .refine b_ (b_ (aT ?_));have hz:=e7 _ (bC (T:=.st (.pr (.int .i64) (.pr (.int .i64) (.pr (.int .i64) (.pr (.int .i64) (.pr (.int .i64) (.pr (.sl (.int .i64)) (.sl (.int .i64))))))))) (xs:=es') (j:=(i:Int)) (by omega) (by omega));revert hz;generalize (aI _ _ _)=z;intro hz;refine ay (Dz w' s' I.nb (by rw[A.d];decide) z (.inl (by have:=hz.1;omega)) (.inl (by have:=hz.2;omega))) λv hv=>?_
     refine aR (λh=>?_) λh=>ak ⟨d2,rfl,I.mono (by omega) (by omega),rfl,by dsimp only;omega,d7⟩
     refine a! (ak ⟨d2,rfl,I.step (hv.1 h).2.1 (by omega),rfl,by simp;omega,λe he=>?_⟩)
     grind
    .rintro⟨t,w'',s'',es'',out'⟩ ⟨f1,f2,f3,f4,f5,f6⟩;dsimp only at f1 f2 f3 f4 f5 f6;refine ak ?_;dsimp only;exact⟨gZ,f1,f2,f3,f4,f5,f6⟩
   .rintro⟨b,t,w',s',es',out⟩ ⟨d1,d2,d3,I,d5,d6,d7⟩;dsimp only at d1 d2 d3 I d5 d6 d7;subst d1 d3 d5;refine c9 ?_;refine ay (P:=TR) ?_ λr hr=>ak hr
    have hmin:BI (kA n 0) 60<=60:=by
     unfold BI;split
     .omega
     next h=>simp[gI]at h;exact h
    refine ay (aom (by omega) s' I w' A.c A.t (by rw[A.d];decide) _ hmin t d2) λv hv=>?_
    refine bP (by have:=hv.2;dsimp only;omega) (by omega) ?_;have hall:∀e∈out++v.1,EvS e:=λe he=>by grind
    refine ay (anc w' (out++v.1)) λc hc=>?_
    refine bU (λ_=>?_) λh=>?_
    .exact ay Yo λu hu=>ak ⟨hu.vl.wb,hu.vl,λe he=>(by cases he),by simp,λe he=>(by cases he),hu.x,_,_,_,.nil⟩
    .exact ak ⟨(hc h).1.1.wb,(hc h).1.1,(hc h).2.1,by have:=hv.2;simp;omega,hall,A.x,(hc h).2.2⟩
 .rw[aG]at he;subst he;exact⟨by simp,by simp⟩
abbrev IT:Type:=ω
abbrev CT:Type:=WT×Y (Int×Y IT)
def t8 (a b:Int):jY (a,b)=Z (decide (0<=a/\a<b)):=by
 refine cz ?_;unfold jY kw aH;with_reducible repeat' first|apply OS.ok;constructor|refine IM.mk λ_=>?_
 .by_cases h:a<b<;>simp[*,gI]
 .simp;omega
def Jb (k:Int):rE k=Z (decide (1<=k/\k<=5)):=by
 refine cz ?_;unfold rE kw aH;with_reducible repeat' first|apply OS.ok;constructor|refine IM.mk λ_=>?_
 .by_cases h:k<=5<;>simp[*,cX]
 .simp;omega
def jC (i:IT):η:=
 if i.1=1\/i.1=6\/i.1=10\/i.1=27 then [i.2.1]
 else if i.1=2\/i.1=3 then [i.2.1,i.2.2.1]
 else if i.1=4 then [i.2.1,i.2.2.1,i.2.2.2.1]
 else if i.1=7 then [i.2.1,i.2.2.2.1]
 else if i.1=8\/i.1=26 then [i.2.2.1]
 else if i.1=9 then [i.2.2.1,i.2.2.2.1]
 else []
def vG (i:IT):ky i=Z (jC i):=by
 let⟨z,i2⟩:=i;unfold ky jC be bA bM bj aH;by_cases h1:z=1
 .subst h1;rfl
 by_cases h2:z=6
 .subst h2;rfl
 by_cases h3:z=10
 .subst h3;rfl
 by_cases h4:z=27
 .subst h4;rfl
 by_cases h5:z=2
 .subst h5;rfl
 by_cases h6:z=3
 .subst h6;rfl
 by_cases h7:z=4
 .subst h7;rfl
 by_cases h8:z=7
 .subst h8;rfl
 by_cases L:z=8
 .subst L;rfl
 by_cases I:z=26
 .subst I;rfl
 by_cases A:z=9
 .subst A;rfl
 simp[h1,h2,h3,h4,h5,h6,h7,h8,L,I,A,dH,bcF,jnr,eE,dZ]
def FW (z:IT):l! (jC z)<=3:=by
 unfold jC
 (repeat' split)<;>simp
def akf (l:Y IT) (a:Int) (A:l! l<=1000000):Ok (re (l,a)) λ_=>True:=by
 unfold re bj bQ kw bJ aZ cP aH cL;refine qO (λx=>((l! l:Int)+1-x.2).toNat) (λx=>0<=x.2/\x.2<=(l! l:Int)+1) ?_ ⟨by dsimp only;omega,by dsimp only;omega⟩;rintro⟨(a:Int),(n:Int)⟩ ⟨h0,h1⟩;refine fK (λg=>?_) λ_=>ak trivial
 dsimp [aw]at g;refine aV (λ_=>True) ?_ λb _=>ak ?_
 .refine aV (λb=>b=af->0<=a/\a<(l! l:Int)) ?_ ?_
  .refine bD (λ_=>ak nofun) λI=>ak λh=>?_
   rw[mf]at h
   grind
  .intro b z;refine aR (λ_=>ak trivial) λh=>?_
   let⟨q0,q1⟩:=z h;refine aP q0 (by omega) (aT ?_);refine aX (Jb _) ?_;refine eC (λ_=>ak trivial) λ_=>?_
   refine aP q0 (by omega) (aT ?_);refine aK (λ_=>?_) λ_=>ak trivial
   exact aP q0 (by omega) (aT (ak trivial))
 .dsimp only;rw[gr];omega
structure AR (w:WT) (b n:Int):Prop where
 b0:0<=b
 b1:b<l! w.1
 ix:(aI kF w.1 b).2.1=0
 sz:¬(aI kF w.1 b).2.2.1=0
 sn:(aI kF w.1 b).2.2.1=n
def Yc (w:WT) (b n:Int):Ok (rf (w,b,n)) λr=>r=J->AR w b n:=by
 refine gP ?_;refine aX (t8 _ _) ?_;refine aK (λh=>?_) λ_=>ak (ak nofun)
 refine aP h.1 h.2 (aT (aK (λh1=>?_) λ_=>ak (ak nofun)));refine aP h.1 h.2 (aT (bU (λA=>?_) λ_=>ak (ak nofun)));exact aP h.1 h.2 (aT (ak (ak λz=>⟨h.1,h.2,h1,A,bi z⟩)))
def Zk (w:WT) (i:IT):Ok (mJ (w,i)) λb=>b=J->(i.1=7->AR w i.2.2.1 i.2.2.2.2.1)/\(i.1=9->AR w i.2.1 i.2.2.2.2.1):=by
 have tr:∀{b:Bool},¬i.1=7->¬i.1=9->b=J->(i.1=7->AR w i.2.2.1 i.2.2.2.2.1)/\(i.1=9->AR w i.2.1 i.2.2.2.2.1):=λh1 z _=>⟨λh=>(h1 h).elim,λh=>(z h).elim⟩
 unfold mJ be bA bM cE fe bj kw bJ aZ aH;simp only[t8,UV];refine aK (λh6=>?_) λ_=>?_
 .refine aV (λ_=>True) ?_ λ_ _=>ak (tr (by omega) (by omega))
  refine aK (λh=>?_) λ_=>ak trivial
  exact aP h.1 h.2 (aT (ak trivial))
 refine aK (λh8=>?_) λ_=>?_
 .refine aV (λ_=>True) ?_ λ_ _=>ak (tr (by omega) (by omega))
  refine aK (λh=>?_) λ_=>ak trivial
  exact aP h.1 h.2 (aT (ak trivial))
 refine aK (λA=>?_) λI=>?_
 .exact ay (Yc _ _ _) λ_ h=>ak λz=>⟨λ_=>h z,λh9=>by have A:i.1=7:=A;omega⟩
 refine aK (λh9=>?_) λL=>?_
 .exact ay (Yc _ _ _) λ_ h=>ak λz=>⟨λA=>(I A).elim,λ_=>h z⟩
 have tr:∀{b:Bool},b=J->(i.1=7->AR w i.2.2.1 i.2.2.2.2.1)/\(i.1=9->AR w i.2.1 i.2.2.2.2.1):=tr I L;refine aV (λx=>x.2=(w,i)) (aK (λ_=>ak rfl) λ_=>ak rfl) ?_;rintro⟨b,x⟩ e;subst e;refine aR (λ_=>?_) λ_=>?_
 .refine aV (λ_=>True) ?_ λ_ _=>ak tr
  refine aK (λh=>?_) λ_=>ak trivial
  exact aP h.1 h.2 (aT (ak trivial))
 refine aV (λx=>x.2=(w,i)) (aK (λ_=>ak rfl) λ_=>aK (λ_=>ak rfl) λ_=>aK (λ_=>ak rfl) λ_=>ak rfl) ?_;rintro⟨b,x⟩ e;subst e;refine aR (λ_=>?_) λ_=>?_
 .refine aV (λ_=>True) ?_ λ_ _=>ak tr
  refine aK (λh=>?_) λ_=>ak trivial
  exact aP h.1 h.2 (aT (ak trivial))
 refine aV (λx=>x.2=(w,i)) (aK (λ_=>ak rfl) λ_=>aK (λ_=>ak rfl) λ_=>ak rfl) ?_;rintro⟨b,x⟩ e;subst e;refine aR (λ_=>ak tr) λ_=>?_
 refine aV (λx=>x.2=(w,i)) (aK (λ_=>ak rfl) λ_=>ak rfl) ?_;rintro⟨b,x⟩ e;with_reducible repeat' first|apply OS.ok;constructor|refine IM.mk λ_=>?_
 all_goals exact tr
structure VI (n:Int) (i:IT):Prop where
 o1:1<=i.1
 o2:i.1<=28
 r:∀j∈jC i,0<=j/\j<n
structure VT (t:Int×List IT):Prop where
 r0:0<=t.1
 r1:t.1<=32
 i:∀i∈t.2,VI t.1 i
structure VJ (w:WT) (k:Int) (i:IT):Prop where
 a7:i.1=7->AR w i.2.2.1 i.2.2.2.2.1
 a9:i.1=9->AR w i.2.1 i.2.2.2.2.1
 se:i.1=28->i.2.2.2.2.2= -1
 si:¬i.1=28->0<=i.2.2.2.2.2/\i.2.2.2.2.2<l! w.2.2.2.2.2/\(aI qG w.2.2.2.2.2 i.2.2.2.2.2).1=k
def L9 (w:WT) (k:Int) (c:Int×Y IT) (hc:l! c.2<=1000000):Ok (iJ (w,k,c)) λb=>b=J->VT c/\∀i∈c.2,VJ w k i:=by
 unfold iJ be bA bM cE ct c_ rY bj bQ gO bJ aZ cP aH cL;refine aV (λx=>x.2=(w,c)/\(x.1=af->0<=c.1/\c.1<=32)) ?_ ?_
 .refine bD (λ_=>ak ⟨rfl,nofun⟩) λh0=>bD (λ_=>ak ⟨rfl,nofun⟩) λh1=>ak ⟨rfl,λ_=>⟨h0,h1⟩⟩
 rintro⟨b,x⟩ ⟨e,I⟩;dsimp only at e I;subst e;refine aR (λ_=>ak nofun) λh=>?_
 let⟨r0,r1⟩:=I h;refine b9 (l! c.2) (λi x=>x.1=(i:Int)/\x.2=(w,c)/\∀q:Nat,q<i->VI c.1 (aI sZ c.2 (q:Int))/\VJ w k (aI sZ c.2 (q:Int))) ?_ ?_ ⟨rfl,rfl,λk hk=>by omega⟩
 .rintro i ⟨a,x⟩ hi ⟨e1,e2,L⟩;dsimp only at e1 e2 L;subst e1 e2;refine c8 ?_;refine b_ (aT ?_);generalize hz:(aI _ _ _)=z;refine aV (λx=>x.2=(w,c,z)/\(x.1=af->(1<=z.1/\z.1<=28)/\(z.1=7->AR w z.2.2.1 z.2.2.2.2.1)/\(z.1=9->AR w z.2.1 z.2.2.2.2.1))) ?_ ?_
  .refine bD (λ_=>ak ⟨rfl,nofun⟩) λh0=>bD (λ_=>ak ⟨rfl,nofun⟩) λh1=>?_
   refine aR (λ_=>ak ⟨rfl,nofun⟩) λ_=>?_
   refine ay (Zk w z) λy hy=>?_
   refine eC (λ_=>ak ⟨rfl,nofun⟩) λhyt=>?_
   exact ay (akf c.2 _ hc) λy _=>ak ⟨rfl,λ_=>⟨⟨h0,h1⟩,hy hyt⟩⟩
  rintro⟨b,x⟩ ⟨e,I⟩;dsimp only at e I;subst e;refine aR (λ_=>ak nofun) λh=>?_
  let⟨⟨o1,o2⟩,a7,a9⟩:=I h;refine aV (λx=>x.2=(w,c,z)/\(x.1=af->(z.1=28->z.2.2.2.2.2= -1)/\(¬z.1=28->0<=z.2.2.2.2.2/\z.2.2.2.2.2<l! w.2.2.2.2.2/\(aI qG w.2.2.2.2.2 z.2.2.2.2.2).1=k))) ?_ ?_
  .simp only[t8,UV];refine aK (λA=>?_) λA=>?_
   .refine bU (λ_=>ak ⟨rfl,nofun⟩) λhm=>?_
    exact bU (λh=>(h A).elim) λ_=>ak ⟨rfl,λ_=>⟨λ_=>hm,λh=>(h A).elim⟩⟩
   .refine bU (λ_=>?_) λh=>(A h).elim
    refine bU (λ_=>ak ⟨rfl,nofun⟩) λh=>?_
    exact aP h.1 h.2 (aT (ak ⟨rfl,λh2=>⟨λh3=>(A h3).elim,λ_=>⟨h.1,h.2,by simpa using h2⟩⟩⟩))
  rintro⟨b,x⟩ ⟨e,hsi⟩;dsimp only at e hsi;subst e;refine aR (λ_=>ak nofun) λhbs=>?_
  let⟨se,si⟩:=hsi hbs;refine aV (λx=>x.2=(w,c,z)) ?_ ?_
  .simp only[t8,UV];with_reducible repeat' first|apply OS.ok;constructor|refine IM.mk λ_=>?_
   all_goals rfl
  rintro⟨b,x⟩ e;dsimp only at e;subst e;refine aR (λ_=>ak nofun) λ_=>?_
  refine aX (vG z) ?_;refine b9 (l! (jC z)) (λj x=>x.1=(j:Int)/\x.2=(w,c)/\∀k:Nat,k<j->0<=aI aN (jC z) (k:Int)/\aI aN (jC z) (k:Int)<c.1) ?_ ?_ ⟨rfl,rfl,λk hk=>by omega⟩
  .rintro j ⟨a,x⟩ hj ⟨d1,d2,d3⟩;dsimp only at d1 d2 d3;subst d1 d2;refine c8 ?_;refine b_ (aT ?_);refine aX (t8 _ _) ?_;refine bU (λ_=>ak nofun) λh=>ak ?_
   dsimp only at h ⊢;have hj32:l! (jC z)<=3:=FW z;refine ⟨gZ,rfl,λk hk=>?_⟩
   grind
  .rintro⟨a,x⟩ ⟨d1,d2,d3⟩;dsimp only at d1 d2 d3;subst d1 d2;refine c9 (ak ?_);dsimp only;refine ⟨gZ,rfl,λk hk=>?_⟩;rcases cN k i with h1|h1
   .exact L k h1
   .rw[show k=i by omega,hz];exact⟨⟨o1,o2,iO (T:=aN) d3⟩,⟨a7,a9,se,si⟩⟩
 .rintro⟨a,x⟩ ⟨e1,e2,L⟩;refine c9 (ak λ_=>⟨⟨r0,r1,iO (T:=sZ) (p:=VI c.1) λq hq=>(L q hq).1⟩,iO (T:=sZ) (p:=VJ w k) λq hq=>(L q hq).2⟩)
structure VC (c:CT):Prop where
 vl:VL c.1
 tl:l! c.2=l! c.1.2.2.2.2.1
 t:∀t∈c.2,VT t
 sv:SV0 c.1
 j:∀k:Nat,k<l! c.2->∀i∈(aI zR c.2 (k:Int)).2,VJ c.1 (k:Int) i
structure CB (c:CT):Prop where
 th:l! c.2<=1000000
 ins:∀t∈c.2,l! t.2<=1000000
 rg:∀t∈c.2,1<=t.1
 wx:WX c.1
 ok:kx c=Z J
def Yq (c:CT) (h1:l! c.2<=1000000) (h2:∀t∈c.2,l! t.2<=1000000):Ok (kx c) λb=>b=J->VC c:=by
 let⟨w,l⟩:=c;dsimp only at h1 h2;unfold kx bM bQ bJ aZ cP aH cL;refine aV (λx=>x.2=(w,l)/\(x.1=af->(VL w/\SV0 w)/\l! l=l! w.2.2.2.2.1)) ?_ ?_
 .refine ay (ED w) λb L=>?_
  refine eC (λ_=>ak ⟨rfl,nofun⟩) λh=>ak ⟨rfl,λh3=>⟨L h,?_⟩⟩
  simp at h3;omega
 rintro⟨b,x⟩ ⟨e,hx⟩;subst e;refine aR (λ_=>ak nofun) λh=>?_
 let⟨⟨hv,hsv⟩,hl⟩:=hx h;refine b9 (l! l) (λi x=>x.1=(i:Int)/\x.2=(w,l)/\∀k:Nat,k<i->VT (aI zR l (k:Int))/\∀q∈(aI zR l (k:Int)).2,VJ w (k:Int) q) ?_ ?_ ⟨rfl,rfl,λk A=>by omega⟩
 .rintro i ⟨a,x⟩ hi ⟨e1,e2,I⟩;subst e1 e2;refine c8 ?_;refine b_ (aT ?_);have hm:=bC (T:=zR) (xs:=l) (j:=(i:Int)) (by omega) (by omega);revert hm;generalize hz:(aI zR l (i:Int))=z;intro hm;refine ay (L9 w _ z (h2 z hm)) λb L=>?_
  refine eC (λ_=>ak nofun) λh=>ak ?_
  refine ⟨gZ,rfl,λk A=>?_⟩
  grind
 .rintro⟨a,x⟩ ⟨e1,e2,I⟩;subst e1 e2;refine c9 (ak λ_=>⟨hv,hl,iO (T:=zR) (p:=VT) λk A=>(I k A).1,hsv,λk A=>(I k A).2⟩)
section
abbrev TT:Type:=Int×η×Y η×Int
structure TL (F:Int->Prop) (E:Nat) (l:η):Prop where
 a:KB l
 m:∀y∈l,0<=y/\y<(E:Int)
 f:∀y∈l,F y
variable {F:Int->Prop}
def TL.len (h:TL F i z):l! z<=i:=by
 have:=AW z 0 i h.a h.m;omega
def TL.nil (E:Nat):TL F E []:=⟨trivial,λy z=>(by cases z),λy z=>(by cases z)⟩
def TL.uni {b:η} (I:TL F i z) (A:TL F i b):TL F i (wV z b):=
 ⟨U6 z b,λy a=>by
   rcases l7.1 a with h|h
   .exact I.m y h
   .exact A.m y h,λy a=>(l7.1 a).elim (I.f y) (A.f y)⟩
def TL.mono {A:Int->Prop} (h:TL F i z) (hf:i<=m) (L:∀y,F y->A y):TL A m z:=⟨h.a,λy l=>⟨(h.m y l).1,by have:=(h.m y l).2;omega⟩,λy l=>L y (h.f y l)⟩
structure TH (F:Int->Prop) (E:Nat) (s:TT):Prop where
 r:l! s.2.1<=32
 t:l! s.2.2.1<=32
 l:∀l∈s.2.2.1,TL F E l
 e0:0<=s.2.2.2
 e1:s.2.2.2<=(E:Int)
def TH.zero (E:Nat):TH F E (0,[],[],0):=⟨by simp,by simp,λl z=>(by cases z),by simp,by simp⟩
def TH.mono {z:Int->Prop} {s:TT} (h:TH F i s) (hf:i<=m) (L:∀y,F y->z y):TH z m s:=⟨h.r,h.t,λl I=>(h.l l I).mono hf L,h.e0,by have:=h.e1;omega⟩
def zV (s:TT) (E:Nat) (hE:E<=100000) (h:TH F E s):cr s=Z ((s.1,s.2.2.2),s.2.1,s.2.2.1):=by
 let⟨h1,h2,L,h4,h5⟩:=h;refine cz ?_;unfold cr be bA bM ct c_ bQ bV bJ aZ cP aH cL;refine bP (by grind) (by omega) ?_;refine b9 (l! s.2.2.1) (λi x=>x.1=(i:Int)/\x.2.1=s/\x.2.2.2.1=(s.1,s.2.2.2)/\x.2.2.2.2.1=s.2.1/\x.2.2.2.2.2=s.2.2.1.take i) ?_ ?_ ⟨rfl,rfl,rfl,rfl,rfl⟩
 .rintro i ⟨a,b,c,d,e,f⟩ hi ⟨e1,e2,I,A,z⟩;dsimp only at e1 e2 I A z;subst e1 e2 z;refine c8 ?_;refine b_ (aT ?_);have hz:=(L _ (bC (T:=.sl (.int .i64)) (xs:=b.2.2.1) (j:=(i:Int)) (by omega) (by omega))).len;refine bP (by grind) (by omega) ?_;refine bP (by grind) (by omega) (ak ?_);refine ⟨gZ,rfl,I,A,?_⟩;rw[nV (T:=.sl (.int .i64)) hi];rfl
 .rintro⟨a,b,c,d,e,f⟩ ⟨e1,e2,I,A,z⟩;dsimp only at e1 e2 I A z;subst e2;refine c9 (ak ?_)
  grind
def yq (b:Bool):Ok (gu b) λ_=>True:=by
 unfold gu;with_reducible repeat' first|apply OS.ok;constructor|refine IM.mk λ_=>?_
 all_goals trivial
def Js (n:Int):Ok (nF n) λ_=>True:=by
 unfold nF bQ aH;with_reducible repeat' first|apply OS.ok;constructor|refine IM.mk λ_=>?_
 all_goals trivial
def amo (x:ν):Ok (wu x) λ_=>True:=by
 unfold wu bj;refine aK (λ_=>ak trivial) λ_=>aK (λ_=>?_) λ_=>ak trivial
 exact ay (yq _) λ_ _=>ak trivial
def ai9 (x:π):Ok (xp x) λ_=>True:=by
 have z:∀b,Ok (ax (gu b) λy=>Z (y,J)) λ_=>True:=λb=>ay (yq _) λ_ _=>ak trivial
 refine aK (λ_=>ak trivial) λ_=>aK (λ_=>ak trivial) λ_=>aK (λ_=>ak trivial) λ_=>?_
 refine aK (λ_=>aK (λ_=>ak trivial) λh=>B6 h (ak trivial)) λ_=>?_
 refine aK (λ_=>aK (λ_=>ak trivial) λh=>B6 h (ak trivial)) λ_=>?_
 refine aK (λ_=>z _) λ_=>aK (λ_=>z _) λ_=>aK (λ_=>z _) λ_=>aK (λ_=>z _) λ_=>aK (λ_=>z _) λ_=>aK (λ_=>z _) λ_=>?_
 refine aK (λ_=>aV (λ_=>True) (bU (λ_=>ay (yq _) λ_ _=>ak trivial) λ_=>ay (yq _) λ_ _=>ak trivial) λ_ _=>ak trivial) λ_=>?_
 exact aK (λ_=>aV (λ_=>True) (bU (λ_=>ay (yq _) λ_ _=>ak trivial) λ_=>ay (yq _) λ_ _=>ak trivial) λ_ _=>ak trivial) λ_=>ak trivial
def afb (E:Nat) (hE:E<=100000) (i:IT) (p:ν) (R:η) (T:Y η) (I:∀j∈jC i,0<=j/\j<(l! R:Int)) (o1:1<=i.1) (o2:i.1<=5) (hR:l! R<=32) (z:l! T=l! R) (hl:∀l∈T,TL F E l):Ok (yI ((i,p),R,T)) λy=>y.1.1.2=p.2/\l! y.2.1=l! R/\l! y.2.2=l! T/\∀l∈y.2.2,TL F E l:=by
 unfold yI be bA bM ck bj bQ bV bJ lx aZ cP aH cL;refine aX (vG i) ?_;have h3:=FW i;refine b9 (l! (jC i)) (λj x=>x.1=(j:Int)/\x.2.1=R/\x.2.2.1=T/\x.2.2.2.1=i/\x.2.2.2.2.1=p) ?_ ?_ ⟨rfl,rfl,rfl,rfl,rfl⟩
 .rintro j ⟨a,b,c,d,e⟩ hj ⟨e1,e2,e3,e4,L⟩;dsimp only at e1 e2 e3 e4 L;subst e1 e2 e3 e4;refine c8 ?_;have hz:=I _ (bC (T:=aN) (xs:=jC d) (j:=(j:Int)) (by omega) (by omega));refine aV (λx=>x.2=(b,c,d,e)/\x.1=af) ?_ ?_
  .refine b_ (aT ?_);refine bD (λg=>?_) λ_=>?_
   .dsimp only at g;omega
   refine b_ (aT (ak ⟨rfl,?_⟩));dsimp only;rw[mf];exact hz.2
  rintro⟨b',x⟩ ⟨f1,f2⟩;dsimp only at f1 f2;subst f1 f2;refine aR nofun λ_=>ak ?_
  dsimp only;exact⟨gZ,rfl,rfl,rfl,L⟩
 .rintro⟨a,b,c,d,e⟩ ⟨e1,e2,e3,e4,L⟩;dsimp only at e1 e2 e3 e4 L;subst e1 e2 e3 e4;refine c9 ?_;let⟨e,e'⟩:=e;dsimp only at L;subst L;refine ay (P:=λy=>y.1.1.2=e.2/\l! y.2.1=l! b/\l! y.2.2=l! c/\∀l∈y.2.2,TL F E l) ?_ λr I=>ak I
  have hA:d.1≠5->0<=d.2.1/\d.2.1<(l! b:Int):=λh5=>I _ (by
   unfold jC;(repeat' split)<;>simp<;>omega)
  have hB:2<=d.1->d.1≠5->0<=d.2.2.1/\d.2.2.1<(l! b:Int):=λh2 h5=>I _ (by
   unfold jC;(repeat' split)<;>simp<;>omega)
  have hC:d.1=4->0<=d.2.2.2.1/\d.2.2.2.1<(l! b:Int):=λh5=>I _ (by
   unfold jC;(repeat' split)<;>simp<;>omega)
  have hg:∀{j:Int},0<=j->j<(l! b:Int)->TL F E (aI (.sl (.int .i64)) c j):=λh0 h1=>hl _ (bC (T:=.sl (.int .i64)) (xs:=c) h0 (by rw[z];exact h1))
  refine aV (λx=>x.2.1=b/\x.2.2.1=c/\x.2.2.2.1=d/\x.2.2.2.2.1=e/\TL F E x.1.2.2/\d.1≠5) ?_ ?_
  .refine aK (λ_=>ak ⟨rfl,rfl,rfl,hl⟩) λA=>?_
   refine aK (λ_=>ak ⟨rfl,rfl,rfl,rfl,TL.nil E,A⟩) λn1=>?_
   dsimp only at n1 A;let⟨b0,b1⟩:=hB (by omega) A;refine aK (λ_=>?_) λn2=>?_
   .refine aP b0 b1 (aP b0 b1 (aT ?_));refine aP b0 (by dsimp only;rw[z];exact b1) (aP b0 (by dsimp only;rw[z];exact b1) (aT ?_));exact ak ⟨rfl,rfl,rfl,rfl,hg b0 b1,A⟩
   refine aK (λ_=>?_) λn3=>?_
   .refine ay (Js _) λy _=>?_
    refine aP b0 b1 (aP b0 b1 (aT ?_));refine ay (amo _) λy _=>?_
    refine aP b0 (by dsimp only;rw[z];exact b1) (aP b0 (by dsimp only;rw[z];exact b1) (aT ?_));exact ak ⟨rfl,rfl,rfl,rfl,hg b0 b1,A⟩
   dsimp only at n2 n3;let⟨c0,c1⟩:=hC (by omega);refine ay (Js _) λy _=>?_
   refine aP b0 b1 (aP b0 b1 (aT ?_));refine aP c0 c1 (aP c0 c1 (aT ?_));refine ay (ai9 _) λy _=>?_
   refine aP b0 (by dsimp only;rw[z];exact b1) (aP b0 (by dsimp only;rw[z];exact b1) (aT ?_));refine aP c0 (by dsimp only;rw[z];exact c1) (aP c0 (by dsimp only;rw[z];exact c1) (aT ?_));have g1:=hg b0 b1;have g2:=hg c0 c1;refine aX (Yr _ _ (c7 g1.len (by omega)) (c7 g2.len (by omega))) ?_;exact ak ⟨rfl,rfl,rfl,rfl,g1.uni g2,A⟩
  rintro⟨⟨v,ok,tn⟩,b',c',d',e',e''⟩ ⟨f1,f2,f3,f4,f5,f6⟩;dsimp only at f1 f2 f3 f4 f5 f6;subst f1 f2 f3 f4;let⟨a0,a1⟩:=hA f6;have ht:=f5.len;refine a! ?_;refine aP a0 a1 (aP a0 a1 (aP a0 (by dsimp only;rw[z];exact a1) (aP a0 (by dsimp only;rw[z];exact a1) (ak ?_))));refine ⟨rfl,bN ..,bN ..,λl hm=>?_⟩;rcases FM hm with h|h
  .exact hl l h
  .rw[h];exact f5
def ahs (E:Nat) (hE:E<=100000) (c:Int×Y IT) (hc:l! c.2<=1000000) (hv:VT c) (s:TT) (h:TH F E s):Ok (oL (c,s)) λy=>TH F E y.1/\(l! y.1.2.1=0\/y.1.2.2.2=s.2.2.2):=by
 unfold oL be bA bM ct dF c_ bj bQ kw gO bV bJ aZ cP aH cL;have L:=h;let⟨h1,h2,h3,h4,h5⟩:=h;refine aV (λx=>x.2.1=c/\x.2.2.1=s/\(x.1=af->(l! s.2.1:Int)=c.1/\(l! s.2.2.1:Int)=c.1)) ?_ ?_
 .refine bU (λ_=>ak ⟨rfl,rfl,nofun⟩) λg=>ak ⟨rfl,rfl,λh=>?_⟩
  simp at h;exact⟨g,h⟩
 rintro⟨b,c',s',z⟩ ⟨e1,e2,I⟩;dsimp only at e1 e2 I;subst e1 e2;refine aR (λ_=>ak ⟨TH.zero E,.inl rfl⟩) λhb=>?_
 let⟨q1,q2⟩:=I hb;refine aX (zV s' E hE L) ?_;refine qO (λx=>((l! c'.2:Int)+1-x.1).toNat) (λx=>0<=x.1/\x.1<=(l! c'.2:Int)+1/\x.2.1=c'/\x.2.2.1.2=s'.2.2.2/\l! x.2.2.2.2.1=l! s'.2.1/\l! x.2.2.2.2.2=l! s'.2.2.1/\∀l∈x.2.2.2.2.2,TL F E l) ?_ ⟨by dsimp only;omega,by dsimp only;omega,rfl,rfl,rfl,rfl,h3⟩;rintro⟨(n:Int),c,⟨(A:Int),ev⟩,z',R,T⟩ ⟨n0,n1,e1,e2,I,e4,e5⟩;dsimp only at n0 n1 e1 e2 I e4 e5;subst e1 e2;refine fK (λg=>?_) λ_=>ak ⟨TH.zero E,.inl rfl⟩
 refine aV (λx=>x.2=(c,(A,s'.2.2.2),z',R,T)/\(x.1=af->0<=A/\A<(l! c.2:Int))) ?_ ?_
 .refine bD (λ_=>ak ⟨rfl,nofun⟩) λg1=>ak ⟨rfl,λh=>?_⟩
  rw[mf]at h;exact⟨g1,h⟩
 rintro⟨b',x⟩ ⟨f1,f2⟩;subst f1;refine aR (λ_=>ak ⟨TH.zero E,.inl rfl⟩) λhb=>?_
 let⟨p0,p1⟩:=f2 hb;refine aP p0 p1 (aT ?_);have hi:=hv.i _ (bC (T:=sZ) (xs:=c.2) (j:=A) p0 p1);revert hi;generalize (aI sZ _ _)=i;intro hi;refine aX (Jb _) ?_;refine bU (λ_=>ak ⟨⟨by dsimp only;omega,by dsimp only;omega,e5,h4,h5⟩,.inr rfl⟩) λhsil=>?_
 refine aK (λ_=>ak ⟨TH.zero E,.inl rfl⟩) λhn=>?_
 refine ay (afb E hE i (A,s'.2.2.2) R T (λj hj=>by have:=hi.r j hj;omega) hsil.1 hsil.2 (by omega) (by omega) e5) λy hy=>?_
 let⟨k1,k2,k3,k4⟩:=hy;refine cW (mE k3.symm (cW (mE k2.symm (D_ ?_))));refine eC (λ_=>ak ⟨TH.zero E,.inl rfl⟩) λ_=>ak ?_
 rw[gr]
 grind
end
abbrev ST:Type:=SY×η×η×Y TT
structure TF (c:Int×List IT) (t:TT):Prop where
 p0:0<=t.1
 p1:t.1<(l! c.2:Int)
 r:(l! t.2.1:Int)=c.1
 t:(l! t.2.2.1:Int)=c.1
structure FSx (c:CT) (s:ST):Prop where
 vc:VC c
 cd:∀d∈c.1.2.2.1,0<=d.2/\d.2<(l! c.1.2.1:Int)
 e3:l! s.1.2.2.2=l! c.1.2.2.2.2.1
 ce:l! s.2.1=l! c.1.1
 fu:l! s.2.2.1=l! c.1.2.2.2.1
 th:l! s.2.2.2=l! c.2
 t:∀k:Nat,k<l! c.2->TF (aI zR c.2 (k:Int)) (aI fw s.2.2.2 (k:Int))
def FQ (L:Y ET) (k:Int) (y:Int):Prop:=1<=y/\EI L k y
structure SV (n:Nat) (L:List ET) (s:ST):Prop where
 sb:SB n s.1
 ln:l! L=n
 t:∀k:Nat,k<l! s.2.2.2->TH (FQ L k) n (aI fw s.2.2.2 (k:Int))
def SV.ti {s:ST} (h:SV i L s) (h0:0<=a) (h1:a<(l! s.2.2.2:Int)):TH (FQ L a) i (aI fw s.2.2.2 a):=by
 have:=h.t a.toNat (by omega)
 grind
structure TG (c:CT) (L:List ET) (sy:SY) (k:Int) (t:TT):Prop where
 ev:t.2.2.2=(l! (fl L k):Int)
 wi:(aI hP sy.2.2.2 k).1=3\/(aI hP sy.2.2.2 k).1=4->(aI sZ (aI zR c.2 k).2 t.1).1=21
 nw:l! (fl L k)=0->(aI hP sy.2.2.2 k).1=0\/(aI hP sy.2.2.2 k).1=1
structure SIv (c:CT) (L:List ET) (s:ST):Prop where
 ac:Acw c.1 L s.1 s.2.1 s.2.2.1
 t:∀k:Nat,k<l! s.2.2.2->(aI fw s.2.2.2 (k:Int)).2.1.length=0\/TG c L s.1 (k:Int) (aI fw s.2.2.2 (k:Int))
def apw (c:CT) (s:ST) (I:CB c):Ok (yH (c,s)) λb=>b=J->FSx c s:=by
 unfold yH be bA dF c_ bQ kw gO bJ aZ cP aH cL;refine aV (λx=>x.2=(c,s)/\(x.1=af->VC c/\(∀d∈c.1.2.2.1,0<=d.2/\d.2<(l! c.1.2.1:Int))/\l! s.1.2.2.2=l! c.1.2.2.2.2.1/\l! s.2.1=l! c.1.1/\l! s.2.2.1=l! c.1.2.2.2.1/\l! s.2.2.2=l! c.2)) ?_ ?_
 .refine ay (Yq c I.th I.ins) λb A=>?_
  refine eC (λ_=>ak ⟨rfl,nofun⟩) λh=>?_
  have z:=A h;refine ay (UR c.1 s.1 (by have:=z.vl.d;omega)) λb2 L=>?_
  refine eC (λ_=>ak ⟨rfl,nofun⟩) λh2=>?_
  let⟨g1,_,_,g4⟩:=L h2;refine bU (λ_=>ak ⟨rfl,nofun⟩) λk1=>?_
  refine bU (λ_=>ak ⟨rfl,nofun⟩) λk2=>ak ⟨rfl,λk3=>⟨z,g1,g4,?_,?_,?_⟩⟩
  .grind
  .grind
  .simp at k3;omega
 rintro⟨b,x⟩ ⟨e,A⟩;subst e;refine aR (λ_=>ak nofun) λh=>?_
 let⟨z,hcd,h3,hce,hfu,hth⟩:=A h;have hcl:=I.th;refine b9 (l! c.2) (λi x=>x.1=(i:Int)/\x.2=(c,s)/\∀k:Nat,k<i->TF (aI zR c.2 (k:Int)) (aI fw s.2.2.2 (k:Int))) ?_ ?_ ⟨rfl,rfl,λk hk=>by omega⟩
 .rintro i ⟨a,x⟩ hi ⟨e1,e2,e3⟩;subst e1 e2;refine c8 ?_;have hin:((i:Nat):Int)<(l! c.2:Int):=by omega
  refine b_ (aT ?_);refine aV (λx=>x.2=(c,s)/\(x.1=af->TF (aI zR c.2 (i:Int)) (aI fw s.2.2.2 (i:Int)))) ?_ ?_
  .refine bD (λ_=>ak ⟨rfl,nofun⟩) λg0=>?_
   refine aP (by simp) hin (aT ?_);refine fK (λ_=>ak ⟨rfl,nofun⟩) λg1=>?_
   refine aP (by simp) hin (aT ?_);refine bU (λ_=>ak ⟨rfl,nofun⟩) λg2=>?_
   refine aP (by simp) hin (aT (ak ⟨rfl,λg3=>⟨g0,g1,g2,?_⟩⟩));simp at g3;exact g3
  rintro⟨b,x⟩ ⟨e,A⟩;subst e;refine aR (λ_=>ak nofun) λh=>ak ?_
  refine ⟨gZ,rfl,λk hk=>?_⟩
  grind
 .rintro⟨a,x⟩ ⟨e1,e2,e3⟩;subst e1 e2;refine c9 (ak λ_=>⟨z,hcd,h3,hce,hfu,hth,e3⟩)
def ash {i:IT} (h:i.1=6\/i.1=7\/i.1=27\/i.1=10):i.2.1∈jC i:=by
 unfold jC;(repeat' split)<;>simp<;>omega
def asf {i:IT} (h:i.1=8\/i.1=9\/i.1=26):i.2.2.1∈jC i:=by
 unfold jC;(repeat' split)<;>simp<;>omega
def ay3 {i:IT} (h:i.1=7\/i.1=9):i.2.2.2.1∈jC i:=by
 unfold jC;(repeat' split)<;>simp<;>omega
structure KD (op k:Int):Prop where
 ld:k=3->op=6\/op=7
 st:k=4->op=8\/op=9
 br:k=5->op=10
 se:k=22->op=26
 ge:k=23->op=27
 e1:k=2->op=28
 n1:¬k=1
 n17:¬k=17
 wt:k=16->op=21
 e2:¬k=0->op=28->k=2
 d7:¬k=0->op=7->k=3
 d8:¬k=0->op=8->k=4
 d9:¬k=0->op=9->k=4
 d10:¬k=0->op=10->k=5
 d26:¬k=0->op=26->k=22
def ap9 (op:Int):Ok (Dh op) λk=>KD op k:=by
 refine aV (λx=>x.2=[3,3,4,4,5,6,7,8,9,10,11,12,13,14,15,16,18,19,20,21,22,23,2]/\(x.1=af->6<=op/\op<=28)) ?_ ?_
 .refine bD (λ_=>ak ⟨rfl,nofun⟩) λg=>ak ⟨rfl,λh=>?_⟩
  rw[jS]at h;exact⟨g,h⟩
 rintro⟨b,x⟩ ⟨e,z⟩;subst e;refine aR (λ_=>ak (by constructor<;>first|decide|(intro h;first|(exact (h rfl).elim)|(cases h;done)))) λh=>?_
 let⟨h1,A⟩:=z h;dsimp only;rw[gr (n:=op-6) (by omega) (by omega)];refine aP (by omega) (by simp;omega) (aP (by omega) (by simp;omega) (aT (ak ?_)));have:op=6\/op=7\/op=8\/op=9\/op=10\/op=11\/op=12\/op=13\/op=14\/op=15\/op=16\/op=17\/op=18\/op=19\/op=20\/op=21\/op=22\/op=23\/op=24\/op=25\/op=26\/op=27\/op=28:=by omega
 rcases this with rfl|rfl|rfl|rfl|rfl|rfl|rfl|rfl|rfl|rfl|rfl|rfl|rfl|rfl|rfl|rfl|rfl|rfl|rfl|rfl|rfl|rfl|rfl;all_goals (constructor<;>decide)
def YG (a n:Int):Ok (wv (a,n)) λr=>n=2->r=0\/r=1:=by
 refine bD (λ_=>ak λh=>(by simp)) λh=>?_
 refine B6 (by omega) ?_;have A:=Int.lt_tmod_of_pos a (b:=n) (by omega);refine aV (λr=>n=2->r=0\/r=1) (bD (λg=>ak λz=>?_) λg=>ak λz=>?_) λ_ h=>ak h
 .dsimp only at g ⊢;rw[gr];omega
 .grind
def VQ (i:IT) (t:TT) (hr:∀j∈jC i,0<=j/\j<(l! t.2.1:Int)):Ok (xo (i,t)) λo=>(i.1=7->i.2.2.1=3->i.2.2.2.2.1=2->o=3\/o=4)/\(i.1=9->i.2.1=3->i.2.2.2.2.1=2->o=3\/o=4):=by
 have z:i.1=7\/i.1=9->0<=i.2.2.2.1/\i.2.2.2.1<(l! t.2.1:Int):=λh=>hr _ (by
  unfold jC;(repeat' split)<;>simp<;>omega)
 have tr:∀{o:Int},¬i.1=7->¬i.1=9->(i.1=7->i.2.2.1=3->i.2.2.2.2.1=2->o=3\/o=4)/\(i.1=9->i.2.1=3->i.2.2.2.2.1=2->o=3\/o=4):=λh1 h2=>⟨λh=>(h1 h).elim,λh=>(h2 h).elim⟩
 have wk:∀{b r n:Int},b=3->n=2->(n=2->r=0\/r=1)->a_ .i64 (b+r)=3\/a_ .i64 (b+r)=4:=λh1 h2 A=>by
  rw[gr];omega
 refine aV (λx=>x.2=(i,t)/\(x.1=J->i.1=6\/i.1=27)) (aK (λh=>ak ⟨rfl,λ_=>.inl h⟩) λ_=>ak ⟨rfl,λh=>.inr (bi h)⟩) ?_;rintro⟨b,x⟩ ⟨e,hb⟩;subst e;refine aR (λh=>ak (tr (by grind) (by grind))) λ_=>?_
 refine aK (λh=>?_) λI=>?_
 .exact aP (z (.inl h)).1 (z (.inl h)).2 (aT (ay (YG _ _) λy L=>ak ⟨λ_ A h4=>wk A h4 L,λh9=>by dsimp only at h;omega⟩))
 refine aK (λh=>?_) λn9=>?_
 .exact aP (z (.inr h)).1 (z (.inr h)).2 (aT (ay (YG _ _) λy L=>ak ⟨λh7=>(I h7).elim,λ_ A h4=>wk A h4 L⟩))
 refine aV (λ_=>True) ?_ λx _=>aR (λ_=>ak (tr I n9)) λ_=>ak (tr I n9)
 with_reducible repeat' first|apply OS.ok;constructor|refine IM.mk λ_=>?_
 all_goals trivial
def at4 {w:WT} (A:w.1=C0) {n:Int} (h:AR w a n):a=3/\n=2:=by
 let⟨b0,b1,ix,sz,z⟩:=h;rw[A]at b1 ix sz z;have b1:a<5:=b1;rcases (by omega:a=0\/a=1\/a=2\/a=3\/a=4) with rfl|rfl|rfl|rfl|rfl
 .exact (sz rfl).elim
 .exact (sz rfl).elim
 .exact (sz rfl).elim
 .exact⟨rfl,z.symm⟩
 .exact bT ix (by decide)
def as9 {w:WT} (z:w.1=C0) (h:a=3\/a=4):¬(aI kF w.1 a).2.2.1=0:=by
 rw[z];rcases h with rfl|rfl<;>decide
structure PE (n:Nat) (c:CT) (s:ST) (t:Int) (e:ET):Prop where
 fs:FSx c s
 t0:0<=t
 t1:t<(l! c.2:Int)
 et:e.1=t
 d:l! e.2.2.2.2.2.1<=n
 f:l! e.2.2.2.2.2.2<=n
 a:e.2.1=3\/e.2.1=23\/e.2.1=5->0<=(aI sZ (aI zR c.2 t).2 (aI fw s.2.2.2 t).1).2.1/\(aI sZ (aI zR c.2 t).2 (aI fw s.2.2.2 t).1).2.1<((aI fw s.2.2.2 t).2.1.length:Int)
 b:e.2.1=4\/e.2.1=22->0<=(aI sZ (aI zR c.2 t).2 (aI fw s.2.2.2 t).1).2.2.1/\(aI sZ (aI zR c.2 t).2 (aI fw s.2.2.2 t).1).2.2.1<((aI fw s.2.2.2 t).2.1.length:Int)
structure PS (c:CT) (L:List ET) (s:ST) (t:Int) (e:ET):Prop where
 tg:TG c L s.1 t (aI fw s.2.2.2 t)
 s1:e.2.1=1\/e.2.1=2->e.2.2.2.2.1= -1
 s2:¬(e.2.1=1\/e.2.1=2)->0<=e.2.2.2.2.1/\e.2.2.2.2.1<l! c.1.2.2.2.2.2/\(aI qG c.1.2.2.2.2.2 e.2.2.2.2.1).1=t
 de:0<l! e.2.2.2.2.2.1->e.2.1=5\/(e.2.1=3\/e.2.1=4)/\¬(aI kF c.1.1 e.2.2.1).2.2.1=0
 fr:0<l! e.2.2.2.2.2.2->e.2.1=4\/e.2.1=22
 da:KB e.2.2.2.2.2.1
 dq:∀y∈e.2.2.2.2.2.1,FQ L t y
 fa:KB e.2.2.2.2.2.2
 fq:∀y∈e.2.2.2.2.2.2,FQ L t y
 wt:e.2.1=16->(aI sZ (aI zR c.2 t).2 (aI fw s.2.2.2 t).1).1=21
def ac1 (n:Nat) (hn:n<=100000) (c:CT) (L:Y ET) (s:ST) (hc:CB c) (hs:SV n L s) (hI:SIv c L s) (t:Int):Ok (pd (c,s,t)) λy=>y.2=J->PE n c s t y.1/\PS c L s t y.1:=by
 unfold pd be bA bM ct dF c_ bj bQ bV bJ aZ aH;refine aV (λx=>x.2.1=c/\x.2.2.1=s/\(x.1=af->FSx c s/\0<=t/\t<(l! c.2:Int))) ?_ ?_
 .refine ay (apw c s hc) λb hb=>?_
  refine eC (λ_=>ak ⟨rfl,rfl,nofun⟩) λh=>?_
  refine bD (λ_=>ak ⟨rfl,rfl,nofun⟩) λg0=>ak ⟨rfl,rfl,λg1=>?_⟩
  dsimp only at g0 g1;rw[mf]at g1;exact⟨hb h,g0,g1⟩
 rintro⟨b,I,s',z⟩ ⟨e1,e2,hb⟩;dsimp only at e1 e2 hb;subst e1 e2;refine aR (λ_=>ak nofun) λh=>?_
 let⟨hf,t0,t1⟩:=hb h;have hk:((t.toNat:Nat):Int)=t:=by omega
 have htf:=hf.t t.toNat (by omega);rw[hk]at htf;have hvt:=hf.vc.t _ (bC (T:=zR) (xs:=I.2) (j:=t) t0 t1);have hth:=hs.ti t0 (by rw[hf.th];exact t1);have key:∀e:ET,e.1=t->l! e.2.2.2.2.2.1<=n->l! e.2.2.2.2.2.2<=n->(e.2.1=1\/e.2.1=17\/KD (aI sZ (aI zR I.2 t).2 (aI fw s'.2.2.2 t).1).1 e.2.1)->PE n I s' t e:=by
  intro e h1 h2 h3 h4;have hi:=hvt.i _ (bC (T:=sZ) (xs:=(aI zR I.2 t).2) (j:=(aI fw s'.2.2.2 t).1) htf.p0 htf.p1);refine ⟨hf,t0,t1,h1,h2,h3,λh5=>?_,λh5=>?_⟩
  .rw[htf.r];rcases h4 with h4|h4|h4
   .omega
   .omega
   .refine hi.r _ ?_;have a1:=h4.ld;have a2:=h4.ge;have a3:=h4.br;revert a1 a2 a3 h5;generalize (aI sZ (aI zR I.2 t).2 (aI fw s'.2.2.2 t).1)=i;intro h5 a1 a2 a3;exact ash (by omega)
  .rw[htf.r];rcases h4 with h4|h4|h4
   .omega
   .omega
   .refine hi.r _ ?_;have a1:=h4.st;have a2:=h4.se;revert a1 a2 h5;generalize (aI sZ (aI zR I.2 t).2 (aI fw s'.2.2.2 t).1)=i;intro h5 a1 a2;exact asf (by omega)
 have hir:=(hvt.i _ (bC (T:=sZ) (xs:=(aI zR I.2 t).2) (j:=(aI fw s'.2.2.2 t).1) htf.p0 htf.p1)).r;rw[<- htf.r]at hir;have hrg:=hc.rg _ (bC (T:=zR) (xs:=I.2) (j:=t) t0 t1);have htg:TG I L s'.1 t (aI fw s'.2.2.2 t):=by
  have:=hI.t t.toNat (by rw[hf.th];omega);rw[hk]at this;refine this.resolve_left λh=>?_
  have:=htf.r;omega
 have hvj:=hf.vc.j t.toNat (by omega);rw[hk]at hvj;have hvj:=hvj _ (bC (T:=sZ) (xs:=(aI zR I.2 t).2) (j:=(aI fw s'.2.2.2 t).1) htf.p0 htf.p1);have hC0:=hc.wx.c;refine aP t0 (by dsimp only;rw[hf.th];exact t1) (aT ?_);refine aP t0 t1 (aT ?_);refine aP htf.p0 htf.p1 (aT ?_);have t4:t<(l! s'.1.2.2.2:Int):=by rw[hf.e3,<-hf.vc.tl];exact t1
 have tz:(aI fw s'.2.2.2 t).2.2.1.length=(aI fw s'.2.2.2 t).2.1.length:=by have:=htf.r;have:=htf.t;omega
 refine aP t0 t4 (aT ?_);refine aK (λ_=>ak λ_=>⟨key _ rfl (iQ _) (iQ _) (.inl rfl),⟨htg,λ_=>rfl,λh=>(h (.inl rfl)).elim,nofun,nofun,trivial,λy hy=>(by cases hy),trivial,λy hy=>(by cases hy),nofun⟩⟩) λ_=>?_
 refine aK (λh4=>aP t0 t4 (aT (ak λ_=>⟨key _ rfl (iQ _) (iQ _) (.inr (.inl rfl)),⟨htg,λh=>(by rcases h with h|h<;>cases h),λ_=>hvj.si (by rw[htg.wi (.inr h4)];decide),nofun,nofun,trivial,λy hy=>(by cases hy),trivial,λy hy=>(by cases hy),nofun⟩⟩))) λ_=>?_
 refine aK (λ_=>?_) λ_=>ak nofun
 refine ay (ap9 _) λk A=>?_
 refine ay (VQ _ _ hir) λo ho=>?_
 refine aK (λ_=>ak nofun) λhk0=>?_
 have fin:∀e:ET,e.1=t->e.2.1=k->e.2.2.1=o->e.2.2.2.2.1=(aI sZ (aI zR I.2 t).2 (aI fw s'.2.2.2 t).1).2.2.2.2.2->(0<l! e.2.2.2.2.2.1->(aI sZ (aI zR I.2 t).2 (aI fw s'.2.2.2 t).1).1=10\/(aI sZ (aI zR I.2 t).2 (aI fw s'.2.2.2 t).1).1=7\/(aI sZ (aI zR I.2 t).2 (aI fw s'.2.2.2 t).1).1=9)->(0<l! e.2.2.2.2.2.2->(aI sZ (aI zR I.2 t).2 (aI fw s'.2.2.2 t).1).1=8\/(aI sZ (aI zR I.2 t).2 (aI fw s'.2.2.2 t).1).1=9\/(aI sZ (aI zR I.2 t).2 (aI fw s'.2.2.2 t).1).1=26)->TL (FQ L t) n e.2.2.2.2.2.1->TL (FQ L t) n e.2.2.2.2.2.2->PE n I s' t e/\PS I L s' t e:=by
  intro e h1 h2 h3 h4 h5 h6 h7 h8;refine ⟨key e h1 h7.len h8.len (.inr (.inr (h2▸A))),htg,λh=>?_,λh=>?_,λh=>?_,λh=>?_,h7.a,h7.f,h8.a,h8.f,λh=>A.wt (h2▸h)⟩
  .rw[h4];rw[h2]at h;exact hvj.se (A.e1 (h.resolve_left A.n1))
  .rw[h4];rw[h2]at h;exact hvj.si λh9=>h (.inr (A.e2 hk0 h9))
  .rw[h2,h3];rcases h5 h with g|g|g
   .exact .inl (A.d10 hk0 g)
   .obtain⟨q1,q2⟩:=at4 hC0 (hvj.a7 g);exact .inr ⟨.inl (A.d7 hk0 g),as9 hC0 (ho.1 g q1 q2)⟩
   .obtain⟨q1,q2⟩:=at4 hC0 (hvj.a9 g);exact .inr ⟨.inr (A.d9 hk0 g),as9 hC0 (ho.2 g q1 q2)⟩
  .rw[h2];rcases h6 h with g|g|g
   .exact .inl (A.d8 hk0 g)
   .exact .inl (A.d9 hk0 g)
   .exact .inr (A.d26 hk0 g)
 clear key htg hvj ho hC0 hrg;revert fin htf hvt hth hir tz A;dsimp only;generalize (aI fw s'.2.2.2 t)=th;generalize (aI sZ _ th.1)=i;intro htf hvt hth hir tz A fin;have hlen:∀{j:Int},0<=j->j<(l! th.2.2.1:Int)->TL (FQ L t) n (aI (.sl (.int .i64)) th.2.2.1 j):=λh0 h1=>hth.l _ (bC (T:=.sl (.int .i64)) (xs:=th.2.2.1) h0 h1)
 have hA:i.1=10->0<=i.2.1/\i.2.1<(l! th.2.2.1:Int):=λh=>by
  rw[tz];exact hir _ (ash (.inr (.inr (.inr h))))
 have hB:i.1=8\/i.1=9\/i.1=26->0<=i.2.2.1/\i.2.2.1<(l! th.2.2.1:Int):=λh=>by
  rw[tz];exact hir _ (asf (h))
 have hC:i.1=7\/i.1=9->0<=i.2.2.2.1/\i.2.2.2.1<(l! th.2.2.1:Int):=λh=>by
  rw[tz];exact hir _ (ay3 (h))
 refine aV (λx=>x.2.1=th/\x.2.2.1=i/\(x.2.2.2.1.1=t/\x.2.2.2.1.2.1=k/\x.2.2.2.1.2.2.1=o/\x.2.2.2.1.2.2.2.2=i.2.2.2.2.2)/\TL (FQ L t) n x.2.2.2.2/\(0<l! x.2.2.2.2->i.1=10\/i.1=7\/i.1=9)) ?_ ?_
 .refine aK (λh=>?_) λ_=>?_
  .obtain⟨a0,a1⟩:=hA h;refine aP a0 a1 (aT ?_);have:=hlen a0 a1;exact bP (c7 this.len (by omega)) (by omega) (ak ⟨rfl,rfl,⟨rfl,rfl,rfl,rfl⟩,this,λ_=>.inl h⟩)
  refine aV (λx=>x.2.2.1=th/\x.2.2.2.1=i/\(x.2.2.2.2.1=t/\x.2.2.2.2.2.1=k/\x.2.2.2.2.2.2.1=o/\x.2.2.2.2.2.2.2.2=i.2.2.2.2.2)/\(x.1=J->i.1=7\/i.1=9)) ?_ ?_
  .refine aK (λh=>ak ⟨rfl,rfl,⟨rfl,rfl,rfl,rfl⟩,λ_=>.inl h⟩) λ_=>ak ⟨rfl,rfl,⟨rfl,rfl,rfl,rfl⟩,λh=>.inr (bi h)⟩
  rintro⟨b,z0,th',i',t',k',z1⟩ ⟨e1,e2,e3,hb9⟩;dsimp only at e1 e2 e3 hb9;subst e1 e2;refine aR (λh=>?_) λ_=>ak ⟨rfl,rfl,e3,TL.nil n,nofun⟩
  let⟨a0,a1⟩:=hC (hb9 h);refine aP a0 a1 (aT ?_);have:=hlen a0 a1;exact bP (c7 this.len (by omega)) (by omega) (ak ⟨rfl,rfl,e3,this,λ_=>.inr (hb9 h)⟩)
 rintro⟨z0,th',i',⟨t',k',z1⟩,ds⟩ ⟨e1,e2,e3,hd,hd2⟩;dsimp only at e1 e2 e3 hd hd2;subst e1 e2;refine aV (λx=>(x.2.1.1=t/\x.2.1.2.1=k/\x.2.1.2.2.1=o/\x.2.1.2.2.2.2=i'.2.2.2.2.2)/\x.2.2.1=ds/\TL (FQ L t) n x.2.2.2/\(0<l! x.2.2.2->i'.1=8\/i'.1=9\/i'.1=26)) ?_ ?_
 .refine aV (λx=>x.2=(z0,th',i',(t',k',z1),ds)/\(x.1=J->i'.1=8\/i'.1=9\/i'.1=26)) ?_ ?_
  .exact aK (λh=>ak ⟨rfl,λ_=>.inl h⟩) λ_=>aK (λh=>ak ⟨rfl,λ_=>.inr (.inl h)⟩) λ_=>ak ⟨rfl,λh=>.inr (.inr (bi h))⟩
  rintro⟨b,x⟩ ⟨e,hb9⟩;dsimp only at e hb9;subst e;refine aR (λh=>?_) λ_=>ak ⟨e3,rfl,TL.nil n,nofun⟩
  let⟨a0,a1⟩:=hB (hb9 h);refine aP a0 a1 (aT ?_);have:=hlen a0 a1;exact bP (c7 this.len (by omega)) (by omega) (ak ⟨e3,rfl,this,λ_=>hb9 h⟩)
 rintro⟨z2,⟨t2,k2,o2,z3,si⟩,d2,f2⟩ ⟨e1,e2,h1,h2⟩;dsimp only at e1 e2 h1 h2;subst e2;let⟨g1,g2,g3,g4⟩:=e1;exact ak λ_=>fin _ g1 g2 g3 g4 hd2 h2 hd h1
def att {n:Nat} {k:Int} (h0:0<=k) (h1:k<n):(aI hP (thP n) k).1=0\/(aI hP (thP n) k).1=1:=by
 have hm:=bC (T:=hP) (xs:=thP n) h0 (by rw[C8];exact h1);revert hm;generalize aI hP (thP n) k=z;intro hm;cases n with
 |zero=>cases hm
 |succ n=>
  rcases bh.1 hm with rfl|hm
  .exact .inr rfl
  .grind
def abz (c:CT) (hvt:kx c=Z J) (hv:VC c):Ok (wg c) λs=>SV 0 [] s/\SIv c [] s:=by
 unfold wg be bA bM cE ct dF c_ gy bQ wT bV bJ aZ cP aH cL;refine aX hvt (eC nofun λ_=>?_);let⟨vc,vl,vd,vf,_,vt,_⟩:=id hv.vl;have htl:=hv.tl;refine aX (O6 c.1 hv.vl) ?_;refine b9 (l! c.1.1) (λi x=>x.1=(i:Int)/\x.2.1=c/\x.2.2.2.1=KL c.1/\x.2.2.2.2=(c.1.1.take i).map λc=>c.2.2.2.2) ?_ ?_ ⟨rfl,rfl,rfl,rfl⟩
 .rintro i ⟨a,c',z,y',l⟩ hi ⟨e1,e2,I,A⟩;dsimp only at e1 e2 I A;subst e1 e2 I A;refine c8 ?_;refine b_ (aT (a! (ak ?_)));dsimp only;exact⟨gZ,rfl,rfl,by rw[nV (T:=kF) hi,cg];rfl⟩
 rintro⟨a,c',z,y',l⟩ ⟨e1,e2,I,A⟩;dsimp only at e1 e2 I A;subst e1 e2 I;rw[dh]at A;subst A;refine c9 ?_;refine ay (P:=λs=>SV 0 [] s/\SIv c' [] s) ?_ λr hr=>ak hr
 refine b9 (l! c'.1.2.2.2.1) (λi x=>x.1=(i:Int)/\x.2.1=c'/\x.2.2.2.1=KL c'.1/\x.2.2.2.2.1=ce0 c'.1/\x.2.2.2.2.2=aE i 0) ?_ ?_ ⟨rfl,rfl,rfl,rfl,rfl⟩
 .rintro i ⟨a,c,z,y,l,f⟩ hi ⟨e1,e2,I,A,L⟩;dsimp only at e1 e2 I A L;subst e1 e2 I L;refine c8 ?_;refine a! (ak ?_);dsimp only;exact⟨gZ,rfl,rfl,A,by rw[HP]⟩
 rintro⟨a,c,z,y,l,f⟩ ⟨e1,e2,I,A,L⟩;dsimp only at e1 e2 I A L;subst e1 e2 I A L;refine c9 ?_;refine ay (P:=λs=>SV 0 [] s/\SIv c [] s) ?_ λr hr=>ak hr
 refine b9 (l! c.2) (λi x=>x.1=(i:Int)/\x.2.1=c/\x.2.2.2.1=KL c.1/\x.2.2.2.2.1=ce0 c.1/\x.2.2.2.2.2.1=fu0 c.1/\l! x.2.2.2.2.2.2=i/\∀t∈x.2.2.2.2.2.2,(∀F,TH F 0 t)/\t.2.2.2=0) ?_ ?_ ⟨rfl,rfl,rfl,rfl,rfl,rfl,λt ht=>(by cases ht)⟩
 .rintro i ⟨a,c,z,y,l,f,th⟩ hi ⟨e1,e2,I,A,e4b,L,e6⟩;dsimp only at e1 e2 I A e4b L e6;subst e1 e2 I;refine c8 ?_;have hin:((i:Nat):Int)<(l! c.2:Int):=by omega
  have hvt:=hv.t _ (bC (T:=zR) (xs:=c.2) (j:=(i:Int)) (by omega) hin);have q0:=hvt.r0;have q1:=hvt.r1;refine aP (by simp) hin (aT ?_);refine cW (cW (dG q0 (dG (eS _) (bP (by grind) (by omega) ?_))));refine aP (by simp) hin (aT ?_);refine cW (cW (dG q0 (dG (eS _) (bP (by grind) (by omega) ?_))));refine a! (ak ?_);dsimp only;refine ⟨gZ,rfl,rfl,A,e4b,by simp;omega,λt ht=>?_⟩;rcases cq.1 ht with h|h
  .exact e6 t h
  .rw[aG]at h;subst h;refine ⟨λF=>⟨?_,?_,λl hl=>?_,eS _,eS _⟩,rfl⟩
   .grind
   .grind
   .rw[z_ hl];exact TL.nil 0
 .rintro⟨a,c,z,y,l,f,th⟩ ⟨e1,e2,I,A,e4b,L,e6⟩;dsimp only at e1 e2 I A e4b L e6;subst e1 e2 I A e4b;refine c9 (ak ?_);have hm:∀k:Nat,k<l! th->_:=λk hk=>e6 _ (bC (T:=fw) (xs:=th) (j:=(k:Int)) (by omega) (by omega))
  refine ⟨⟨Y8 hv.vl,rfl,λk hk=>(hm k hk).1 _⟩,⟨.nil,λk hk=>.inr ?_⟩⟩;dsimp only at hk;have hst:=att (n:=l! c.1.2.2.2.2.1) (k:=(k:Int)) (by omega) (by omega);exact⟨(hm k hk).2,λh=>(by rcases hst with q|q<;>rcases h with h|h<;>exact bT (q.symm.trans h) (by decide)),λ_=>hst⟩
def Mb {x j:Int} (h0:0<=a) (h1:a<l! Q) (z:0<=j):(aI hP (xl Q a x) j).1=if j=a then x else (aI hP Q j).1:=by
 unfold xl;rw[mi (T:=hP) _ _ _ _ h0 h1 z];split<;>rfl
def asx {x j:Int} (h0:0<=a) (h1:a<l! Q) (z:0<=j):(aI hP (cdP Q a x) j).1=(aI hP Q j).1:=by
 unfold cdP;rw[mi (T:=hP) _ _ _ _ h0 h1 z];split
 next h=>rw[h]
 .rfl
def at3 {j:Int} (h0:0<=a) (h1:a<l! Q) (z:0<=j):(aI hP (atP Q a b) j).1=(aI hP Q j).1:=by
 unfold atP;rw[mi (T:=hP) _ _ _ _ h0 h1 z];split
 next h=>rw[h]
 .rfl
def asp (A:0<=a):∀(l:η) (th:Y c!),(∀u:Int,u∈l->0<=u/\u<l! th)->(aI hP (F_ th l) a).1=if a∈l then 4 else (aI hP th a).1
 |[],th,_=>by simp[F_]
 |x::r,th,h=>by
  have z:=h x (dK ..);have I:=asp A r (xl th x 4) λu L=>by unfold xl;rw[bN];exact h u (cY _ L)
  have e:F_ th (x::r)=F_ (xl th x 4) r:=rfl;rw[e,I,Mb z.1 z.2 A]
  grind
def Yg {w:WT} {s:SY} {k o u v:Int} {A:SY} (h:(A,v)=kT w s a k o u):kT w s a k o v=(A,v):=by
 by_cases I:k=18
 .subst I;rw[CX]at h ⊢;by_cases z:l! (wl s.2.2.2 o (l! s.2.2.2))=0
  .grind
  .rw[av z]at h ⊢;have hm:=Dw u z;generalize wl s.2.2.2 o (l! s.2.2.2)=l at h z hm ⊢;obtain⟨rfl,rfl⟩:=Prod.mk.inj h;have:BQ l (BQ l u)=BQ l u:=by
    rw[BQ,av z,aC (iX.2 hm)]
   rw[this]
 .rw[Ye _ _ _ _ _ _ u I,<-h]
def av3 {w:WT} {s:SY} {k o:Int} (u:Int) (he:EN w s a k o) (hr:QK w s a k o) {j:Int} (h0:0<=j):(¬j=a->(aI hP (kT w s a k o u).1.2.2.2 j).1=(aI hP s.2.2.2 j).1\/((aI hP s.2.2.2 j).1=3/\(aI hP (kT w s a k o u).1.2.2.2 j).1=4)\/((aI hP s.2.2.2 j).1=0/\(aI hP (kT w s a k o u).1.2.2.2 j).1=1))/\(j=a->¬k=16->¬(aI hP (kT w s a k o u).1.2.2.2 j).1=3/\¬(aI hP (kT w s a k o u).1.2.2.2 j).1=4):=by
 have t0:=he.t0;have t1:a<l! s.2.2.2:=by have:=he.t1;have:=he.e3;omega
 have A:=hr.r;have hml:∀u:Int,u∈wl s.2.2.2 o (l! s.2.2.2)->0<=u/\u<l! s.2.2.2:=λu hu=>⟨(oz.1 hu).1,(oz.1 hu).2.1⟩
 have h3:∀u:Int,u∈wl s.2.2.2 o (l! s.2.2.2)->(aI hP s.2.2.2 u).1=3:=λu hu=>by
  have:=(oz.1 hu).2.2;unfold FA at this;rw[al]at this;exact bi this.1
 have same:¬k=1->¬k=17->∀th:Y c!,(aI hP th j).1=(aI hP s.2.2.2 j).1->(¬j=a->(aI hP th j).1=(aI hP s.2.2.2 j).1\/((aI hP s.2.2.2 j).1=3/\(aI hP th j).1=4)\/((aI hP s.2.2.2 j).1=0/\(aI hP th j).1=1))/\(j=a->¬k=16->¬(aI hP th j).1=3/\¬(aI hP th j).1=4):=λt b th h=>⟨λ_=>.inl h,λh2 _=>by rw[h,h2,A t b];decide⟩
 have st:∀x:Int,¬x=3\/k=16->¬x=4->∀th:Y c!,(aI hP th j).1=(if j=a then x else (aI hP s.2.2.2 j).1)->(¬j=a->(aI hP th j).1=(aI hP s.2.2.2 j).1\/((aI hP s.2.2.2 j).1=3/\(aI hP th j).1=4)\/((aI hP s.2.2.2 j).1=0/\(aI hP th j).1=1))/\(j=a->¬k=16->¬(aI hP th j).1=3/\¬(aI hP th j).1=4):=λx hx hx4 th h=>⟨λhn=>.inl (by rw[h,av hn]),λh2 h16=>by rw[h,aC h2];exact⟨hx.resolve_right h16,hx4⟩⟩
 have L:∀x:Int,a<l! (xl s.2.2.2 a x):=λx=>by unfold xl;rw[bN];exact t1
 by_cases k1:k=1
 .subst k1;exact st 2 (.inl (by decide)) (by decide) _ (Mb t0 t1 h0)
 by_cases k2:k=2
 .subst k2;exact st 5 (.inl (by decide)) (by decide) _ (Mb t0 t1 h0)
 by_cases k16:k=16
 .subst k16;exact st 3 (.inr rfl) (by decide) _ ((asx t0 (L _) h0).trans (Mb t0 t1 h0))
 by_cases k17:k=17
 .subst k17;exact st 2 (.inl (by decide)) (by decide) _ ((asx t0 (L _) h0).trans (Mb t0 t1 h0))
 by_cases k14:k=14
 .subst k14;exact same k1 k17 _ (at3 t0 t1 h0)
 by_cases k15:k=15
 .subst k15;exact same k1 k17 _ (at3 t0 t1 h0)
 by_cases k18:k=18
 .subst k18;rw[CX];by_cases hl:l! (wl s.2.2.2 o (l! s.2.2.2))=0
  .rw[aC hl];exact same k1 k17 _ rfl
  .rw[av hl];have hc:=Dw u hl;have hc1:=hml _ hc;have z:=h3 _ hc;dsimp only;rw[Mb hc1.1 hc1.2 h0];generalize BQ (wl s.2.2.2 o (l! s.2.2.2)) u=c at z;by_cases I:j=c
   .rw[aC I,I];exact⟨λ_=>.inr (.inl ⟨z,rfl⟩),λh _=>by rw[h,A k1 k17]at z;exact bT z (by decide)⟩
   .rw[av I];exact⟨λ_=>.inl rfl,λh _=>by rw[h,A k1 k17];decide⟩
 by_cases k19:k=19
 .subst k19;show (_->(aI hP (F_ _ _) j).1=_\/_/\(aI hP (F_ _ _) j).1=_\/_/\(aI hP (F_ _ _) j).1=_)/\(_->_->¬(aI hP (F_ _ _) j).1=_/\¬(aI hP (F_ _ _) j).1=_)
  rw[asp h0 _ _ hml];by_cases I:j∈wl s.2.2.2 o (l! s.2.2.2)
  .rw[aC I];have z:=h3 _ I;exact⟨λ_=>.inr (.inl ⟨z,rfl⟩),λh _=>by rw[h,A k1 k17]at z;exact bT z (by decide)⟩
  .rw[av I];exact⟨λ_=>.inl rfl,λh _=>by rw[h,A k1 k17];decide⟩
 by_cases k20:k=20
 .subst k20;let⟨o0,o1⟩:=he.nm.th (.inl rfl);let⟨hot,ho0⟩:=hr.sp rfl;have o1':o<l! s.2.2.2:=by rw[he.e3];exact o1
  show (_->(aI hP (xl _ _ _) j).1=_\/_/\(aI hP (xl _ _ _) j).1=_\/_/\(aI hP (xl _ _ _) j).1=_)/\(_->_->¬(aI hP (xl _ _ _) j).1=_/\¬(aI hP (xl _ _ _) j).1=_)
  rw[Mb o0 o1' h0];by_cases I:j=o
  .rw[aC I,I];exact⟨λ_=>.inr (.inr ⟨ho0,rfl⟩),λh _=>(hot h).elim⟩
  .rw[av I];exact⟨λ_=>.inl rfl,λh _=>by rw[h,A k1 k17];decide⟩
 refine same k1 k17 _ ?_;unfold kT;rw[av k1,av k2];repeat' split
 all_goals first|rfl|omega
def apv {e e':ET} (h1:e'.1=e.1) (z:e'.2.1=e.2.1) (t:Int):fl [e'] t=fl [e] t:=by
 by_cases h:e.1=t
 .rw[yf h,yf (h1.trans h)];unfold LG;rw[z]
 .rw[uE h,uE (λg=>h (h1.symm.trans g))]
def arz {e e':ET} (h1:e'.1=e.1) (z:e'.2.1=e.2.1) {y:Int} (h:FQ (L++[e]) a y):FQ (L++[e']) a y:=by
 unfold FQ EI at h ⊢;rw[tO,apv h1 z,<-tO];exact h
def Ni {T:Ty} (xs:Y T.den) (i k:Nat) (x:T.den) (hi:i<l! xs):aI _ (xs.set i x) (k:Int)=if k=i then x else aI _ xs (k:Int):=by
 refine (mi xs (i:Int) (k:Int) x (by omega) (by omega) (by omega)).trans ?_
 grind
abbrev C!:=ST×ET×Bool
def SQ (n:Nat) (c:CT) (L:Y ET) (y:C!):Prop:=y.2.2=J->SV (n+1) (L++[y.2.1]) y.1/\SIv c (L++[y.2.1]) y.1/\EvF c.1 y.2.1/\EvS y.2.1
def arc (hn:m+1<=100000) {c:CT} {s:ST} {o v0 ds:Int} {fs:η} {sy:SY} (hs:SV m L s) (hI:SIv c L s) (hp:PE m c s (i:Int) ((i:Int),a,o,v0,ds,z,fs)) (hm:PS c L s (i:Int) ((i:Int),a,o,v0,ds,z,fs)) (he:EN c.1 s.1 (i:Int) a o) (hr:QK c.1 s.1 (i:Int) a o) (ha:AP m s.1 sy) (A:Int) (ce fu:η) (t':TT) (hap:(kT c.1 s.1 (i:Int) a o A).1=sy) (hva:VA c.1 s.1 s.2.1 s.2.2.1 (i:Int) a o A) (hce:ce=ceP s.2.1 ((i:Int),a,o,A,ds,z,fs)) (hfu:fu=fuP s.2.2.1 ((i:Int),a,o,A,ds,z,fs)) (ht:TH (FQ (L++[((i:Int),a,o,v0,ds,z,fs)]) (i:Int)) (m+1) t') (hg:l! t'.2.1=0\/t'.2.2.2=a_ .i64 ((aI fw s.2.2.2 (i:Int)).2.2.2+1)/\(a=16->t'.1=(aI fw s.2.2.2 (i:Int)).1)):SQ m c L ((sy,ce,fu,s.2.2.2.set i t'),((i:Int),a,o,A,ds,z,fs),J):=by
 intro _;have q1:=hp.t1;have q2:=hp.fs.th;have hil:i<l! s.2.2.2:=by omega
 have hln:=hs.ln;refine ⟨⟨ha.toSB hs.sb hn,by simp[hln],λk hk=>?_⟩,⟨?_,λk hk=>?_⟩,⟨he.nm,he.t0,he.t1,he.cd⟩,⟨c7 hp.d (by omega),c7 hp.f (by omega)⟩⟩
 .dsimp only at hk ⊢;rw[fV]at hk;rw[Ni (T:=fw) _ _ _ _ hil];split
  next h=>subst h;exact ht.mono (bK _) λy I=>arz (e:=((k:Int),a,o,v0,ds,z,fs)) (e':=((k:Int),a,o,A,ds,z,fs)) rfl rfl I
  .exact (hs.t k hk).mono (by omega) λy I=>⟨I.1,I.2.app _⟩
 .rw[<- hap,hce,hfu];exact hI.ac.snoc (e:=((i:Int),a,o,A,ds,z,fs)) ⟨he,hr,hm.s1,hm.s2,hm.de,hm.fr,⟨hm.da,λx hx=>⟨(hm.dq x hx).1,(hm.dq x hx).2.lt⟩⟩,⟨hm.fa,λx hx=>⟨(hm.fq x hx).1,(hm.fq x hx).2.lt⟩⟩,λy I=>(hm.dq y I).2,λy I=>(hm.fq y I).2,hva⟩
 .dsimp only at hk ⊢;rw[fV]at hk;rw[Ni (T:=fw) _ _ _ _ hil];let⟨Pq,st2⟩:=av3 A he hr (j:=(k:Int)) (by omega);rw[hap]at Pq st2;have hfl:=Bp L (i:Int);split
  .rename_i h;subst h;rcases hg with hg|⟨g1,g2⟩
   .exact .inl hg
   .refine .inr ⟨?_,λhw=>?_,λhz=>?_⟩
    .rw[g1,hm.tg.ev,tO,yf rfl,gZ];simp
    .have h16:a=16:=xT λh=>hw.elim (st2 rfl h).1 (st2 rfl h).2
     rw[g2 h16];exact hm.wt h16
    .rw[tO,yf rfl]at hz;simp at hz
  .rename_i h;have hki:¬(k:Int)=(i:Int):=by omega
   have hfo:∀e:ET,e.1=(i:Int)->fl (L++[e]) (k:Int)=fl L (k:Int):=λe h=>by
    rw[tO,uE (by omega),kQ]
   have Pq:=Pq hki;refine (hI.t k hk).imp id λg=>⟨by rw[hfo _ rfl];exact g.ev,λhw=>g.wi (by
    rcases Pq with h1|⟨h1,_⟩|⟨_,h1⟩
    .rw[<- h1];exact hw
    .exact .inl h1
    .exact hw.elim (λh=>bT (h1.symm.trans h) (by decide)) λh=>bT (h1.symm.trans h) (by decide)),λhz=>?_⟩
   rw[hfo _ rfl]at hz;have g2:=g.nw hz
   grind
def Zl {α:Type} (o:M α):ax o (λ_=>(U:M R))=U:=by cases o<;>rfl
def alx (b:Bool):chk b (λ_=>(U:M R))=U:=by cases b<;>rfl
def ap8 {α:Type} (x:α):lt x (λ_=>(U:M R))=U:=rfl
def OkN (o:M R) (Q:R->Prop):Prop:=o=U\/Ok o Q
def OkN.or {a b:M R} {Q:R->Prop} (A:OkN a Q) (z:OkN b Q):OkN (orE a b) Q:=by
 rcases A with rfl|⟨y,rfl,h⟩
 .exact z
 .exact .inr ⟨y,rfl,h⟩
def Ok.orL {a b:M R} {Q:R->Prop} (z:Ok a Q):Ok (orE a b) Q:=by
 obtain⟨y,rfl,h⟩:=z;exact⟨y,rfl,h⟩
def OkN.orR {a b:M R} {Q:R->Prop} (A:OkN a Q) (z:Ok b Q):Ok (orE a b) Q:=by
 rcases A with rfl|⟨y,rfl,h⟩
 .exact z
 .exact⟨y,rfl,h⟩
def Ma (hn:i+1<=100000) {c:CT} {s:ST} {u:Int} (hc:CB c) (hs:SV i L s) (hI:SIv c L s) (G:M C!->Prop) (hG:∀y,SQ i c L y->G (Z y)) (k:ET×Bool->SY×j!->M C!)
 (hk:∀e v A,PE i c s a e->PS c L s a e->EN c.1 s.1 a e.2.1 e.2.2.1->QK c.1 s.1 a e.2.1 e.2.2.1->AP i s.1 A->(A,v)=kT c.1 s.1 a e.2.1 e.2.2.1 u->G (k (e,J) (A,v,J))):
 G (ax (pd (c,s,a)) λz=>aJ (!z.2) (Z ((([],0,[],[]),[],[],[]),(0,0,0,0,0,[],[]),af)) (ax (oK (c.1,s.1,a,z.1.2.1,z.1.2.2.1,u)) λI=>aJ (!I.2.2) (Z ((([],0,[],[]),[],[],[]),(0,0,0,0,0,[],[]),af)) (k z I))):=by
 have hz:=hG ((([],0,[],[]),[],[],[]),(0,0,0,0,0,[],[]),af) nofun
 let⟨⟨e,b⟩,h1,h2⟩:=ac1 i (by omega) c L s hc hs hI a;rw[h1,UV];cases b with
 |false=>exact hz
 |true=>
  let⟨hp,hm⟩:=h2 rfl;have hcd:l! c.1.2.2.1<=1000:=by have:=hp.fs.vc.vl.d;omega
  let⟨⟨A,v,b⟩,h3,h4,_,_⟩:=HM c.1 s.1 hs.sb hcd a e.2.1 e.2.2.1 u;have e0:∀{R:Type} (t b:M R),aJ (!J) t b=b:=λ_ _=>rfl
  rw[e0,h3,UV];cases b with
  |false=>exact hz
  |true=>grind
def kdx (k:Int):k=1\/k=16\/k=2\/k=3\/k=23\/k=4\/k=22\/k=5\/((k=1)=False/\(k=16)=False/\(k=2)=False/\(k=3)=False/\(k=23)=False/\(k=4)=False/\(k=22)=False/\(k=5)=False):=by grind
def KR (n:Nat) (c0:CT) (L:Y ET) (i:Nat) (u:Int) (l:Y TT) (z:R) (k:Int->(CT×SY×(ν)×Int×(υ)×ET×(ν)×(η)×(η)×R×(η)×Y η)->M C!):Prop:=
 ∀(F:Int->Prop) (p:Int) (sy:SY) (kd o v si:Int) (ds fs ce fu A:η) (T:Y η) (ev:Int),
  (kd≠16->kd≠2->Ok (oL (aI zR c0.2 (i:Int),(p,A,T,a_ .i64 (ev+1)))) λy=>TH F (n+1) y.1/\(l! y.1.2.1=0\/y.1.2.2.2=a_ .i64 (ev+1)))->
  (kd=16\/kd=2->TH F (n+1) (p,A,T,a_ .i64 (ev+1)))->
  (∀I,TH F (n+1) I->(l! I.2.1=0\/I.2.2.2=a_ .i64 (ev+1)/\(kd=16->I.1=p))->SQ n c0 L ((sy,ce,fu,l.set i I),((i:Int),kd,o,v,si,ds,fs),J))->(i:Int)<(l! c0.2:Int)->
  ∀pc,Ok (k p (c0,sy,((i:Int),u),0,(0,0,0,0,0),((i:Int),kd,o,v,si,ds,fs),(pc,ev),ce,fu,z,A,T)) (SQ n c0 L)
def EE (N n:Nat) {cp:SY×(η)×(η)×Y TT->M (Int×(Y (Int×η))×(θ)×(Y (Int×Int×Bool))×(η)×(η)×R×(η)×Y η)} {pc ev:R->Int} {k:Int->(CT×SY×(ν)×Int×(υ)×ET×(ν)×(η)×(η)×R×(η)×Y η)->M C!} (hn:i+1<=100000) (c0:CT) (L:Y ET) (s:ST) (t u:Int) (hc:CB c0) (hs:SV i L s) (hI:SIv c0 L s)
 (h0:∀sy ce fu (l:Y TT),l! l<=4->l! l≠N->cp (sy,ce,fu,l)=U)
 (h1:∀sy ce fu (l:Y TT),SV i L (sy,ce,fu,l)->l! ce<=1000->l! fu<=1000->l! l=N->n<N/\∃y,cp (sy,ce,fu,l)=Z y/\y.2.2.2.2.1=ce/\y.2.2.2.2.2.1=fu/\y.2.2.2.2.2.2.2.1=(aI fw l (n:Int)).2.1/\y.2.2.2.2.2.2.2.2=(aI fw l (n:Int)).2.2.1/\pc y.2.2.2.2.2.2.1=(aI fw l (n:Int)).1/\ev y.2.2.2.2.2.2.1=(aI fw l (n:Int)).2.2.2/\KR i c0 L n u l y.2.2.2.2.2.2.1 k):
 OkN (SG (n:Int) cp pc ev k (c0,s,t,u)) (SQ i c0 L)/\(l! s.2.2.2=N->t=(n:Int)->Ok (SG (n:Int) cp pc ev k (c0,s,t,u)) (SQ i c0 L)):=by
 by_cases hz:l! s.2.2.2=N/\t=(n:Int)
 .obtain⟨hz1,rfl⟩:=hz;suffices h:Ok (SG (n:Int) cp pc ev k (c0,s,(n:Int),u)) (SQ i c0 L) from ⟨.inr h,λ_ _=>h⟩
  unfold SG zW HN Prod.r be bA bM cE fe kZ vu Ac Prod.p Pk Prod.D ct dF vq Lu ck bj bJ lx aH;refine Ma hn hc hs hI (λo=>Ok o (SQ i c0 L)) (λy h=>ak h) _ λe v sy hp hm he hr ha hq=>?_
  let⟨sy0,ce,fu,l⟩:=s;let⟨e1,kd,o,e4,site,ds,fs⟩:=e;have het:=hp.et;dsimp only at hz1 he hr ha hq het;subst het;have vl:=hp.fs.vc.vl;have hce:=hp.fs.ce;have hfu:=hp.fs.fu;dsimp only at hce hfu;let⟨hiN,⟨q1,q2,q3,q4,ce',fu',z,R0,T0⟩,hcp,g1,g2,g3,g4,hpc,hve,hk⟩:=h1 sy0 ce fu l hs (by have:=vl.c;omega) (by have:=vl.f;omega) hz1;dsimp only at g1 g2 g3 g4 hpc hve hk;rw[g1,g2,g3,g4]at hcp;let⟨_,_,nmce,_,_,_,nmfu,_,_,_⟩:=id he.nm;have t1:(n:Int)<(l! c0.2:Int):=hp.t1;have htf:TF (aI zR c0.2 (n:Int)) (aI fw l (n:Int)):=hp.fs.t n (by omega);have hA:=hp.a;have hB:=hp.b;dsimp only at hA hB;have hvt:=hp.fs.vc.t _ (bC (T:=zR) (xs:=c0.2) (j:=(n:Int)) (by omega) t1);have hci:=hc.ins _ (bC (T:=zR) (xs:=c0.2) (j:=(n:Int)) (by omega) t1);have hth:TH (FQ L (n:Int)) i (aI fw l (n:Int)):=hs.t n (by dsimp only;omega);have done:=arc hn hs hI hp hm he hr ha;have htg:=hm.tg;have hrun:=hr.r;dsimp only at done htg;have hgv:kd=3\/kd=23->FQ (L++[((n:Int),kd,o,e4,site,ds,fs)]) (n:Int) (aI fw l (n:Int)).2.2.2:=λh3=>by
   have I:=hrun (by omega) (by omega);have hn0:¬l! (fl L (n:Int))=0:=λh=>(htg.nw h).elim (λg=>bT (I.symm.trans g) (by decide)) λg=>bT (I.symm.trans g) (by decide)
   refine ⟨by rw[htg.ev];omega,EI.last (e:=((n:Int),kd,o,e4,site,ds,fs)) ?_ htg.ev⟩;unfold LG;rcases h3 with h|h
   .rw[aU h];rfl
   .simp[h]
  have vaA:¬kd=3->¬kd=23->¬kd=5->VA c0.1 sy0 ce fu (n:Int) kd o v:=λa b c=>⟨λh=>(a h).elim,λh=>(b h).elim,λh=>(c h).elim,λ_ _ _ _ _=>by rw[Yg hq]⟩
  have apA:(kT c0.1 sy0 (n:Int) kd o v).1=sy:=by rw[Yg hq]
  have apB:¬kd=18->∀v',(kT c0.1 sy0 (n:Int) kd o v').1=sy:=λh v'=>by rw[Ye _ _ _ _ _ _ u h,<-hq]
  have keep:∀x∈(aI fw l (n:Int)).2.2.1,TL (FQ (L++[((n:Int),kd,o,e4,site,ds,fs)]) (n:Int)) (i+1) x:=λx hx=>(hth.l x hx).mono (by omega) λy hy=>⟨hy.1,hy.2.app _⟩
  clear g3 g4 hm hI hrun htg;revert done hgv keep;generalize FQ (L++[((n:Int),kd,o,e4,site,ds,fs)]) (n:Int)=F;generalize aI fw l (n:Int)=th at hcp hpc hve htf hA hB hth ⊢;intro done hgv keep;refine aX hcp ?_;dsimp only;rw[hpc,hve];refine qu (aU rfl) ?_;refine aP (by omega) t1 (aT (aP htf.p0 htf.p1 (aT ?_)));have htz:l! th.2.2.1=l! th.2.1:=by have:=htf.r;have:=htf.t;omega
  have fin:∀(p:Int) (A:η) (T:Y η),l! A=l! th.2.1->l! T=l! th.2.2.1->(∀x∈T,TL F (i+1) x)->Ok (oL (aI zR c0.2 (n:Int),(p,A,T,a_ .i64 (th.2.2.2+1)))) λy=>TH F (i+1) y.1/\(l! y.1.2.1=0\/y.1.2.2.2=a_ .i64 (th.2.2.2+1)):=λp A T h1 I h3=>by
   have a1:=hth.e0;have a2:=hth.e1;have a3:=hth.r;have a4:=hth.t;rw[gr (n:=th.2.2.2+1) (by omega) (by omega)];exact ahs (i+1) hn _ hci hvt _ ⟨by dsimp only;omega,by dsimp only;omega,h3,by dsimp only;omega,by dsimp only;omega⟩
  have mark:kd=3\/kd=23->∀j:Int,∀x∈ca th.2.2.1 j [th.2.2.2],TL F (i+1) x:=λh3 j x hx=>by
   rcases FM hx with h|h
   .exact keep x h
   .rw[h];exact⟨⟨λy hy=>(by cases hy),trivial⟩,λy hy=>by rw[aG]at hy;have:=hth.e0;have:=hth.e1;rw[hy];exact⟨by omega,by omega⟩,λy hy=>by rw[aG]at hy;rw[hy];exact hgv h3⟩
  have nopark:TH F (i+1) (th.1,th.2.1,th.2.2.1,a_ .i64 (th.2.2.2+1)):=by
   have a1:=hth.e0;have a2:=hth.e1;rw[gr (n:=th.2.2.2+1) (by omega) (by omega)];exact⟨hth.r,hth.t,keep,by dsimp only;omega,by dsimp only;omega⟩
  clear hp hs hc h0 h1 hcp g1 g2 hr ha hq he;generalize (aI sZ (aI zR c0.2 (n:Int)).2 th.1)=ins at hA hB ⊢;rcases kdx kd with rfl|rfl|rfl|rfl|rfl|rfl|rfl|rfl|⟨k1,k2,k3,k4,k5,k6,k7,k8⟩
  case inr.inr.inr.inr.inr.inr.inr.inr=>
   simp only[k1,k2,k3,k4,k5,k6,k7,k8,bO,dD,Pr];refine hk F _ _ _ _ _ _ _ _ _ _ _ _ _ (λ_ _=>fin _ _ _ rfl rfl keep) (λh=>by rw[k2,k3]at h;exact (h.elim id id).elim) (λt' h g=>?_) t1 _;exact done v ce fu t' apA (vaA (of_eq_false k4) (of_eq_false k5) (of_eq_false k8)) (av (of_eq_false k6)).symm (av (of_eq_false k7)).symm h (g.imp id λh=>⟨h.1,λI=>(of_eq_false k2 I).elim⟩)
  all_goals simp only[bO,dD,Pr]
  .refine hk F _ _ _ _ _ _ _ _ _ _ _ _ _ (λ_ _=>fin _ _ _ rfl rfl keep) (λh=>by omega) (λt' h g=>?_) t1 _;exact done v ce fu t' apA (vaA (by decide) (by decide) (by decide)) rfl rfl h (g.imp id λh=>⟨h.1,nofun⟩)
  .refine hk F _ _ _ _ _ _ _ _ _ _ _ _ _ (λh _=>(h rfl).elim) (λ_=>nopark) (λt' h g=>?_) t1 _;exact done v ce fu t' apA (vaA (by decide) (by decide) (by decide)) rfl rfl h g
  .refine hk F _ _ _ _ _ _ _ _ _ _ _ _ _ (λ_ h=>(h rfl).elim) (λ_=>nopark) (λt' h g=>?_) t1 _;exact done v ce fu t' apA (vaA (by decide) (by decide) (by decide)) rfl rfl h (g.imp id λh=>⟨h.1,nofun⟩)
  .obtain⟨o0,o1⟩:=nmce (.inl rfl);rw[<- hce]at o1;let⟨a0,a1⟩:=hA (.inl rfl);have a2:ins.2.1<(l! th.2.2.1:Int):=by rw[htz];exact a1
   refine gP (aP o0 o1 (aP o0 o1 (ak ?_)));simp only[bO,dD,Pr];refine gP (aP a0 a1 (aP a0 a1 (aP a0 a2 (aP a0 a2 (ak ?_)))));refine hk F _ _ _ _ _ _ _ _ _ _ _ _ _ (λ_ _=>fin _ _ _ (bN ..) (bN ..) (mark (.inl rfl) _)) (λh=>by omega) (λt' h g=>?_) t1 _;exact done _ ce fu t' (apB (by decide) _) ⟨λ_=>rfl,nofun,nofun,λh=>(h rfl).elim⟩ rfl rfl h (g.imp id λh=>⟨h.1,nofun⟩)
  .obtain⟨o0,o1⟩:=nmfu (.inr rfl);rw[<- hfu]at o1;let⟨a0,a1⟩:=hA (.inr (.inl rfl));have a2:ins.2.1<(l! th.2.2.1:Int):=by rw[htz];exact a1
   refine gP (aP o0 o1 (aP o0 o1 (ak ?_)));simp only[bO,dD,Pr];refine gP (aP a0 a1 (aP a0 a1 (aP a0 a2 (aP a0 a2 (ak ?_)))));refine hk F _ _ _ _ _ _ _ _ _ _ _ _ _ (λ_ _=>fin _ _ _ (bN ..) (bN ..) (mark (.inr rfl) _)) (λh=>by omega) (λt' h g=>?_) t1 _;exact done _ ce fu t' (apB (by decide) _) ⟨nofun,λ_=>rfl,nofun,λ_ h=>(h rfl).elim⟩ rfl rfl h (g.imp id λh=>⟨h.1,nofun⟩)
  .obtain⟨o0,o1⟩:=nmce (.inr rfl);rw[<- hce]at o1;let⟨a0,a1⟩:=hB (.inl rfl);refine gP (aP a0 a1 (aP a0 a1 (aP o0 o1 (aP o0 o1 (ak ?_)))));simp only[bO,dD,Pr];refine hk F _ _ _ _ _ _ _ _ _ _ _ _ _ (λ_ _=>fin _ _ _ rfl rfl keep) (λh=>by omega) (λt' h g=>?_) t1 _;exact done _ _ fu t' (apB (by decide) _) ⟨nofun,nofun,nofun,λ_ _ _ h=>(h rfl).elim⟩ rfl rfl h (g.imp id λh=>⟨h.1,nofun⟩)
  .obtain⟨o0,o1⟩:=nmfu (.inl rfl);rw[<- hfu]at o1;let⟨a0,a1⟩:=hB (.inr rfl);refine gP (aP a0 a1 (aP a0 a1 (aP o0 o1 (aP o0 o1 (ak ?_)))));simp only[bO,dD,Pr];refine hk F _ _ _ _ _ _ _ _ _ _ _ _ _ (λ_ _=>fin _ _ _ rfl rfl keep) (λh=>by omega) (λt' h g=>?_) t1 _;exact done _ ce _ t' (apB (by decide) _) ⟨nofun,nofun,nofun,λ_ _ _ _ h=>(h rfl).elim⟩ rfl rfl h (g.imp id λh=>⟨h.1,nofun⟩)
  .obtain⟨a0,a1⟩:=hA (.inr (.inr rfl));refine gP (aP a0 a1 (aP a0 a1 (aK (λ_=>ak ?_) λ_=>ak ?_)));all_goals
    simp only[bO,dD,Pr];refine hk F _ _ _ _ _ _ _ _ _ _ _ _ _ (λ_ _=>fin _ _ _ rfl rfl keep) (λh=>by omega) (λt' h g=>?_) t1 _;exact done _ ce fu t' (apB (by decide) _) ⟨nofun,nofun,λ_=>(by decide),λ_ _ h=>(h rfl).elim⟩ rfl rfl h (g.imp id λh=>⟨h.1,nofun⟩)
 .refine ⟨?_,λh1 I=>(hz ⟨h1,I⟩).elim⟩;unfold SG zW HN Prod.r be bA bM cE fe kZ vu Ac Prod.p Pk Prod.D ct dF vq Lu ck bj bJ lx aH;refine Ma hn hc hs hI (λo=>OkN o (SQ i c0 L)) (λy h=>.inr (ak h)) _ λe v sy hp _ _ _ _ _=>.inl ?_
  let⟨sy0,ce,fu,l⟩:=s;have vl:=hp.fs.vc.vl;by_cases hl:l! l=N
  .have ht:¬t=(n:Int):=λh=>hz ⟨hl,h⟩
   dsimp only;cases cp (sy0,ce,fu,l) with
   |none=>rfl
   |some y=>rw[UV,dt ht];rfl
  .show ax (cp (sy0,ce,fu,l)) _=U;rw[h0 sy0 ce fu l (by have h1:l! l=l! c0.2:=hp.fs.th;have:=hp.fs.vc.tl;have:=vl.t;omega) hl];rfl
def aBc {W V:Type} {c0:CT} {l:Y TT} {z:R} {t1:R->η->Y η->W} {t2:W->V} {t3:V->TT->Y TT} (h3:∀A T I,t3 (t2 (t1 z A T)) I=l.set i I):KR m c0 L i a l z (KG (i:Int) t1 t2 t3):=by
 intro F p sy kd o v si ds fs ce fu A T ev fin park done ht pc;unfold KG zW be bA bM cE fe kZ vu Ac Prod.p Pk rY bj gO bJ aH cL;have done:∀I,TH F (m+1) I->(l! I.2.1=0\/I.2.2.2=a_ .i64 (ev+1)/\(kd=16->I.1=p))->SQ m c0 L ((sy,ce,fu,t3 (t2 (t1 z A T)) I),((i:Int),kd,o,v,si,ds,fs),J):=λI h g=>by grind
 by_cases h1:kd=16
 .subst h1;exact gP (gP (jJ rfl (ak (jJ rfl (ak (qu (aU rfl) (ak (done _ (park (.inl rfl)) (.inr ⟨rfl,λ_=>rfl⟩)))))))))
 by_cases h2:kd=2
 .subst h2;exact gP (gP (qu rfl (ak (jJ rfl (ak (qu (aU rfl) (ak (done _ (park (.inr rfl)) (.inr ⟨rfl,nofun⟩)))))))))
 rw[dt h1,dt h2];exact gP (gP (qu rfl (ak (qu rfl (aP (eD i) ht (aT (ay (fin h1 h2) λy hy=>ak (qu (aU rfl) (ak (done _ hy.1 (hy.2.imp id λh=>⟨h,λh2=>(h1 h2).elim⟩)))))))))))
def SOx (n:Nat) (z:CT) (L:Y ET) (s:ST) (t u:Int) (N i:Nat) (f:CT×ST×g?->M C!):Prop:=OkN (f (z,s,t,u)) (SQ n z L)/\(l! s.2.2.2=N->t=(i:Int)->Ok (f (z,s,t,u)) (SQ n z L))
def ams (I:i+1<=100000) (z:CT) (L:Y ET) (s:ST) (t u:Int) (hc:CB z) (A:SV i L s) (hI:SIv z L s):SOx i z L s t u 4 0 rD/\SOx i z L s t u 4 1 rC/\SOx i z L s t u 4 2 oJ/\SOx i z L s t u 4 3 mz/\SOx i z L s t u 3 0 lm/\SOx i z L s t u 3 1 j8/\SOx i z L s t u 3 2 iY/\SOx i z L s t u 2 0 iy/\SOx i z L s t u 2 1 gQ/\SOx i z L s t u 1 0 gR:=by
 refine ⟨EE 4 0 (cp:=uq) I z L s t u hc A hI ?_ ?_,EE 4 1 (cp:=uo) I z L s t u hc A hI ?_ ?_,EE 4 2 (cp:=um) I z L s t u hc A hI ?_ ?_,EE 4 3 (cp:=ul) I z L s t u hc A hI ?_ ?_,EE 3 0 (cp:=uu) I z L s t u hc A hI ?_ ?_,EE 3 1 (cp:=ut) I z L s t u hc A hI ?_ ?_,EE 3 2 (cp:=ur) I z L s t u hc A hI ?_ ?_,EE 2 0 (cp:=uw) I z L s t u hc A hI ?_ ?_,EE 2 1 (cp:=uv) I z L s t u hc A hI ?_ ?_,EE 1 0 (cp:=ux) I z L s t u hc A hI ?_ ?_⟩;all_goals
  intro sy ce fu l;first|unfold uq be ct bQ bV bJ aZ|unfold uo be ct bQ bV bJ aZ|unfold um be ct bQ bV bJ aZ|unfold ul be ct bQ bV bJ aZ|unfold uu be ct bQ bV bJ aZ|unfold ut be ct bQ bV bJ aZ|unfold ur be ct bQ bV bJ aZ|unfold uw be ct bQ bV bJ aZ|unfold uv be ct bQ bV bJ aZ|unfold ux be ct bQ bV bJ aZ
  rcases l with _|⟨a,_|⟨b,_|⟨c,_|⟨d,_|⟨e,l⟩⟩⟩⟩⟩;all_goals first
  |intro h h0
   first|(simp at h0;done)|(exfalso;simp only[jW]at h;omega)|simp[gI,Zl,alx,ap8,bcT,bcF]
   done
  |intro h hce hfu hl
   first|(simp at hl;done)|(exfalso;simp only[jW]at hl;omega)|skip
   have hE:=h.sb.n1;refine ⟨by decide,aX (L5 sy h.sb) (a! (a! (qu rfl (bl rfl (aT (aX (zV a i hE (h.t 0 (by simp))) ?_))))))⟩;try refine qu rfl (bl rfl (aT (aX (zV b i hE (h.t 1 (by simp))) ?_)))
   try refine qu rfl (bl rfl (aT (aX (zV c i hE (h.t 2 (by simp))) ?_)))
   try refine qu rfl (bl rfl (aT (aX (zV d i hE (h.t 3 (by simp))) ?_)))
   exact jJ rfl (ak ⟨rfl,rfl,rfl,rfl,rfl,rfl,aBc λR T t'=>rfl⟩)
def ahq {n:Nat} (hn:n+1<=100000) (c:CT) (L:Y ET) (s:ST) (t u:Int) (hc:CB c) (hs:SV n L s) (hI:SIv c L s):Ok (Di (c,s,t,u)) (SQ n c L):=by
 unfold Di;let⟨a40,I,A,z,a30,a31,a32,a20,a21,a10⟩:=ams hn c L s t u hc hs hI;by_cases hz:l! s.2.2.2<=4/\0<=t/\t<(l! s.2.2.2:Int)
 .obtain⟨h1,h2,h3⟩:=hz;have:(l! s.2.2.2=4/\t=0)\/(l! s.2.2.2=4/\t=1)\/(l! s.2.2.2=4/\t=2)\/(l! s.2.2.2=4/\t=3)\/(l! s.2.2.2=3/\t=0)\/(l! s.2.2.2=3/\t=1)\/(l! s.2.2.2=3/\t=2)\/(l! s.2.2.2=2/\t=0)\/(l! s.2.2.2=2/\t=1)\/(l! s.2.2.2=1/\t=0):=by omega
  rcases this with h|h|h|h|h|h|h|h|h|h;all_goals first|exact (a40.2 h.1 h.2).orL|refine a40.1.orR ?_
  all_goals first|exact (I.2 h.1 h.2).orL|refine I.1.orR ?_
  all_goals first|exact (A.2 h.1 h.2).orL|refine A.1.orR ?_
  all_goals first|exact (z.2 h.1 h.2).orL|refine z.1.orR ?_
  all_goals first|exact (a30.2 h.1 h.2).orL|refine a30.1.orR ?_
  all_goals first|exact (a31.2 h.1 h.2).orL|refine a31.1.orR ?_
  all_goals first|exact (a32.2 h.1 h.2).orL|refine a32.1.orR ?_
  all_goals first|exact (a20.2 h.1 h.2).orL|refine a20.1.orR ?_
  all_goals first|exact (a21.2 h.1 h.2).orL|refine a21.1.orR ?_
  exact a10.2 h.1 h.2
 .refine Ok.orL ?_;unfold rD be bA dF;refine Ma hn hc hs hI (λo=>Ok o (SQ n c L)) (λy h=>ak h) _ λe v sy hp _ _ _ _ _=>(hz ?_).elim
  have h1:l! s.2.2.2=l! c.2:=hp.fs.th;have h2:l! c.2=l! c.1.2.2.2.2.1:=hp.fs.vc.tl;have h3:l! c.1.2.2.2.2.1<=4:=hp.fs.vc.vl.t;have h4:0<=t:=hp.t0;have h5:t<(l! c.2:Int):=hp.t1;exact⟨by omega,h4,by omega⟩
def apu (c:CT) (s:ST) (l:Y ν) (hc:CB c) (hs:SV 0 [] s) (hI:SIv c [] s) (hl:l.length<=9223372036854775806):Ok (yG (c,s,l)) λy=>y.1.length<=400/\(∀e∈y.1,EvF c.1 e/\EvS e)/\∃sy ce fu,Acw c.1 y.1 sy ce fu:=by
 unfold yG be bA dF bQ bV bJ aZ cP aH cL;refine qO (λx=>((l.length:Int)-x.1).toNat) (λx=>0<=x.1/\x.2.2.1=c/\SV x.2.1.length x.2.1 x.2.2.2.1/\SIv c x.2.1 x.2.2.2.1/\x.2.1.length<=400/\∀e∈x.2.1,EvF c.1 e/\EvS e) ?_ ⟨eS _,rfl,hs,hI,by simp,λe he=>(by cases he)⟩;rintro⟨(i:Int),es,A,s',z⟩ ⟨i0,e1,e2,eI,L,I⟩;subst e1;refine aV (λx=>x.2=(es,A,s',z)/\(x.1=J->i<(l.length:Int)/\es.length<400)) ?_ ?_
 .refine bD (λg=>ak ⟨rfl,λh=>⟨g,?_⟩⟩) λ_=>ak ⟨rfl,nofun⟩
  rw[t_]at h
  grind
 rintro⟨b,x⟩ ⟨f1,f2⟩;subst f1;refine aR (λh=>?_) λ_=>ak ⟨L,I,_,_,_,eI.ac⟩
 let⟨g1,g2⟩:=f2 h;refine aV (λx=>x.2.1=A/\SV x.1.length x.1 x.2.2.1/\SIv A x.1 x.2.2.1/\x.1.length<=400/\∀e∈x.1,EvF A.1 e/\EvS e) ?_ ?_
 .refine aP i0 g1 (aT ?_);refine ay (ahq (n:=es.length) (by omega) A es s' _ _ hc e2 eI) λy hy=>?_
  refine aR (λh=>?_) λ_=>ak ⟨rfl,e2,eI,L,I⟩
  let⟨h1,hJ,h2,h3⟩:=hy h;refine bP (by grind) (by omega) (ak ⟨rfl,?_,hJ,by simp;omega,λe he=>?_⟩)
  .grind
  .grind
 rintro⟨es',c2,s2,z2⟩ ⟨k1,k2,kI,k3,k4⟩;refine ak ?_;rw[gr (n:=i+1) (by omega) (by omega)]
 grind
def CB.vc {c:CT} (z:CB c):VC c:=by
 let⟨b,h1,A⟩:=Yq c z.th z.ins;rw[z.ok]at h1;cases h1;exact A rfl
def avs (c:CT) (l:Y ν) (z:CB c) (hl:l! l<=9223372036854775806):Ok (Gb (c,l)) λy=>TR y.1:=by
 refine aX z.ok (eC nofun λ_=>?_);have I:=z.vc;refine ay (abz c z.ok I) λs L=>?_
 refine ay (apu c s l z L.1 L.2 hl) λy A=>ak ?_
 exact⟨I.vl.wb,I.vl,λe he=>(A.2.1 e he).1,by have:=A.1;dsimp only;omega,λe he=>(A.2.1 e he).2,z.wx,A.2.2⟩
def ac9 (l:η) (z:l! l<=1000000):Ok (tZ l) λy=>l! y=l! l:=by
 refine b9 (l! l) (λi x=>x.1=(i:Int)/\l! x.2=i) ?_ ?_ ⟨rfl,rfl⟩
 .rintro i ⟨a,b⟩ hi ⟨e1,e2⟩;subst e1;refine c8 ?_;refine b_ (aT (b_ (aT (bP (by grind) (by omega) (ak ?_)))));exact⟨gZ,by simp;omega⟩
 .rintro⟨a,b⟩ ⟨e1,e2⟩;exact c9 (ak e2)
def gj (e:Xp):eM (Xp.op e,Xp.n e,Xp.name e,Xp.l e)=e:=by cases e;rfl
def BY (s:Sx):pn (Sx.op s,Sx.line s,Sx.name s,Sx.arg s,Sx.index s,Sx.expr s,Sx.body s,Sx.els s)=s:=by cases s;rfl
abbrev NV:Y ζ:=[[97],[98],[120],[121],[118]]
def GE:Nat->Xp->Prop
 |0,_=>False
 |d+1,e=>(e.op=3->e.name=[113])/\(e.op≠1->e.op≠2->1<=l! e.l)/\l! e.l<=2/\(∀x∈e.l,GE d x)/\(e.op=2->e.name∈NV)/\(e.op≠1->e.op≠2->e.op≠3->2<=l! e.l/\6<=e.op/\e.op<=18)
def GE.mono:∀{d:Nat} {e:Xp},GE d e->GE (d+1) e
 |0,_,h=>h.elim
 |_+1,_,h=>⟨h.1,h.2.1,h.2.2.1,λx z=>(h.2.2.2.1 x z).mono,h.2.2.2.2⟩
def GE.le {e:Xp} (h:GE i e) (A:i<=m):GE m e:=by
 induction A with
 |refl=>exact h
 |step _ z=>exact z.mono
def S8 (n:Int):tG n=Z (.mk 1 n [] []):=rfl
def LK (s:ζ):rj s=Z (.mk 2 0 s []):=rfl
def I8 (o:Int) (a b:Xp):pm (o,a,b)=Z (.mk o 0 [] [a,b]):=by
 cases a;cases b;rfl
def vR (s:ζ) (e:Xp):j6 (s,e)=Z (.mk 1 0 s [] [] e [] []):=by
 cases e;rfl
abbrev MK:Type:=V?
abbrev UI:Type:=n!
abbrev HD:Type:=Bool×Y ζ
def GE.num (n:Int) (d:Nat):GE (d+1) (.mk 1 n [] []):=⟨nofun,λh=>(h rfl).elim,by simp[Xp.l],λx z=>(by cases z),nofun,λh=>(h rfl).elim⟩
def GE.nm {s:ζ} (A:s∈NV) (d:Nat):GE (d+1) (.mk 2 0 s []):=⟨nofun,λ_ h=>(h rfl).elim,by simp[Xp.l],λx z=>(by cases z),λ_=>A,λ_ h=>(h rfl).elim⟩
def GE.bin {o b:Xp} (A:6<=a/\a<=18) (L:GE i o) (I:GE i b):GE (i+1) (.mk a 0 [] [o,b]):=
 ⟨λh=>(by have h:a=3:=h;omega),λ_ _=>by simp[Xp.l],by simp[Xp.l],λx z=>by
   simp[Xp.l,bh,b7,eE]at z;rcases z with rfl|rfl
   .exact L
   .exact I,λh=>(by have h:a=2:=h;omega),λ_ _ _=>⟨by simp[Xp.l],A⟩⟩
def GE.ix {a:Xp} (A:GE i a):GE (i+1) (.mk 3 0 [113] [a]):=
 ⟨λ_=>rfl,λ_ _=>by simp[Xp.l],by simp[Xp.l],λx z=>by
   simp[Xp.l,bh,b7,eE]at z;rw[z];exact A,nofun,λ_ _ h=>(h rfl).elim⟩
def GR:∀(n d:Nat),d<n->d<=10->∀(m:MK) (t:UI) (h:HD),TP t->Ok (mj n ((d:Int),m,t,h)) λy=>GE (d+1) y.1/\y.2.1=m/\xa t y.2.2.1/\y.2.2.2=h
 |0,d,hd,_,_,_,_,_=>by omega
 |n+1,d,hd,h10,m,t,h,ht=>by
  refine ay (gE 10 t ht) λy A=>?_
  let⟨k,t1⟩:=y;let⟨L,k0,k1,_⟩:=A;refine aV (λx=>x.2=(m,t1,h,(0,0,[]),[[97],[98],[120],[121],[118],[120],[121]])/\(x.1=af->2<=k/\(d=0->k<7))) ?_ ?_
  .refine bD (λ_=>ak ⟨rfl,nofun⟩) λg=>aK (λg2=>ak ⟨rfl,λg3=>⟨g,λ_=>?_⟩⟩) λg2=>ak ⟨rfl,λ_=>⟨g,λh=>(g2 (by omega)).elim⟩⟩
   rw[mf]at g3;exact g3
  rintro⟨b,x⟩ ⟨e,hb⟩;dsimp only at e hb;subst e;refine aR (λ_=>?_) λg=>?_
  .refine ay (gE 4 t1 L.p) λy A=>?_
   refine aX (S8 _) (ak ?_);exact⟨GE.num _ _,rfl,L.trans A.1,rfl⟩
  let⟨q0,q1⟩:=hb g;refine bD (λg=>?_) λg=>?_
  .refine ay (gE _ t1 L.p) λy A=>?_
   let⟨u1,u2,I,_⟩:=A;have I:=I (show (1:Int)<=7 by decide);refine aP u2 I (aP u2 I (aT ?_));refine aX (LK _) (ak ?_);have hnv:∀z∈([[97],[98],[120],[121],[118],[120],[121]]:Y ζ),z∈NV:=by decide
   exact⟨GE.nm (hnv _ (bC (T:=.str) u2 I)) _,rfl,L.trans u1,rfl⟩
  dsimp only at g;have hd0:d≠0:=λh=>by omega
  obtain⟨d,rfl⟩:∃k,d=k+1:=⟨d-1,by omega⟩
  refine aK (λg=>?_) λg=>?_
  .refine ay (GR n 0 (by omega) (by omega) m t1 h L.p) λy A=>?_
   let⟨e,m',t',h'⟩:=y;let⟨v1,v2,v3,v4⟩:=A;subst v2 v4;refine bl (by simp) (ak ?_);dsimp only;rw[gj];exact⟨(GE.ix (v1.le (by omega):GE (d+1) e)),rfl,L.trans v3,rfl⟩
  .refine ay (gE _ t1 L.p) λy A=>?_
   let⟨k2,t2⟩:=y;let⟨u1,u2,I,_⟩:=A;have I:=I (by decide);refine aP u2 I (aP u2 I (aT ?_));have ho:(6:Int)<=aI aN [6,7,8,11,13,17] k2/\aI aN [6,7,8,11,13,17] k2<=(18:Int):=by
    have h1:=bC (T:=aN) (xs:=([6,7,8,11,13,17]:η)) u2 I
    grind
   have ew:a_ .i64 (((d+1:Nat):Int)-1)=(d:Int):=by rw[gr];omega
   dsimp only;rw[ew];refine ay (GR n d (by omega) (by omega) m t2 h u1.p) λy A=>?_
   let⟨e,m',t',h'⟩:=y;let⟨v1,v2,v3,v4⟩:=A;subst v2 v4;refine bl (by simp) ?_;refine ay (GR n d (by omega) (by omega) m' t' h' v3.p) λy A=>?_
   let⟨e2,m2,t2',h2⟩:=y;let⟨w1,w2,w3,w4⟩:=A;subst w2 w4;refine bl (by simp) ?_;refine aX (I8 _ _ _) (ak ?_);dsimp only;rw[gj];exact⟨GE.bin ho v1 w1,rfl,L.trans (u1.trans (v3.trans w3)),rfl⟩
def ak8 (d:Nat) (hd:d<=10) (m:MK) (t:UI) (h:HD) (ht:TP t):Ok (fI ((d:Int),m,t,h)) λy=>GE (d+1) y.1/\y.2.1=m/\xa t y.2.2.1/\y.2.2.2=h:=GR fuel d (by rw[kM];omega) hd m t h ht
section
def NE (op:Int):Prop:=op=1\/op=2\/op=3\/op=14
def ZE (e:Xp):Prop:=GE 4 e\/e= .mk 0 0 [] []
structure NO (nT:Nat) (s:Sx):Prop where
 o0:1<=s.op
 o1:s.op<=15
 vr:s.op=1->s.index=[]->s.name∈NV
 lk:s.op=4->s.name=[109]\/s.name=[110]
 rw:s.op=5\/s.op=6->s.name=[114]
 cn:s.op=9\/s.op=10\/s.op=11->s.name=[99]
 sp:s.op=12\/s.op=13->s.name∈zP.take nT
 se:s.op=14->s.name=[102]
 ge:s.op=15->s.name=[97]/\s.arg=[102]
 el:¬s.op=2->s.els=[]
 bo:s.op=1\/9<=s.op->s.body=[]
variable {nT:Nat}
def GS (nT:Nat):Nat->Sx->Prop
 |0,_=>False
 |d+1,s=>(s.index≠[]->s.name=[113])/\l! s.index<=1/\(∀e∈s.index,GE 4 e)/\(NE s.op->GE 4 s.expr)/\ZE s.expr/\l! s.body<=8/\l! s.els<=8/\(∀x∈s.body,GS nT d x)/\(∀x∈s.els,GS nT d x)/\NO nT s
def GS.mono:∀{d:Nat} {s:Sx},GS nT d s->GS nT (d+1) s
 |0,_,h=>h.elim
 |_+1,_,⟨a,b,c,e,f,g,i,j,k,l⟩=>⟨a,b,c,e,f,g,i,λx z=>(j x z).mono,λx z=>(k x z).mono,l⟩
def GS.le {s:Sx} (h:GS nT i s) (A:i<=m):GS nT m s:=by
 induction A with
 |refl=>exact h
 |step _ z=>exact z.mono
def NO.asg {s a:ζ} {e:Xp} {i:Y Xp} (z:i=[]->s∈NV):NO nT (.mk 1 0 s a i e [] []):=by
 constructor<;>simp[Sx.op,Sx.name,Sx.index,Sx.els,Sx.body];exact λh=>by simpa using z h
def GS.asg {s:ζ} (A:s∈NV) {e:Xp} (h:GE 4 e):GS nT (i+1) (.mk 1 0 s [] [] e [] []):=
 ⟨λh=>(h rfl).elim,by simp[Sx.index],λe he=>(by cases he),λ_=>h,.inl h,by simp[Sx.body],by simp[Sx.els],λx z=>(by cases z),λx z=>(by cases z),NO.asg λ_=>A⟩
def GS.aix {d e:Xp} (hi:GE 4 d) (h:GE 4 e):GS nT (i+1) (.mk 1 0 [113] [] [d] e [] []):=
 ⟨λ_=>rfl,by simp[Sx.index],λe he=>(by simp[Sx.index,aG]at he;rw[he];exact hi),λ_=>h,.inl h,by simp[Sx.body],by simp[Sx.els],λx z=>(by cases z),λx z=>(by cases z),NO.asg nofun⟩
def GS.we {s op:ζ} {e:Xp} {b l:Y Sx} (h:GE 4 e) (I:l! b<=8) (A:l! l<=8) (gb:∀x∈b,GS nT i x) (L:∀x∈l,GS nT i x) (z:NO nT (.mk a 0 s op [] e b l)):GS nT (i+1) (.mk a 0 s op [] e b l):=
 ⟨λh=>(h rfl).elim,by simp[Sx.index],λe he=>(by cases he),λ_=>h,.inl h,I,A,gb,L,z⟩
def GS.wo {z:Int} {s op:ζ} {b:Y Sx} (ho:4<=a/\a≠14) (L:l! b<=8) (gb:∀x∈b,GS nT i x) (I:NO nT (.mk a z s op [] (.mk 0 0 [] []) b [])):GS nT (i+1) (.mk a z s op [] (.mk 0 0 [] []) b []):=
 ⟨λh=>(h rfl).elim,by simp[Sx.index],λe he=>(by cases he),λh=>(by have h:a=1\/a=2\/a=3\/a=14:=h;omega),.inr rfl,L,by simp[Sx.els],gb,λx A=>(by cases A),I⟩
def QS (nT:Nat) (d:Nat) (n:Int) (t:UI) (h:HD) (y:MK×UI×HD×Y Sx):Prop:=(l! y.2.2.2:Int)<=max 0 n/\(∀s∈y.2.2.2,GS nT (d+1) s)/\xa t y.2.1/\y.2.2.1.2=h.2
abbrev D?:=MK×UI×HD
def QT (nT:Nat) (d:Nat) (t:UI) (h:HD) (y:Sx×D?):Prop:=GS nT (d+1) y.1/\xa t y.2.2.1/\y.2.2.2.2=h.2
def QB (nT:Nat) (d:Nat) (t:UI) (h:HD) (y:Y Sx×D?):Prop:=l! y.1<=2/\(∀s∈y.1,GS nT (d+1) s)/\xa t y.2.2.1/\y.2.2.2.2=h.2
abbrev RS:Type:=(ν×D?)->M (MK×UI×HD×Y Sx)
abbrev RT:Type:=(Int×D?)->M (Sx×D?)
abbrev RBk:Type:=((ζ×Int)×D?)->M (Y Sx×D?)
def SpS (nT:Nat) (z:RS) (d:Nat):Prop:=∀(n:Int) (m:MK) (t:UI) (h:HD),n<=3->TP t->l! h.2+d<=100->Ok (z (((d:Int),n),m,t,h)) (QS nT d n t h)
def SpT (nT:Nat) (z:RT) (d:Nat):Prop:=∀(m:MK) (t:UI) (h:HD),TP t->l! h.2+d<=100->Ok (z ((d:Int),m,t,h)) (QT nT d t h)
def SpB (nT:Nat) (z:RBk) (d:Nat):Prop:=∀(s:ζ) (m:MK) (t:UI) (h:HD),TP t->l! h.2+1+d<=100->Ok (z ((s,(d:Int)),m,t,h)) (QB nT d t h)
def agh (rs:RS) (I:RT) (rb:RBk) (d:Nat) (ht:SpT nT I d):SpS nT (n_ rs I rb) d:=by
 intro n m t h hn hp hh;unfold n_ be bA bM ct dF c_ bj bQ bV cP aH cL eP;refine qO (λx=>(n-x.1).toNat) (λx=>0<=x.1/\(x.1<=n\/x.1=0)/\xa t x.2.2.1/\(l! x.2.2.2.1:Int)<=x.1/\(∀s∈x.2.2.2.1,GS nT (d+1) s)/\x.2.2.2.2.2=h.2) ?_ ⟨eS _,.inr rfl,xa.refl hp,by simp,λs hs=>(by cases hs),rfl⟩;rintro⟨(i:Int),m',A,l,h'⟩ ⟨i0,i1,e1,e2,L,z⟩;dsimp only at i0 i1 e1 e2 L z;refine aV (λx=>x.2=(m',A,l,h')/\(x.1=J->i<n)) ?_ ?_
 .refine bD (λg=>aK (λ_=>ak ⟨rfl,λ_=>g⟩) λ_=>ak ⟨rfl,λ_=>g⟩) λ_=>ak ⟨rfl,nofun⟩
 rintro⟨b,x⟩ ⟨f1,f2⟩;subst f1;refine aR (λhb=>?_) λ_=>ak ⟨by dsimp only;omega,L,e1,z⟩
 have g:=f2 hb;refine ay (ht m' A h' e1.p (by grind)) λy hy=>?_
 let⟨s,m2,t2,h2⟩:=y;let⟨k1,k2,k3⟩:=hy;refine bl (by simp) (bP (by grind) (by omega) (ak ?_));rw[gj,BY,gr (n:=i+1) (by omega) (by omega)];refine ⟨⟨by omega,by omega,e1.trans k2,by simp;omega,λx hx=>?_,k3.trans z⟩,by omega⟩
 grind
def agk (I:RS) (rt:RT) (rb:RBk) (d:Nat) (hs:SpS nT I d):SpB nT (oc I rt rb) d:=by
 intro s m t h hp hh;unfold oc be bA ct dF bV aZ;refine bP (by grind) (by omega) ?_;refine ay (gE 2 t hp) λy z=>?_
 let⟨k,L⟩:=y;let⟨A,u2,u3,_⟩:=z;have ew:a_ .i64 (1+k)=1+k:=gr;rw[ew];refine ay (hs (1+k) m L (h.1,h.2++[s]) (by omega) A.p (by grind)) λy z=>?_
 let⟨m2,t2,h2,l⟩:=y;let⟨k1,k2,k3,k4⟩:=z;dsimp only at k1 k2 k3 k4;refine bl (by simp) ?_;rw[k4];have el:a_ .i64 ((aS (l! (h.2++[s])))-1)=(l! h.2:Int):=by
  rw[bH,dI,gr (by simp) (by grind)];simp<;>omega
 refine cW (a? (De (by grind) (ak ?_)));refine ⟨by dsimp only;omega,k2,A.trans k3,?_⟩;simp_all
def Gs (s:ζ) (m:MK) (t:UI) (h:HD) (hh:l! h.2<=100):Ok (fh (s,m,t,h)) λy=>y.2=(m,t,h):=by
 unfold fh dF;exact ay (BD h.2 s (by omega)) λy _=>ak rfl
def al8 (rs:RS) (rt:RT) (rb:RBk) (d:Nat) (hd:d<=5) (h0:1<=d->SpS nT rs 0) (hS:1<=d->SpS nT rs (d-1)) (hB:1<=d->SpB nT rb (d-1)):SpT nT (px rs rt rb) d:=by
 intro m t h hp hh;unfold px be bA bM ct dF c_ bj bQ bV lx aH eP;refine ay (gE 18 t hp) λy I=>?_
 let⟨k,t1⟩:=y;let⟨L,k0,k1,_⟩:=I;have k1:=k1 (by decide);dsimp only at L k0 k1;have hE:∀(j:Nat) (m':MK) (t':UI) (h':HD),j<=1->TP t'->Ok (fI ((j:Int),m',t',h')) λy=>GE 4 y.1/\y.2.1=m'/\xa t' y.2.2.1/\y.2.2.2=h':=λj m' t' h' hj ht'=>(ak8 j (by omega) m' t' h' ht').mono λy I=>⟨I.1.le (by omega),I.2⟩
 have ed:a_ .i64 ((d:Int)-1)=(d:Int)-1:=gr;have ed1:1<=d->(d:Int)-1=((d-1:Nat):Int):=λ_=>by omega
 refine aV (λx=>x.2=((m.1,a_ .i64 (m.2.1-1),m.2.2),t1,(0,0,[],[],0,0,[]),h)/\(x.1=J->1<=d)) ?_ ?_
 .refine bD (λg=>aT (bD (λ_=>ak ⟨rfl,λ_=>?_⟩) λ_=>ak ⟨rfl,nofun⟩)) λ_=>ak ⟨rfl,nofun⟩
  dsimp only at g;omega
 generalize ((m.1,a_ .i64 (m.2.1-1),m.2.2):MK)=m0;rintro⟨nest,x⟩ ⟨e,hn⟩;dsimp only at e hn;subst e;refine bD (λ_=>?_) λg4=>?_
 .refine aP k0 (by dsimp only[aj];omega) (aP k0 (by dsimp only[aj];omega) (aT ?_));refine ay (hE 1 m0 t1 h (by omega) L.p) λy I=>?_
  let⟨e,m2,t2,h2⟩:=y;let⟨v1,v2,v3,v4⟩:=I;dsimp only at v1 v2 v3 v4;subst v2 v4;refine bl (by simp) (aX (vR _ _) (ak ?_));dsimp only;rw[gj,BY];have hnv:∀z∈([[120],[121],[120],[118]]:Y ζ),z∈NV:=by decide
  exact⟨GS.asg (hnv _ (bC (T:=.str) k0 (by dsimp only[aj];omega))) v1,L.trans v3,rfl⟩
 dsimp only at g4;refine aK (λ_=>?_) λg5=>?_
 .refine ay (gE 2 t1 L.p) λy I=>?_
  let⟨u1,u2,u3,_⟩:=I;have u3:=u3 (by decide);refine aP u2 u3 (aP u2 u3 (aT ?_));refine ay (hE 1 m0 y.2 h (by omega) u1.p) λz hz=>?_
  let⟨e,m2,t2,h2⟩:=z;let⟨v1,v2,v3,v4⟩:=hz;dsimp only at v1 v2 v3 v4;subst v2 v4;refine bl (by simp) (aX (vR _ _) (ak ?_));dsimp only;rw[gj,BY];have hnv:∀z∈([[97],[98]]:Y ζ),z∈NV:=by decide
  exact⟨GS.asg (hnv _ (bC (T:=.str) u2 u3)) v1,L.trans (u1.trans v3),rfl⟩
 dsimp only at g5;refine aK (λ_=>?_) λg6=>?_
 .refine ay (hE 0 m0 t1 h (by omega) L.p) λz hz=>?_
  let⟨e,m2,t2,h2⟩:=z;let⟨v1,v2,v3,v4⟩:=hz;dsimp only at v1 v2 v3 v4;subst v2 v4;refine bl (by simp) ?_;refine ay (hE 1 m2 t2 h2 (by omega) v3.p) λz hz=>?_
  let⟨e',m3,t3,h3⟩:=z;let⟨w1,w2,w3,w4⟩:=hz;dsimp only at w1 w2 w3 w4;subst w2 w4;refine bl (by simp) (ak ?_);dsimp only;rw[gj,gj];exact⟨GS.aix v1 w1,L.trans (v3.trans w3),rfl⟩
 dsimp only at g6;have hz:∀(c:Prop),c->c:=λ_ h=>h
 have dd:1<=d->d-1+1=d:=λ_=>by omega
 have w8:8<=k->a_ .i64 (k-8)=k-8:=λ_=>gr
 refine aV (λx=>x.2=(m0,t1,(0,0,[],[],0,0,[]),h)/\(x.1=J->1<=d)) ?_ ?_
 .refine aK (λ_=>ak ⟨rfl,λg=>?_⟩) λ_=>ak ⟨rfl,nofun⟩
  dsimp only at g;rw[t_]at g;omega
 rintro⟨b,x⟩ ⟨e,hb⟩;dsimp only at e hb;subst e;refine aR (λA=>?_) λ_=>?_
 .have d1:=hb A;refine ay (hE 1 m0 t1 h (by omega) L.p) λz hz=>?_
  let⟨e,m2,t2,h2⟩:=z;let⟨v1,v2,v3,v4⟩:=hz;dsimp only at v1 v2 v3 v4;subst v2 v4;refine bl (by simp) ?_;dsimp only;rw[ed,ed1 d1];refine ay (hS d1 1 m2 t2 h2 (by omega) v3.p (by omega)) λz hz=>?_
  let⟨m3,t3,h3,l⟩:=z;let⟨w1,w2,w3,w4⟩:=hz;dsimp only at w1 w2 w3 w4;rw[dd d1]at w2;refine bl (by simp) ?_;refine aV (λx=>x.2.2.2.1=(2,0,[],[],e.op,e.n,e.name,e.l)/\xa t1 x.2.1/\x.2.2.2.2.1.2=h2.2/\x.2.2.2.2.2.1=l/\l! x.2.2.2.2.2.2<=8/\∀s∈x.2.2.2.2.2.2,GS nT d s) ?_ ?_
  .refine ay (gE 2 t3 w3.p) λy I=>?_
   refine aK (λ_=>?_) λ_=>ak ⟨rfl,v3.trans (w3.trans I.1),w4,rfl,by simp,λs hs=>(by cases hs)⟩
   dsimp only;refine ay (hS d1 1 m3 y.2 h3 (by omega) I.1.p (by rw[w4];omega)) λz hz=>?_
   let⟨m4,t4,h4,l2⟩:=z;let⟨x1,x2,x3,x4⟩:=hz;dsimp only at x1 x2 x3 x4;rw[dd d1]at x2;exact bl (by simp) (ak ⟨rfl,v3.trans (w3.trans (I.1.trans x3)),x4.trans w4,rfl,by dsimp only;omega,x2⟩)
  rintro⟨m5,t5,z5,e5,h5,l5,l6⟩ ⟨x1,x2,x3,x4,x5,x6⟩;dsimp only at x1 x2 x3 x4 x5 x6;subst x1 x4;refine ak ?_;dsimp only;rw[gj];exact⟨GS.we v1 (by first|omega|(dsimp only;omega)) x5 w2 x6 (by constructor<;>simp[Sx.op,Sx.name,Sx.index,Sx.arg,Sx.els,Sx.body]),L.trans x2,x3⟩
 refine aV (λx=>x.2=(m0,t1,(0,0,[],[],0,0,[]),h)/\(x.1=J->1<=d)) ?_ ?_
 .refine aK (λ_=>ak ⟨rfl,λg=>?_⟩) λ_=>ak ⟨rfl,nofun⟩
  dsimp only at g;rw[t_]at g;omega
 rintro⟨b,x⟩ ⟨e,hb⟩;dsimp only at e hb;subst e;refine aR (λA=>?_) λ_=>?_
 .have d1:=hb A;refine aX (LK _) (aX (S8 _) (aX (I8 _ _ _) ?_));dsimp only;rw[ed,ed1 d1];refine ay (hS d1 1 _ t1 h (by omega) L.p (by omega)) λz hz=>?_
  let⟨m3,t3,h3,l⟩:=z;let⟨w1,w2,w3,w4⟩:=hz;dsimp only at w1 w2 w3 w4;rw[dd d1]at w2;refine bl (by simp) ?_;refine aX (LK _) (aX (S8 _) (aX (I8 _ _ _) (aX (vR _ _) ?_)));refine a! (ak ?_);dsimp only;rw[gj,gj,BY];refine ⟨GS.we (GE.bin (by omega) (GE.nm (by decide) 2) (GE.num _ 2)) (by simp;omega) (by simp) (λx hx=>?_) (λx hx=>(by cases hx)) (by constructor<;>simp[Sx.op,Sx.name,Sx.index,Sx.arg,Sx.els,Sx.body]),L.trans w3,w4⟩;rcases cq.1 hx with hx|hx
  .exact w2 x hx
  .rw[aG]at hx;subst hx;rw[<- dd d1];exact GS.asg (by decide) (GE.bin (by omega) (GE.nm (by decide) 2) (GE.num _ 2))
 refine aV (λx=>x.2=(m0,t1,(0,0,[],[],0,0,[]),h)/\(x.1=J->nest=J/\(k=8\/k=9))) ?_ ?_
 .refine aK (λg=>aR (λgn=>?_) λ_=>ak ⟨rfl,nofun⟩) λ_=>aK (λg=>aR (λgn=>?_) λ_=>ak ⟨rfl,nofun⟩) λ_=>ak ⟨rfl,nofun⟩
  all_goals
   dsimp only at g ⊢;rw[w8 (by omega)];refine aP (by omega) (by simp;omega) (aP (by omega) (by simp;omega) (aT ?_));refine ay (Gs _ m0 t1 h (by omega)) λy I=>?_
   let⟨yb,y2⟩:=y;dsimp only at I;subst I;exact bl (by simp) (ak ⟨rfl,λ_=>⟨gn,by omega⟩⟩)
 rintro⟨b,x⟩ ⟨e,hb⟩;dsimp only at e hb;subst e;refine aR (λA=>?_) λ_=>?_
 .obtain⟨q1,q2⟩:=hb A;have d1:=hn q1;have hnm:aI (.str) [[109],[110]] (k-8)=[109]\/aI (.str) [[109],[110]] (k-8)=[110]:=by rcases q2 with rfl|rfl<;>simp[aI]
  dsimp only;rw[w8 (by omega),ed,ed1 d1];refine aP (by omega) (by simp;omega) (aP (by omega) (by simp;omega) (aT ?_));refine ay (hB d1 _ m0 t1 h L.p (by omega)) λz hz=>?_
  let⟨l,m3,t3,h3⟩:=z;let⟨w1,w2,w3,w4⟩:=hz;dsimp only at w1 w2 w3 w4;rw[dd d1]at w2;exact bl (by simp) (ak ⟨GS.wo (by omega) (by first|omega|(dsimp only;omega)) w2 (by constructor<;>simp[Sx.op,Sx.name,Sx.index,Sx.arg,Sx.els,Sx.body];exact hnm),L.trans w3,w4⟩)
 refine aV (λx=>x.2=(m0,t1,(0,0,[],[],0,0,[]),h)/\(x.1=J->nest=J/\(k=10\/k=11))) ?_ ?_
 .refine aK (λg=>aR (λgn=>?_) λ_=>ak ⟨rfl,nofun⟩) λ_=>aK (λg=>aR (λgn=>?_) λ_=>ak ⟨rfl,nofun⟩) λ_=>ak ⟨rfl,nofun⟩
  all_goals
   dsimp only at g ⊢;refine ay (Gs _ m0 t1 h (by omega)) λy I=>?_
   let⟨yb,y2⟩:=y;dsimp only at I;subst I;exact bl (by simp) (ak ⟨rfl,λ_=>⟨gn,by omega⟩⟩)
 rintro⟨b,x⟩ ⟨e,hb⟩;dsimp only at e hb;subst e;refine aR (λA=>?_) λ_=>?_
 .obtain⟨q1,q2⟩:=hb A;have d1:=hn q1;dsimp only;rw[ed,ed1 d1,gr (n:=k-10) (by omega) (by omega),gr (n:=k-10+5) (by omega) (by omega)];refine ay (hB d1 _ m0 t1 h L.p (by omega)) λz hz=>?_
  let⟨l,m3,t3,h3⟩:=z;let⟨w1,w2,w3,w4⟩:=hz;dsimp only at w1 w2 w3 w4;rw[dd d1]at w2;exact bl (by simp) (ak ⟨GS.wo (by omega) (by first|omega|(dsimp only;omega)) w2 (by constructor<;>simp[Sx.op,Sx.name,Sx.index,Sx.arg,Sx.els,Sx.body]<;>omega),L.trans w3,w4⟩)
 refine aV (λx=>x.2=(m0,t1,(0,0,[],[],0,0,[]),h)/\(x.1=J->nest=J)) ?_ ?_
 .exact aK (λ_=>ak ⟨rfl,λg=>g⟩) λ_=>ak ⟨rfl,nofun⟩
 rintro⟨b,x⟩ ⟨e,hb⟩;dsimp only at e hb;subst e;refine aR (λA=>?_) λ_=>?_
 .have d1:=hn (hb A);refine ay (gE 2 t1 L.p) λy I=>?_
  let⟨u1,u2,u3,_⟩:=I;have u3:=u3 (by decide);dsimp only;rw[gr (n:=1+y.1) (by omega) (by omega)];refine ay (h0 d1 (1+y.1) _ y.2 h (by omega) u1.p (by omega)) λz hz=>?_
  let⟨m3,t3,h3,l⟩:=z;let⟨w1,w2,w3,w4⟩:=hz;dsimp only at w1 w2 w3 w4;exact bl (by simp) (ak ⟨GS.wo (by omega) (by first|omega|(dsimp only;omega)) (λx hx=>(w2 x hx).le (by omega)) (by constructor<;>simp[Sx.op,Sx.name,Sx.index,Sx.arg,Sx.els,Sx.body]),L.trans (u1.trans w3),w4⟩)
 refine aV (λx=>x.2=(m0,t1,(0,0,[],[],0,0,[]),h)/\(x.1=J->nest=J)) ?_ ?_
 .exact aK (λ_=>aR (λgn=>ak ⟨rfl,λ_=>gn⟩) λ_=>ak ⟨rfl,nofun⟩) λ_=>ak ⟨rfl,nofun⟩
 rintro⟨b,x⟩ ⟨e,hb⟩;dsimp only at e hb;subst e;refine aR (λA=>?_) λ_=>?_
 .have d1:=hn (hb A);dsimp only;rw[ed,ed1 d1];refine ay (hS d1 2 _ t1 h (by omega) L.p (by omega)) λz hz=>?_
  let⟨m3,t3,h3,l⟩:=z;let⟨w1,w2,w3,w4⟩:=hz;dsimp only at w1 w2 w3 w4;rw[dd d1]at w2;exact bl (by simp) (ak ⟨GS.wo (by omega) (by first|omega|(dsimp only;omega)) w2 (by constructor<;>simp[Sx.op,Sx.name,Sx.index,Sx.arg,Sx.els,Sx.body]),L.trans w3,w4⟩)
 refine aV (λx=>x.2=(m0,t1,(0,0,[],[],0,0,[]),h)/\(x.1=J->nest=J)) ?_ ?_
 .refine aK (λ_=>aR (λgn=>aR (λ_=>?_) λ_=>ak ⟨rfl,nofun⟩) λ_=>ak ⟨rfl,nofun⟩) λ_=>ak ⟨rfl,nofun⟩
  refine ay (Gs _ m0 t1 h (by omega)) λy I=>?_
  let⟨yb,y2⟩:=y;dsimp only at I;subst I;exact bl (by simp) (ak ⟨rfl,λ_=>gn⟩)
 rintro⟨b,x⟩ ⟨e,hb⟩;dsimp only at e hb;subst e;refine aR (λA=>?_) λ_=>?_
 .have d1:=hn (hb A);refine aX (LK _) (aX (vR _ _) (ak ?_));dsimp only;rw[gj,BY];refine ⟨GS.wo (by omega) (by simp) (λx hx=>?_) (by constructor<;>simp[Sx.op,Sx.name,Sx.index,Sx.arg,Sx.els,Sx.body]),L,rfl⟩;simp only[bh,b7,eE]at hx;rw[<- dd d1];rcases hx with rfl|rfl
  .exact GS.wo (by omega) (by simp) (λx hx=>(by cases hx)) (by constructor<;>simp[Sx.op,Sx.name,Sx.index,Sx.arg,Sx.els,Sx.body])
  .exact GS.asg (by decide) (GE.nm (by decide) 3)
 refine aV (λx=>x.2=(m0,t1,(0,0,[],[],0,0,[]),h)/\(x.1=J->nest=J)) ?_ ?_
 .refine aK (λ_=>aR (λgn=>?_) λ_=>ak ⟨rfl,nofun⟩) λ_=>ak ⟨rfl,nofun⟩
  refine ay (Gs _ m0 t1 h (by omega)) λy I=>?_
  let⟨yb,y2⟩:=y;dsimp only at I;subst I;exact bl (by simp) (ak ⟨rfl,λ_=>gn⟩)
 rintro⟨b,x⟩ ⟨e,hb⟩;dsimp only at e hb;subst e;refine aR (λA=>?_) λ_=>?_
 .have d1:=hn (hb A);refine ay (gE 2 t1 L.p) λy I=>ak ?_
  let⟨u1,u2,u3,_⟩:=I;have u3:=u3 (by decide);dsimp only;rw[gr (n:=10+y.1) (by omega) (by omega)];refine ⟨GS.wo (by omega) (by simp) (λx hx=>?_) (by constructor<;>simp[Sx.op,Sx.name,Sx.index,Sx.arg,Sx.els,Sx.body]),L.trans u1,rfl⟩;simp only[bh,b7,eE]at hx;rw[hx,<-dd d1];exact GS.wo (by omega) (by simp) (λx hx=>(by cases hx)) (by constructor<;>simp[Sx.op,Sx.name,Sx.index,Sx.arg,Sx.els,Sx.body]<;>omega)
 refine aV (λx=>x.2=(m0,t1,(0,0,[],[],0,0,[]),h)) ?_ ?_
 .exact aK (λ_=>aR (λ_=>aR (λ_=>ak rfl) λ_=>ak rfl) λ_=>ak rfl) λ_=>ak rfl
 rintro⟨b,x⟩ e;dsimp only at e;subst e;refine aR (λA=>?_) λ_=>?_
 .refine ay (hE 1 _ t1 h (by omega) L.p) λz hz=>?_
  let⟨e,m2,t2,h2⟩:=z;let⟨v1,v2,v3,v4⟩:=hz;dsimp only at v1 v2 v3 v4;subst v2 v4;refine bl (by simp) (ak ?_);dsimp only;rw[gj];exact⟨GS.we v1 (by simp) (by simp) (λx hx=>(by cases hx)) (λx hx=>(by cases hx)) (by constructor<;>simp[Sx.op,Sx.name,Sx.index,Sx.arg,Sx.els,Sx.body]),L.trans v3,rfl⟩
 refine aV (λx=>x.2.1=m0/\xa t1 x.2.2.1/\x.2.2.2.2=h) ?_ ?_
 .refine aK (λ_=>aR (λ_=>?_) λ_=>ak ⟨rfl,xa.refl L.p,rfl⟩) λ_=>ak ⟨rfl,xa.refl L.p,rfl⟩
  exact ay (gE 2 t1 L.p) λy I=>ak ⟨rfl,I.1,rfl⟩
 rintro⟨b,m9,t9,z9,h9⟩ ⟨e1,e2,e3⟩;dsimp only at e1 e2 e3;subst e1 e3;refine aR (λA=>?_) λ_=>?_
 .exact ak ⟨GS.wo (by omega) (by simp) (λx hx=>(by cases hx)) (by constructor<;>simp[Sx.op,Sx.name,Sx.index,Sx.arg,Sx.els,Sx.body]),L.trans e2,rfl⟩
 refine ay (hE 1 _ t9 h9 (by omega) e2.p) λz hz=>?_
 let⟨e,m2,t2,h2⟩:=z;let⟨v1,v2,v3,v4⟩:=hz;dsimp only at v1 v2 v3 v4;subst v2 v4;refine bl (by simp) (aX (vR _ _) (ak ?_));dsimp only;rw[gj,BY];exact⟨GS.asg (by decide) v1,L.trans (e2.trans v3),rfl⟩
def Rs:∀(n:Nat),(∀d:Nat,d<=5->3*d+1<=n->SpT nT (e_ n) d)/\(∀d:Nat,d<=5->3*d+2<=n->SpS nT (dU n) d)/\(∀d:Nat,d<=5->3*d+3<=n->SpB nT (eL n) d)
 |0=>⟨λd _ h=>by omega,λd _ h=>by omega,λd _ h=>by omega⟩
 |n+1=>by
  let⟨I,z,L⟩:=Rs n;refine ⟨λd h1 A=>?_,λd h1 A=>?_,λd h1 A=>?_⟩
  .exact al8 (dU n) (e_ n) (eL n) d h1 (λh=>z 0 (by omega) (by omega)) (λh=>z (d-1) (by omega) (by omega)) (λh=>L (d-1) (by omega) (by omega))
  .exact agh (dU n) (e_ n) (eL n) d (I d h1 (by omega))
  .exact agk (dU n) (e_ n) (eL n) d (z d h1 (by omega))
def afo (d:Nat) (hd:d<=5):SpS nT sC d:=(Rs fuel).2.1 d hd (by rw[kM];omega)
end
def GX:Nat->Xp->Prop
 |0,_=>False
 |d+1,e=>l! e.l<=2/\∀x∈e.l,GX d x
def GE.x:∀{d:Nat} {e:Xp},GE d e->GX d e
 |0,_,h=>h.elim
 |_+1,_,h=>⟨h.2.2.1,λx z=>(h.2.2.2.1 x z).x⟩
def ZE.x {e:Xp} (h:ZE e):GX 4 e:=by
 rcases h with h|rfl
 .exact h.x
 .exact⟨by simp[Xp.l],λx z=>(by cases z)⟩
def GT:Nat->Sx->Prop
 |0,_=>False
 |d+1,s=>l! s.index<=1/\(∀e∈s.index,GX 4 e)/\GX 4 s.expr/\l! s.body<=8/\l! s.els<=8/\(∀x∈s.body,GT d x)/\(∀x∈s.els,GT d x)
def GS.t {nT:Nat}:∀{d:Nat} {s:Sx},GS nT d s->GT d s
 |0,_,h=>h.elim
 |_+1,_,⟨_,b,c,_,f,g,i,j,k,_⟩=>⟨b,λe he=>(c e he).x,f.x,g,i,λx z=>(j x z).t,λx z=>(k x z).t⟩
def Bf (s:Sx):pn (Sx.op s,Sx.line s,Sx.name s,Sx.arg s,Sx.index s,eM (Xp.op (Sx.expr s),Xp.n (Sx.expr s),Xp.name (Sx.expr s),Xp.l (Sx.expr s)),Sx.body s,Sx.els s)=s:=by
 rw[gj,BY]
def Yu (k:Int):Ok (nI k) λ_=>True:=by
 unfold nI bj kw aH;with_reducible repeat' first|apply OS.ok;constructor|refine IM.mk λ_=>?_
 all_goals trivial
def sU (e:Xp):Ok (rh e) λ_=>True:=by
 unfold rh bj aH;with_reducible repeat' first|apply OS.ok;constructor|refine IM.mk λ_=>?_
 all_goals trivial
def Cz:∀(n d:Nat) (e:Xp),d<n->GX d e->Ok (iB n e) λ_=>True
 |0,_,_,h,_=>by omega
 |n+1,0,_,_,h=>h.elim
 |n+1,d+1,e,hn,h=>by
  let⟨h1,L⟩:=h;refine aV (λx=>x.2=e) (aK (λ_=>ak (gj e)) λ_=>ak (gj e)) ?_;rintro⟨b,x⟩ I;dsimp only at I;subst I;refine aV (λy=>y.2=x) ?_ ?_
  .refine ay (Yu _) λ_ _=>?_
   with_reducible repeat' first|refine bU (λ_=>?_) λ_=>?_|refine bD (λ_=>?_) λ_=>?_|refine eC (λ_=>?_) λ_=>?_|refine aR (λ_=>?_) λ_=>?_|exact ak (gj x)|refine ay (iP _) λ_ _=>?_
  rintro⟨b2,y⟩ A;dsimp only at A;subst A;refine aR (λ_=>ak trivial) λ_=>?_
  refine b9 (l! y.l) (λi x=>x.1=(i:Int)/\x.2=y) ?_ ?_ ⟨rfl,gj y⟩
  .rintro i ⟨a,z⟩ hi ⟨e1,e2⟩;dsimp only at e1 e2;subst e1 e2;refine c8 ?_;refine b_ (aT ?_);refine ay (Cz n d _ (by omega) (L _ (bC (T:=.ex) (xs:=z.l) (j:=(i:Int)) (by omega) (by omega)))) λ_ _=>?_
   refine eC (λ_=>ak trivial) λ_=>ak ?_
   exact⟨gZ,gj z⟩
  .rintro⟨a,z⟩ ⟨e1,e2⟩;dsimp only at e1 e2;subst e2;exact c9 (ak trivial)
def gB (e:Xp) (h:GX 4 e):Ok (jM e) λ_=>True:=Cz fuel 4 e (by rw[kM];omega) h
abbrev U?:=Int×Int×ζ×Int×Int×ζ
def Py (d:U?):Ok (m_ d) λ_=>True:=by
 refine aV (λ_=>True) ?_ λx _=>aR (λ_=>ak trivial) λ_=>?_
 .with_reducible repeat' first|refine bU (λ_=>?_) λ_=>?_|refine bD (λ_=>?_) λ_=>?_|refine eC (λ_=>?_) λ_=>?_|exact ak trivial|refine ay (iP _) λ_ _=>?_
 refine aV (λ_=>True) ?_ λx _=>aR (λ_=>ak trivial) λ_=>?_
 .with_reducible repeat' first|refine bU (λ_=>?_) λ_=>?_|refine aK (λ_=>?_) λ_=>?_|refine eC (λ_=>?_) λ_=>?_|exact ak trivial|refine ay (iP _) λ_ _=>?_
 with_reducible repeat' first|apply OS.ok;constructor|refine IM.mk λ_=>?_
 all_goals trivial
def K7 (z:Sx->M Bool) (A:Y Sx->M Bool) (l:Y Sx) (I:l! l<=1000) (h:∀s∈l,Ok (z s) λ_=>True):Ok (mh z A l) λ_=>True:=by
 refine b9 (l! l) (λi x=>x=(i:Int)) ?_ ?_ rfl
 .rintro i x hi rfl;refine c8 ?_;refine b_ ?_;refine ay (h _ (bC (T:=.sm) (xs:=l) (j:=(i:Int)) (by omega) (by omega))) λ_ _=>?_
  exact eC (λ_=>ak trivial) λ_=>ak gZ
 .rintro x rfl;exact c9 (ak trivial)
def Nn (I:Sx->M Bool) (A:Y Sx->M Bool) (s:Sx) (h1:∀e∈s.index,GX 4 e) (h2:GX 4 s.expr) (L:Ok (A s.body) λ_=>True) (he:Ok (A s.els) λ_=>True):Ok (kX I A s) λ_=>True:=by
 unfold kX bj bQ kw gO bJ aH eP;refine aV (λx=>x.2=s) ?_ ?_
 .with_reducible repeat' first|refine bU (λ_=>?_) λ_=>?_|refine aK (λ_=>?_) λ_=>?_|refine bD (λ_=>?_) λ_=>?_|refine fK (λ_=>?_) λ_=>?_|refine eC (λ_=>?_) λ_=>?_|refine aR (λ_=>?_) λ_=>?_|exact ak (Bf _)|refine ay (iP _) λ_ _=>?_|refine ay (sU _) λ_ _=>?_|refine ay (gB _ h2x) λ_ _=>?_
 rintro⟨b,x⟩ z;have z:=z.symm;subst z;refine aR (λ_=>ak trivial) λ_=>?_
 refine aV (λx=>x.2=s) ?_ ?_
 .with_reducible repeat' first|refine bU (λ_=>?_) λ_=>?_|refine aK (λ_=>?_) λ_=>?_|refine bD (λ_=>?_) λ_=>?_|refine fK (λ_=>?_) λ_=>?_|refine eC (λ_=>?_) λ_=>?_|refine aR (λ_=>?_) λ_=>?_|exact ak (Bf _)|refine ay (iP _) λ_ _=>?_|refine ay (sU _) λ_ _=>?_|refine ay (gB _ h2x) λ_ _=>?_
 rintro⟨b,x⟩ z;have z:=z.symm;subst z;refine aV (λx=>x.2=s) ?_ ?_
 .with_reducible repeat' first|refine bU (λ_=>?_) λ_=>?_|refine aK (λ_=>?_) λ_=>?_|refine bD (λ_=>?_) λ_=>?_|refine fK (λ_=>?_) λ_=>?_|refine eC (λ_=>?_) λ_=>?_|refine aR (λ_=>?_) λ_=>?_|exact ak (Bf _)|refine ay (iP _) λ_ _=>?_|refine ay (sU _) λ_ _=>?_|refine ay (gB _ h2x) λ_ _=>?_
 rintro⟨b,x⟩ z;have z:=z.symm;subst z;refine aR (λ_=>ak trivial) λ_=>?_
 refine aV (λx=>x.2=s) ?_ ?_
 .with_reducible repeat' first|refine bU (λ_=>?_) λ_=>?_|refine aK (λ_=>?_) λ_=>?_|refine bD (λ_=>?_) λ_=>?_|refine fK (λ_=>?_) λ_=>?_|refine eC (λ_=>?_) λ_=>?_|refine aR (λ_=>?_) λ_=>?_|exact ak (Bf _)|refine ay (iP _) λ_ _=>?_|refine ay (sU _) λ_ _=>?_|refine ay (gB _ h2x) λ_ _=>?_
 rintro⟨b,x⟩ z;have z:=z.symm;subst z;refine aR (λ_=>ak trivial) λ_=>?_
 refine aV (λx=>x.2=s) ?_ ?_
 .with_reducible repeat' first|refine bU (λ_=>?_) λ_=>?_|refine aK (λ_=>?_) λ_=>?_|refine bD (λ_=>?_) λ_=>?_|refine fK (λ_=>?_) λ_=>?_|refine eC (λ_=>?_) λ_=>?_|refine aR (λ_=>?_) λ_=>?_|exact ak (Bf _)|refine ay (iP _) λ_ _=>?_|refine ay (sU _) λ_ _=>?_|refine ay (gB _ h2x) λ_ _=>?_
  all_goals
   rename_i g;dsimp [aw]at g;refine b_ (aT ?_);refine ay (gB _ (h1 _ (bC (T:=.ex) (xs:=Sx.index _) (j:=0) (by omega) (by omega)))) λ_ _=>ak (Bf _)
 rintro⟨b,x⟩ z;have z:=z.symm;subst z;refine aR (λ_=>ak trivial) λ_=>?_
 refine aV (λx=>x.2=s) ?_ ?_
 .with_reducible repeat' first|refine bU (λ_=>?_) λ_=>?_|refine aK (λ_=>?_) λ_=>?_|refine bD (λ_=>?_) λ_=>?_|refine fK (λ_=>?_) λ_=>?_|refine eC (λ_=>?_) λ_=>?_|refine aR (λ_=>?_) λ_=>?_|exact ak (Bf _)|refine ay (iP _) λ_ _=>?_|refine ay (sU _) λ_ _=>?_|refine ay (gB _ h2x) λ_ _=>?_
 rintro⟨b,x⟩ z;have z:=z.symm;subst z;refine aV (λx=>x.2=s) ?_ ?_
 .have h2x:GX 4 (eM (Xp.op (Sx.expr s),Xp.n (Sx.expr s),Xp.name (Sx.expr s),Xp.l (Sx.expr s))):=by exact h2
  with_reducible repeat' first|refine bU (λ_=>?_) λ_=>?_|refine aK (λ_=>?_) λ_=>?_|refine bD (λ_=>?_) λ_=>?_|refine fK (λ_=>?_) λ_=>?_|refine eC (λ_=>?_) λ_=>?_|refine aR (λ_=>?_) λ_=>?_|exact ak (Bf _)|refine ay (iP _) λ_ _=>?_|refine ay (sU _) λ_ _=>?_|refine ay (gB _ h2x) λ_ _=>?_
 rintro⟨b,x⟩ z;have z:=z.symm;subst z;refine aR (λ_=>ak trivial) λ_=>?_
 refine aV (λx=>x.2=s) ?_ ?_
 .with_reducible repeat' first|refine bU (λ_=>?_) λ_=>?_|refine aK (λ_=>?_) λ_=>?_|refine bD (λ_=>?_) λ_=>?_|refine fK (λ_=>?_) λ_=>?_|refine eC (λ_=>?_) λ_=>?_|refine aR (λ_=>?_) λ_=>?_|exact ak (Bf _)|refine ay (iP _) λ_ _=>?_|refine ay (sU _) λ_ _=>?_|refine ay (gB _ h2x) λ_ _=>?_
 rintro⟨b,x⟩ z;have z:=z.symm;subst z;refine aV (λx=>x.2=s) ?_ ?_
 .with_reducible repeat' first|refine bU (λ_=>?_) λ_=>?_|refine aK (λ_=>?_) λ_=>?_|refine bD (λ_=>?_) λ_=>?_|refine fK (λ_=>?_) λ_=>?_|refine eC (λ_=>?_) λ_=>?_|refine aR (λ_=>?_) λ_=>?_|exact ak (Bf _)|refine ay (iP _) λ_ _=>?_|refine ay (sU _) λ_ _=>?_|refine ay (gB _ h2x) λ_ _=>?_
 rintro⟨b,x⟩ z;dsimp only at z;subst z;refine aR (λ_=>ak trivial) λ_=>?_
 refine aV (λ_=>True) ?_ λ_ _=>ak trivial
 refine ay L λ_ _=>aR (λ_=>ay he λ_ _=>ak trivial) λ_=>ak trivial
def Nx:∀(n:Nat),(∀(d:Nat) (s:Sx),2*d<n->GT d s->Ok (eZ n s) λ_=>True)/\(∀(d:Nat) (l:Y Sx),2*d+1<n->l! l<=1000->(∀s∈l,GT d s)->Ok (dP n l) λ_=>True)
 |0=>⟨λd _ h=>by omega,λd _ h=>by omega⟩
 |n+1=>by
  let⟨L,z⟩:=Nx n;refine ⟨λd s hd h=>?_,λd l hd I h=>?_⟩
  .cases d with
   |zero=>exact h.elim
   |succ d=>
    let⟨_,g2,g3,g4,g5,g6,g7⟩:=h;exact Nn (eZ n) (dP n) s g2 g3 (z d _ (by omega) (by omega) g6) (z d _ (by omega) (by omega) g7)
  .exact K7 (eZ n) (dP n) l I λs A=>L d s (by omega) (h s A)
def O7 (d:Nat) (hd:d<=100) (l:Y Sx) (z:l! l<=1000) (h:∀s∈l,GT d s):Ok (pj l) λ_=>True:=(Nx fuel).2 d l (by rw[kM];omega) z h
abbrev DT:Type:=U?
abbrev HT:Type:=ζ×Int×Y ζ×Y Sx
abbrev PG:Type:=Y DT×Y HT
structure PX (p:PG):Prop where
 d:l! p.1<=100
 t:l! p.2<=8
 l:∀t∈p.2,l! t.2.2.1<=100
 b:∀t∈p.2,l! t.2.2.2<=100
 s:∀t∈p.2,∀s∈t.2.2.2,GT 5 s
def ahr (p:PG) (h:PX p):Ok (rF p) λ_=>True:=by
 let⟨hd,ht,hl,hb,hs⟩:=h;unfold rF be bM c_ bQ bJ aZ cP aH cL;refine b9 (l! p.1) (λi x=>x.1=(i:Int)/\x.2=p) ?_ ?_ ⟨rfl,rfl⟩
 .rintro i ⟨a,x⟩ hi ⟨e1,e2⟩;dsimp only at e1 e2;subst e1 e2;refine c8 ?_;refine b_ (aT ?_);refine ay (Py _) λ_ _=>?_
  exact eC (λ_=>ak trivial) λ_=>ak ⟨gZ,rfl⟩
 rintro⟨a,x⟩ ⟨e1,e2⟩;dsimp only at e1 e2;subst e2;refine c9 ?_;refine ay (P:=λ_=>True) ?_ λ_ _=>ak trivial
 refine b9 (l! x.2) (λi y=>y.1=(i:Int)/\y.2=x) ?_ ?_ ⟨rfl,rfl⟩
 .rintro i ⟨a,x⟩ hi ⟨e1,e2⟩;subst e1;have e2:=e2.symm;subst e2;refine c8 ?_;refine b_ (aT ?_);have hm:=bC (T:=u_) (xs:=x.2) (j:=(i:Int)) (by omega) (by omega);have h1:=hl _ hm;have h2:=hb _ hm;have A:=hs _ hm;revert h1 h2 A;generalize (aI u_ x.2 (i:Int))=t;intro h1 h2 A;refine b9 (l! t.2.2.1) (λk y=>y.1=(k:Int)/\y.2=(x,t)) ?_ ?_ ⟨rfl,rfl⟩
  .rintro k ⟨a,z⟩ hk ⟨L,I⟩;subst L I;refine c8 ?_;refine b_ (aT ?_);refine ay (iP _) λ_ _=>?_
   exact eC (λ_=>ak trivial) λ_=>ak ⟨gZ,rfl⟩
  .rintro⟨a,z⟩ ⟨L,I⟩;subst L I;refine c9 ?_;refine ay (P:=λr=>match r with|.inl y=>y.1=((i+1:Nat):Int)/\y.2=x|.inr _=>True) ?_ ?_
   .refine aV (λy=>y.2=x) ?_ ?_
    .refine ay (iP _) λ_ _=>eC (λ_=>ak rfl) λ_=>?_
     exact ay (O7 5 (by omega) _ (by grind) A) λ_ _=>ak rfl
    rintro⟨b,y⟩ e;subst e;exact aR (λ_=>ak trivial) λ_=>ak ⟨gZ,rfl⟩
   .rintro (y|y) hy
    .exact ak hy
    .exact ak trivial
 .rintro⟨a,y⟩ ⟨e1,e2⟩;dsimp only at e1 e2;subst e2;exact c9 (ak trivial)
def zU (l:Y DT) (s:ζ) (z:l! l<=1000):Ok (i_ (l,s)) λr=> -1<=r/\r<(l! l:Int):=by
 refine b9 (l! l) (λi x=>x=(i:Int)) ?_ ?_ rfl
 .rintro i x hi rfl;refine c8 ?_;refine b_ (aT ?_);exact aK (λ_=>ak ⟨by omega,by omega⟩) λ_=>ak gZ
 .rintro x rfl;exact c9 (ak ⟨by omega,by omega⟩)
def uI (l:Y HT) (s:ζ) (z:l! l<=1000):Ok (iS (l,s)) λr=> -1<=r/\r<(l! l:Int):=by
 refine b9 (l! l) (λi x=>x=(i:Int)) ?_ ?_ rfl
 .rintro i x hi rfl;refine c8 ?_;refine b_ (aT ?_);exact aK (λ_=>ak ⟨by omega,by omega⟩) λ_=>ak gZ
 .rintro x rfl;exact c9 (ak ⟨by omega,by omega⟩)
def DD (p:PG) (s:ζ):Prop:=∃v,i_ (p.1,s)=Z v/\0<=v/\v<(l! p.1:Int)
def ai3 (p:PG) (h:PX p) (t:Int) (s:ζ):Ok (uy (p,t,s)) λk=>k≠0->k≠7->k≠8->DD p s:=by
 have hd:=h.d;have ht:=h.t;refine aV (λx=>x.2=p) ?_ ?_
 .refine fK (λL=>bD (λI=>?_) λ_=>ak rfl) λ_=>ak rfl
  refine aP L I (aT ?_);have hm:=h.l _ (bC (T:=u_) (xs:=p.2) (j:=t) L I);exact ay (BD _ s (c7 hm (by omega))) λ_ _=>ak rfl
 rintro⟨b,x⟩ e;have e:=e.symm;subst e;refine aR (λ_=>ak λ_ _ h=>(h rfl).elim) λ_=>?_
 let⟨v,A,v0,v1⟩:=zU p.1 s (by omega);refine aX A ?_;refine bD (λ_=>?_) λg=>?_
 .exact ay (uI p.2 s (by omega)) λ_ _=>fK (λ_=>ak λ_ h=>(h rfl).elim) λ_=>ak λh=>(h rfl).elim
 have z:DD p s:=⟨v,A,g,v1⟩
 refine aP g v1 (aT ?_);refine aK (λ_=>?_) λ_=>?_
 .exact aP g v1 (aT (bU (λ_=>ak λ_ _ _=>z) λ_=>ak λ_ _ _=>z))
 refine aK (λ_=>ak λ_ _ _=>z) λ_=>?_
 refine aV (λx=>x.2=p) (aK (λ_=>ak rfl) λ_=>aK (λ_=>ak rfl) λ_=>aK (λ_=>ak rfl) λ_=>ak rfl) ?_;rintro⟨b,x⟩ e;dsimp only at e;subst e;exact aR (λ_=>aP g v1 (aT (ak λ_ _ _=>z))) λ_=>ak λ_ _ _=>z
def qN (p:PG) (h:PX p) (t:Int) (s:ζ) (a b:Int):Ok (io (p,t,s,a,b)) λr=>r=0->(a≠7/\a≠8)->(b≠7/\b≠8)->DD p s:=by
 refine ay (ai3 p h t s) λk z=>?_
 refine aK (λ_=>ak nofun) λg=>?_
 refine aV (λx=>x=af->k=a\/k=b) ?_ ?_
 .refine bU (λ_=>ak λh=>?_) λh=>ak λ_=>.inl h
  simp at h;exact .inr h
 rintro x A;refine aR (λ_=>ak nofun) λh=>ak λ_ h1 I=>z g ?_ ?_
 .grind
 .grind
def Ru:∀(n d:Nat) (e:Xp),d<n->GX d e->Ok (oS n e) λ_=>True
 |0,_,_,h,_=>by omega
 |n+1,0,_,_,h=>h.elim
 |n+1,d+1,e,I,h=>by
  let⟨h1,A⟩:=h;refine b9 (l! e.l) (λi x=>x.1.2.2=(i:Int)/\x.2=e) ?_ ?_ ⟨rfl,gj e⟩
  .rintro i ⟨⟨a,b,c⟩,z⟩ hi ⟨e1,e2⟩;dsimp only at e1 e2;subst e1 e2;refine c8 ?_;refine b_ (aT ?_);refine ay (Ru n d _ (by omega) (A _ (bC (T:=.ex) (xs:=z.l) (j:=(i:Int)) (by omega) (by omega)))) λ_ _=>ak ?_
   exact⟨gZ,gj z⟩
  .rintro⟨⟨a,b,c⟩,z⟩ ⟨e1,e2⟩;dsimp only at e1 e2;subst e2;exact c9 (ak trivial)
def JJ (p:PG) (hp:PX p) (t:Int):∀(n d:Nat) (e:Xp),d<n->GX d e->Ok (oR n (p,t,e)) λ_=>True
 |0,_,_,h,_=>by omega
 |n+1,0,_,_,h=>h.elim
 |n+1,d+1,e,hn,h=>by
  let⟨h1,h2⟩:=h;rw[Bo];unfold wG bj bQ bJ cP aH cL;refine aV (λx=>x.2.1=p/\x.2.2=e) ?_ ?_
  .refine aK (λ_=>ay (qN p hp t _ _ _) λ_ _=>ak ⟨rfl,gj e⟩) λ_=>aK (λ_=>ay (qN p hp t _ _ _) λ_ _=>ak ⟨rfl,gj e⟩) λ_=>ak ⟨rfl,gj e⟩
  rintro⟨r,I,e'⟩ ⟨A,z⟩;have A:=A.symm;subst A;have z:=z.symm;subst z;refine qO (λx=>((l! e.l:Int)-x.1.2).toNat) (λx=>0<=x.1.2/\x.2.1=p/\x.2.2=e) ?_ ⟨eS _,rfl,gj e⟩;rintro⟨⟨a,(b:Int)⟩,I,e'⟩ ⟨b0,A,z⟩;dsimp only at b0 A z;have A:=A.symm;subst A;have z:=z.symm;subst z;refine aV (λx=>x.2.1=p/\x.2.2=e/\(x.1=J->b<(l! e.l:Int))) ?_ ?_
  .exact bD (λg=>ak ⟨rfl,gj e,λ_=>g⟩) λ_=>ak ⟨rfl,gj e,nofun⟩
  rintro⟨c,I,e'⟩ ⟨A,z,f3⟩;have A:=A.symm;subst A;have z:=z.symm;subst z;refine aR (λL=>?_) λ_=>ak trivial
  have g:=f3 L;refine aP b0 g (aT ?_);refine ay (JJ p hp t n d _ (by omega) (h2 _ (bC (T:=.ex) (xs:=e.l) (j:=b) b0 g))) λ_ _=>ak ?_
  dsimp only;rw[gr (n:=b+1) (by omega) (by omega)];exact⟨⟨by omega,rfl,gj e⟩,by omega⟩
def zS (p:PG) (hp:PX p) (t:Int) (e:Xp) (h:GX 4 e):Ok (pi (p,t,e)) λ_=>True:=by
 have z:GX 4 (eM (Xp.op e,Xp.n e,Xp.name e,Xp.l e)):=by exact h
 refine ay (gB _ z) λ_ _=>eC (λ_=>ak trivial) λ_=>?_
 refine ay (Ru fuel 4 _ (by rw[kM];omega) z) λ_ _=>?_
 refine aV (λx=>x.2.1=p/\x.2.2=e) (bD (λ_=>ak ⟨rfl,gj e⟩) λ_=>ak ⟨rfl,gj e⟩) ?_;rintro⟨r,L,e'⟩ ⟨A,I⟩;have A:=A.symm;subst A I;exact aR (λ_=>ak trivial) λ_=>ay (JJ p hp t fuel 4 _ (by rw[kM];omega) z) λ_ _=>ak trivial
def fX (b:Bool):Ok (db b) λ_=>True:=by
 unfold db;exact aR (λ_=>ak trivial) λ_=>ak trivial
def vW (x:ν):Ok (jK x) λr=>r=0->x.1=0/\x.2=0:=by
 unfold jK gO;exact bU (λh=>ak λz=>(h z).elim) λh=>ak λz=>⟨h,z⟩
abbrev WK:Type:=(Y DT×Y HT×Int)×(Bool×Y Sx)×Y ζ×Y ζ
def afy (a b:Int) (s:ζ) (w:WK) (h:l! w.2.1.2<=100):Ok (eJ ((a,b,s),w)) λy=>y.2=w:=by
 unfold eJ be bj bQ lx aZ cP aH cL;refine b9 (l! w.2.1.2) (λi x=>x.1=(i:Int)/\x.2=w) ?_ ?_ ⟨rfl,rfl⟩
 .rintro i ⟨c,x⟩ hi ⟨e1,e2⟩;subst e1;have e2:=e2.symm;subst e2;refine c8 ?_;refine b_ (b_ (aT ?_));refine aV (λx=>x.2=w) ?_ ?_
  .refine aK (λ_=>aK (λ_=>ak rfl) λ_=>ak rfl) λ_=>aK (λ_=>aK (λ_=>ak rfl) λ_=>ak rfl) λ_=>ak rfl
  rintro⟨c,x⟩ e;dsimp only at e;subst e;exact aR (λ_=>ak rfl) λ_=>ak ⟨gZ,rfl⟩
 .rintro⟨c,x⟩ ⟨e1,e2⟩;subst e1;have e2:=e2.symm;subst e2;exact c9 (ak rfl)
def UZ:Nat->Sx->Nat
 |0,_=>0
 |d+1,s=>1+(s.body.map (UZ d)).sum+(s.els.map (UZ d)).sum
def oZ (d:Nat) (l:Y Sx):Nat:=(l.map (UZ d)).sum
def KS:Nat->Nat
 |0=>0
 |d+1=>1+16*KS d
def Sv {f:R->Nat} :∀{l:Y R},(∀x∈l,f x<=i)->(l.map f).sum<=l! l*i
 |[],_=>by simp
 |x::r,h=>by
  have:=Sv (l:=r) λy z=>h y (cY _ z)
  have:=h x (dK ..);rw[cD,List.sum_cons,jW,jF];omega
def ab6:∀{d:Nat} {s:Sx},GT d s->UZ d s<=KS d
 |0,_,h=>h.elim
 |d+1,s,⟨_,_,_,h4,L,I,A⟩=>by
  have a:=Sv (f:=UZ d) (l:=s.body) λx z=>ab6 (I x z)
  have b:=Sv (f:=UZ d) (l:=s.els) λx z=>ab6 (A x z)
  have c:=cw (KS d) h4;have e:=cw (KS d) L;show 1+_+_<=1+16*KS d;omega
def Uo:∀{d:Nat} {s:Sx},GT d s->UZ (d+1) s=UZ d s
 |0,_,h=>h.elim
 |d+1,s,⟨_,_,_,_,_,I,A⟩=>by
  show 1+(s.body.map (UZ (d+1))).sum+(s.els.map (UZ (d+1))).sum=1+(s.body.map (UZ d)).sum+(s.els.map (UZ d)).sum;rw[nu λx z=>Uo (I x z),nu λx z=>Uo (A x z)]
def als {l:Y Sx} (h:∀s∈l,GT i s):oZ i l<=l! l*KS i:=Sv λx z=>ab6 (h x z)
def zG {l:Y Sx} (hi:i<l! l):oZ m (l.take (i+1))=oZ m (l.take i)+UZ m (aI (.sm) l (i:Int)):=by
 unfold oZ;rw[nV (T:=.sm) hi,cg,Jg];simp
def Up {d:Nat} (l:Y Sx) (i:Nat):oZ d (l.take i)<=oZ d l:=by
 conv=>rhs;rw[<- EM i l]
 unfold oZ;rw[cg,Jg];omega
def IJ:∀(n d:Nat) (l:Y Sx),d<n->l! l<=1000->(∀s∈l,GT d s)->KS d<=100000->oU n l=Z ((oZ d l:Nat):Int)
 |0,_,_,h,_,_,_=>by omega
 |n+1,d,l,hn,z,h,I=>by
  refine cz ?_;have hb:=als h;have A:=Nat.mul_le_mul z I;refine b9 (l! l) (λi x=>x.2=(i:Int)/\x.1=(l! l:Int)-i+(oZ d (l.take i):Nat)) ?_ ?_ ⟨rfl,by simp[oZ]⟩
  .rintro i ⟨a,b⟩ hi ⟨e1,e2⟩;subst e1 e2;have hp:=Up (d:=d) l (i+1);rw[zG hi]at hp;refine c8 ?_;refine b_ (aT ?_);rw[zG hi];have hm:=h _ (bC (T:=.sm) (xs:=l) (j:=(i:Int)) (by omega) (by omega));revert hm hp;generalize (aI (.sm) l (i:Int))=s;intro hp hm;cases d with
   |zero=>exact hm.elim
   |succ d=>
    let⟨_,_,_,g4,g5,g6,L⟩:=hm;have hk:KS (d+1)=1+16*KS d:=rfl;have hc:UZ (d+1) s=1+oZ d s.body+oZ d s.els:=rfl;refine aX (IJ n d _ (by omega) (by omega) g6 (by omega)) ?_;refine b_ (aT ?_);refine aX (IJ n d _ (by omega) (by omega) L (by omega)) (ak ⟨gZ,?_⟩);rw[gr (n:=(l! l:Int)-i+(oZ (d+1) (l.take i):Nat)+(oZ d s.body:Nat)) (by omega) (by omega),gr];omega
  .rintro⟨a,b⟩ ⟨e1,e2⟩;subst e1 e2;exact c9 (ak (by simp))
def aa5 (l:Y DT) (I:l! l<=100):Ok (tC l) λ_=>True:=by
 unfold tC be bA bM ct dF gy bj bQ kw gO bV bJ aZ cP aH cL;refine b9 (l! l) (λi x=>x.2.2.2.2=(i:Int)) ?_ ?_ rfl
 .rintro i ⟨a,b,c,d,e⟩ hi e1;subst e1;refine c8 ?_;refine aV (λ_=>True) ?_ λx _=>ak gZ
  refine b_ (aT ?_);have htk:l! (dy (aO (i:Int)) l)<=100:=by grind
  refine cW (dG (by simp) (dG (by grind) ?_));refine ay (zU _ _ (c7 htk (by omega))) λv z=>?_
  refine fK (λ_=>ak trivial) λ_=>bD (λ_=>ak trivial) λ_=>?_
  refine aV (λ_=>True) ?_ λx _=>?_
  .refine aV (λ_=>True) (aK (λ_=>ak trivial) λ_=>ak trivial) λx _=>aR (λ_=>ak trivial) λ_=>?_
   refine aV (λ_=>True) (aK (λ_=>ak trivial) λ_=>ak trivial) λx _=>aR (λ_=>ak trivial) λ_=>?_
   exact aK (λ_=>ak trivial) λ_=>ak trivial
  refine aV (λ_=>True) (bD (λ_=>ak trivial) λ_=>bD (λ_=>ak trivial) λ_=>bD (λ_=>ak trivial) λ_=>ak trivial) λx _=>aR (λ_=>ak trivial) λ_=>?_
  refine aK (λ_=>?_) λ_=>ak trivial
  refine cW (dG (by simp) (dG (by grind) ?_));refine ay (zU _ _ (c7 htk (by omega))) λv z=>?_
  refine bD (λ_=>ak trivial) λg=>?_
  have A:=z.2;rw[bR]at A;exact aP g (by omega) (aT (bU (λ_=>ak trivial) λ_=>ak trivial))
 .rintro⟨a,b,c,d,e⟩ e1;subst e1;exact c9 (ak trivial)
def Ss (p:PG) (h:PX p):Ok (ph p) λ_=>True:=by
 have hd:=h.d;have ht:=h.t;unfold ph be bA bM bQ kw bV bJ aZ cP aH cL;refine b9 (l! p.2) (λi x=>x.1=(i:Int)/\x.2=p) ?_ ?_ ⟨rfl,rfl⟩
 .rintro i ⟨a,x⟩ hi ⟨e1,e2⟩;subst e1;have e2:=e2.symm;subst e2;refine c8 ?_;refine b_ (aT ?_);refine aV (λx=>x.2.1=p) ?_ ?_
  .refine ay (zU _ _ (by grind)) λv L=>fK (λ_=>ak rfl) λ_=>?_
   refine cW (dG (by simp) (dG (by grind) ?_));exact ay (uI _ _ (by grind)) λ_ _=>ak rfl
  rintro⟨b,x,z⟩ e;dsimp only at e;subst e;exact aR (λ_=>ak trivial) λ_=>ak ⟨gZ,rfl⟩
 rintro⟨a,x⟩ ⟨e1,e2⟩;subst e1;have e2:=e2.symm;subst e2;refine c9 ?_;refine ay (P:=λ_=>True) ?_ λ_ _=>ak trivial
 refine b9 (l! p.2) (λi x=>x.1=(i:Int)/\x.2=p) ?_ ?_ ⟨rfl,rfl⟩
 .rintro i ⟨a,x⟩ hi ⟨e1,e2⟩;subst e1;have e2:=e2.symm;subst e2;refine c8 ?_;refine b_ (aT ?_);have hm:=h.l _ (bC (T:=u_) (xs:=p.2) (j:=(i:Int)) (by omega) (by omega));revert hm;generalize (aI u_ p.2 (i:Int))=t;intro hm;refine bD (λ_=>ak trivial) λ_=>?_
  refine b9 (l! t.2.2.1) (λk y=>y.1=(k:Int)/\y.2=(p,t)) ?_ ?_ ⟨rfl,rfl⟩
  .rintro k ⟨a,z⟩ hk ⟨I,A⟩;subst I A;refine c8 ?_;refine b_ (aT ?_);refine aV (λx=>x.2=(p,t)) ?_ ?_
   .refine ay (zU _ _ (by grind)) λv L=>fK (λ_=>ak rfl) λ_=>?_
    refine ay (uI _ _ (by grind)) λv L=>fK (λ_=>ak rfl) λ_=>?_
    refine cW (dG (by simp) (dG (by grind) ?_));exact ay (BD _ _ (by grind)) λ_ _=>ak rfl
   rintro⟨b,x⟩ e;subst e;exact aR (λ_=>ak trivial) λ_=>ak ⟨gZ,rfl⟩
  .rintro⟨a,z⟩ ⟨I,A⟩;subst I A;exact c9 (ak ⟨gZ,rfl⟩)
 .rintro⟨a,x⟩ ⟨e1,e2⟩;subst e1;have e2:=e2.symm;subst e2;exact c9 (ak trivial)
structure WQ (w:WK) (y:Int×WK):Prop where
 p:y.2.1=w.1
 a:y.2.2.1=w.2.1
 s:l! y.2.2.2.1<=l! w.2.2.1+1
 t:l! y.2.2.2.2<=l! w.2.2.2+1
def WQ.same (w:WK) (e:Int):WQ w (e,w):=⟨rfl,rfl,Sk _,Sk _⟩
def au9 (s:Sx) (D:Y DT) (T:Y HT) (t:Int) (A:Bool×Y Sx) (sp z:Y ζ) (hp:PX (D,T)) (hA:l! A.2<=100) (h1:l! sp<=100000000) (h2:l! z<=100000000) (L:∀e∈s.index,GX 4 e) (he:GX 4 s.expr):Ok (nG (s,((D,T,t),A,sp,z))) (WQ ((D,T,t),A,sp,z)):=by
 have hex:GX 4 (eM (Xp.op s.expr,Xp.n s.expr,Xp.name s.expr,Xp.l s.expr)):=by rw[gj];exact he
 have hin:∀(a b:Int) (n:ζ),Ok (eJ ((a,b,n),((D,T,t),A,sp,z))) λy=>y.2=((D,T,t),A,sp,z):=λa b n=>afy a b n _ hA
 have hth:l! T<=1000:=by have:=hp.t;dsimp only at this;omega
 have hdl:l! D<=1000:=by have:=hp.d;dsimp only at this;omega
 have sm:∀e,WQ ((D,T,t),A,sp,z) (e,((D,T,t),A,sp,z)):=WQ.same _;unfold nG be bA bM cE ct dF c_ gy bj kw gO bV bJ aH eP;refine ay (hin _ _ _) λy I=>?_
 let⟨b1,y2⟩:=y;dsimp only at I;subst I;refine bl (by simp) ?_;refine ay (hin _ _ _) λy I=>?_
 let⟨b2,y2⟩:=y;dsimp only at I;subst I;refine bl (by simp) ?_;refine ay (hin _ _ _) λy I=>?_
 let⟨b3,y2⟩:=y;dsimp only at I;subst I;refine bl (by simp) ?_;refine aK (λ_=>?_) λ_=>?_
 .refine aK (λ_=>?_) λg=>?_
  .exact ay (qN _ hp _ _ _ _) λ_ _=>ay (zS _ hp _ _ hex) λ_ _=>ay (vW _) λ_ _=>ak (sm _)
  .refine ay (qN _ hp _ _ _ _) λ_ _=>?_
   dsimp only[aw]at g;refine b_ (aT ?_);refine ay (zS _ hp _ _ (L _ (bC (T:=.ex) (xs:=s.index) (j:=0) (by omega) (by omega)))) λ_ _=>?_
   exact ay (zS _ hp _ _ hex) λ_ _=>ay (vW _) λ_ _=>ay (vW _) λ_ _=>ak (sm _)
 refine aV (λx=>x.2=((D,T,t),A,s,(D,T),sp,z)) (aK (λ_=>ak (by dsimp only;rw[Bf])) λ_=>ak (by dsimp only;rw[Bf])) ?_;rintro⟨b,x⟩ e;dsimp only at e;subst e;refine aR (λ_=>ay (zS _ hp _ _ hex) λ_ _=>ak (sm _)) λ_=>?_
 refine aK (λ_=>?_) λ_=>?_
 .refine aV (λx=>WQ ((D,T,t),A,sp,z) x) ?_ λx L=>ak L
  refine ay (qN _ hp _ _ _ _) λ_ _=>aR (λ_=>?_) λ_=>?_
  .exact ay (fX _) λ_ _=>ay (vW _) λ_ _=>ak (sm _)
  .refine ay (hin _ _ _) λy I=>?_
   let⟨b4,y2⟩:=y;dsimp only at I;subst I;exact bl (by simp) (ay (fX _) λ_ _=>ay (vW _) λ_ _=>ak (sm _))
 refine aV (λx=>x.2=((D,T,t),A,s,(D,T),sp,z)) (aK (λ_=>ak (by dsimp only;rw[Bf])) λ_=>ak (by dsimp only;rw[Bf])) ?_;rintro⟨b,x⟩ e;dsimp only at e;subst e;refine aR (λ_=>?_) λ_=>?_
 .refine aV (λx=>WQ ((D,T,t),A,sp,z) x) ?_ λx L=>ak L
  refine ay (qN _ hp _ _ _ _) λ_ _=>aR (λ_=>?_) λ_=>?_
  .exact ay (fX _) λ_ _=>ay (vW _) λ_ _=>ak (sm _)
  .refine ay (hin _ _ _) λy I=>?_
   let⟨b4,y2⟩:=y;dsimp only at I;subst I;exact bl (by simp) (ay (fX _) λ_ _=>ay (vW _) λ_ _=>ak (sm _))
 refine aK (λ_=>ay (fX _) λ_ _=>ak (sm _)) λ_=>?_
 refine aK (λ_=>?_) λ_=>?_
 .refine aV (λx=>WQ ((D,T,t),A,sp,z) x) ?_ λx L=>ak L
  exact aR (λ_=>ay (fX _) λ_ _=>ak (sm _)) λ_=>ay (fX _) λ_ _=>ak (sm _)
 refine aV (λx=>x.2=((D,T,t),A,s,(D,T),sp,z)) (aK (λ_=>ak (by dsimp only;rw[Bf])) λ_=>aK (λ_=>ak (by dsimp only;rw[Bf])) λ_=>ak (by dsimp only;rw[Bf])) ?_;rintro⟨b,x⟩ e;dsimp only at e;subst e;refine aR (λ_=>?_) λ_=>?_
 .refine ay (qN _ hp _ _ _ _) λr hr=>bU (λ_=>ak (sm _)) λg=>?_
  let⟨v,hv,v0,v1⟩:=hr g (by omega) (by omega);refine aX hv (aP v0 v1 (aT ?_));refine ay (hin _ _ _) λy I=>?_
  let⟨b4,y2⟩:=y;dsimp only at I;subst I;refine bl (by simp) ?_;refine aV (λx=>WQ ((D,T,t),A,sp,z) x) ?_ λx L=>ak L
  refine aR (λ_=>ay (fX _) λ_ _=>ak (sm _)) λ_=>eC (λ_=>ay (fX _) λ_ _=>ak (sm _)) λ_=>?_
  exact aK (λ_=>ay (fX _) λ_ _=>ak (sm _)) λ_=>ay (fX _) λ_ _=>ak (sm _)
 refine aK (λ_=>?_) λ_=>?_
 .refine ay (qN _ hp _ _ _ _) λr hr=>bU (λ_=>ak (sm _)) λg=>?_
  refine ay (uI T _ hth) λv hv=>?_
  refine aV (λx=>x.2=((D,T,t),A,s,sp,z)) ?_ ?_
  .refine aR (λ_=>ak (by dsimp only;rw[Bf])) λ_=>aR (λ_=>ak (by dsimp only;rw[Bf])) λ_=>aR (λ_=>ak (by dsimp only;rw[Bf])) λ_=>aK (λ_=>ak (by dsimp only;rw[Bf])) λ_=>ak (by dsimp only;rw[Bf])
  rintro⟨b,x⟩ e;dsimp only at e;subst e;refine aR (λ_=>ak (sm _)) λ_=>?_
  refine ay (BD sp _ (by omega)) λ_ _=>fK (λ_=>ak (sm _)) λ_=>?_
  exact a! (ak ⟨rfl,rfl,by simp,Sk _⟩)
 refine aK (λ_=>?_) λ_=>?_
 .refine aV (λx=>WQ ((D,T,t),A,sp,z) x) ?_ λx L=>ak L
  refine ay (qN _ hp _ _ _ _) λr hr=>?_
  refine aR (λ_=>ay (fX _) λ_ _=>ay (vW _) λ_ _=>ak (sm _)) λ_=>?_
  refine aR (λ_=>ay (fX _) λ_ _=>ay (vW _) λ_ _=>ak (sm _)) λ_=>?_
  exact ay (uI T _ hth) λv hv=>ay (fX _) λ_ _=>ay (vW _) λ_ _=>ak (sm _)
 refine aK (λ_=>?_) λ_=>?_
 .refine aV (λx=>x.2=((D,T,t),A,s,(D,T),sp,z)) ?_ ?_
  .refine ay (qN _ hp _ _ _ _) λr hr=>?_
   exact aR (λ_=>ay (fX _) λ_ _=>ay (vW _) λ_ _=>ak (by dsimp only;rw[Bf])) λ_=>ay (fX _) λ_ _=>ay (vW _) λ_ _=>ak (by dsimp only;rw[Bf])
  rintro⟨b,x⟩ e;dsimp only at e;subst e;refine aV (λx=>x.2=((D,T,t),A,s,(D,T),sp,z)) ?_ ?_
  .refine aV (λx=>x.2=((D,T,t),A,s,(D,T),sp,z)) ?_ ?_
   .exact aK (λ_=>ay (BD z _ (by omega)) λ_ _=>ak (by dsimp only;rw[Bf])) λ_=>ak (by dsimp only;rw[Bf])
   rintro⟨b,x⟩ e;dsimp only at e;subst e;exact aR (λ_=>ak (by dsimp only;rw[Bf])) λ_=>ak (by dsimp only;rw[Bf])
  rintro⟨b,x⟩ e;dsimp only at e;subst e;refine a! ?_;exact ay (zS _ hp _ _ hex) λ_ _=>ay (vW _) λ_ _=>ak ⟨rfl,rfl,Sk _,by simp⟩
 exact ay (qN _ hp _ _ _ _) λ_ _=>ay (qN _ hp _ _ _ _) λ_ _=>ay (fX _) λ_ _=>ay (vW _) λ_ _=>ay (vW _) λ_ _=>ak (sm _)
abbrev RA4:Type:=(Y Sx×WK)->M (ν×WK)
structure QA (l:List Sx) (d:Nat) (w:WK) (y:ν×WK):Prop where
 p:y.2.1=w.1
 a:l! y.2.2.1.2=l! w.2.1.2
 s:l! y.2.2.2.1<=l! w.2.2.1+l! l*KS d
 t:l! y.2.2.2.2<=l! w.2.2.2+l! l*KS d
def SpA (rr:RA4) (d:Nat):Prop:=∀(l:Y Sx) (w:WK),l! l<=100->(∀s∈l,GT d s)->PX (w.1.1,w.1.2.1)->l! w.2.1.2+d<=50->l! w.2.2.1+l! l*KS d<=100000000->l! w.2.2.2+l! l*KS d<=100000000->Ok (rr (l,w)) (QA l d w)
def apt (rr:RA4) (d:Nat) (hr:∀d',d=d'+1->SpA rr d'):SpA (nM rr) d:=by
 rintro l ⟨⟨D,T,t⟩,A,sp,se⟩ hl hg hp hA h1 h2;dsimp only at hp hA h1 h2;have hK:∀i:Nat,i<=l! l->i*KS d<=l! l*KS d:=λi hi=>cw _ hi
 unfold nM be bA bM ct dF c_ ck bj bQ gO bV bJ aZ cP aH cL eP;refine b9 (l! l) (λi x=>x.1=(i:Int)/\x.2.1=(D,T,t)/\l! x.2.2.1.2=l! A.2/\l! x.2.2.2.1<=l! sp+i*KS d/\l! x.2.2.2.2<=l! se+i*KS d) ?_ ?_ ⟨rfl,rfl,rfl,by simp,by simp⟩
 .rintro i ⟨a,P,A',sp',se'⟩ hi ⟨e1,e2,e3,e4,e5⟩;dsimp only at e1 e2 e3 e4 e5;subst e1 e2;have hKi:=hK (i+1) (by omega);have hKs:=jF i (KS d);rw[Nat.succ_eq_add_one]at hKs;refine c8 ?_;refine b_ (aT ?_);have hm:=hg _ (bC (T:=.sm) (xs:=l) (j:=(i:Int)) (by omega) (by omega));revert hm;generalize (aI (.sm) l (i:Int))=s;intro hm;cases d with
  |zero=>exact hm.elim
  |succ d=>
   have hR:=hr d rfl;let⟨_,g2,g3,g4,g5,g6,g7⟩:=hm;have hk:KS (d+1)=1+16*KS d:=rfl;have kb:l! s.body*KS d<=8*KS d:=cw _ g4;have ke:l! s.els*KS d<=8*KS d:=cw _ g5;dsimp only;rw[Bf];refine ay (au9 s D T t A' sp' se' hp (by omega) (by omega) (by omega) g2 g3) λy L=>?_
   let⟨e,P2,A2,sp2,se2⟩:=y;let⟨q1,z,q3,q4⟩:=L;dsimp only at q1 z q3 q4;subst q1 z;refine bl (by simp) ?_;refine aV (λx=>x.2=((D,T,t),s,A2,sp2,se2)) (bD (λ_=>ak rfl) λ_=>ak rfl) ?_;rintro⟨e,x⟩ ex;dsimp only at ex;subst ex;refine bU (λ_=>ak ⟨rfl,e3,by dsimp only;omega,by dsimp only;omega⟩) λ_=>?_
   refine a! (aP (by simp) (by simp;omega) (aP (by simp) (by simp;omega) ?_));dsimp only;rw[Bf];refine ay (hR s.body ((D,T,t),(A2.1,ca (A2.2++[_]) _ s),sp2,se2) (by omega) g6 hp ?_ ?_ ?_) λy L=>?_
   .dsimp only;rw[bN];simp;omega
   .dsimp only;omega
   .dsimp only;omega
   let⟨e6,P6,A6,sp6,se6⟩:=y;let⟨q1,z,q5,q6⟩:=L;dsimp only at q1 z q5 q6;subst q1;rw[bN,bH,dI]at z;refine bl (by simp) ?_;refine aV (λx=>x.2.1=(D,T,t)/\l! x.2.2.1.2=l! A2.2+1/\l! x.2.2.2.1<=l! sp2+16*KS d/\l! x.2.2.2.2<=l! se2+16*KS d) ?_ ?_
   .refine aK (λ_=>?_) λ_=>ak ⟨rfl,z,by dsimp only;omega,by dsimp only;omega⟩
    refine ay (hR s.els ((D,T,t),A6,sp6,se6) (by omega) g7 hp (by dsimp only;omega) (by dsimp only;omega) (by dsimp only;omega)) λy L=>?_
    let⟨e7,P7,A7,sp7,se7⟩:=y;let⟨r1,I,r5,r6⟩:=L;dsimp only at r1 I r5 r6;subst r1;exact bl (by simp) (ak ⟨rfl,I.trans z,by dsimp only;omega,by dsimp only;omega⟩)
   rintro⟨e8,P8,A8,sp8,se8⟩ ⟨r1,I,r5,r6⟩;dsimp only at r1 I r5 r6;subst r1;have el:a_ .i64 ((aS (l! A8.2))-1)=(l! A2.2:Int):=by
    rw[I,gr (by simp<;>omega) (by simp<;>omega)];simp<;>omega
   dsimp only;rw[el];have tk:l! (dy (aO (l! A2.2:Int)) A8.2)=l! A2.2:=by rw[bR];omega
   refine cW (a? (De (by rw[I];omega) ?_));refine bU (λ_=>ak ⟨rfl,by dsimp only;omega,by dsimp only;omega,by dsimp only;omega⟩) λ_=>ak ?_
   exact⟨gZ,rfl,by dsimp only;omega,by dsimp only;omega,by dsimp only;omega⟩
 .rintro⟨a,P,A',sp',se'⟩ ⟨e1,e2,e3,e4,e5⟩;dsimp only at e1 e2 e3 e4 e5;subst e1 e2;exact c9 (ak ⟨rfl,e3,e4,e5⟩)
def ae3:∀(n d:Nat),d<n->SpA (iU n) d
 |0,_,h=>by omega
 |n+1,d,h=>apt (iU n) d λz hd=>ae3 n z (by omega)
def HC (p:PG) (h:PX p):Ok (gi p) λr=>r.1=0->(p.2.map λt=>oZ 5 t.2.2.2).sum<=60:=by
 have hd:=h.d;have ht:=h.t;refine ay (ahr p h) λ_ _=>eC (λ_=>ak nofun) λ_=>?_
 refine ay (aa5 p.1 hd) λ_ _=>bU (λhn=>ak λh=>(hn h).elim) λ_=>bD (λ_=>ak nofun) λ_=>?_
 refine ay (Ss p h) λ_ _=>bU (λhn=>ak λh=>(hn h).elim) λ_=>?_
 have hk5:KS 5=69905:=rfl;refine b9 (l! p.2) (λi x=>x.1.2=(i:Int)/\x.2=p/\x.1.1=((((p.2.take i).map λt=>oZ 5 t.2.2.2).sum:Nat):Int)/\(x.1.1:Int)<=((i*6990500:Nat):Int)) ?_ ?_ ⟨rfl,rfl,by simp,by simp⟩
 .rintro i ⟨⟨(c:Int),a⟩,x⟩ hi ⟨e1,e2,z,L⟩;dsimp only at e1 e2 z L;subst e1;have e2:=e2.symm;subst e2;refine c8 ?_;refine b_ (aT ?_);have hm:=bC (T:=u_) (xs:=p.2) (j:=(i:Int)) (by omega) (by omega);have I:=h.b _ hm;have hcb:=als (h.s _ hm);have hcb2:=cw (KS 5) I;rw[hk5]at hcb hcb2;refine aX (IJ fuel 5 _ (by rw[kM];omega) (c7 I (by omega)) (h.s _ hm) (by omega)) (ak ⟨gZ,rfl,?_,?_⟩)
  .dsimp only;rw[nV (T:=u_) hi,cg,Jg,gr,z];simp
  .dsimp only;rw[gr];omega
 rintro⟨⟨(c:Int),a⟩,x⟩ ⟨e1,e2,z,L⟩;dsimp only at e1 e2 z L;subst e1;have e2:=e2.symm;subst e2;rw[dh]at z;refine c9 ?_;refine ay (P:=λr=>r.1=0->(p.2.map λt=>oZ 5 t.2.2.2).sum<=60) ?_ λ_ h=>ak h
 refine bD (λ_=>ak nofun) λg60=>?_
 have g60:c<=60:=g60;refine b9 (l! p.2) (λi x=>x.1=(i:Int)/\x.2.1=p/\x.2.2.1.1=p.1/\x.2.2.1.2.1=p.2/\l! x.2.2.2.1.2=0/\l! x.2.2.2.2.1<=i*6990500/\l! x.2.2.2.2.2<=i*6990500) ?_ ?_ ⟨rfl,rfl,rfl,rfl,rfl,by simp,by simp⟩
 .rintro i ⟨a,x,⟨D,T,t⟩,A,sp,se⟩ hi ⟨e1,e2,z,L,e5,e6,e7⟩;dsimp only at e1 e2 z L e5 e6 e7;subst e1;have e2:=e2.symm;subst e2 z L;refine c8 ?_;refine b_ (aT ?_);have hm:=bC (T:=u_) (xs:=p.2) (j:=(i:Int)) (by omega) (by omega);have I:=h.b _ hm;have hs:=h.s _ hm;revert I hs;dsimp only;generalize (aI u_ p.2 (i:Int))=th;intro I hs;have hk:KS 5=69905:=rfl;have hle:l! th.2.2.2*KS 5<=100*KS 5:=cw _ I;rw[hk]at hle;refine ay (ae3 fuel 5 (by rw[kM];omega) th.2.2.2 ((p.1,p.2,(i:Int)),A,sp,se) I hs h (by grind) (by grind) (by grind)) λy hy=>?_
  let⟨e,P2,A2,sp2,se2⟩:=y;let⟨q1,q2,q3,q4⟩:=hy;dsimp only at q1 q2 q3 q4;subst q1;rw[hk]at q3 q4;refine bl (by simp) (bU (λhn=>ak λh=>(hn h).elim) λ_=>ak ?_);exact⟨gZ,rfl,rfl,rfl,by dsimp only;omega,by dsimp only;omega,by dsimp only;omega⟩
 .rintro⟨a,x,P,w⟩ ⟨e1,e2,_⟩;dsimp only at e1 e2;subst e1;have e2:=e2.symm;subst e2;exact c9 (ak λ_=>by omega)
def dg {o z:M R} {Q:R->Prop} (h:o=z) (A:Ok z Q):Ok o Q:=h▸A
def D0:Y DT:=[(1,0,[120],0,0,[]),(1,0,[121],0,1,[]),(2,0,[118],0,0,[]),(1,0,[113],2,0,[]),(3,0,[109],0,0,[]),(3,0,[110],0,0,[]),(4,0,[114],0,0,[]),(5,0,[99],0,0,[109]),(6,0,[102],0,0,[])]
def L0:Y ζ:=[[97],[98]]
set_option maxHeartbeats 20000000 in
def ays:∃r,gi (D0,[([109,97,105,110],0,L0,[pn (1,0,[120],[],[],eM (1,1,[],[]),[],[])])])=Z r/\r.1=0:=by
 suffices h:Ok (gi (D0,[([109,97,105,110],0,L0,[pn (1,0,[120],[],[],eM (1,1,[],[]),[],[])])])) λr=>r.1=0 by
  obtain⟨y,h1,h2⟩:=h;exact⟨y,h1,h2⟩
 unfold gi be bA bM ct c_ bQ gO bV bJ aZ cP aH cL;with_reducible repeat' first|exact ak rfl|refine ad7 ?_|refine ad6 ?_|refine ad5 ?_|refine ad4 ?_|refine VK ?_|refine aos ?_|refine aT ?_|refine qu rfl ?_|refine jJ rfl ?_|refine bl rfl ?_|refine VN ?_|refine VM ?_|refine dg (rF.eq_1 ..) ?_|refine dg (m_.eq_1 ..) ?_|refine dg (fY.eq_1 ..) ?_|refine dg (mc.eq_1 ..) ?_|refine dg (lA.eq_1 ..) ?_|refine dg (mB.eq_1 ..) ?_|refine dg (ri.eq_1 ..) ?_|refine dg (tD.eq_1 ..) ?_|refine dg (pj.eq_1 ..) ?_|refine dg (mh.eq_1 ..) ?_|refine dg (kX.eq_1 ..) ?_|refine dg (qR.eq_1 ..) ?_|refine dg (jM.eq_1 ..) ?_|refine dg (nI.eq_1 ..) ?_|refine dg (rh.eq_1 ..) ?_|refine dg (tC.eq_1 ..) ?_|refine dg (i_.eq_1 ..) ?_|refine dg (ph.eq_1 ..) ?_|refine dg (iS.eq_1 ..) ?_|refine dg (jZ.eq_1 ..) ?_|refine dg (Fb.eq_1 ..) ?_|refine dg (AC.eq_1 ..) ?_|refine dg (xZ.eq_1 ..) ?_|refine dg (nM.eq_1 ..) ?_|refine dg (nG.eq_1 ..) ?_|refine dg (eJ.eq_1 ..) ?_|refine dg (io.eq_1 ..) ?_|refine dg (uy.eq_1 ..) ?_|refine dg (pi.eq_1 ..) ?_|refine dg (Fa.eq_1 ..) ?_|refine dg (AB.eq_1 ..) ?_|refine dg (E_.eq_1 ..) ?_|refine dg (wG.eq_1 ..) ?_|refine dg (jK.eq_1 ..) ?_|refine dg (db.eq_1 ..) ?_|refine dg (ck.eq_1 ..) ?_|refine dg (congrFun (d_ dP kM) _) ?_|refine dg (BK _ _) ?_|refine dg (congrFun (d_ eZ kM) _) ?_|refine dg (Cv _ _) ?_|refine dg (congrFun (d_ iB kM) _) ?_|refine dg (Cw _ _) ?_|refine dg (congrFun (d_ oU kM) _) ?_|refine dg (La _ _) ?_|refine dg (congrFun (d_ iU kM) _) ?_|refine dg (Fl _ _) ?_|refine dg (congrFun (d_ oS kM) _) ?_|refine dg (K_ _ _) ?_|refine dg (congrFun (d_ oR kM) _) ?_|refine dg (Bo _ _) ?_
 all_goals trace_state
structure TM (nT:Nat) (t:HT):Prop where
 l:t.2.2.1=L0
 b:l! t.2.2.2<=8
 s:∀s∈t.2.2.2,GS nT 3 s
structure PJ (p:PG):Prop where
 d:p.1=D0
 t0:1<=l! p.2
 t:l! p.2<=4
 m:∀t∈p.2,TM (l! p.2) t
 n:p.2.map Prod.fst=zP.take (l! p.2)
def PJ.x {p:PG} (h:PJ p):PX p:=⟨by rw[h.d];decide,by have:=h.t;omega,λt ht=>by rw[(h.m t ht).l];decide,λt ht=>by have:=(h.m t ht).b;omega,λt ht s z=>((h.m t ht).s s z).le (by omega:3<=5) |>.t⟩
def Xk:uz ()=Z D0:=rfl
def amq:∀m:Nat,m<5->∀j:Nat,j<m->aI (.str) zP (j:Int)∈zP.take m:=by decide
def Vd {nT:Nat} (op:Int) {n:ζ} (A:op=12\/op=13) (I:n∈zP.take nT):GS nT 3 (pn (op,0,n,[],[],eM (0,0,[],[]),[],[])):=GS.wo (by omega) (by simp) (λx z=>(by cases z)) (by rcases A with rfl|rfl<;>(constructor<;>simp[Sx.op,Sx.name,Sx.index,Sx.arg,Sx.els,Sx.body]<;>exact I))
def KV (x:η) (hl:l! x<=9223372036854775807) (hx:∀z∈x,0<=z/\z<=255):Ok (qF x) λp=>PJ p/\∃r,gi p=Z r/\r.1=0:=by
 unfold qF be bA bM cE fe kZ vu ct gy vq rY Lu bj bQ gO bV lx cP aH cL eP;refine aX Xk ?_;refine ay (gE 3 (x,0) ⟨hl,hx,by dsimp only;omega,by dsimp only;omega⟩) λy I=>?_
 let⟨n,t0⟩:=y;let⟨s0,n0,n1,_⟩:=I;have n1:=n1 (by decide);dsimp only at s0 n0 n1;have ew:a_ .i64 (2+n)=2+n:=gr;obtain⟨nT,hnT⟩:∃m:Nat,2+n=(m:Int):=⟨(2+n).toNat,by omega⟩
 refine b9 nT (λi x=>x.1=(i:Int)/\x.2.2.1=D0/\x.2.2.2.1=zP/\TP x.2.2.2.2.1/\x.2.2.2.2.2.1.2=[]/\x.2.2.2.2.2.2.map Prod.fst=zP.take i/\∀t∈x.2.2.2.2.2.2,TM nT t) ?_ ?_ ⟨rfl,rfl,rfl,s0.p,rfl,rfl,λt ht=>(by cases ht)⟩
 .rintro i ⟨a,m,D,N,t,h,th⟩ hi ⟨e1,e2,e3,e4,e5,e6,e7⟩;dsimp only at e1 e2 e3 e4 e5 e6 e7;subst e1 e2;refine bD (λg=>?_) λg=>(by dsimp only at g;rw[ew]at g;omega)
  have l4:l! N=4:=by rw[e3];rfl
  refine b_ (b_ (aT ?_));have hthl:l! th=i:=by have:=d_ aj e6;rw[bx,bR]at this;have q4:zP.length=4:=rfl;omega
  refine aV (λx=>x.2.2.2.1.1=aI (.str) N (i:Int)/\x.2.1=D0/\x.2.2.1=zP/\TP x.2.2.2.2.1/\x.2.2.2.2.2.1.2=[]/\x.2.2.2.2.2.2.1=th/\x.2.2.2.2.2.2.2.1=L0/\l! x.2.2.2.2.2.2.2.2<=3/\∀s∈x.2.2.2.2.2.2.2.2,GS nT 3 s) ?_ ?_
  .refine aK (λ_=>?_) λ_=>ak ⟨rfl,rfl,e3,e4,e5,rfl,rfl,by simp,λs A=>(by cases A)⟩
   refine b9 (1+n).toNat (λk x=>x.2.2.2.2.1.1=aI (.str) N (i:Int)/\x.1=1+(k:Int)/\x.2.2.1=D0/\x.2.2.2.1=zP/\TP x.2.2.2.2.2.1/\x.2.2.2.2.2.2.1.2=[]/\x.2.2.2.2.2.2.2.1=th/\x.2.2.2.2.2.2.2.2.1=L0/\l! x.2.2.2.2.2.2.2.2.2<=k/\∀s∈x.2.2.2.2.2.2.2.2.2,GS nT 3 s) ?_ ?_ ⟨rfl,rfl,rfl,e3,e4,e5,rfl,rfl,by simp,λs A=>(by cases A)⟩
   .rintro k ⟨c,m1,D1,N1,z1,t1,h1,th1,l1,b1⟩ hk ⟨fz,f1,f2,f3,f4,L,f6,f7,f8,f9⟩;dsimp only at fz f1 f2 f3 f4 L f6 f7 f8 f9;subst f1;refine bD (λ_=>?_) λg=>(by dsimp only at g;rw[ew]at g;omega)
    have l41:l! N1=4:=by rw[f3];rfl
    refine b_ (b_ (aT ?_));refine a! (ak ?_);dsimp only;rw[gr (n:=1+(k:Int)+1) (by omega) (by omega)];refine ⟨fz,by omega,f2,f3,f4,L,f6,f7,by simp;omega,λs A=>?_⟩;rcases cq.1 A with A|A
    .exact f9 s A
    .rw[aG]at A;rw[A];refine Vd 12 (.inl rfl) ?_;rw[f3,show 1+(k:Int)=((1+k:Nat):Int) by omega];exact amq nT (by omega) (1+k) (by omega)
   .rintro⟨c,m1,D1,N1,z1,t1,h1,th1,l1,b1⟩ ⟨fz,f1,f2,f3,f4,L,f6,f7,f8,f9⟩;dsimp only at fz f1 f2 f3 f4 L f6 f7 f8 f9;subst f1;refine bD (λg=>(by dsimp only at g;rw[ew]at g;omega)) λ_=>ak ?_
    exact⟨fz,f2,f3,f4,L,f6,f7,by dsimp only;omega,f9⟩
  rintro⟨m1,D1,N1,z1,t1,h1,th1,l1,b1⟩ ⟨fz,f2,f3,f4,L,f6,f7,f8,f9⟩;dsimp only at fz f2 f3 f4 L f6 f7 f8 f9;subst f2 f6 f7;refine ay (gE 3 t1 f4) λy I=>?_
  let⟨k2,t2⟩:=y;let⟨u1,u2,u3,_⟩:=I;have u3:=u3 (by decide);dsimp only at u1 u2 u3;dsimp only;rw[gr (n:=1+k2) (by omega) (by omega)];refine ay (afo (nT:=nT) 2 (by omega) (1+k2) m1 t2 h1 (by omega) u1.p (by rw[L];simp)) λy I=>?_
  let⟨m3,t3,h3,l3⟩:=y;let⟨w1,w2,w3,w4⟩:=I;dsimp only at w1 w2 w3 w4;refine bl (by simp) (a! ?_);have hbody:∀s∈b1++l3,GS nT 3 s:=λs A=>by
   rcases cq.1 A with A|A
   .exact f9 s A
   .exact w2 s A
  have hlen:l! (b1++l3)<=6:=by rw[bH];omega
  refine aV (λx=>x.2.2.2.1.1=aI (.str) N (i:Int)/\x.2.1=D0/\x.2.2.1=zP/\TP x.2.2.2.2.1/\x.2.2.2.2.2.1.2=[]/\x.2.2.2.2.2.2.1=th1/\x.2.2.2.2.2.2.2.1=L0/\l! x.2.2.2.2.2.2.2.2<=8/\∀s∈x.2.2.2.2.2.2.2.2,GS nT 3 s) ?_ ?_
  .refine aV (λx=>x.2.2.2.2.1.1=aI (.str) N (i:Int)/\x.2.2.1=D0/\x.2.2.2.1=zP/\TP x.2.2.2.2.2.1/\x.2.2.2.2.2.2.1.2=[]/\x.2.2.2.2.2.2.2.1=th1/\x.2.2.2.2.2.2.2.2.1=L0/\x.2.2.2.2.2.2.2.2.2=b1++l3) ?_ ?_
   .refine aK (λ_=>?_) λ_=>ak ⟨fz,rfl,f3,w3.p,w4.trans L,rfl,rfl,rfl⟩
    exact ay (gE 3 t3 w3.p) λy I=>ak ⟨fz,rfl,f3,I.1.p,w4.trans L,rfl,rfl,rfl⟩
   rintro⟨b,m4,D4,N4,z4,t4,h4,th4,l4,b4⟩ ⟨pz,p2,p3,p4,p5,p6,p7,p8⟩;dsimp only at pz p2 p3 p4 p5 p6 p7 p8;subst p2 p6 p7 p8;have l44:l! N4=4:=by rw[p3];rfl
   refine aR (λ_=>?_) λ_=>ak ⟨pz,rfl,p3,p4,p5,rfl,rfl,by dsimp only;omega,hbody⟩
   refine b_ (b_ (aT ?_));refine bP (by simp at hlen ⊢;omega) (by omega) (ak ⟨pz,rfl,p3,p4,p5,rfl,rfl,by dsimp only;rw[bH,dI];omega,λs A=>?_⟩);rcases cq.1 A with A|A
   .exact hbody s A
   .rw[aG]at A;rw[A];refine Vd 13 (.inr rfl) ?_;rw[p3];exact amq nT (by omega) 1 (by omega)
  rintro⟨m4,D4,N4,z4,t4,h4,th4,l4,b4⟩ ⟨pz,p2,p3,p4,p5,p6,p7,p8,p9⟩;dsimp only at pz p2 p3 p4 p5 p6 p7 p8 p9;subst p2 p6 p7;refine a! (ak ?_);dsimp only;refine ⟨gZ,rfl,p3,p4,p5,by rw[nV (T:=.str) (xs:=zP) (i:=i) (by have q4:zP.length=4:=rfl;omega),cg,e6,<-e3];show _++[z4.1]=_;rw[pz],λt ht=>?_⟩;rcases cq.1 ht with ht|ht
  .exact e7 t ht
  .rw[aG]at ht;rw[ht];exact⟨rfl,p8,p9⟩
 .rintro⟨a,m,D,N,t,h,th⟩ ⟨e1,e2,e3,e4,e5,e6,e7⟩;dsimp only at e1 e2 e3 e4 e5 e6 e7;subst e1 e2;refine bD (λg=>(by dsimp only at g;rw[ew]at g;omega)) λ_=>?_
  have hthl:l! th=nT:=by have:=d_ aj e6;rw[bx,bR]at this;have q4:zP.length=4:=rfl;omega
  have hpm:PJ (D0,th):=⟨rfl,by dsimp only;omega,by dsimp only;omega,by dsimp only;rw[hthl];exact e7,by dsimp only;rw[hthl];exact e6⟩
  refine ay (P:=λp=>PJ p/\∃r,gi p=Z r/\r.1=0) ?_ λr hr=>ak hr
  let⟨y,I,_⟩:=HC (D0,th) hpm.x;refine aX I (bU (λ_=>?_) λh=>ak ⟨hpm,y,I,h⟩);refine aX Xk (aX (S8 _) (aX (vR _ _) (ak ?_)));refine ⟨⟨rfl,by simp,by simp,λt ht=>?_,rfl⟩,ays⟩;simp only[aG]at ht;rw[ht];refine ⟨rfl,by simp,λs A=>?_⟩;simp only[aG]at A;rw[A,gj,BY];exact GS.asg (by decide) (GE.num _ 3)
abbrev iA (l:Y IT) (k:Nat):IT:=aI sZ l (k:Int)
def JT (l:Y IT) (ρ:Nat->Nat) (a e k:Nat):Prop:=(iA l k).1=5->∃z:Nat,(iA l k).2.1=(z:Int)/\(z=e\/a<=z/\z<e/\ρ z<ρ k)
def sX (l:Y IT) (a e:Nat):Prop:=a<=e/\∃ρ:Nat->Nat,∀k,a<=k->k<e->1<=ρ k/\ρ k<=e-a/\JT l ρ a e k/\((iA l k).1<5->k+1=e\/ρ (k+1)<ρ k)
def sX.nil (l:Y IT) (a:Nat):sX l a a:=⟨bK _,λ_=>0,λk h1 z=>by omega⟩
def sX.one {l:Y IT} (h:¬(iA l i).1=5):sX l i (i+1):=⟨by omega,λ_=>1,λk h1 A=>⟨bK 1,by show 1<=i+1-i;omega,λz=>by rw[show k=i by omega]at z;exact (h z).elim,λ_=>.inl (by omega)⟩⟩
def sX.congr {l l':Y IT} (h:sX l i m) (I:∀k,i<=k->k<m->iA l' k=iA l k):sX l' i m:=by
 let⟨h1,ρ,L⟩:=h;exact⟨h1,ρ,λk A z=>by unfold JT;rw[I k A z];exact L k A z⟩
def sX.app {l:Y IT} {c:Nat} (h:sX l i m) (k:sX l m c):sX l i c:=by
 let⟨h1,ρ,h2⟩:=h;let⟨k1,σ,k2⟩:=k;refine ⟨by omega,λk=>if k<m then ρ k+(c-m) else σ k,λk g1 g2=>?_⟩;by_cases I:k<m
 .obtain⟨q1,q2,q3,q4⟩:=h2 k g1 I;simp only[aC I];refine ⟨by omega,by omega,?_,λz=>?_⟩
  .intro z;simp only[aC I];let⟨A,e,r⟩:=q3 z;refine ⟨A,e,?_⟩;rcases r with r|⟨r1,r2,r3⟩
   .subst r;by_cases L:A=c
    .exact .inl L
    .have:=(k2 A (bK _) (by omega)).2.1;rw[av (FC _)];exact .inr ⟨by omega,by omega,by omega⟩
   .rw[aC r2];exact .inr ⟨r1,by omega,by omega⟩
  .rcases q4 z with r|r
   .by_cases L:k+1=c
    .exact .inl L
    .have:=(k2 (k+1) (by omega) (by omega)).2.1;rw[av (by omega)];exact .inr (by omega)
   .by_cases hb:k+1<m
    .rw[aC hb];exact .inr (by omega)
    .rw[av hb];by_cases L:k+1=c
     .exact .inl L
     .have:=(k2 (k+1) (by omega) (by omega)).2.1;exact .inr (by omega)
 .obtain⟨q1,q2,q3,q4⟩:=k2 k (by omega) g2;simp only[av I];refine ⟨q1,by omega,?_,λz=>?_⟩
  .intro z;simp only[av I];let⟨A,e,r⟩:=q3 z;refine ⟨A,e,r.imp id λ⟨r1,r2,r3⟩=>⟨by omega,r2,?_⟩⟩;rw[av (by omega)];exact r3
  .rw[av (by omega)];exact q4 z
def sX.ite {l:Y IT} {e:Nat} (h:sX l i m) (hj:(iA l m).1=5) (hx:(iA l m).2.1=(e:Int)) (k:sX l (m+1) e):sX l i e:=by
 let⟨h1,ρ,h2⟩:=h;let⟨k1,σ,k2⟩:=k;refine ⟨by omega,λk=>if k<m then ρ k+(e-m) else if k=m then e-m else σ k,λk g1 g2=>?_⟩;by_cases A:k<m
 .obtain⟨q1,q2,q3,q4⟩:=h2 k g1 A;simp only[aC A];refine ⟨by omega,by omega,?_,λz=>?_⟩
  .intro z;simp only[aC A];let⟨L,e',r⟩:=q3 z;refine ⟨L,e',.inr ?_⟩;rcases r with r|⟨r1,I,r3⟩
   .rw[r,av (FC _),aC rfl];exact⟨by omega,by omega,by omega⟩
   .rw[aC I];exact⟨r1,by omega,by omega⟩
  .refine .inr ?_;by_cases hb:k+1<m
   .rw[aC hb];rcases q4 z with r|r<;>omega
   .rw[av hb,aC (by omega)];omega
 .by_cases hkj:k=m
  .subst hkj;simp only[av A,aC];exact⟨by omega,by omega,λ_=>⟨e,hx,.inl rfl⟩,λz=>by rw[hj]at z;omega⟩
  .obtain⟨q1,q2,q3,q4⟩:=k2 k (by omega) g2;simp only[av A,av hkj];refine ⟨q1,by omega,?_,λz=>?_⟩
   .intro z;simp only[av A,av hkj];let⟨L,e',r⟩:=q3 z;refine ⟨L,e',r.imp id λ⟨r1,I,r3⟩=>⟨by omega,I,?_⟩⟩;rw[av (by omega),av (by omega)];exact r3
   .rw[av (by omega),av (by omega)];exact q4 z
def sX.whl {l:Y IT} {j:Nat} (h:sX l i m) (hc:(iA l m).1=10) (k:sX l (m+1) j) (hj:(iA l j).1=5) (hx:(iA l j).2.1=(i:Int)):sX l i (j+1):=by
 let⟨h1,ρ,h2⟩:=h;let⟨k1,σ,k2⟩:=k;refine ⟨by omega,λk=>if k<m then ρ k+1 else if k=m then 1 else if k<j then σ k+(m-i)+2 else m-i+2,λk g1 g2=>?_⟩;by_cases A:k<m
 .obtain⟨q1,q2,q3,q4⟩:=h2 k g1 A;simp only[aC A];refine ⟨by omega,by omega,?_,λz=>?_⟩
  .intro z;simp only[aC A];let⟨k',e',r⟩:=q3 z;refine ⟨k',e',.inr ?_⟩;rcases r with r|⟨r1,L,r3⟩
   .rw[r,av (FC _),aC rfl];exact⟨by omega,by omega,by omega⟩
   .rw[aC L];exact⟨r1,by omega,by omega⟩
  .refine .inr ?_;by_cases I:k+1<m
   .rw[aC I];rcases q4 z with r|r<;>omega
   .rw[av I,aC (by omega)];omega
 .by_cases hkc:k=m
  .subst hkc;simp only[av A,aC];exact⟨by omega,by omega,λz=>by rw[hc]at z;omega,λz=>by rw[hc]at z;omega⟩
  .simp only[av A,av hkc];by_cases hkj:k<j
   .obtain⟨q1,q2,q3,q4⟩:=k2 k (by omega) hkj;simp only[aC hkj];refine ⟨by omega,by omega,?_,λz=>?_⟩
    .intro z;simp only[av A,av hkc,aC hkj];let⟨k',e',r⟩:=q3 z;refine ⟨k',e',.inr ?_⟩;rcases r with r|⟨r1,L,r3⟩
     .rw[r,av (by omega),av (by omega),av (FC _)];exact⟨by omega,by omega,by omega⟩
     .rw[av (by omega),av (by omega),aC L];exact⟨by omega,by omega,by omega⟩
    .refine .inr ?_;rw[av (by omega),av (by omega)];by_cases I:k+1<j
     .rw[aC I];rcases q4 z with r|r<;>omega
     .rw[av I];omega
   .have hkj:k=j:=by omega
    subst hkj;simp only[av (FC _)];refine ⟨by omega,by omega,λ_=>⟨i,hx,.inr ⟨bK _,by omega,?_⟩⟩,λz=>by rw[hj]at z;omega⟩;simp only[av A,av hkc,av (FC _)];by_cases ha:i<m
    .rw[aC ha];have:=(h2 i (bK _) ha).2.1;omega
    .rw[av ha,aC (by omega)];omega
def OB (nT:Nat) (i:IT):Prop:=
 if i.1=6 then 0<=i.2.2.1/\i.2.2.1<=2 else if i.1=8 then 0<=i.2.1/\i.2.1<=2 else if i.1=7 then i.2.2.1=3/\i.2.2.2.2.1=2 else if i.1=9 then i.2.1=3/\i.2.2.2.2.1=2 else if i.1=11\/i.1=12 then i.2.1=0\/i.2.1=1 else if 13<=i.1/\i.1<=16 then i.2.1=2 else if 21<=i.1/\i.1<=23 then i.2.1=0 else if i.1=24\/i.1=25 then 0<=i.2.1/\i.2.1<(nT:Int) else if i.1=26 then i.2.1=0 else if i.1=27 then i.2.2.1=0 else if i.1=4 then 6<=i.2.2.2.2.1/\i.2.2.2.2.1<=18 else ¬i.1=3
structure GO (nT:Nat) (i:IT):Prop where
 o1:1<=i.1
 o2:i.1<=27
 r:∀j:Int,j∈jC i->0<=j/\j<32
 b:OB nT i
def SO (ss:Y π) (t s:Int):Prop:=0<=s/\s<l! ss/\(aI qG ss s).1=t
structure GI (nT:Nat) (ss:List π) (t:Int) (i:IT):Prop where
 o:GO nT i
 s:SO ss t i.2.2.2.2.2
def Zp (l:Y IT) (hl:l! l<=1000000) (h1:1<=l! l) (hb:sX l 0 (l! l-1)) (he:(iA l (l! l-1)).1=28) (k:Nat) (hk:k<l! l):re (l,(k:Int))=Z J:=by
 let⟨_,ρ,hρ⟩:=hb;refine cz ?_;unfold re bj bQ kw bJ aZ cP aH cL;refine qO (λx=>((l! l:Int)+1-x.2).toNat) (λx=>0<=x.2/\∃q:Nat,x.1=(q:Int)/\q<l! l/\((if q<l! l-1 then ρ q else 0:Nat):Int)+x.2<=(l! l:Int)) ?_ ⟨by dsimp only;omega,k,rfl,hk,?_⟩
 .rintro⟨a,(n:Int)⟩ ⟨n0,q,e,hq,hr⟩;dsimp only at n0 e hr;subst e;refine fK (λ_=>?_) λg=>(by dsimp only[aw]at g;omega)
  refine gP ?_;refine gP (bD (λg=>by dsimp only at g;omega) λ_=>ak ?_);refine jJ (by rw[mf];dsimp only[aw];omega) ?_;refine b_ (aT ?_);refine aX (Jb _) ?_;refine eC (λ_=>ak rfl) λL=>?_
  have L:1<=(iA l q).1/\(iA l q).1<=5:=bi L;have A:q<l! l-1:=xT λh=>by rw[show q=l! l-1 by omega]at L;rw[he]at L;omega
  let⟨r1,r2,r3,r4⟩:=hρ q (iQ _) A;rw[aC A]at hr;refine b_ (aT ?_);have fin:∀z:Nat,z=l! l-1\/z<l! l-1/\ρ z<ρ q->0<=n+1/\∃I:Nat,(z:Int)=(I:Int)/\I<l! l/\((if I<l! l-1 then ρ I else 0:Nat):Int)+(n+1)<=(l! l:Int):=λz h=>⟨by omega,z,rfl,by omega,by
   rcases h with h|⟨h,h'⟩
   .rw[av (by omega)];omega
   .rw[aC h];omega⟩
  refine aK (λh5=>?_) λh5=>ak (ak ?_)
  .obtain⟨z,e,hq'⟩:=r3 h5;refine aP (eD _) (by dsimp only;omega) (aT (ak (ak ?_)));dsimp only;rw[gr (n:=n+1) (by omega) (by omega)];have:=fin z (hq'.imp id λh=>⟨h.2.1,h.2.2⟩);rw[<- e]at this;exact⟨this,by omega⟩
  .dsimp only;have h5:¬(iA l q).1=5:=h5;rw[gr (n:=n+1) (by omega) (by omega),gZ];refine ⟨fin (q+1) ?_,by omega⟩;rcases r4 (by omega) with h|h
   .exact .inl h
   .by_cases hb:q+1=l! l-1
    .exact .inl hb
    .exact .inr ⟨by omega,h⟩
 .dsimp only;split
  next h=>have:=(hρ k (iQ _) h).2.1;omega
  .omega
def OY (w:WT) (z:w.1=C0):rf (w,3,2)=Z J:=by
 refine cz ?_;have h0:(0:Int)<=3:=by decide
 have h1:(3:Int)<(l! w.1:Int):=by rw[z];decide
 have A:aI kF w.1 3=([113],0,2,af,0):=by rw[z];rfl
 unfold rf bj gO bJ aZ aH;refine gP (aX (t8 _ _) (aK (λ_=>?_) λh=>(h ⟨h0,h1⟩).elim));rw[A];refine aP h0 h1 (aT (aK (λ_=>?_) λh=>(h rfl).elim));refine aP h0 h1 (aT (bU (λ_=>?_) λh=>bT h (by decide)));exact aP h0 h1 (aT (ak (ak rfl)))
def S6 {nT:Nat} (w:WT) (i:IT) (hw:WX w) (hT:l! w.2.2.2.2.1=nT) (z:OB nT i):mJ (w,i)=Z J:=by
 let⟨I,hl,hd,hf,_,_,_⟩:=hw;refine cz ?_;unfold mJ be bA bM cE fe bj kw bJ aZ aH;unfold OB at z;simp only[t8,UV];refine aK (λh=>?_) λn6=>?_
 .rw[aC h]at z;have hz:(aI kF w.1 i.2.2.1).2.2.1=(0:Int):=by
   rw[I];rcases (by omega:i.2.2.1=0\/i.2.2.1=1\/i.2.2.1=2) with h|h|h<;>rw[h]<;>rfl
  have hi:0<=i.2.2.1/\i.2.2.1<(l! w.1:Int):=⟨z.1,by rw[I];have:=z.2;show i.2.2.1<5;omega⟩
  exact gP (aK (λ_=>aP hi.1 hi.2 (aT (ak (ak (aU hz))))) λh=>(h hi).elim)
 rw[av n6]at z;refine aK (λh=>?_) λn8=>?_
 .rw[aC h]at z;have hz:(aI kF w.1 i.2.1).2.2.1=(0:Int):=by
   rw[I];rcases (by omega:i.2.1=0\/i.2.1=1\/i.2.1=2) with h|h|h<;>rw[h]<;>rfl
  have hi:0<=i.2.1/\i.2.1<(l! w.1:Int):=⟨z.1,by rw[I];have:=z.2;show i.2.1<5;omega⟩
  exact gP (aK (λ_=>aP hi.1 hi.2 (aT (ak (ak (aU hz))))) λh=>(h hi).elim)
 rw[av n8]at z;refine aK (λh=>?_) λn7=>?_
 .rw[aC h]at z;rw[z.1,z.2];exact aX (OY w I) (ak rfl)
 rw[av n7]at z;refine aK (λh=>?_) λn9=>?_
 .rw[aC h]at z;rw[z.1,z.2];exact aX (OY w I) (ak rfl)
 rw[av n9]at z;refine aV (λx=>x.2=(w,i)/\(x.1=J↔i.1=11\/i.1=12)) (aK (λh=>ak ⟨rfl,λ_=>.inl h,λ_=>aU h⟩) λh=>ak ⟨rfl,λA=>.inr (bi A),λA=>aU (A.resolve_left h)⟩) ?_;rintro⟨b,x⟩ ⟨e,hx⟩;dsimp only at e hx;subst e;refine aR (λh=>?_) λh=>?_
 .rw[aC (hx.1 h)]at z;have hz:(aI tU w.2.1 i.2.1).2=af:=by
   rw[hl];rcases z with h|h<;>rw[h]<;>rfl
  have hi:0<=i.2.1/\i.2.1<(l! w.2.1:Int):=⟨by omega,by rw[hl];show i.2.1<3;omega⟩
  exact gP (aK (λ_=>aP hi.1 hi.2 (aT (ak (ak (by dsimp only;rw[hz];rfl))))) λh=>(h hi).elim)
 rw[av λA=>by rw[hx.2 A]at h;cases h]at z;have hj:∀{p:Prop} {b:Bool},(b=J->p)->(p->b=J)->b=af->¬p:=λ_ A h3 L=>by rw[A L]at h3;cases h3
 refine aV (λx=>x.2=(w,i)/\(x.1=J->13<=i.1/\i.1<=16)/\(13<=i.1/\i.1<=16->x.1=J)) (aK (λh=>ak ⟨rfl,λ_=>by first|omega|(dsimp only at h;omega),λ_=>aU h⟩) λ_=>aK (λh=>ak ⟨rfl,λ_=>by first|omega|(dsimp only at h;omega),λ_=>aU h⟩) λ_=>aK (λh=>ak ⟨rfl,λ_=>by first|omega|(dsimp only at h;omega),λ_=>aU h⟩) λ_=>ak ⟨rfl,λh=>by have:=bi h;first|omega|(dsimp only at this;omega),λh=>aU (by first|omega|(dsimp only at *;omega))⟩) ?_;rintro⟨b,x⟩ ⟨e,h1,A⟩;dsimp only at e h1 A;subst e;refine aR (λh=>?_) λh=>?_
 .rw[aC (h1 h)]at z;have hi:0<=i.2.1/\i.2.1<(l! w.2.1:Int):=⟨by omega,by rw[hl];show i.2.1<3;omega⟩
  exact gP (aK (λ_=>aP hi.1 hi.2 (aT (ak (ak (by dsimp only;rw[z,hl];rfl))))) λh=>(h hi).elim)
 rw[av (hj h1 A h)]at z;refine aV (λx=>x.2=(w,i)/\(x.1=J->21<=i.1/\i.1<=23)/\(21<=i.1/\i.1<=23->x.1=J)) (aK (λh=>ak ⟨rfl,λ_=>by first|omega|(dsimp only at h;omega),λ_=>aU h⟩) λ_=>aK (λh=>ak ⟨rfl,λ_=>by first|omega|(dsimp only at h;omega),λ_=>aU h⟩) λ_=>ak ⟨rfl,λh=>by have:=bi h;first|omega|(dsimp only at this;omega),λh=>aU (by first|omega|(dsimp only at *;omega))⟩) ?_;rintro⟨b,x⟩ ⟨e,h1,A⟩;dsimp only at e h1 A;subst e;refine aR (λh=>?_) λh=>?_
 .rw[aC (h1 h)]at z;exact ak (aU ⟨by dsimp only;omega,by dsimp only;rw[hd];show i.2.1<1;omega⟩)
 rw[av (hj h1 A h)]at z;refine aV (λx=>x.2=(w,i)/\(x.1=J->i.1=24\/i.1=25)/\(i.1=24\/i.1=25->x.1=J)) (aK (λh=>ak ⟨rfl,λ_=>.inl h,λ_=>aU h⟩) λh=>ak ⟨rfl,λA=>.inr (bi A),λA=>aU (A.resolve_left h)⟩) ?_;rintro⟨b,x⟩ ⟨e,h1,A⟩;dsimp only at e h1 A;subst e;refine aR (λh=>?_) λh=>?_
 .rw[aC (h1 h)]at z;exact ak (aU ⟨z.1,by dsimp only;rw[hT];exact z.2⟩)
 rw[av (hj h1 A h)]at z;refine aK (λh=>?_) λn=>?_
 .rw[aC h]at z;exact ak (aU ⟨by dsimp only;omega,by dsimp only;rw[hf];show i.2.1<1;omega⟩)
 rw[av n]at z;refine aK (λh=>?_) λn=>?_
 .rw[aC h]at z;exact ak (aU ⟨by dsimp only;omega,by dsimp only;rw[hf];show i.2.2.1<1;omega⟩)
 rw[av n]at z;by_cases L:i.1=4
 .rw[aC L]at z;refine aK (λh=>by have h:i.1=3:=h;omega) λ_=>aK (λ_=>?_) λh=>(h L).elim
  refine gP (fK (λ_=>ak (ak (xx.2 z.2))) λh=>by dsimp only at h;omega)
 .rw[av L]at z;exact aK (λh=>(z h).elim) λ_=>aK (λh=>(L h).elim) λ_=>ak rfl
structure GC (nT:Nat) (ss:List π) (k:Int) (c:Int×List IT):Prop where
 r0:1<=c.1
 r1:c.1<=32
 n:1<=l! c.2
 u:l! c.2<=1000000
 e:(iA c.2 (l! c.2-1)).1=28/\(iA c.2 (l! c.2-1)).2.2.2.2.2= -1
 b:sX c.2 0 (l! c.2-1)
 i:∀q:Nat,q<l! c.2-1->GI nT ss k (iA c.2 q)
 r:∀q:Nat,q<l! c.2-1->(iA c.2 q).1=10->0<=(iA c.2 q).2.2.1/\(iA c.2 q).2.2.1<(l! c.2:Int)
 g:∀q:Nat,q<l! c.2-1->∀j:Int,j∈jC (iA c.2 q)->j<c.1
def HU {nT:Nat} {w:WT} {c:Int×Y IT} (hw:WX w) (hT:l! w.2.2.2.2.1=nT) (hc:GC nT w.2.2.2.2.2 a c):iJ (w,a,c)=Z J:=by
 let⟨r0,r1,n1,hu,he,hb,hi,hr,hg⟩:=hc;refine cz ?_;unfold iJ be bA bM cE ct c_ rY bj bQ gO bJ aZ cP aH cL;refine aV (λx=>x.2=(w,c)/\x.1=af) ?_ ?_
 .refine bD (λh=>by have h:c.1<0:=h;omega) λ_=>bD (λh=>by have h:32<c.1:=h;omega) λ_=>ak ⟨rfl,dt λh=>by have h:aS (l! c.2)=0:=h;dsimp only[aw]at h;omega⟩
 rintro⟨b,x⟩ ⟨e,hb'⟩;dsimp only at e hb';subst e hb';refine dR ?_;refine b9 (l! c.2) (λi x=>x.1=(i:Int)/\x.2=(w,c)) ?_ ?_ ⟨rfl,rfl⟩
 .rintro i ⟨k,x⟩ hi2 ⟨e1,e2⟩;dsimp only at e1 e2;subst e1 e2;have hla:=Zp c.2 hu n1 hb he.1 i hi2;have hz:∀z:IT,z=iA c.2 i->(i<l! c.2-1->GI nT w.2.2.2.2.2 a z/\(z.1=10->0<=z.2.2.1/\z.2.2.1<(l! c.2:Int))/\(z.1=5->0<=z.2.1/\z.2.1<(l! c.2:Int))/\∀j:Int,j∈jC z->j<c.1)/\(i=l! c.2-1->z.1=28/\z.2.2.2.2.2= -1):=λz hz=>by
   subst hz;refine ⟨λh=>⟨hi i h,hr i h,λh5=>?_,hg i h⟩,λh=>by rw[h];exact he⟩;let⟨_,ρ,hρ⟩:=hb;let⟨q',e,hq'⟩:=(hρ i (iQ _) h).2.2.1 h5;rw[e];omega
  refine c8 ?_;refine b_ (aT ?_);generalize hzz:(aI sZ c.2 (i:Int))=z;let⟨A,I⟩:=hz z hzz.symm;have hcs:i<l! c.2-1\/i=l! c.2-1:=by omega
  have o1:1<=z.1:=by
   rcases hcs with h|h
   .exact (A h).1.o.o1
   .rw[(I h).1];decide
  have o2:z.1<=28:=by
   rcases hcs with h|h
   .exact qM (A h).1.o.o2 (by decide)
   .rw[(I h).1];decide
  have o28:z.1=28->i=l! c.2-1:=λh=>hcs.resolve_left λg=>by have:=(A g).1.o.o2;rw[h]at this;exact bT this (by decide)
  have hob:OB nT z:=by
   rcases hcs with h|h
   .exact (A h).1.o.b
   .unfold OB;rw[(I h).1];simp
  have hrg:∀j:Int,j∈jC z->0<=j/\j<c.1:=λj L=>by
   rcases hcs with h|h
   .exact⟨((A h).1.o.r j L).1,(A h).2.2.2 j L⟩
   .unfold jC at L;rw[(I h).1]at L;simp at L
  have hwr:a_ .i64 (aS (l! c.2)-1)=((l! c.2-1:Nat):Int):=by rw[gr (by dsimp only[aw];omega) (by dsimp only[aw];omega)];dsimp only[aw];omega
  have hcd:((decide (z.1=28)==decide ((i:Int)=a_ .i64 (aS (l! c.2)-1))) !=J)=af:=by grind
  refine aV (λx=>x=(af,w,c,z)) ?_ ?_
  .refine bD (λh=>bT h (tW.2 o1)) λ_=>bD (λh=>bT h (tW.2 o2)) λ_=>jJ hcd ?_
   refine aX (S6 w z hw hT hob) (jJ rfl (aX hla (ak rfl)))
  rintro x rfl;refine dR (aV (λx=>x=(af,w,c,z)) ?_ ?_)
  .simp only[t8,UV];refine aK (λh=>?_) λh=>?_
   .have h5:=(I (o28 h)).2;exact bU (λg=>(g h5).elim) λ_=>bU (λg=>(g h).elim) λ_=>ak rfl
   .have hsi:=(A (hcs.resolve_right λg=>h (I g).1)).1.s;refine bU (λ_=>bU (λg=>(g ⟨hsi.1,hsi.2.1⟩).elim) λg=>aP g.1 g.2 (aT (ak ?_))) λg=>(h g).elim
    rw[aU hsi.2.2];rfl
  rintro x rfl;refine dR (aV (λx=>x=(af,w,c,z)) ?_ ?_)
  .simp only[t8,UV];have n28:z.1=5\/z.1=10->i<l! c.2-1:=λh=>hcs.resolve_right λg=>by rw[(I g).1]at h;exact bT h (by decide)
   refine aK (λh=>?_) λh=>?_
   .have h2:=(A (n28 (.inl h))).2.2.1 h;refine bU (λg=>(g h2).elim) λ_=>aK (λg=>?_) λ_=>ak rfl
    rw[h]at g;exact bT g (by decide)
   .refine aK (λg=>ak ?_) λ_=>ak rfl
    have h2:=(A (n28 (.inr g))).2.1 g;rw[aU (show 0<=z.2.2.1/\z.2.2.1<aS (l! c.2) from h2)];rfl
  rintro x rfl;refine dR (aX (vG z) ?_);have hrl:=FW z;refine b9 (l! (jC z)) (λj x=>x=((j:Int),w,c)) ?_ ?_ rfl
  .rintro j x L rfl;refine c8 ?_;refine b_ (aT ?_);refine aX (t8 _ _) (bU (λg=>(g (hrg _ (bC (T:=aN) (xs:=jC z) (j:=(j:Int)) (by omega) (by omega)))).elim) λ_=>ak ?_);dsimp only;rw[gZ]
  .rintro x rfl;exact c9 (ak ⟨gZ,rfl⟩)
 .rintro⟨k,x⟩ ⟨e1,e2⟩;dsimp only at e1 e2;subst e1 e2;exact c9 (ak rfl)
section
abbrev GN:Type:=Y (ζ×Int×Int×Bool×Int)×Y (ζ×Bool)×Y (ζ×Int)×Y ζ×Y ζ×Y π×Y ζ×g?
def Ri (l:Y H!) (s:ζ) (I:l! l<=1000):Ok (mA (l,s)) λr=> -1<=r/\r<l! l/\(0<=r->(aI tU l r).1=s)/\(r<0->∀c∈l,c.1≠s):=by
 refine b9 (l! l) (λi x=>x=(i:Int)/\∀k:Nat,k<i->(aI tU l (k:Int)).1≠s) ?_ ?_ ⟨rfl,λk A=>by omega⟩
 .rintro i x hi ⟨rfl,z⟩;refine c8 ?_;refine b_ (aT ?_);refine aK (λh=>ak ⟨by omega,by omega,λ_=>h,λh=>by omega⟩) λh=>ak ⟨gZ,λk A=>?_⟩
  grind
 .rintro x ⟨rfl,z⟩;exact c9 (ak ⟨by omega,by omega,λh=>by omega,λ_=>iO (T:=tU) (p:=λc=>c.1≠s) z⟩)
def asr {s:ζ} (h: -1<=a/\a<Kx.length/\(0<=a->(aI tU Kx a).1=s)/\(a<0->∀c∈Kx,c.1≠s)):(s=[109]->a=0)/\(s=[110]->a=1)/\(s=[114]->a=2):=by
 let⟨h0,h1,z,A⟩:=h;have h1:a<3:=h1;rcases (by omega:a= -1\/a=0\/a=1\/a=2) with rfl|rfl|rfl|rfl
 .have A:=A (by decide);exact⟨λh=>(A ([109],af) (by decide) h.symm).elim,λh=>(A ([110],af) (by decide) h.symm).elim,λh=>(A ([114],J) (by decide) h.symm).elim⟩
 .have z:[109]=s:=z (by decide)
  grind
 .have z:[110]=s:=z (by decide)
  grind
 .have z:[114]=s:=z (by decide)
  grind
def DA (w:WT) (s:ζ) (I:w.1=C0):Ok (oN (w,s)) λr=>(s∈NV->s∉L0->0<=r/\r<=2)/\(s=[113]->r=3):=by
 have hl:l! w.1=5:=by rw[I];rfl
 refine b9 (l! w.1) (λi x=>x.1=(i:Int)/\x.2=w/\∀k:Nat,k<i->(aI kF w.1 (k:Int)).1≠s) ?_ ?_ ⟨rfl,rfl,λk hk=>by omega⟩
 .rintro i ⟨a,x⟩ hi ⟨e1,e2,A⟩;subst e1;have e2:=e2.symm;subst e2;refine c8 ?_;refine b_ (aT ?_);refine aK (λh=>ak ?_) λg=>ak ?_
  .rw[I]at h A;rcases (by omega:i=0\/i=1\/i=2\/i=3\/i=4) with rfl|rfl|rfl|rfl|rfl
   .have h:[120]=s:=h
    grind
   .have h:[121]=s:=h
    grind
   .have h:[118]=s:=h
    grind
   .have h:[113]=s:=h
    grind
   .have h:[113]=s:=h;exact (A 3 (by omega) h).elim
  .refine ⟨gZ,rfl,λk hk=>?_⟩
   grind
 .rintro⟨a,x⟩ ⟨e1,e2,A⟩;subst e1;have e2:=e2.symm;subst e2;refine c9 (ak ?_);have z:=iO (T:=kF) (p:=λc=>c.1≠s) A;rw[I]at z;have a1:=z ([120],0,0,af,0) (by decide);have a2:=z ([121],0,0,af,1) (by decide);have a3:=z ([118],0,0,J,0) (by decide);have a4:=z ([113],0,2,af,0) (by decide);refine ⟨λh L=>?_,λh=>(a4 h.symm).elim⟩;simp[bh,b7,eE,L0]at h L
  grind
def Mj (i:IT) (g:GN) (out:Y IT) (h:l! out<=100000000):Ok (cJ (i,g,out)) λy=>y.1=g/\y.2=out++[(i.1,i.2.1,i.2.2.1,i.2.2.2.1,i.2.2.2.2.1,g.2.2.2.2.2.2.2.1)]:=by
 exact bP (by grind) (by omega) (ak ⟨rfl,rfl⟩)
def VE:Nat->Nat
 |0=>0
 |d+1=>1+2*VE d
def MY {l m:Y IT} (h:i<l! l):iA (l++m) i=iA l i:=by
 unfold iA;rw[sL,sL,aD,aD,b8 h]
def Av (l:Y IT) (x:IT):iA (l++[x]) (l! l)=x:=by
 unfold iA;rw[sL,aD,bS (bK _)];simp
structure QC (nT:Nat) (ss:List π) (t:Int) (n:Nat) (out o:List IT):Prop where
 l:l! out<=l! o
 u:l! o<=l! out+n
 p:∀k:Nat,k<l! out->iA o k=iA out k
 b:sX o (l! out) (l! o)
 i:∀k:Nat,l! out<=k->k<l! o->GI nT ss t (iA o k)
 r:∀k:Nat,l! out<=k->k<l! o->(iA o k).1=10->0<=(iA o k).2.2.1/\(iA o k).2.2.1<=(l! o:Int)
variable {nT:Nat} {ss:Y π} {t:Int}
def QC.nil (n:Nat) (out:Y IT):QC nT ss t n out out:=⟨bK _,by omega,λ_ _=>rfl,sX.nil _ _,λk h1 z=>by omega,λk h1 z=>by omega⟩
def QC.trans {c:Nat} {x y z:Y IT} (h:QC nT ss t i x y) (k:QC nT ss t m y z) (hc:i+m<=c):QC nT ss t c x z:=by
 let⟨h1,h2,L,I,h5,h6⟩:=h;let⟨k1,k2,k3,k4,k5,k6⟩:=k;refine ⟨by omega,by omega,λq A=>(k3 q (by omega)).trans (L q A),(I.congr λq _ A=>k3 q A).app k4,λq g1 g2=>?_,λq g1 g2 g3=>?_⟩
 .grind
 .grind
def QC.one {out:Y IT} {i:IT} (h:GI nT ss t i) (z:¬i.1=5/\¬i.1=10):QC nT ss t 1 out (out++[i]):=by
 have I:l! (out++[i])=l! out+1:=by simp
 refine ⟨by omega,by omega,λk L=>MY L,?_,λk h1 h2=>?_,λk h1 h2 A=>?_⟩
 .rw[I];exact sX.one (by rw[Av];exact z.1)
 .rw[show k=l! out by omega,Av];exact h
 .rw[show k=l! out by omega,Av]at A;exact (z.2 A).elim
structure GK (ss:List π) (t:Int) (g:GN):Prop where
 c:g.1=C0
 l:g.2.2.2.2.2.2.1=L0
 s:SO ss t g.2.2.2.2.2.2.2.1
def goI {nT:Nat} {A B C N y:Int} (h1:1<=a) (L:a<=27) (z:∀j:Int,j∈jC (a,A,B,C,N,y)->0<=j/\j<32) (I:OB nT (a,A,B,C,N,y)):GO nT (a,A,B,C,N,y):=⟨h1,L,z,I⟩
def H6 {r:υ} {g:GN} {out:Y IT} (h:l! out<=100000000) (A:GK ss t g) (hi:GO nT (a,r)) (I:¬a=5/\¬a=10):Ok (cJ ((a,r),g,out)) λy=>y.1=g/\QC nT ss t 1 out y.2:=(Mj (a,r) g out h).mono λy z=>⟨z.1,by rw[z.2];exact QC.one ⟨⟨hi.o1,hi.o2,hi.r,hi.b⟩,A.s⟩ I⟩
abbrev y?:=GN×Y IT
def Rq:∀(n d:Nat),d<n->∀(e:Xp) (k:Int) (g:GN) (out:Y IT),GE d e->GK ss t g->0<=k->k+d<=31->l! out+VE d<=100000000->Ok (ja n ((e,k),g,out)) λy=>y.1=g/\QC nT ss t (VE d) out y.2
 |0,_,h,_,_,_,_,_,_,_,_,_=>by omega
 |n+1,0,_,e,_,_,_,h,_,_,_,_=>h.elim
 |n+1,d+1,hn,e,k,g,out,h,L,k0,k1,hb=>by
  obtain⟨h1,h2,h3,h4,h5,h6⟩:=h;obtain⟨gc,gl,gs⟩:=id L;have hv:VE (d+1)=1+2*VE d:=rfl;rw[DR];unfold sI be bA bM cE fe bj kw bV bJ aH cL;refine aV (λy=>y.1=g/\QC nT ss t (VE (d+1)) out y.2) ?_ λx hx=>ak hx
  have fin:∀{y:y?},(y.1=g/\QC nT ss t 1 out y.2)->y.1=g/\QC nT ss t (VE (d+1)) out y.2:=λh=>⟨h.1,(QC.nil 0 out).trans h.2 (by omega)⟩
  refine aK (λ_=>?_) λn1=>?_
  .refine ay (H6 (nT:=nT) (by omega) L (goI (by decide) (by decide) (by simp[jC];omega) ((by decide:¬(1:Int)=3))) (by decide)) λy z=>bl (by simp) (ak (fin z))
  refine aK (λn2=>?_) λn2=>?_
  .refine ay (BD _ _ (by dsimp only;rw[gl];decide)) λv hv=>fK (λg0=>?_) λg0=>?_
   .have v1:=hv.2.1;dsimp only at v1 g0;rw[gl]at v1;have v1:v<2:=v1;refine ay (H6 (nT:=nT) (by omega) L (goI (by decide) (by decide) (by simp[jC];omega) ((by decide:¬(2:Int)=3))) (by decide)) λy z=>bl (by simp) (ak (fin z))
   .have v1:=hv.2.2.2 g0;dsimp only at v1;rw[gl]at v1;refine ay (DA _ _ gc) λv I=>?_
    have v2:=I.1 (h5 n2) v1;refine ay (H6 (nT:=nT) (by omega) L (goI (by decide) (by decide) (by simp[jC];omega) (v2)) (by decide)) λy z=>bl (by simp) (ak (fin z))
  have hl:=h2 n1 n2;have hrec:∀(j:Nat),j<l! e.l->∀(k':Int) (o:Y IT),0<=k'->k'+d<=31->l! o+VE d<=100000000->Ok (ja n ((aI (.ex) e.l (j:Int),k'),g,o)) λy=>y.1=g/\QC nT ss t (VE d) o y.2:=λj hj k' o q0 q1 ho=>Rq n d (by omega) _ k' g o (h4 _ (bC (T:=.ex) (xs:=e.l) (j:=(j:Int)) (by omega) (by omega))) L q0 q1 ho
  refine aK (λn3=>?_) λn3=>?_
  .refine b_ (aT ?_);refine ay (hrec 0 hl k out k0 (by omega) (by omega)) λy z=>?_
   obtain⟨g2,o2⟩:=y;obtain⟨q1,A⟩:=z;dsimp only at q1 A;subst q1;have q3:=A.u;refine bl (by simp) ?_;refine ay (DA _ _ gc) λv I=>?_
   have v3:=I.2 (h1 n3);have v3:v=3:=v3;subst v3;refine aP (by decide) (by dsimp only;rw[gc];decide) (aT ?_);refine ay (H6 (nT:=nT) (by omega) L (goI (by decide) (by decide) (by simp[jC];omega) (⟨rfl,by dsimp only;rw[gc];rfl⟩)) (by decide)) λy z=>bl (by simp) (ak ⟨z.1,A.trans z.2 (by omega)⟩)
  obtain⟨h7,h8,h9⟩:=h6 n1 n2 n3;refine aK (λn4=>?_) λn4=>?_
  .dsimp only[aw]at n4;omega
  .have hl2:1<l! e.l:=by omega
   refine b_ (aT ?_);refine ay (hrec 0 hl k out k0 (by omega) (by omega)) λy z=>?_
   obtain⟨g2,o2⟩:=y;obtain⟨q1,A⟩:=z;dsimp only at q1 A;subst q1;have q3:=A.u;refine bl (by simp) ?_;refine b_ (aT ?_);dsimp only;rw[gr (n:=k+1) (by omega) (by omega)];refine ay (hrec 1 hl2 _ o2 (by omega) (by omega) (by omega)) λy z=>?_
   obtain⟨g3,o3⟩:=y;obtain⟨r1,r2⟩:=z;dsimp only at r1 r2;subst r1;have r3:=r2.u;refine bl (by simp) ?_;refine ay (H6 (nT:=nT) (by omega) L (goI (by decide) (by decide) (by simp[jC];omega) (⟨h8,h9⟩)) (by decide)) λy z=>bl (by simp) (ak ⟨z.1,(A.trans r2 (bK _)).trans z.2 (by omega)⟩)
def YU (e:Xp) (k:Int) (g:GN) (out:Y IT) (he:GE 4 e) (A:GK ss t g) (z:0<=k) (k1:k<=27) (h:l! out<=99999900):Ok (iZ ((e,k),g,out)) λy=>y.1=g/\QC nT ss t 15 out y.2:=Rq fuel 4 (by rw[kM];omega) e k g out he A z (by omega) (by have:VE 4=15:=rfl;omega)
end
section
structure GB (nT:Nat) (g:GN):Prop where
 c:g.1=C0
 l:g.2.1=Kx
 d:g.2.2.1=QU
 f:g.2.2.2.1=YI
 t:g.2.2.2.2.1=zP.take nT
 h:g.2.2.2.2.2.2.1=L0
structure GQ (g y:GN):Prop where
 a:y.1=g.1
 b:y.2.1=g.2.1
 c:y.2.2.1=g.2.2.1
 d:y.2.2.2.1=g.2.2.2.1
 e:y.2.2.2.2.1=g.2.2.2.2.1
 h:y.2.2.2.2.2.2.1=g.2.2.2.2.2.2.1
def GQ.refl (g:GN):GQ g g:=⟨rfl,rfl,rfl,rfl,rfl,rfl⟩
def GQ.trans {a b c:GN} (h:GQ a b) (k:GQ b c):GQ a c:=⟨k.a.trans h.a,k.b.trans h.b,k.c.trans h.c,k.d.trans h.d,k.e.trans h.e,k.h.trans h.h⟩
variable {nT:Nat} {ss:Y π} {t:Int}
def GB.of {g y:GN} (h:GB nT g) (q:GQ g y):GB nT y:=⟨q.a.trans h.c,q.b.trans h.l,q.c.trans h.d,q.d.trans h.f,q.e.trans h.t,q.h.trans h.h⟩
def GQ.site (g:GN) (x:Y π) (a b:Int):GQ g (g.1,g.2.1,g.2.2.1,g.2.2.2.1,g.2.2.2.2.1,x,g.2.2.2.2.2.2.1,a,b):=⟨rfl,rfl,rfl,rfl,rfl,rfl⟩
abbrev gS (g:GN):Int:=g.2.2.2.2.2.2.2.1
abbrev gN (g:GN):Int:=g.2.2.2.2.2.2.2.2
structure QG (nT:Nat) (ss:List π) (t:Int) (n m:Nat) (g:GN) (out:List IT) (y:GN×List IT):Prop where
 q:GQ g y.1
 c:QC nT ss t n out y.2
 x:gN y.1=gN g+(m:Int)
def Ak {r:υ} {g:GN} {out:Y IT} (h:l! out<=100000000) (z:GB nT g) (A:SO ss t (gS g)) (hi:GO nT (a,r)) (I:¬a=5/\¬a=10):Ok (cJ ((a,r),g,out)) λy=>y.1=g/\QC nT ss t 1 out y.2:=H6 h ⟨z.c,z.h,A⟩ hi I
def FG (e:Xp) (k:Int) (g:GN) (out:Y IT) (he:GE 4 e) (z:GB nT g) (I:SO ss t (gS g)) (A:0<=k) (k1:k<=27) (h:l! out<=99999000):Ok (iZ ((e,k),g,out)) λy=>y.1=g/\QC nT ss t 15 out y.2:=YU e k g out he ⟨z.c,z.h,I⟩ A k1 (by omega)
def GB.len {g:GN} (h:GB nT g):aS (aj g.2.2.2.2.2.2.1)=2:=by rw[h.h];rfl
def abr (s:Sx) (g:GN) (out:Y IT) (h1:s.index≠[]->s.name=[113]) (h2:∀e∈s.index,GE 4 e) (h3:GE 4 s.expr) (h4:s.index=[]->s.name∈NV) (z:GB nT g) (hs:SO ss t (gS g)) (h:l! out<=99990000):Ok (m8 (s,g,out)) λy=>y.1=g/\QC nT ss t 40 out y.2:=by
 have hex:GE 4 (eM (Xp.op s.expr,Xp.n s.expr,Xp.name s.expr,Xp.l s.expr)):=by exact h3
 have e3:a_ .i64 ((2:Int)+1)=3:=gr (by decide) (by decide);unfold m8 be bA bM cE fe bQ kw bV bJ aZ;refine bD (λL=>?_) λL=>?_
 .dsimp [aw]at L;refine b_ (aT ?_);refine ay (FG _ _ g out (h2 _ (bC (T:=.ex) (xs:=s.index) (j:=0) (by omega) (by omega))) z hs (by simp) (by rw[z.len];decide) (by omega)) λy A=>?_
  let⟨g2,o2⟩:=y;let⟨q1,I⟩:=A;dsimp only at q1 I;subst q1;have q3:=I.u;refine bl (by simp) ?_;rw[z.len,e3];refine ay (FG _ _ g2 o2 hex z hs (by decide) (by decide) (by omega)) λy A=>?_
  let⟨g3,o3⟩:=y;let⟨r1,r2⟩:=A;dsimp only at r1 r2;subst r1;have r3:=r2.u;refine bl (by simp) ?_;refine ay (DA _ _ z.c) λv hv=>?_
  have v3:=hv.2 (h1 (λh=>by rw[h]at L;simp at L));subst v3;refine aP (by decide) (by dsimp only;rw[z.c];decide) (aT ?_);refine ay (Ak (by omega) z hs (goI (by decide) (by decide) (by simp[jC,z.h,L0]) (⟨rfl,by dsimp only;rw[z.c];rfl⟩)) (by decide)) λy A=>bl (by simp) (ak ⟨A.1,(I.trans r2 (bK _)).trans A.2 (by omega)⟩)
 .have hi0:s.index=[]:=dC.1 (by grind);refine ay (FG _ _ g out hex z hs (by simp) (by rw[z.len];decide) (by omega)) λy A=>?_
  let⟨g2,o2⟩:=y;let⟨q1,I⟩:=A;dsimp only at q1 I;subst q1;have q3:=I.u;refine bl (by simp) ?_;refine ay (BD _ _ (by dsimp only;rw[z.h];decide)) λv hv=>fK (λL=>?_) λL=>?_
  .have v1:=hv.2.1;rw[z.h]at v1;have v1:v<2:=v1;refine ay (Ak (by omega) z hs (goI (by decide) (by decide) (by simp[jC,z.h,L0];omega) ((by decide:¬(2:Int)=3))) (by decide)) λy A=>bl (by simp) (ak ⟨A.1,I.trans A.2 (by omega)⟩)
  .have v1:=hv.2.2.2 L;rw[z.h]at v1;refine ay (DA _ _ z.c) λv hv2=>?_
   have v2:=hv2.1 (h4 hi0) v1;refine ay (Ak (by omega) z hs (goI (by decide) (by decide) (by simp[jC,z.h,L0]) (v2)) (by decide)) λy A=>bl (by simp) (ak ⟨A.1,I.trans A.2 (by omega)⟩)
def alr (s:ζ) (g:GN) (out:Y IT) (z:GB nT g):Ok (j9 (s,g,out)) λy=>y.2=(g,out)/\(s=[99]->y.1=0):=by
 have hd:l! g.2.2.1=1:=by rw[z.d];rfl
 unfold j9 be bQ bJ aZ cP aH cL;refine b9 1 (λi x=>x.1=(i:Int)/\x.2=(g,out)/\(s=[99]->i=0)) ?_ ?_ ⟨rfl,rfl,λ_=>rfl⟩
 .rintro i ⟨a,x⟩ hi ⟨e1,e2,A⟩;subst e1 e2;refine c8 ?_;refine b_ (aT ?_);refine aK (λ_=>ak ⟨rfl,λ_=>by dsimp only;omega⟩) λh=>ak ⟨gZ,rfl,λI=>?_⟩
  refine (h ?_).elim;rw[z.d,show i=0 by omega,I];rfl
 .rintro⟨a,x⟩ ⟨e1,e2,A⟩;subst e1 e2;exact c9 (ak ⟨rfl,λh=>by have:=A h;omega⟩)
def ME:Nat->Nat
 |0=>0
 |d+1=>50+16*ME d
def SR (ss:Y π) (t a:Int) (m:Nat):Prop:=0<=a/\a+m<=1000/\∀i:Int,a<=i->i<a+m->SO ss t i
def SpG (nT:Nat) (ss:Y π) (t:Int) (z:Sx×y?->M y?) (d:Nat):Prop:=∀(s:Sx) (g:GN) (out:Y IT),GS nT d s->GB nT g->SR ss t (gN g) (UZ d s)->l! out+ME d<=90000000->Ok (z (s,g,out)) (QG nT ss t (ME d) (UZ d s) g out)
def amv (nT:Nat) (ss:Y π) (t:Int) (z:Y Sx×y?->M y?) (d:Nat):Prop:=∀(l:Y Sx) (g:GN) (out:Y IT),l! l<=100->(∀s∈l,GS nT d s)->GB nT g->SR ss t (gN g) (oZ d l)->l! out+l! l*ME d<=90000000->Ok (z (l,g,out)) (QG nT ss t (l! l*ME d) (oZ d l) g out)
end
section
abbrev FS6:Type:=Y Sx×y?->M y?
abbrev FT6:Type:=Sx×y?->M y?
abbrev FA6:Type:=(Sx×Int×Int×Int)×y?->M y?
variable {nT:Nat} {ss:Y π} {t:Int}
def avm (nT:Nat) (ss:Y π) (t:Int) (z:FT6) (d:Nat):Prop:=∀(s:Sx) (g:GN) (out:Y IT),s.op=2\/s.op=3->GE 4 s.expr->l! s.body<=8->l! s.els<=8->(∀x∈s.body,GS nT d x)->(∀x∈s.els,GS nT d x)->(¬s.op=2->s.els=[])->GB nT g->SO ss t (gS g)->SR ss t (gN g) (oZ d s.body+oZ d s.els)->l! out+ME (d+1)<=90000000->Ok (z (s,g,out)) (QG nT ss t (17+16*ME d) (oZ d s.body+oZ d s.els) g out)
def avn (nT:Nat) (ss:Y π) (t:Int) (z:FA6) (d:Nat):Prop:=∀(s:Sx) (a b c:Int) (g:GN) (out:Y IT),l! s.body<=8->(∀x∈s.body,GS nT d x)->GO nT (a,c,0,0,0,0)->GO nT (b,c,0,0,0,0)->¬a=5/\¬a=10->¬b=5/\¬b=10->GB nT g->SO ss t (gS g)->SR ss t (gN g) (oZ d s.body)->l! out+ME (d+1)<=90000000->Ok (z ((s,a,b,c),g,out)) (QG nT ss t (17+16*ME d) (oZ d s.body) g out)
def SR.sub {b:Int} {n:Nat} (h:SR ss t a m) (h1:a<=b) (z:b+n<=a+m):SR ss t b n:=⟨by have:=h.1;omega,by have:=h.2.1;omega,λi I A=>h.2.2 i (by omega) (by omega)⟩
def Z8 (rs:FS6) (I:FT6) (rb:FT6) (ra:FA6) (d:Nat) (ht:SpG nT ss t I d):amv nT ss t (wF rs I rb ra) d:=by
 intro l g out hl hs hg hso hb;refine b9 (l! l) (λi x=>x.1=(i:Int)/\QG nT ss t (i*ME d) (oZ d (l.take i)) g out x.2) ?_ ?_ ⟨rfl,GQ.refl g,QC.nil _ _,by simp[oZ]⟩
 .rintro i ⟨a,g2,L⟩ hi ⟨e1,q1,z,q3⟩;dsimp only at e1 q1 z q3;subst e1;have hK:(i+1)*ME d<=l! l*ME d:=cw _ (by omega);have hKs:=jF i (ME d);rw[Nat.succ_eq_add_one]at hKs;have hp:=Up (d:=d) l (i+1);rw[zG hi]at hp;have q4:=z.u;refine c8 ?_;refine b_ (aT ?_);refine ay (ht _ g2 L (hs _ (bC (T:=.sm) (xs:=l) (j:=(i:Int)) (by omega) (by omega))) (hg.of q1) (hso.sub (by omega) (by grind)) (by omega)) λy A=>bl (by simp) (ak ?_)
  rw[zG hi];exact⟨gZ,q1.trans A.q,z.trans A.c (by omega),by rw[A.x,q3];dsimp only;omega⟩
 .rintro⟨a,g2,L⟩ ⟨e1,q⟩;rw[dh]at q;exact c9 (ak q)
def WA (rs:FS6) (rt:FT6) (rb:FT6) (ra:FA6) (d:Nat) (hS:amv nT ss t rs d):avn nT ss t (uV rs rt rb ra) d:=by
 intro s a b c g out h1 h2 ga gb na nb I hs hso hb;have hm:ME (d+1)=50+16*ME d:=rfl;have kb:l! s.body*ME d<=8*ME d:=cw _ h1;refine ay (Ak (by omega) I hs ga na) λy z=>?_
 let⟨g2,o2⟩:=y;let⟨q1,A⟩:=z;dsimp only at q1 A;subst q1;have q3:=A.u;refine bl (by simp) ?_;refine ay (hS s.body g2 o2 (by omega) h2 I hso (by omega)) λy z=>?_
 let⟨L,o3⟩:=y;let⟨r1,r2,r3⟩:=z;have r4:=r2.u;refine bl (by simp) ?_;have qs:=r1.trans (GQ.site L L.2.2.2.2.2.1 g2.2.2.2.2.2.2.2.1 L.2.2.2.2.2.2.2.2);refine ay (Ak (by grind) (I.of qs) hs gb nb) λy z=>bl (by simp) (ak ⟨?_,?_,?_⟩)
 .rw[z.1];exact qs
 .exact (A.trans r2 (bK _)).trans z.2 (by omega)
 .rw[z.1];exact r3
def Ck {l:Y IT} {x:IT} (h:i<l! l):iA (ca l (i:Int) x) m=if m=i then x else iA l m:=Ni (T:=sZ) l i m x h
abbrev ptB (l:Y IT) (j:Nat) (b:Int):Y IT:=ca l (j:Int) ((iA l j).1,(iA l j).2.1,b,(iA l j).2.2.2.1,(iA l j).2.2.2.2.1,(iA l j).2.2.2.2.2)
abbrev ptA (l:Y IT) (j:Nat) (a:Int):Y IT:=ca l (j:Int) ((iA l j).1,a,(iA l j).2.2.1,(iA l j).2.2.2.1,(iA l j).2.2.2.2.1,(iA l j).2.2.2.2.2)
def GI.pb {i:IT} (h:GI nT ss t i) (h1:i.1=10):GI nT ss t (i.1,i.2.1,a,i.2.2.2.1,i.2.2.2.2.1,i.2.2.2.2.2):=by
 let⟨i1,i2,L,I,A,z⟩:=i;subst h1;exact⟨⟨h.o.o1,h.o.o2,h.o.r,(by decide:¬(10:Int)=3)⟩,h.s⟩
def QC.cbr {out A o2 L:Y IT} {I:IT} (h1:QC nT ss t i out A) (h2:o2=A++[I]) (hb:GI nT ss t I) (h10:I.1=10) (h3:QC nT ss t m o2 L) (F:Y IT) (hl:l! L<=l! F) (hF:∀k:Nat,k<l! L->¬k=l! A->iA F k=iA L k) (hFb:∃b:Int,(0<=b/\b<=(l! F:Int))/\iA F (l! A)=(I.1,I.2.1,b,I.2.2.2.1,I.2.2.2.2.1,I.2.2.2.2.2)):(∀k:Nat,k<l! out->iA F k=iA out k)/\sX F (l! out) (l! A)/\(iA F (l! A)).1=10/\sX F (l! A+1) (l! L)/\(∀k:Nat,l! out<=k->k<l! L->GI nT ss t (iA F k))/\∀k:Nat,l! out<=k->k<l! L->(iA F k).1=10->0<=(iA F k).2.2.1/\(iA F k).2.2.1<=(l! F:Int):=by
 have l2:l! o2=l! A+1:=by grind
 have l1:=h1.l;have l3:=h3.l;have e1:∀k:Nat,k<l! A->iA F k=iA A k:=λk z=>by rw[hF k (by omega) (by omega),h3.p k (by omega),h2,MY z]
 let⟨b,hb0,eb⟩:=hFb;refine ⟨λk z=>(e1 k (by omega)).trans (h1.p k z),h1.b.congr λk _ z=>e1 k z,by rw[eb];exact h10,?_,λk g1 g2=>?_,λk g1 g2 g3=>?_⟩
 .have:=h3.b;rw[l2]at this;exact this.congr λk g1 g2=>hF k g2 (by omega)
 .rcases C4 k (l! A) with z|z|z
  .rw[e1 k z];exact h1.i k g1 z
  .rw[z,eb];exact hb.pb h10
  .rw[hF k g2 (by omega)];exact h3.i k (by omega) g2
 .rcases C4 k (l! A) with z|z|z
  .rw[e1 k z]at g3 ⊢;have:=h1.r k g1 z g3;omega
  .rw[z,eb];exact hb0
  .rw[hF k g2 (by omega)]at g3 ⊢;have:=h3.r k (by omega) g2 g3;omega
def Qe (rs:FS6) (rt:FT6) (rb:FT6) (ra:FA6) (d:Nat) (hS:amv nT ss t rs d):avm nT ss t (nY rs rt rb ra) d:=by
 intro s g out hop he h1 h2 h3 h4 hel hg hs hso hb;have hm:ME (d+1)=50+16*ME d:=rfl;have kb:l! s.body*ME d<=8*ME d:=cw _ h1;have ke:l! s.els*ME d<=8*ME d:=cw _ h2;have hex:GE 4 (eM (Xp.op s.expr,Xp.n s.expr,Xp.name s.expr,Xp.l s.expr)):=by rw[gj];exact he
 unfold nY be bA bM cE fe kZ rY ck bj bV aZ;refine ay (FG _ _ g out hex hg hs (by rw[hg.len];decide) (by rw[hg.len];decide) (by omega)) λy hy=>?_
 let⟨g1,o1⟩:=y;let⟨p1,p2⟩:=hy;dsimp only at p1 p2;subst p1;have p3:=p2.u;have p4:=p2.l;refine bl (by simp) ?_;refine ay (Mj _ g1 o1 (by omega)) λy hy=>?_
 let⟨I,o2⟩:=y;let⟨q1,q2⟩:=hy;dsimp only at q1 q2;subst q1;rw[hg.len]at q2;have hbr:GI nT ss t ((10,2,0,0,0,I.2.2.2.2.2.2.2.1):IT):=⟨goI (by decide) (by decide) (by simp[jC]) (by decide:¬(10:Int)=3),hs⟩
 have l2:l! o2=l! o1+1:=by rw[q2,bH];rfl
 refine bl (by simp) ?_;refine ay (hS s.body I o2 (by omega) h3 hg (hso.sub (eS _) (by omega)) (by omega)) λy hy=>?_
 let⟨g3,A⟩:=y;let⟨r1,r2,r3⟩:=hy;dsimp only at r1 r2 r3;have r4:=r2.u;have r5:=r2.l;have ebr:iA A (l! o1)=(10,2,0,0,0,I.2.2.2.2.2.2.2.1):=by rw[r2.p _ (by omega),q2,Av]
 refine bl (by simp) ?_;have qs:=r1.trans (GQ.site g3 g3.2.2.2.2.2.1 I.2.2.2.2.2.2.2.1 g3.2.2.2.2.2.2.2.2);refine aK (λh3w=>?_) λh3w=>?_
 .have hels:oZ d s.els=0:=by rw[hel (by have h3w:s.op=3:=h3w;omega)];rfl
  rw[hels,dQ];refine ay (Mj _ _ A (by omega)) λy hy=>?_
  let⟨g4,L⟩:=y;let⟨w1,w2⟩:=hy;dsimp only at w1 w2;have l4:l! L=l! A+1:=by rw[w2,bH];rfl
  refine bl (by simp) (aP (eD _) (by dsimp only[aw];omega) (aP (eD _) (by dsimp only[aw];omega) (ak ?_)));have hat:l! o1<l! L:=by omega
  have ej:iA L (l! A)=(5,(l! out:Int),0,0,0,I.2.2.2.2.2.2.2.1):=by rw[w2,Av];rfl
  have e43:∀k:Nat,k<l! A->iA L k=iA A k:=λk hk=>by rw[w2,MY hk]
  refine ⟨by dsimp only;rw[w1];exact qs,?_,by dsimp only;rw[w1];exact r3⟩;dsimp only;have eF:∀{z:IT} {k:Nat},¬k=l! o1->iA (ca L ((l! o1:Nat):Int) z) k=iA L k:=λh=>by rw[Ck hat,av h]
  let⟨f1,f2,f3,f4,f5,f6⟩:=p2.cbr q2 hbr rfl r2 (ptB L (l! o1) (aS (l! L))) (by rw[bN];omega) (λk hk hn=>(eF hn).trans (e43 k hk)) ⟨_,⟨eD _,by rw[bN];exact eS _⟩,by rw[Ck hat,aC rfl,e43 _ (by omega),ebr];rfl⟩;show QC nT ss t _ out (ptB L (l! o1) (aS (l! L)));have ejF:iA (ptB L (l! o1) (aS (l! L))) (l! A)=(5,(l! out:Int),0,0,0,I.2.2.2.2.2.2.2.1):=(eF (by omega:¬l! A=l! o1)).trans ej;refine ⟨by rw[bN];omega,by rw[bN];omega,f1,?_,λk g1 I=>?_,λk g1 I g3=>?_⟩
  .rw[(bN _ _ _).trans l4];exact f2.whl f3 f4 (by rw[ejF]) (by rw[ejF])
  .rw[bN,l4]at I;by_cases hk:k<l! A
   .exact f5 k g1 hk
   .rw[show k=l! A by omega,ejF];exact⟨goI (by decide) (by decide) (by simp[jC]) (by decide:¬(5:Int)=3),hs⟩
  .have g2':=I;rw[bN,l4]at g2';by_cases hk:k<l! A
   .exact f6 k g1 hk g3
   .rw[show k=l! A by omega,ejF]at g3;cases g3
 refine aK (λhz=>?_) λ_=>?_
 .have hels:oZ d s.els=0:=by rw[dC.1 (by dsimp only[aw]at hz;omega:l! s.els=0)];rfl
  rw[hels,dQ];refine aP (eD _) (by dsimp only[aw];omega) (aP (eD _) (by dsimp only[aw];omega) (ak ⟨qs,?_,r3⟩));dsimp only;have hat:l! o1<l! A:=by omega
  let⟨f1,f2,f3,f4,f5,f6⟩:=p2.cbr q2 hbr rfl r2 (ptB A (l! o1) (aS (l! A))) (by rw[bN];omega) (λk hk hn=>by rw[Ck hat,av hn]) ⟨_,⟨eD _,by rw[bN];exact eS _⟩,by rw[Ck hat,aC rfl,ebr];rfl⟩;show QC nT ss t _ out (ptB A (l! o1) (aS (l! A)));refine ⟨by rw[bN];omega,by rw[bN];omega,f1,?_,λk g1 I=>?_,λk g1 I g3=>?_⟩
  .rw[bN];exact (f2.app (sX.one (by rw[f3];decide))).app f4
  .rw[bN]at I;exact f5 k g1 I
  .exact f6 k g1 (by rw[bN]at I;exact I) g3
 .refine ay (Mj _ _ A (by omega)) λy hy=>?_
  let⟨g4,L⟩:=y;let⟨w1,w2⟩:=hy;dsimp only at w1 w2;have l4:l! L=l! A+1:=by rw[w2,bH];rfl
  have qs4:GQ I g4:=by rw[w1];exact qs
  have x4:gN g4=gN I+(oZ d s.body:Nat):=by rw[w1];exact r3
  have hat:l! o1<l! L:=by omega
  have ej:iA L (l! A)=(5,0,0,0,0,I.2.2.2.2.2.2.2.1):=by rw[w2,Av]
  have e43:∀k:Nat,k<l! A->iA L k=iA A k:=λk hk=>by rw[w2,MY hk]
  refine bl (by simp) (aP (eD _) (by dsimp only[aw];omega) (aP (eD _) (by dsimp only[aw];omega) ?_));have eF:∀{z:IT} {k:Nat},¬k=l! o1->iA (ca L ((l! o1:Nat):Int) z) k=iA L k:=λh=>by rw[Ck hat,av h]
  refine ay (hS s.els g4 (ptB L (l! o1) (aS (l! L))) (by omega) h4 (hg.of qs4) (hso.sub (by rw[x4];omega) (by rw[x4];omega)) (by rw[bN];omega)) λy hy=>?_
  let⟨g5,o5⟩:=y;let⟨z1,z2,z3⟩:=hy;dsimp only at z1 z2 z3;have z4:=z2.l;have z5:=z2.u;have zp:=z2.p;have zb:=z2.b;have zi:=z2.i;have zr:=z2.r;rw[bN]at z4 z5 zp zb zi zr;have hj5:l! A<l! o5:=by omega
  refine bl (by simp) (aP (eD _) (by dsimp only[aw];omega) (aP (eD _) (by dsimp only[aw];omega) (ak ⟨qs4.trans z1,?_,by dsimp only;rw[z3,x4];omega⟩)));dsimp only;show QC nT ss t _ out (ptA o5 (l! A) (aS (l! o5)));have eG:∀{z:IT} {k:Nat},¬k=l! A->iA (ca o5 ((l! A:Nat):Int) z) k=iA o5 k:=λh=>by rw[Ck hj5,av h]
  have ej5:iA o5 (l! A)=(5,0,0,0,0,I.2.2.2.2.2.2.2.1):=by rw[zp _ (by omega),eF (by omega),ej]
  let⟨f1,f2,f3,f4,f5,f6⟩:=p2.cbr q2 hbr rfl r2 (ptA o5 (l! A) (aS (l! o5))) (by rw[bN];omega) (λk hk hn=>by rw[eG (by omega),zp k (by omega),eF hn,e43 k hk]) ⟨aS (l! L),⟨eD _,by rw[bN];dsimp only[aw];omega⟩,by rw[eG (by omega),zp _ (by omega),Ck hat,aC rfl,e43 _ (by omega),ebr]⟩;have ejF:iA (ptA o5 (l! A) (aS (l! o5))) (l! A)=(5,aS (l! o5),0,0,0,I.2.2.2.2.2.2.2.1):=by rw[Ck hj5,aC rfl,ej5]
  refine ⟨by rw[bN];omega,by rw[bN];omega,f1,?_,λk g1 I=>?_,λk g1 I g3=>?_⟩
  .rw[bN];refine ((f2.app (sX.one (by rw[f3];decide))).app f4).ite (by rw[ejF]) (by rw[ejF];rfl) ?_;rw[l4]at zb;exact zb.congr λk g1 I=>eG (by omega)
  .rw[bN]at I;rcases C4 k (l! A) with hk|hk|hk
   .exact f5 k g1 hk
   .rw[hk,ejF];exact⟨goI (by decide) (by decide) (by simp[jC]) (by decide:¬(5:Int)=3),hs⟩
   .rw[eG (by omega)];exact zi k (by omega) I
  .have g2':=I;rw[bN]at g2';rcases C4 k (l! A) with hk|hk|hk
   .exact f6 k g1 hk g3
   .rw[hk,ejF]at g3;cases g3
   .rw[eG (by omega)]at g3 ⊢;rw[bN];exact zr k (by omega) g2' g3
def agi (rs:FS6) (rt:FT6) (rb:FT6) (ra:FA6) (d:Nat) (hB:avm nT ss t rb d) (hA:avn nT ss t ra d):SpG nT ss t (ua rs rt rb ra) (d+1):=by
 intro s g out hs hg hso hb;have hm:ME (d+1)=50+16*ME d:=rfl;let⟨i1,i2,i3,i4,i5,i6,i7,i8,i9,hN⟩:=hs;have hcn:UZ (d+1) s=1+oZ d s.body+oZ d s.els:=rfl;rw[hcn]at hso ⊢;let⟨so0,so1,so2⟩:=id hso;have so0:0<=g.2.2.2.2.2.2.2.2:=so0;have so1:g.2.2.2.2.2.2.2.2+((1+oZ d s.body+oZ d s.els:Nat):Int)<=1000:=so1;have ew:a_ .i64 (g.2.2.2.2.2.2.2.2+1)=g.2.2.2.2.2.2.2.2+1:=gr;have gs:=GQ.site g g.2.2.2.2.2.1 g.2.2.2.2.2.2.2.2 (a_ .i64 (g.2.2.2.2.2.2.2.2+1));unfold ua be bA bM cE fe ct rY bj bV aZ aH cL eP;refine aV (λx=>QG nT ss t (ME (d+1)) (1+oZ d s.body+oZ d s.els) g out x) ?_ λx hx=>ak hx
 dsimp only;have hs1:SO ss t (gS ((g.1,g.2.1,g.2.2.1,g.2.2.2.1,g.2.2.2.2.1,g.2.2.2.2.2.1,g.2.2.2.2.2.2.1,g.2.2.2.2.2.2.2.2,a_ .i64 (g.2.2.2.2.2.2.2.2+1)):GN)):=so2 _ (eS _) (by show g.2.2.2.2.2.2.2.2<g.2.2.2.2.2.2.2.2+((1+oZ d s.body+oZ d s.els:Nat):Int);omega);have hn1:gN ((g.1,g.2.1,g.2.2.1,g.2.2.2.1,g.2.2.2.2.1,g.2.2.2.2.2.1,g.2.2.2.2.2.2.1,g.2.2.2.2.2.2.2.2,a_ .i64 (g.2.2.2.2.2.2.2.2+1)):GN)=gN g+1:=ew;revert gs hs1 hn1;generalize ((g.1,g.2.1,g.2.2.1,g.2.2.2.1,g.2.2.2.2.1,g.2.2.2.2.2.1,g.2.2.2.2.2.2.1,g.2.2.2.2.2.2.2.2,a_ .i64 (g.2.2.2.2.2.2.2.2+1)):GN)=L;intro gs hs1 hn1;have I:=hg.of gs;have hso1:=hso.sub (b:=gN L) (n:=oZ d s.body+oZ d s.els) (by rw[hn1];omega) (by rw[hn1];omega);have fin:∀(n m:Nat) (y:y?),QG nT ss t n m L out y->n<=ME (d+1)->m=oZ d s.body+oZ d s.els->QG nT ss t (ME (d+1)) (1+oZ d s.body+oZ d s.els) g out y:=λn m y A hn hm=>⟨gs.trans A.q,(QC.nil 0 out).trans A.c (by omega),by rw[A.x,hn1];omega⟩
 have fin0:s.op=1\/9<=s.op->∀(n:Nat) (y:y?),y.1=L/\QC nT ss t n out y.2->n<=ME (d+1)->QG nT ss t (ME (d+1)) (1+oZ d s.body+oZ d s.els) g out y:=λz n y A hn=>fin n 0 y ⟨by rw[A.1];exact GQ.refl L,A.2,by rw[A.1];simp⟩ hn (by rw[hN.bo z,hN.el (by omega)];rfl)
 refine aK (λz=>?_) λ_=>?_
 .refine ay (abr (pn _) L out ?_ ?_ ?_ ?_ I hs1 (by omega)) λy A=>bl (by simp) (ak (fin0 (.inl z) _ _ A (by omega)))
  .rw[Bf];exact i1
  .rw[Bf];exact i3
  .rw[Bf];exact i4 (.inl z)
  .rw[Bf];exact hN.vr z
 refine aV (λx=>x.2=(L,s,out)/\(x.1=J↔s.op=2\/s.op=3)) ?_ ?_
 .exact aK (λh=>ak ⟨by dsimp only;rw[Bf],λ_=>.inl h,λ_=>aU h⟩) λh=>ak ⟨by dsimp only;rw[Bf],λh2=>.inr (bi h2),λh2=>aU (h2.resolve_left h)⟩
 rintro⟨b,x⟩ ⟨e,hb2⟩;dsimp only at e hb2;subst e;refine aR (λhb3=>?_) λhbf=>?_
 .dsimp only;rw[Bf];refine ay (hB s L out (hb2.1 hb3) (i4 (by rcases hb2.1 hb3 with h|h;exact .inr (.inl h);exact .inr (.inr (.inl h)))) i6 i7 i8 i9 hN.el I hs1 hso1 hb) λy A=>bl (by simp) (ak (fin _ _ _ A (by omega) rfl))
 have har:∀(a b c:Int),4<=s.op->GO nT (a,c,0,0,0,0)->GO nT (b,c,0,0,0,0)->¬a=5/\¬a=10->¬b=5/\¬b=10->Ok (ra ((s,a,b,c),L,out)) λy=>QG nT ss t (ME (d+1)) (1+oZ d s.body+oZ d s.els) g out y:=λa b c h4 ga gb na nb=>(hA s a b c L out i6 i8 ga gb na nb I hs1 (hso1.sub (eS _) (by omega)) hb).mono λy A=>fin _ _ _ A (by omega) (by rw[hN.el (by omega)];rfl)
 have hput:∀{op:Int} {r:υ},9<=s.op->GO nT (op,r)->¬op=5/\¬op=10->Ok (cJ ((op,r),L,out)) (QG nT ss t (ME (d+1)) (1+oZ d s.body+oZ d s.els) g out):=λh9 hi h5=>(Ak (by omega) I hs1 hi h5).mono λy A=>fin0 (.inr h9) _ _ A (by omega)
 have hlk:∀n:ζ,Ok (mA (L.2.1,n)) λr=>(n=[109]->r=0)/\(n=[110]->r=1)/\(n=[114]->r=2):=λn=>(Ri L.2.1 n (by rw[I.l];decide)).mono λr h=>asr (by rw[I.l]at h;exact h)
 have hcond:∀(n:ζ),Ok (j9 (n,L,out)) λy=>y.2=(L,out)/\(n=[99]->y.1=0):=λn=>alr n L out I
 have hth:Ok (jZ (L.2.2.2.2.1,s.name)) λr=>s.op=12\/s.op=13->0<=r/\r<(nT:Int):=(BD L.2.2.2.2.1 s.name (by rw[I.t,bR];have q4:zP.length=4:=rfl;omega)).mono λr hr z=>by
  have hn:=hN.sp z;have hl:l! (zP.take nT)<=nT:=fR ..;let⟨_,h2,_,h4⟩:=hr;rw[I.t]at h2 h4;exact⟨tW.1 λh=>h4 h hn,by omega⟩
 have hft:∀n:ζ,Ok (jZ (L.2.2.2.1,n)) λr=>n=[102]->r=0:=λn=>(BD L.2.2.2.1 n (by rw[I.f];decide)).mono λr hr hn=>by
  let⟨h1,h2,_,h4⟩:=hr;rw[I.f]at h2 h4;have h2:r<1:=h2;have:¬r<0:=λh=>h4 h (by rw[hn];decide)
  omega
 dsimp only;rw[Bf];have gor:∀{a c:Int},1<=a->a<=27->jC (a,c,0,0,0,0)=[]->OB nT (a,c,0,0,0,0)->GO nT (a,c,0,0,0,0):=λh1 h2 h3 h4=>⟨h1,h2,by rw[h3];exact λj hj=>(by cases hj),h4⟩
 refine aK (λz=>ay (hlk _) λv hv=>ay (har _ _ _ (by have z:s.op=4:=z;omega) (gor (by decide) (by decide) rfl ?_) (gor (by decide) (by decide) rfl ?_) (by decide) (by decide)) λy A=>bl (by simp) (ak A)) λ_=>?_
 .exact (hN.lk z).imp hv.1 hv.2.1
 .exact (hN.lk z).imp hv.1 hv.2.1
 refine aK (λz=>ay (hlk _) λv hv=>ay (har _ _ _ (by have z:s.op=5:=z;omega) (gor (by decide) (by decide) rfl ?_) (gor (by decide) (by decide) rfl ?_) (by decide) (by decide)) λy A=>bl (by simp) (ak A)) λ_=>?_
 .exact hv.2.2 (hN.rw (.inl z))
 .exact hv.2.2 (hN.rw (.inl z))
 refine aK (λz=>ay (hlk _) λv hv=>ay (har _ _ _ (by have z:s.op=6:=z;omega) (gor (by decide) (by decide) rfl ?_) (gor (by decide) (by decide) rfl ?_) (by decide) (by decide)) λy A=>bl (by simp) (ak A)) λ_=>?_
 .exact hv.2.2 (hN.rw (.inr z))
 .exact hv.2.2 (hN.rw (.inr z))
 refine aK (λz=>ay (har _ _ _ (by have z:s.op=7:=z;omega) (gor (by decide) (by decide) rfl (by decide:¬(17:Int)=3)) (gor (by decide) (by decide) rfl (by decide:¬(18:Int)=3)) (by decide) (by decide)) λy A=>bl (by simp) (ak A)) λ_=>?_
 refine aK (λz=>ay (har _ _ _ (by have z:s.op=8:=z;omega) (gor (by decide) (by decide) rfl (by decide:¬(19:Int)=3)) (gor (by decide) (by decide) rfl (by decide:¬(20:Int)=3)) (by decide) (by decide)) λy A=>bl (by simp) (ak A)) λ_=>?_
 refine aK (λz=>ay (hcond _) λy A=>?_) λ_=>?_
 .obtain⟨v,y2⟩:=y;let⟨y3,y4⟩:=A;dsimp only at y3;subst y3;exact bl (by simp) (ay (hput (by have z:s.op=9:=z;omega) (gor (by decide) (by decide) rfl (y4 (hN.cn (.inl z)))) (by decide)) λy A=>bl (by simp) (ak A))
 refine aK (λz=>ay (hcond _) λy A=>?_) λ_=>?_
 .obtain⟨v,y2⟩:=y;let⟨y3,y4⟩:=A;dsimp only at y3;subst y3;exact bl (by simp) (ay (hput (by have z:s.op=10:=z;omega) (gor (by decide) (by decide) rfl (y4 (hN.cn (.inr (.inl z))))) (by decide)) λy A=>bl (by simp) (ak A))
 refine aK (λz=>ay (hcond _) λy A=>?_) λ_=>?_
 .obtain⟨v,y2⟩:=y;let⟨y3,y4⟩:=A;dsimp only at y3;subst y3;exact bl (by simp) (ay (hput (by have z:s.op=11:=z;omega) (gor (by decide) (by decide) rfl (y4 (hN.cn (.inr (.inr z))))) (by decide)) λy A=>bl (by simp) (ak A))
 refine aK (λz=>ay hth λv hv=>ay (hput (by have z:s.op=12:=z;omega) (gor (by decide) (by decide) rfl (hv (.inl z))) (by decide)) λy A=>bl (by simp) (ak A)) λ_=>?_
 refine aK (λz=>ay hth λv hv=>ay (hput (by have z:s.op=13:=z;omega) (gor (by decide) (by decide) rfl (hv (.inr z))) (by decide)) λy A=>bl (by simp) (ak A)) λ_=>?_
 refine aK (λz=>?_) λn14=>?_
 .have hex:GE 4 (eM (Xp.op s.expr,Xp.n s.expr,Xp.name s.expr,Xp.l s.expr)):=by rw[gj];exact i4 (.inr (.inr (.inr z)))
  refine ay (FG _ _ L out hex I hs1 (by rw[hg.len];decide) (by rw[hg.len];decide) (by omega)) λy A=>?_
  let⟨g2,o2⟩:=y;let⟨q1,q2⟩:=A;dsimp only at q1 q2;subst q1;have q3:=q2.u;refine bl (by simp) (ay (hft _) λv hv=>?_);refine ay (Ak (by omega) I hs1 (goI (by decide) (by decide) (by simp[jC,hg.h,L0]) (hv (hN.se z))) (by decide)) λy A=>bl (by simp) (ak (fin0 (.inr (by have z:s.op=14:=z;omega)) 16 _ ⟨A.1,q2.trans A.2 (bK _)⟩ (by omega)))
 refine aK (λz=>?_) λn15=>?_
 .refine ay (BD _ _ (by rw[I.h];decide)) λv hv=>ay (hft _) λv2 hv2=>?_
  have hge:=hN.ge z;have hl:(0:Int)<=v/\v<2:=by
   let⟨_,h2,_,h4⟩:=hv;rw[I.h]at h2 h4;exact⟨tW.1 λh=>h4 h (by rw[hge.1];decide),h2⟩
  exact ay (hput (by have z:s.op=15:=z;omega) (goI (by decide) (by decide) (by simp[jC];omega) (hv2 hge.2)) (by decide)) λy A=>bl (by simp) (ak A)
 .exfalso;have h1:=hN.o0;have h2:=hN.o1;have h3:¬(s.op=2\/s.op=3):=λh=>by have hbf:b=af:=hbf;rw[hb2.2 h]at hbf;cases hbf
  omega
end
section
variable {nT:Nat} {ss:Y π} {t:Int}
def ae0:∀(n:Nat),(∀d:Nat,3*d<n->SpG nT ss t (fk n) d)/\(∀d:Nat,3*d+1<n->amv nT ss t (dW n) d)/\(∀d:Nat,3*d+2<n->avm nT ss t (dk n) d)/\(∀d:Nat,3*d+2<n->avn nT ss t (dT n) d)
 |0=>⟨λd h=>by omega,λd h=>by omega,λd h=>by omega,λd h=>by omega⟩
 |n+1=>by
  let⟨I,z,L,hA⟩:=ae0 n;refine ⟨λd h=>?_,λd h=>?_,λd h=>?_,λd h=>?_⟩
  .cases d with
   |zero=>exact λs g out A=>A.elim
   |succ d=>exact agi (dW n) (fk n) (dk n) (dT n) d (L d (by omega)) (hA d (by omega))
  .exact Z8 (dW n) (fk n) (dk n) (dT n) d (I d (by omega))
  .exact Qe (dW n) (fk n) (dk n) (dT n) d (z d (by omega))
  .exact WA (dW n) (fk n) (dk n) (dT n) d (z d (by omega))
def TU (d:Nat) (hd:d<=100):amv nT ss t wj d:=(ae0 fuel).2.1 d (by rw[kM];omega)
structure SL (t k:Int) (m:Nat) (S:List π):Prop where
 l:l! S=m
 v:∀i:Nat,i<m->(aI qG S (i:Int)).1=t/\(aI qG S (i:Int)).2.1=k+i
def Nk {T:Ty} {l m:Y T.den} (h:i<l! l):aI _ (l++m) (i:Int)=aI _ l (i:Int):=by
 rw[sL,sL,aD,aD,b8 h]
def Nj {T:Ty} {l m:Y T.den} (h:l! l<=i):aI _ (l++m) (i:Int)=aI _ m ((i-l! l:Nat):Int):=by
 rw[sL,sL,aD,aD,bS h]
def SL.nil (t k:Int):SL t k 0 []:=⟨rfl,λi h=>by omega⟩
def SL.one (t k z:Int):SL t k 1 [(t,k,z)]:=⟨rfl,λi h=>by rw[show i=0 by omega];exact⟨rfl,by show k=k+((0:Nat):Int);omega⟩⟩
def SL.app {z:Int} {k:Nat} {S S':Y π} (h:SL t a k S) (h':SL t z i S') (L:z=a+k):SL t a (k+i) (S++S'):=by
 let⟨h1,I⟩:=h;let⟨h3,h4⟩:=h';refine ⟨by rw[bH];omega,λb hi=>?_⟩;by_cases A:b<l! S
 .rw[Nk (T:=qG) A];exact I b (by omega)
 .rw[Nj (T:=qG) (by omega)]
  grind
def IF:∀(n d:Nat),d<n->∀(t k:Int) (l:Y Sx) (out:Y π),l! l<=100->(∀s∈l,GT d s)->0<=k->k+oZ d l<=100000000->l! out+oZ d l<=100000000->Ok (rn n ((t,k,l),out)) λy=>y.1=k+oZ d l/\∃S,y.2=out++S/\SL t k (oZ d l) S
 |0,_,h,_,_,_,_,_,_,_,_,_=>by omega
 |n+1,d,hn,t,k,l,out,hl,hs,k0,hkb,hb=>by
  rw[K9];unfold AA bQ wT bV aZ cP aH cL;refine b9 (l! l) (λi x=>x.1.2=(i:Int)/\x.1.1=k+oZ d (l.take i)/\∃S,x.2=out++S/\SL t k (oZ d (l.take i)) S) ?_ ?_ ⟨rfl,by simp[oZ],[],by simp,by simp[oZ];exact SL.nil t k⟩
  .rintro i ⟨⟨a,b⟩,o⟩ hi ⟨e1,e2,S,z,L⟩;subst e1 e2 z;have hp:=Up (d:=d) l (i+1);rw[zG hi]at hp;rw[zG hi];refine c8 ?_;have hin:((i:Nat):Int)<(l! l:Int):=by omega
   have hm:=hs _ (bC (T:=.sm) (xs:=l) (j:=(i:Int)) (by omega) (by omega));have hSl:=L.l;cases d with
   |zero=>exact hm.elim
   |succ d=>
    let⟨_,_,_,g4,g5,g6,g7⟩:=hm;have hc:UZ (d+1) (aI (.sm) l (i:Int))=1+oZ d (Sx.body (aI (.sm) l (i:Int)))+oZ d (Sx.els (aI (.sm) l (i:Int))):=rfl;rw[hc]at hp ⊢;dsimp only;refine aP (by omega) hin (aT (bP (by grind) (by omega) (aP (by omega) hin (aT ?_))));rw[gr (n:=k+(oZ (d+1) (l.take i):Nat)+1) (by omega) (by omega)];refine ay (IF n d (by omega) _ _ _ _ (by omega) g6 (by omega) (by omega) (by grind)) λy A=>bl (by simp) ?_
    let⟨a2,o2⟩:=y;let⟨y1,S2,y2,I⟩:=A;subst y1 y2;have hSl2:=I.l;refine aP (by omega) hin (aT ?_);refine ay (IF n d (by omega) _ _ _ _ (by omega) g7 (by omega) (by omega) (by grind)) λy A=>bl (by simp) (ak ?_)
    let⟨a3,o3⟩:=y;let⟨z1,S3,z2,z3⟩:=A;subst z1 z2;refine ⟨gZ,by dsimp only;omega,S++([_]++(S2++S3)),by simp[mC];rfl,?_⟩;refine L.app ?_ rfl;rw[jA];exact (SL.one t _ _).app (I.app z3 rfl) (by simp)
  .rintro⟨⟨a,b⟩,o⟩ ⟨e1,e2,z⟩;subst e1 e2;rw[dh]at z ⊢;exact c9 (ak ⟨rfl,z⟩)
def acl {A I k:Int} {l S:Y π} (h:Ps a l=Z (A,I)) (L:SL t k m S) (hk:(A=t/\I=k)\/(A<t/\t<a/\k=0)):∀i:Nat,i<=m->Ps a (l++S.take i)=Z (if i=0 then (A,I) else (t,k+i))
 |0,_=>by grind
 |i+1,hi=>by
  have ih:=acl h L hk i (by omega);rw[nV (T:=qG) (xs:=S) (i:=i) (by rw[L.l];omega),<-mC,acn,ih];let⟨v1,v2⟩:=L.v i (by omega);by_cases z:i=0
  .subst z;unfold YK
   grind
  .rw[av z];unfold YK
   grind
end
abbrev CE6:Type:=ζ×n?
abbrev W4T:Type:=Y CE6×Y (ζ×Bool)×Y (ζ×Int)×Y ζ
def ceD (z:DT):Y CE6:=(dA (aO (kA z.2.2.2.1 1))).map λ(k:Nat)=>(z.2.2.1,(k:Int),z.2.2.2.1,decide (z.1=2),z.2.2.2.2.1)
def adD (y:W4T) (z:DT):W4T:=
 if z.1=1\/z.1=2 then (y.1++ceD z,y.2) else if z.1=3\/z.1=4 then (y.1,y.2.1++[(z.2.2.1,decide (z.1=4))],y.2.2) else if z.1=5 then (y.1,y.2.1,y.2.2.1++[(z.2.2.1,0)],y.2.2.2) else (y.1,y.2.1,y.2.2.1,y.2.2.2++[z.2.2.1])
def W4 (i:Nat):W4T:=(D0.take i).foldl adD ([],[],[],[])
def W4_9:W4 9=(C0,Kx,QU,YI):=rfl
def W4_s (hi:i<9):W4 (i+1)=adD (W4 i) (aI Kz D0 (i:Int)):=by
 unfold W4;rw[nV (T:=Kz) (xs:=D0) hi,gd];rfl
def D0_c:∀i:Nat,i<9->(aI Kz D0 (i:Int)).1=5->i=7:=by decide
def azb:∀i:Nat,i<9->(W4 i).1.length<=5/\(W4 i).2.1.length<=3/\(W4 i).2.2.1.length<=1/\(W4 i).2.2.2.length<=1/\kA (aI Kz D0 (i:Int)).2.2.2.1 1<=2/\1<=kA (aI Kz D0 (i:Int)).2.2.2.1 1:=by decide
def bsN (p:PG) (i:Nat):Nat:=((p.2.take i).map λt=>oZ 5 t.2.2.2).sum
def boN (p:PG) (i:Nat):Nat:=oZ 5 (aI u_ p.2 (i:Int)).2.2.2
def at1 {p:PG} (hi:i<l! p.2):bsN p (i+1)=bsN p i+boN p i:=by
 unfold bsN boN;rw[nV (T:=u_) hi,cg,Jg];simp
def abm {p:PG} (i:Nat) (h:(p.2.map λt=>oZ 5 t.2.2.2).sum<=60):bsN p i<=60:=by
 refine c7 ?_ h
 conv=>rhs;rw[<- EM i p.2]
 unfold bsN;rw[cg,Jg];omega
structure SW (p:PG) (i:Nat) (S:List π):Prop where
 l:l! S=bsN p i
 f:∃a b,Ps (l! p.2) S=Z (a,b)/\(a<i\/a=0/\b=0)
 s:∀j:Nat,j<i->SR S (j:Int) (bsN p j:Nat) (boN p j)
structure WW (p:PG) (w:WT):Prop where
 x:WX w
 t:w.2.2.2.2.1=zP.take (l! p.2)
 s:∀j:Nat,j<l! p.2->SR w.2.2.2.2.2 (j:Int) (bsN p j:Nat) (boN p j)
def SO.app {S S':Y π} {t:Int} (h:SO S t a):SO (S++S') t a:=by
 let⟨h0,h1,z⟩:=h;obtain⟨a,rfl⟩:∃n:Nat,a=(n:Int):=⟨a.toNat,by omega⟩
 exact⟨h0,by rw[bH];omega,by rw[Nk (T:=qG) (by omega)];exact z⟩
def abv (p:PG) (hp:PJ p) (r:ν) (hr:gi p=Z r) (h0:r.1=0) (hc:(p.2.map λt=>oZ 5 t.2.2.2).sum<=60):Ok (wq p) (WW p):=by
 have hpt:=hp.t;unfold wq be bA bM cE fe ct dF c_ gy vq bj bQ gO bV bJ aZ cP aH cL;refine aX hr (bU (λh=>(h h0).elim) λ_=>?_);have hD:p.1=D0:=hp.d;have hlen:l! p.1=9:=by rw[hD];rfl
 refine b9 9 (λi x=>x.1=(i:Int)/\x.2.1=p/\x.2.2=W4 i) ?_ ?_ ⟨rfl,rfl,rfl⟩
 .rintro i ⟨a,p',y⟩ hi ⟨e1,e2,e3⟩;dsimp only at e1 e2 e3;subst e1;have e2:=e2.symm;subst e2;let⟨b1,b2,b3,b4,b5,b6⟩:=azb i hi;rw[<- e3]at b1 b2 b3 b4;have hW:=W4_s hi;rw[<- e3]at hW;have hcd:=D0_c i hi;have hlk:i=7->y.2.1=Kx/\(aI Kz D0 (i:Int)).2.2.2.2.2=[109]:=λh=>by subst h;rw[e3];exact⟨rfl,rfl⟩
  refine c8 ?_;refine b_ (aT ?_);dsimp only;rw[hD];revert hW hcd hlk b5 b6;generalize (aI Kz D0 (i:Int))=z;intro b5 b6 hW hcd hlk;refine aV (λx=>x=(p,W4 (i+1))) ?_ ?_
  .rw[hW];unfold adD;refine aV (λx=>x.2=(p,z,y)/\(x.1=J↔(z.1=1\/z.1=2))) ?_ ?_
   .exact aK (λh=>ak ⟨rfl,λ_=>.inl h,λ_=>aU h⟩) λh=>ak ⟨rfl,λA=>.inr (bi A),λA=>aU (A.resolve_left h)⟩
   rintro⟨b,x⟩ ⟨e,hb⟩;dsimp only at e hb;subst e;refine aR (λI=>?_) λI=>?_
   .rw[aC (hb.1 I)];unfold ceD;obtain⟨m,hm⟩:∃m:Nat,kA z.2.2.2.1 1=(m:Int):=⟨(kA z.2.2.2.1 1).toNat,by omega⟩
    rw[hm,cR];refine b9 m (λk x=>x=((k:Int),p,z,y.1++(dA k).map (λ(k:Nat)=>(z.2.2.1,(k:Int),z.2.2.2.1,decide (z.1=2),z.2.2.2.2.1)),y.2)) ?_ ?_ (by simp)
    .rintro k x hk rfl;refine bD (λ_=>?_) λg=>(by dsimp only at g;rw[hm]at g;omega)
     refine a! (ak ?_);dsimp only;rw[gZ,List.range_succ,cg,<-mC];rfl
    .rintro x rfl;exact bD (λg=>(by dsimp only at g;rw[hm]at g;omega)) λ_=>ak rfl
   rw[av λh=>by have I:b=af:=I;rw[hb.2 h]at I;cases I];refine aV (λx=>x.2=(p,z,y)/\(x.1=J↔(z.1=3\/z.1=4))) ?_ ?_
   .exact aK (λh=>ak ⟨rfl,λ_=>.inl h,λ_=>aU h⟩) λh=>ak ⟨rfl,λA=>.inr (bi A),λA=>aU (A.resolve_left h)⟩
   rintro⟨c,x⟩ ⟨e,hc2⟩;dsimp only at e hc2;subst e;refine aR (λh=>?_) λh=>?_
   .rw[aC (hc2.1 h)];exact a! (ak rfl)
   rw[av λA=>by have h:c=af:=h;rw[hc2.2 A]at h;cases h];refine aK (λh5=>?_) λh5=>?_
   .obtain⟨l1,l2⟩:=hlk (hcd h5);rw[aC h5];refine ay (Ri _ _ (by dsimp only;rw[l1];decide)) λv hv=>?_
    have hv:=(asr (by dsimp only at hv;rw[l1]at hv;exact hv)).1 l2;subst hv;exact a! (ak rfl)
   .rw[av h5];exact a! (ak rfl)
  rintro x rfl;exact ak ⟨gZ,rfl,rfl⟩
 .rintro⟨a,p',y⟩ ⟨e1,e2,j⟩;dsimp only at e1 e2 j;subst e1;have e2:=e2.symm;subst e2;rw[W4_9]at j;subst j;refine c9 ?_;refine ay (P:=WW p) ?_ λr hr=>ak hr
  refine b9 (l! p.2) (λi x=>x.1=(i:Int)/\x.2.1=p/\x.2.2.1=C0/\x.2.2.2.1=Kx/\x.2.2.2.2.1=QU/\x.2.2.2.2.2.1=YI/\x.2.2.2.2.2.2.1=zP.take i/\SW p i x.2.2.2.2.2.2.2) ?_ ?_ ⟨rfl,rfl,rfl,rfl,rfl,rfl,rfl,rfl,⟨0,0,rfl,.inr ⟨rfl,rfl⟩⟩,λj hj=>by omega⟩
  .rintro i ⟨a,p2,c2,l2,d2,f2,t2,s2⟩ hi ⟨e1,e2,e3,e4,e5,e6,e7,hl8,⟨fa,fb,f8,f9⟩,L⟩;dsimp only at e1 e2 e3 e4 e5 e6 e7 hl8 f8 L;subst e1;have e2:=e2.symm;subst e2;have hb8:=abm (i+1) hc;have hbs:=at1 hi;refine c8 ?_;have hin:((i:Nat):Int)<(l! p.2:Int):=by omega
   have hm:=hp.m _ (bC (T:=u_) (xs:=p.2) (j:=(i:Int)) (by omega) hin);have hnm:(aI u_ p.2 (i:Int)).1=aI (.str) zP (i:Int):=by
    have h1:=nV (T:=u_) hi;have A:=d_ (im Prod.fst) h1;rw[cg,gF,gF,hp.n,List.take_take,List.take_take,Jf (by omega),Jf (by omega),nV (T:=.str) (xs:=zP) (i:=i) (by have q4:zP.length=4:=rfl;omega)]at A;exact ((List.cons.inj (List.append_cancel_left A)).1).symm
   have htl:l! t2=i:=by rw[e7,bR];have q4:zP.length=4:=rfl;omega
   dsimp only;refine aP (by omega) hin (aT (a! (aP (by omega) hin (aT ?_))));refine ay (IF fuel 5 (by rw[kM];omega) _ _ _ s2 (by have:=hm.b;omega) (λs hs=>((hm.s s hs).le (by omega:3<=5)).t) (eS _) ?_ ?_) λy hy=>bl (by simp) (ak ?_)
   .show (0:Int)+(boN p i:Nat)<=_;omega
   .show (l! s2)+boN p i<=_;omega
   let⟨_,S,A,h3⟩:=hy;have h3:SL (i:Int) 0 (boN p i) S:=h3;refine ⟨gZ,rfl,e3,e4,e5,e6,?_,?_⟩
   .dsimp only;rw[e7,hnm,<-nV (T:=.str) (xs:=zP) (i:=i) (by have q4:zP.length=4:=rfl;omega)]
   .dsimp only;rw[A];refine ⟨by rw[bH,h3.l,hl8,hbs],?_,λj hj=>?_⟩
    .have hr:=acl f8 h3 (by rcases f9 with h|⟨h,h'⟩;exact .inr ⟨h,by omega,rfl⟩;rcases Nat.eq_zero_or_pos i with hi0|hi0;exact .inl ⟨by omega,h'⟩;exact .inr ⟨by omega,by omega,rfl⟩) (boN p i) (bK _);rw[<- h3.l,dh]at hr;rw[hr];split
     .exact⟨_,_,rfl,f9.imp (λh=>by omega) id⟩
     .exact⟨_,_,rfl,.inl (by omega)⟩
    .rcases cN j i with h1|h1
     .obtain⟨g1,g2,g3⟩:=L j h1;exact⟨g1,g2,λq q1 q2=>(g3 q q1 q2).app⟩
     .have hj:j=i:=by omega
      subst hj;refine ⟨by omega,by omega,λq q1 q2=>?_⟩;obtain⟨q,rfl⟩:∃n:Nat,q=(n:Int):=⟨q.toNat,by omega⟩
      refine ⟨by omega,by rw[bH,h3.l];omega,?_⟩;rw[Nj (T:=qG) (by omega)];exact (h3.v _ (by omega)).1
  .rintro⟨a,p2,c2,l2,d2,f2,t2,s2⟩ ⟨e1,e2,e3,e4,e5,e6,e7,hl8,⟨fa,fb,f8,f9⟩,L⟩;dsimp only at e1 e2 e3 e4 e5 e6 e7 hl8 f8 L;subst e1;have e2:=e2.symm;subst e2 e3 e4 e5 e6 e7;refine c9 (ak ?_);have hb8:=abm (l! p.2) hc;refine ⟨⟨rfl,rfl,rfl,rfl,⟨l! p.2,hp.t0,hp.t,rfl⟩,by dsimp only;omega,?_⟩,rfl,L⟩;unfold SV0;have hTl:l! (zP.take (l! p.2))=l! p.2:=by rw[bR];have q4:zP.length=4:=rfl;omega
   dsimp only;rw[hTl,f8];simp
def NM9:Y ζ:=[[120],[121],[118],[113],[109],[110],[114],[99],[102]]
set_option maxHeartbeats 20000000 in
def ak2 (t:Y ζ) (ht:l! t<=4) (s:Y π):q_ (C0,Kx,QU,YI,t,s)=Z (NM9++t,J):=by
 refine cz ?_;unfold q_ be bA bM cE dF vq bj bQ gO bV bJ aZ cP aH cL;with_reducible repeat' first|exact ak rfl|refine ad7 ?_|refine ad6 ?_|refine ad5 ?_|refine ad4 ?_|refine aos ?_|refine aT ?_|refine qu rfl ?_|refine jJ rfl ?_|refine bl rfl ?_|refine VN ?_|refine VM ?_|refine VK ?_
 refine bP (by show 9+l! t<=1073741824;omega) (by decide) ?_;with_reducible repeat' first|exact ak rfl|refine ad7 ?_|refine ad6 ?_|refine ad5 ?_|refine ad4 ?_|refine aos ?_|refine aT ?_|refine qu rfl ?_|refine jJ rfl ?_|refine bl rfl ?_|refine VN ?_|refine VM ?_|refine VK ?_
def YE:∀x∈NM9++zP,Ok (fY x) λb=>b=J:=by
 intro x z;simp only[NM9,zP,gG,jH,bh,b7,eE]at z;rcases z with rfl|rfl|rfl|rfl|rfl|rfl|rfl|rfl|rfl|rfl|rfl|rfl|rfl;all_goals with_reducible repeat' first|exact ak rfl|refine ad7 ?_|refine ad6 ?_|refine ad5 ?_|refine ad4 ?_|refine VK ?_|refine aos ?_|refine aT ?_|refine qu rfl ?_|refine jJ rfl ?_|refine bl rfl ?_|refine VN ?_|refine VM ?_|refine dg (fY.eq_1 ..) ?_|refine dg (mc.eq_1 ..) ?_|refine dg (lA.eq_1 ..) ?_|refine dg (mB.eq_1 ..) ?_|refine dg (ri.eq_1 ..) ?_|refine dg (tD.eq_1 ..) ?_
end
end Go.Proofs.YtocjfbiifiaagaaGreatDoor.AI
