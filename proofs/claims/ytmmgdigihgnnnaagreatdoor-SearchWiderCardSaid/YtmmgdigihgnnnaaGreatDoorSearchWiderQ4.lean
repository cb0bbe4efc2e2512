/-
  Texts of the proof, part 5 of 6: what is used to prove the statement. No condition.
-/
import Derived.Test.YtmmgdigihgnnnaaGreatDoorSearchWiderQ3
import Derived.Deep.Slices
import Derived.OpenShut
import Derived.Below
namespace Go.Proofs.YtmmgdigihgnnnaaGreatDoor.AI
open Go.RowKit
set_option maxRecDepth 100000
set_option maxHeartbeats 4000000
set_option linter.unusedVariables false
set_option linter.unusedSimpArgs false
set_option linter.defProp false
open _root_.Bool renaming true→J,false→aa
open _root_.Int renaming ofNat_eq_natCast→al,toNat→aN,ofNat→aY,tmod→cC,reduceNeg→dA,reduceEq→ec,toNat_natCast→kL,tmod_eq_emod_of_nonneg→kM,tdiv→wn,le_trans→wG,tdiv_eq_ediv_of_nonneg→Ox,emod_lt_of_pos→Oy
open _root_.List renaming length→l!,length→ah,replicate→aD,length_singleton→a_,take→cu,length_nil→eS,cons_append→ft,length_cons→fX,nil_append→kR,range→mI,mem_of_mem_drop→pW,take_take→su,mem_replicate→te,getElem?_take_of_lt→yU
open _root_.List.cons renaming inj→E8
open _root_.Nat renaming beq→aB,blt→dw,add_zero→dL,le_of_lt→eZ
open _root_.Option renaming some→Z,none→U
open _root_.Prod renaming a→bg,b→bA,c→bQ,d→bY,f→cS,e→dt,g→dv,i→gz,h→ji,j→tb,l→Rz,k→RA
open _root_.Sum renaming inr→bU,inl→kZ
open Value renaming okWide→KZ
open World renaming cell?→Ry
noncomputable section
def md (x:b!):M (Bool):=
 (jn (bq x.2.1 3 (aI J) (aI (decide ((x.2.1:Int)=4)))) λx1=>(Z x1))
def kn (x:tJ×b!):M (Bool):=
 (jn (av (md x.1) λA=>(aJ A (av (md x.2) λq=>(aJ q (bq x.1.a x.b (bq x.1.2.1 4 (aI J) (aI (decide ((x.a:Int)=4)))) (aI aa)) (aI aa))) (aI aa))) λx1=>(Z x1))
def lj (x:lD×f?):M (Bool):=
 (bI gm x.1.d x.2.2 λq=>(bI gm x.1.d x.2.1 λA=>(bq q.1 A.1 (Z aa) (av (og (x.1,x.2.1)) λN=>(jn (bq q.2.1 6 (aI ((decide ((q.2.1:Int)=6)),x.1,q,A,N.1)) (aI ((decide ((q.2.1:Int)=10)),x.1,q,A,N.1))) λx4=>(aJ x4.1 (jn (bI dy x4.c x4.a.a λz6=>(bq z6.1 x4.b.1 (aI J) (bI dy x4.c x4.a.a λz7=>(av (lS (z7.2,x4.b.1)) λy8=>(aI y8))))) λx5=>(Z x5)) (bq q.2.1 8 (bI dy x4.c x4.a.a λz9=>(Z (decide ((z9.1:Int)=x4.b.1)))) (bq q.2.1 17 (bI itK x4.2.1.1.a x4.a.a λI=>(bI dy x4.c I.2 λD=>(Z (decide ((D.1:Int)=x4.b.1))))) (bq q.2.1 21 (Z (decide ((x4.a.a:Int)=x4.b.1))) (Z aa))))))))))
def wM (x:ν):M (Bool):=
 (jn (jr 0 x.1 (aI (gM x.1 x.2)) (aI aa)) λx1=>(Z x1))
def xQ (x:G?):M (Bool):=
 (bI gm x.1.d x.a λq=>(bI gm x.1.d x.b λA=>(jn (bV x.a x.b (bq x.c 0 (bq x.f 0 (bq (be x.i) 0 (gV q.1 A.1 (av (kn (q,A)) λI=>(aJ I (bI mb x.1.1.1 q.a λD=>(aI (!D.2.2.2.1))) (aI aa))) (aI aa)) (aI aa)) (aI aa)) (aI aa)) (aI aa)) λx3=>(Z x3))))
def pJ (x:G?):M (Bool):=
 (jn (gV x.a 0 (aI (J,x)) (gV x.b 0 (aI (J,x)) (gV x.c 0 (aI (J,x)) (gV x.f 0 (aI (J,x)) (bV (be x.i) 2 (aI (J,x)) (aI ((gM 4 (be x.i)),x))))))) λx1=>(aJ x1.1 (Z aa) (iter (σ:=Int×G?) (λx2=>(bV x2.1 (be x.i) (bI aP x2.j x2.1 λz3=>(av (wM (z3,(be x2.2.1.d))) λy4=>(aJ (!y4) (aI aa) (c7 ((cL x2.1),x2.2))))) (av (iter (σ:=Int×G?) (λA=>(bV A.1 (be x.i) (jn (bI aP A.j A.1 λz7=>(bI aP A.j 0 λz8=>(bV z7 z8 (aI (J,A.2)) (bX (!decide (((be x.i):Int)=0)) (bI aP A.j (cC (cL A.1) (be x.i)) λz9=>(bI aP A.j A.1 λz10=>(av (lj (A.2.1,z9,z10)) λy11=>(aI ((!y11),A.2))))))))) λx6=>(aJ x6.1 (aI aa) (iter (σ:=Int×G?) (λq=>(bV q.1 A.1 (bI aP q.j A.1 λz13=>(bI gm q.2.1.d z13 λN=>(bI aP q.j q.1 λI=>(bI gm q.2.1.d I λD=>(bq N.1 D.1 (aI (bU aa)) (c7 ((cL q.1),q.2))))))) (aI (kZ ((cL A.1),q.2))))) (0,x6.2)))) (aI J))) (0,x2.2)) λr=>Z (bU r)))) (0,x1.2))))
def xR (x:G?):M (Bool):=
 (bI gm x.1.d x.a λA=>(bI gm x.1.d x.b λq=>(jn (gV x.c 0 (aI (J,x.1,x.2,A,q)) (gV x.f 0 (aI (J,x.1,x.2,A,q)) (bV 0 (be x.i) (aI (J,x.1,x.2,A,q)) (gV A.2.1 18 (gV A.2.1 19 (aI (J,x.1,x.2,A,q)) (gV q.2.1 16 (aI (J,x.1,x.2,A,q)) (gV A.a q.a (aI (J,x.1,x.2,A,q)) (bq A.1 q.1 (aI (J,x.1,x.2,A,q)) (aI ((c8 x.a x.b),x.1,x.2,A,q)))))) (gV q.2.1 16 (aI (J,x.1,x.2,A,q)) (gV A.a q.a (aI (J,x.1,x.2,A,q)) (bq A.1 q.1 (aI (J,x.1,x.2,A,q)) (aI ((c8 x.a x.b),x.1,x.2,A,q))))))))) λx3=>(aJ x3.1 (Z aa) (iter (σ:=Int×lD×J1×tJ×b!) (λx4=>(bV x4.1 x4.a.2.1 (bI gm x4.2.1.d x4.1 λI=>(bq I.1 x4.c (aI aa) (c7 ((cL x4.1),x4.2)))) (av (av (og (x4.2.1,x4.a.2.1)) λN=>(bI gU N.1.d x4.c λD=>(jn (bq D.1 3 (bq x4.b.2.1 19 (aI J) (aI (decide ((x4.b.b:Int)=x4.c)))) (aI aa)) λx8=>(Z x8)))) λr=>Z (bU r)))) ((cL x3.a.a),x3.2))))))
def tR (x:G?):M (Bool):=
 (jn (bV 0 (be x.i) (aI (J,x)) (jr x.b x.a (aI (J,x)) (aI ((gM x.f x.c),x)))) λx1=>(aJ x1.1 (Z aa) (bI gm x1.2.1.d x1.b λA=>(bI gm x1.2.1.d x1.c λz3=>(bI gm x1.2.1.d x1.f λI=>(bI gm x1.2.1.d x1.h λz5=>(jn (gV A.1 z3.1 (aI (J,x1.2.1,x1.2.2,A)) (gV I.1 z5.1 (aI (J,x1.2.1,x1.2.2,A)) (bq A.1 I.1 (aI (J,x1.2.1,x1.2.2,A)) (av (kn (A,I)) λy7=>(aJ (!y7) (aI (J,x1.2.1,x1.2.2,A)) (av (kn (z5,z3)) λy8=>(aI ((!y8),x1.2.1,x1.2.2,A)))))))) λx6=>(aJ x6.1 (Z aa) (iter (σ:=Int×lD×J1×b!) (λq=>(bV q.1 q.a.a (jn (bI gm q.2.1.d q.1 λz11=>(bq z11.1 q.b (bI gm q.2.1.d q.1 λz12=>(aI ((decide ((z12.2.1:Int)=15)),q.2))) (aI (aa,q.2)))) λD=>(aJ D.1 (aI aa) (c7 ((cL q.1),D.2)))) (av (av (og (q.2.1,q.a.2.1)) λy13=>(bI gU y13.1.d q.b λN=>(Z N.2.2))) λr=>Z (bU r)))) (x6.a.2.1,x6.2))))))))))
def qJ (x:G?):M (Bool):=
 (bq x.2.1 2 (av (pJ x) λy1=>(Z y1)) (jn (av (wM (x.a,(be x.1.d))) λy3=>(aJ (!y3) (aI (J,x)) (av (wM (x.b,(be x.1.d))) λy4=>(aJ (!y4) (aI (J,x)) (av (wM (x.c,(be x.1.d))) λN=>(aJ (!N) (aI (J,x)) (av (wM (x.f,(be x.1.d))) λI=>(aI ((!I),x))))))))) λx2=>(aJ x2.1 (Z aa) (bq x2.a 1 (av (xQ x2.2) λD=>(Z D)) (bq x2.a 3 (av (xR x2.2) λA=>(Z A)) (bq x2.a 4 (av (tR x2.2) λq=>(Z q)) (Z aa)))))))
abbrev E!:=(Y η)×j!
abbrev H!:=(lD×η)×Y η
def uh (rr20_cycles:H!->M (Y η)) (x:H!):M (Y η):=
 (jn (α:=E!) (av (qJ (x.1.1,2,0,0,0,0,x.1.2)) λy2=>(aJ y2 (bX (bh (ah ([]:η)+ah x.1.2) 8) (bX (bh (ah x.2+ah ([(([]:η)++x.1.2)])) 24) (aI ((x.2++([(([]:η)++x.1.2)])),x.1.1)))) (aI (x.2,x.1.1)))) λx1=>(bq (be x.1.2) 4 (Z x1.1) (bI aP x.1.2 0 λI=>(iter (σ:=Int×E!) (λx4=>(bV x4.1 (be x4.g) (jn (α:=E!) (jn (av (lS (x.1.2,x4.1)) λy7=>(aJ (!y7) (bI aP x.1.2 (aT .i64 ((be x.1.2)-1)) λD=>(av (lj (x4.2.2,x4.1,D)) λN=>(aI (N,x4.2)))) (aI (aa,x4.2)))) λq=>(aJ q.1 (bX (bh (ah ([]:η)+ah x.1.2) 8) (bX (bh (ah (([]:η)++x.1.2)+ah ([x4.1])) 8) (av (rr20_cycles ((q.2.2,((([]:η)++x.1.2)++([x4.1]))),q.2.1)) λA=>(bX (aB (ah q.2.1) (ah q.2.1)&&J) (aI (A,q.2.2)))))) (aI q.2))) λx5=>(c7 ((cL x4.1),x5))) (aI x4.2.1))) ((cL I),x1)))))
def oz:Nat->(H!)->M (Y η)
 |0,_=>U
 |n+1,x=>uh (oz n) x
def Bx (x:H!):M (Y η):=oz fZ x
def rF (x:lD×η):M (Y η):=
 (jn (α:=E!) (av (qJ (x.1,2,0,0,0,0,x.2)) λy2=>(aJ y2 (bX (bh (ah ([]:η)+ah x.2) 8) (bX (bh (ah ([]:Y η)+ah ([(([]:η)++x.2)])) 24) (aI ((([]:Y η)++([(([]:η)++x.2)])),x.1)))) (aI (([]:Y η),x.1)))) λx1=>(bq (be x.2) 4 (Z x1.1) (bI aP x.2 0 λI=>(iter (σ:=Int×E!) (λx4=>(bV x4.1 (be x4.g) (jn (α:=E!) (jn (av (lS (x.2,x4.1)) λy7=>(aJ (!y7) (bI aP x.2 (aT .i64 ((be x.2)-1)) λD=>(av (lj (x4.2.2,x4.1,D)) λN=>(aI (N,x4.2)))) (aI (aa,x4.2)))) λq=>(aJ q.1 (bX (bh (ah ([]:η)+ah x.2) 8) (bX (bh (ah (([]:η)++x.2)+ah ([x4.1])) 8) (av (Bx ((q.2.2,((([]:η)++x.2)++([x4.1]))),q.2.1)) λA=>(bX (aB (ah q.2.1) (ah q.2.1)&&J) (aI (A,q.2.2)))))) (aI q.2))) λx5=>(c7 ((cL x4.1),x5))) (aI x4.2.1))) ((cL I),x1)))))
def vF (x:(lD×Int×Int×Int×Int×Int×η)×Y J1):M (Y J1):=
 (av (qJ x.1) λq=>(aJ q (bX (bh (ah x.2+ah ([x.1.2])) 64) (Z (x.2++([x.1.2])))) (Z x.2)))
abbrev r?:=Int×lD×Y J1
def xS (x:j!):M (Y J1):=
 (iter (σ:=r?) (λx1=>(bV x1.1 (be x.d) (iter (σ:=r?) (λx2=>(bV x2.1 (be x.d) (av (vF ((x2.2.1,1,x1.1,x2.1,0,0,([]:η)),x2.2.2)) λy3=>(bX (aB (ah x2.2.2) (ah x2.2.2)&&J) (c7 ((cL x2.1),x2.2.1,y3)))) (aI (kZ ((cL x1.1),x2.2))))) (0,x1.2)) (av (iter (σ:=r?) (λx4=>(bV x4.1 (be x.d) (av (rF (x4.2.1,[x4.1])) λy5=>(iter (σ:=Int×lD×(Y J1)×Y η) (λI=>(bV I.1 (be I.d) (mn (.sl aP) I.d I.1 λz7=>(bX (bh (ah I.a+ah ([(2,0,0,0,0,z7)])) 64) (c7 ((cL I.1),I.2.1,(I.a++([(2,0,0,0,0,z7)])),I.d)))) (aI (kZ ((cL x4.1),I.2.1,I.a))))) (0,x4.2.1,x4.2.2,y5))) (av (iter (σ:=r?) (λx8=>(bV x8.1 (be x.d) (iter (σ:=r?) (λx9=>(bV x9.1 (be x.d) (av (vF ((x9.2.1,3,x8.1,x9.1,0,0,([]:η)),x9.2.2)) λy10=>(bX (aB (ah x9.2.2) (ah x9.2.2)&&J) (c7 ((cL x9.1),x9.2.1,y10)))) (aI (kZ ((cL x8.1),x9.2))))) (0,x8.2)) (av (iter (σ:=r?) (λD=>(bV D.1 (be x.d) (iter (σ:=r?) (λq=>(bV q.1 (be x.d) (jn (α:=lD×Y J1) (jn (bI gm q.2.1.d D.1 λz15=>(bI gm q.2.1.d q.1 λz16=>(gV z15.1 z16.1 (aI (J,q.2)) (bI gm q.2.1.d D.1 λz17=>(av (md z17) λy18=>(aJ (!y18) (aI (J,q.2)) (bI gm q.2.1.d q.1 λz19=>(av (md z19) λy20=>(aI ((!y20),q.2)))))))))) λx14=>(aJ x14.1 (aI x14.2) (iter (σ:=r?) (λN=>(bV N.1 (be x.d) (iter (σ:=r?) (λA=>(bV A.1 (be x.d) (av (vF ((A.2.1,4,D.1,q.1,N.1,A.1,([]:η)),A.2.2)) λy23=>(bX (aB (ah A.2.2) (ah A.2.2)&&J) (c7 ((cL A.1),A.2.1,y23)))) (aI (kZ ((cL N.1),A.2))))) N) (aI (bU N.2)))) (0,x14.2)))) λx13=>(c7 ((cL q.1),x13))) (aI (kZ ((cL D.1),q.2))))) ((cL D.1),D.2)) (aI D.2.2))) (0,x8.2)) λr=>Z (bU r)))) (0,x4.2)) λr=>Z (bU r)))) (0,x1.2)) λr=>Z (bU r)))) (0,x,([]:Y J1)))
def ka (x:lD×Int):M (J1×Bool):=
 (av (xS x.1) λq=>(bq (be q) 0 (Z ((0,0,0,0,0,([]:η)),aa)) (bX (!decide (((be q):Int)=0)) (bI Hb q (cC (aT .i64 x.2) (be q)) λA=>(Z (A,J))))))
def sS (_:Unit):M (Bool):=Z J
def kc (x:O!):M (Bool):=
 (jn (bV 200 (be x.1) (aI J) (aI (gM 60 (be x.2)))) λx1=>(Z x1))
def fU (x:η×(η)×Int×f?):M (Bool):=
 (av (kc (x.1,x.2.1)) λy1=>(aJ y1 (Z J) (av (wO (x.1,x.2.1)) λy2=>(av (mZ (y2,(aT .i64 ((cC (aT .i64 x.a) 4)+1)))) λD=>(av (mZ (y2,(aT .i64 (2*(aT .i64 ((cC (aT .i64 x.a) 4)+1)))))) λy4=>(jn (gV D.2 0 (aI J) (gV y4.2 0 (aI J) (aI (!decide (((be y4.1):Int)=(aT .i64 (wn (aT .i64 ((be D.1)+1)) 2))))))) λx5=>(aJ x5 (Z aa) (bq (be D.1) 0 (av (sS ()) λy6=>(Z y6)) (bX (!decide (((be D.1):Int)=0)) (bI sj D.1 (cC (aT .i64 x.b) (be D.1)) λz7=>(av (ka (z7,x.e)) λy8=>(bI sj D.1 (cC (aT .i64 x.b) (be D.1)) λz9=>(av (oN (z9,y8.1)) λy10=>(jn (aJ (!y8.2) (aI (J,y8.1)) (aI ((!y10.2),y8.1))) λA=>(aJ A.1 (av (sS ()) λy12=>(Z y12)) (jn (α:=c!) (bq A.2.1 2 (iter (σ:=Int×J1×Ob×η) (λq=>(bV q.1 (be q.2.1.g) (bI aP q.2.1.g q.1 λI=>(bX (bh (ah q.d+ah ([(aT .i64 (I+(aT .i64 ((cC (cC (aT .i64 x.b) (be D.1)) 2)*(aT .i64 ((cC (aT .i64 x.a) 4)+1))))))])) 8) (c7 ((cL q.1),q.2.1,q.a,(q.d++([(aT .i64 (I+(aT .i64 ((cC (cC (aT .i64 x.b) (be D.1)) 2)*(aT .i64 ((cC (aT .i64 x.a) 4)+1))))))])))))) (aI (bU (q.a.1,q.a.2.1,q.a.a,q.a.b,q.a.e,q.d))))) (0,A.2,(A.2.1,0,0,0,0),([]:η))) (bq A.2.1 4 (aI (A.2.1,(aT .i64 (A.a+(aT .i64 ((cC (cC (aT .i64 x.b) (be D.1)) 2)*(aT .i64 ((cC (aT .i64 x.a) 4)+1)))))),(aT .i64 (A.b+(aT .i64 ((cC (cC (aT .i64 x.b) (be D.1)) 2)*(aT .i64 ((cC (aT .i64 x.a) 4)+1)))))),(aT .i64 (A.c+(aT .i64 ((cC (cC (aT .i64 x.b) (be D.1)) 2)*(aT .i64 ((cC (aT .i64 x.a) 4)+1)))))),(aT .i64 (A.f+(aT .i64 ((cC (cC (aT .i64 x.b) (be D.1)) 2)*(aT .i64 ((cC (aT .i64 x.a) 4)+1)))))),([]:η))) (aI (A.2.1,(aT .i64 (A.a+(aT .i64 ((cC (cC (aT .i64 x.b) (be D.1)) 2)*(aT .i64 ((cC (aT .i64 x.a) 4)+1)))))),(aT .i64 (A.b+(aT .i64 ((cC (cC (aT .i64 x.b) (be D.1)) 2)*(aT .i64 ((cC (aT .i64 x.a) 4)+1)))))),0,0,([]:η))))) λx13=>(bI sj y4.1 (aT .i64 (wn (cC (aT .i64 x.b) (be D.1)) 2)) λz16=>(av (oN (z16,x13)) λN=>(jn (bI sj y4.1 (aT .i64 (wn (cC (aT .i64 x.b) (be D.1)) 2)) λz19=>(av (ot (z19,x13)) λy20=>(aJ y20 (aJ N.2 (jr (be N.1) (aT .i64 ((aT .i64 ((cC (cC (aT .i64 x.b) (be D.1)) 2)*(aT .i64 ((cC (aT .i64 x.a) 4)+1))))+(be y10.1))) (av (sS ()) λy21=>(aI y21)) (aI aa)) (aI aa)) (aI aa)))) λx18=>(Z x18))))))))))))))))))))
variable {i:Nat}
def Ou (x:WN) (h:nz x) (A:i<=l! x.2.2.2):og (x,(i:Int))=Z (nD x.1 x.2.2.1 x.2.2.2 i):=by
 refine bT ?_;unfold og bg bY bV bI be c7 aI cL;have q:=h.ln;refine bC i (λa y=>y=((a:Int),x,0,nD x.1 x.2.2.1 x.2.2.2 a)) ?_ ?_ rfl
 .rintro a y hi rfl;refine aW (λz=>z=(J,x,0,nD x.1 x.2.2.1 x.2.2.2 a)) ?_ ?_
  .refine cE (aj ?_);dsimp only[al];rw[tB.2 (by omega)]
  rintro z rfl;refine mL rfl (bK (aS (aU (h.ch a (by omega)).eq (aj ?_))));dsimp only;rw[fH,Dy _ _ (by omega)]
 .rintro y rfl;refine aW (λz=>z=(aa,x,0,nD x.1 x.2.2.1 x.2.2.2 i)) (cz (aj rfl)) ?_;rintro z rfl;exact fJ rfl (aj rfl)
def CC (e:ET):md e=Z (acB e):=Oa e
def EU (a b:ET):Ok (kn (a,b)) λ_=>True:=by
 unfold kn bg bA bq aI;refine aW (λ_=>True) ?_ λ_ _=>aj trivial
 exact aU (CC a) (aR (λ_=>aU (CC b) (aR (λ_=>aG (λ_=>aG (λ_=>aj trivial) λ_=>aj trivial) λ_=>aj trivial) λ_=>aj trivial)) λ_=>aj trivial)
def FU (a b:Int):wM (a,b)=Z (decide (0<=a/\a<b)):=Qy a b
variable {m:Nat}
def ak5 (x:WN) (h:nz x) (D:i<l! x.2.2.2) (hb:m<l! x.2.2.2):Ok (lj (x,(i:Int),(m:Int))) λ_=>True:=by
 unfold lj bg bA bQ bY bq bI aI;refine bK (aS (bK (aS (aG (λ_=>aj trivial) λ_=>?_))));refine aU (Ou x h (eZ D)) ?_;have N:=h.eni hb;have ga:=h.eni D;have I:=(h.nbi (eZ D)).sb;have ge:=ga.e1;have hnm:=N.nm;have hcd:=N.cd;generalize nD x.1 x.2.2.1 x.2.2.2 i=s at I ge ⊢;refine aW (λz=>z=(decide ((eN x.2.2.2 m).2.1=6\/(eN x.2.2.2 m).2.1=10),x,(eN x.2.2.2 m),(eN x.2.2.2 i),s.1)) (aG (λp=>aj (by have p:(eN x.2.2.2 m).2.1=6:=p;simp[p])) λp=>aj (by have p:¬(eN x.2.2.2 m).2.1=6:=p;simp[p])) ?_;rintro z rfl;have lk:6<=(eN x.2.2.2 m).2.1/\(eN x.2.2.2 m).2.1<=11->0<=(eN x.2.2.2 m).2.2.1/\(eN x.2.2.2 m).2.2.1<l! s.1.1:=λq=>by have:=hnm.lk q;omega
 have hr:∀o:Int,0<=o->o<l! s.1.1->(aw dy s.1.1 o).2.length<=1000000:=λo h0 h1=>cP (I.rd _ (ba (T:=dy) h0 h1)) (by decide)
 refine aG (λq=>?_) λq=>aG (λq=>?_) λq8=>aG (λq=>?_) λq17=>aG (λ_=>aj trivial) λ_=>aj trivial
 .have:=lk (by omega);refine aW (λ_=>True) ?_ λ_ _=>aj trivial
  exact aQ this.1 this.2 (aS (aG (λ_=>aj trivial) λ_=>aQ this.1 this.2 (aS (aU (ER _ _ (hr _ this.1 this.2)) (aj trivial)))))
 .have q:(eN x.2.2.2 m).2.1=8:=q;have:=lk (by omega);exact aQ this.1 this.2 (aS (aj trivial))
 .have q:(eN x.2.2.2 m).2.1=17:=q;have A:=hnm.cd (by omega);have c2:=hcd _ (ba (T:=itK) A.1 A.2);exact aQ A.1 A.2 (aS (aQ c2.1 (by rw[ge];exact c2.2) (aS (aj trivial))))
variable {a:Int}
def Rx (x:WN) (h:nz x) {b:Int} (D:0<=a/\a<l! x.2.2.2) (A:0<=b/\b<l! x.2.2.2):Ok (lj (x,a,b)) λ_=>True:=by
 obtain⟨i,rfl,hi⟩:=h.at D;obtain⟨j,rfl,q⟩:=h.at A;exact ak5 x h hi q
def aqd (x:WN) (h:nz x) (g:sA) (I:0<=g.2.1/\g.2.1<l! x.2.2.2) (N:0<=g.2.2.1/\g.2.2.1<l! x.2.2.2):Ok (xQ (x,g)) λ_=>True:=by
 unfold xQ bg bA bQ cS bY gz bq bV gV bI be aI;refine aQ I.1 I.2 (aS (aQ N.1 N.2 (aS ?_)));refine aW (λ_=>True) ?_ λ_ _=>aj trivial
 refine bG (λ_=>aG (λ_=>aG (λ_=>aG (λ_=>bw (λ_=>?_) λ_=>aj trivial) λ_=>aj trivial) λ_=>aj trivial) λ_=>aj trivial) λ_=>aj trivial
 let⟨r,A,_⟩:=EU (aw gm x.2.2.2 g.2.1) (aw gm x.2.2.2 g.2.2.1);refine aU A (aR (λq=>?_) λ_=>aj trivial);have q:r=J:=q;subst q;let⟨i,hi,D⟩:=h.at I;have:acB (aw gm x.2.2.2 g.2.1)=J:=by
  unfold kn bg bA bq aI at A;rw[show md ((aw gm x.2.2.2 g.2.1),(aw gm x.2.2.2 g.2.2.1)).1=_ from CC _]at A;cases hq:acB (aw gm x.2.2.2 g.2.1) with
  |true=>rfl
  |false=>rw[hq]at A;cases A
 unfold acB at this;rw[eu,decide_eq_true_iff,decide_eq_true_iff]at this;have hce:0<=(aw gm x.2.2.2 g.2.1).2.2.1/\(aw gm x.2.2.2 g.2.1).2.2.1<l! x.1.1:=by
  rw[hi]at this ⊢;exact (h.eni D).nm.ce this
 exact aQ hce.1 hce.2 (aS (aj trivial))
def YT (x:WN) (h:nz x) (g:sA):Ok (pJ (x,g)) λ_=>True:=by
 let⟨k,a,b,c,d,ns⟩:=g;unfold pJ bg bA bQ cS bY gz tb bq bV gV bX bI be c7 aI cL;have hl:=h.ln;refine aW (λz=>z.2=(x,k,a,b,c,d,ns)/\(z.1=aa->2<=l! ns/\l! ns<=4)) ?_ ?_
 .refine bw (λ_=>aj ⟨rfl,nofun⟩) λ_=>bw (λ_=>aj ⟨rfl,nofun⟩) λ_=>bw (λ_=>aj ⟨rfl,nofun⟩) λ_=>bw (λ_=>aj ⟨rfl,nofun⟩) λ_=>bG (λ_=>aj ⟨rfl,nofun⟩) λq=>aj ⟨rfl,λh=>?_⟩
  dsimp only[al]at q h;rw[g8]at h;omega
 rintro⟨r,z⟩ ⟨e,A⟩;dsimp only at e A;subst e;refine aR (λ_=>aj trivial) λq=>?_
 let⟨N,I⟩:=A q;refine bC (l! ns) (λi y=>y=((i:Int),x,k,a,b,c,d,ns)/\∀k:Nat,k<i->0<=aw aP ns (k:Int)/\aw aP ns (k:Int)<l! x.2.2.2) ?_ ?_ ⟨rfl,λj D=>bc D (dp _)⟩
 .rintro i y hi ⟨rfl,hp⟩;refine cE (bK (aS (aU (FU _ _) (dc (λ_=>aj trivial) λq=>aj ⟨by dsimp only;rw[fH],λk hk=>?_⟩))));rcases bF k i with g|g
  .exact hp k g
  .rw[show k=i by omega];exact aZ q
 rintro y ⟨rfl,hp⟩;have hin:∀k:Int,0<=k->k<l! ns->0<=aw aP ns k/\aw aP ns k<l! x.2.2.2:=λk k0 k1=>by
  have:=hp k.toNat (by omega)
  rwa [show ((k.toNat:Nat):Int)=k by omega]at this
 refine cz (au (P:=λ_=>True) ?_ λ_ _=>aj trivial);refine bC (l! ns) (λi y=>y=((i:Int),x,k,a,b,c,d,ns)) ?_ ?_ rfl
 .rintro i y hi rfl;have hm:=RF i (n:=l! ns) (by omega);have hii:=hin (i:Int) (by omega) (by omega);have him:=hin _ hm.1 hm.2;refine cE (aW (λz=>z.2=(x,k,a,b,c,d,ns)) ?_ ?_)
  .refine bK (aS (bK (aS (bG (λ_=>aj rfl) λ_=>n_ (by dsimp only[al];omega) ?_))));dsimp only;rw[fH];refine aQ hm.1 hm.2 (aS (bK (aS (au (Rx x h him hii) λ_ _=>aj rfl))))
  rintro⟨r,z⟩ e;dsimp only at e;subst e;refine aR (λ_=>aj trivial) λ_=>?_
  refine bC i (λj y=>y=((j:Int),x,k,a,b,c,d,ns)) ?_ ?_ rfl
  .rintro j y D rfl;have hij:=hin (j:Int) (by omega) (by omega);refine cE (bK (aS (aQ hii.1 hii.2 (aS (bK (aS (aQ hij.1 hij.2 (aS (aG (λ_=>aj trivial) λ_=>aj ?_)))))))));dsimp only;rw[fH]
  .rintro y rfl;refine cz (aj ?_);dsimp only;rw[fH]
 .rintro y rfl;exact cz (aj trivial)
def aqq (x:WN) (h:nz x) (g:sA) (N:0<=g.2.1/\g.2.1<l! x.2.2.2) (I:0<=g.2.2.1/\g.2.2.1<l! x.2.2.2):Ok (xR (x,g)) λ_=>True:=by
 unfold xR bg bA bQ cS bY gz bq bV gV bI be c7 aI cL;have hl:=h.ln;refine aQ N.1 N.2 (aS (aQ I.1 I.2 (aS ?_)));refine aW (λz=>z.2=(x,g,aw gm x.2.2.2 g.2.1,aw gm x.2.2.2 g.2.2.1)/\(z.1=aa->g.2.2.1<g.2.1)) ?_ ?_
 .have no:∀{P:Prop},(J:Bool)=aa->P:=nofun
  refine bw (λ_=>aj ⟨rfl,no⟩) λ_=>bw (λ_=>aj ⟨rfl,no⟩) λ_=>bG (λ_=>aj ⟨rfl,no⟩) λ_=>?_
  refine bw (λ_=>bw (λ_=>aj ⟨rfl,no⟩) λ_=>?_) λ_=>?_
  .exact bw (λ_=>aj ⟨rfl,no⟩) λ_=>bw (λ_=>aj ⟨rfl,no⟩) λ_=>aG (λ_=>aj ⟨rfl,no⟩) λ_=>aj ⟨rfl,λq=>gq.1 q⟩
  .exact bw (λ_=>aj ⟨rfl,no⟩) λ_=>bw (λ_=>aj ⟨rfl,no⟩) λ_=>aG (λ_=>aj ⟨rfl,no⟩) λ_=>aj ⟨rfl,λq=>gq.1 q⟩
 rintro⟨r,z⟩ ⟨e,hr⟩;dsimp only at e hr;subst e;refine aR (λ_=>aj trivial) λq=>?_
 have hba:=hr q;let⟨i,hi,A⟩:=h.at N;let⟨j,hj,D⟩:=h.at I;have ga:=h.eni A;have gb:=h.eni D;refine bC (i-(j+1)) (λk y=>y=(((j+1+k:Nat):Int),x,g,aw gm x.2.2.2 g.2.1,aw gm x.2.2.2 g.2.2.1)) ?_ ?_ ?_
 .rintro k y hk rfl;refine cE (h:=by dsimp only;omega) (bK (aS (aG (λ_=>aj trivial) λ_=>aj ?_)));dsimp only;rw[fH];rfl
 .rintro y rfl;refine cz (h:=by dsimp only;omega) (au (P:=λ_=>True) ?_ λ_ _=>aj trivial);dsimp only;rw[hi];refine aU (Ou x h (eZ A)) ?_;have t0:0<=(aw gm x.2.2.2 g.2.2.1).1/\(aw gm x.2.2.2 g.2.2.1).1<(nD x.1 x.2.2.1 x.2.2.2 i).1.2.2.2.length:=by
   rw[ga.e3,hj];exact⟨gb.t0,gb.t1⟩
  refine aQ t0.1 t0.2 (aS (aW (λ_=>True) (aG (λ_=>aG (λ_=>aj trivial) λ_=>aj trivial) λ_=>aj trivial) λ_ _=>aj trivial))
 .dsimp only;rw[fh];congr 1;omega
def aiu (x:WN) (h:nz x) (g:sA) (I:0<=g.2.1/\g.2.1<l! x.2.2.2) (D:0<=g.2.2.1/\g.2.2.1<l! x.2.2.2) (hc:0<=g.2.2.2.1/\g.2.2.2.1<l! x.2.2.2) (hd:0<=g.2.2.2.2.1/\g.2.2.2.2.1<l! x.2.2.2):Ok (tR (x,g)) λ_=>True:=by
 unfold tR bg bA bQ cS ji bY gz bq bV jr gV bI be c7 aI cL;have hl:=h.ln;refine aW (λz=>z.2=(x,g)/\(z.1=aa->g.2.1<g.2.2.1)) ?_ ?_
 .exact bG (λ_=>aj ⟨rfl,nofun⟩) λ_=>dB (λ_=>aj ⟨rfl,nofun⟩) λq=>aj ⟨rfl,λ_=>q⟩
 rintro⟨r,z⟩ ⟨e,hr⟩;dsimp only at e hr;subst e;refine aR (λ_=>aj trivial) λq=>?_
 have hab:=hr q;refine aQ I.1 I.2 (aS (aQ D.1 D.2 (aS (aQ hc.1 hc.2 (aS (aQ hd.1 hd.2 (aS ?_)))))));refine aW (λz=>z.2=(x,g,aw gm x.2.2.2 g.2.1)) ?_ ?_
 .refine bw (λ_=>aj rfl) λ_=>bw (λ_=>aj rfl) λ_=>aG (λ_=>aj rfl) λ_=>?_
  exact au (EU _ _) λ_ _=>dc (λ_=>aj rfl) λ_=>au (EU _ _) λ_ _=>aj rfl
 rintro⟨r,z⟩ e;dsimp only at e;subst e;refine aR (λ_=>aj trivial) λq=>?_
 let⟨i,hi,A⟩:=h.at I;let⟨j,hj,hj1⟩:=h.at D;have N:=h.eni A;refine bC (j-i) (λk y=>y=(((i+k:Nat):Int),x,g,aw gm x.2.2.2 g.2.1)) ?_ ?_ ?_
 .rintro k y hk rfl;refine cE (h:=by dsimp only;omega) (aW (λz=>z.2=(x,g,aw gm x.2.2.2 g.2.1)) ?_ ?_)
  .exact bK (aS (aG (λ_=>bK (aS (aj rfl))) λ_=>aj rfl))
  rintro⟨r,z⟩ e;dsimp only at e;subst e;refine aR (λ_=>aj trivial) λ_=>aj ?_
  dsimp only;rw[fH];rfl
 .rintro y rfl;refine cz (h:=by dsimp only;omega) (au (P:=λ_=>True) ?_ λ_ _=>aj trivial);dsimp only;rw[hi];refine aU (Ou x h (eZ A)) ?_;have t0:0<=(eN x.2.2.2 i).1/\(eN x.2.2.2 i).1<(nD x.1 x.2.2.1 x.2.2.2 i).1.2.2.2.length:=by
   rw[N.e3];exact⟨N.t0,N.t1⟩
  exact aQ t0.1 t0.2 (aS (aj trivial))
 .dsimp only;rw[hi];rfl
def T2 (x:WN) (h:nz x) (g:sA):Ok (qJ (x,g)) λ_=>True:=by
 unfold qJ bg bA bQ cS bY bq be aI;refine aG (λ_=>au (YT x h g) λ_ _=>aj trivial) λ_=>?_
 refine aW (λz=>z.2=(x,g)/\(z.1=aa->(0<=g.2.1/\g.2.1<l! x.2.2.2)/\(0<=g.2.2.1/\g.2.2.1<l! x.2.2.2)/\(0<=g.2.2.2.1/\g.2.2.2.1<l! x.2.2.2)/\(0<=g.2.2.2.2.1/\g.2.2.2.2.1<l! x.2.2.2))) ?_ ?_
 .have no:∀{P:Prop},(J:Bool)=aa->P:=nofun
  refine aU (FU _ _) (dc (λ_=>aj ⟨rfl,no⟩) λq1=>aU (FU _ _) (dc (λ_=>aj ⟨rfl,no⟩) λq2=>aU (FU _ _) (dc (λ_=>aj ⟨rfl,no⟩) λq3=>aU (FU _ _) (aj ⟨rfl,λq4=>?_⟩))));have q4:decide (0<=g.2.2.2.2.1/\g.2.2.2.2.1<(l! x.2.2.2:Int))=J:=by simpa using q4
  exact⟨aZ q1,aZ q2,aZ q3,aZ q4⟩
 rintro⟨r,z⟩ ⟨e,A⟩;dsimp only at e A;subst e;refine aR (λ_=>aj trivial) λq=>?_
 let⟨a,b,c,d⟩:=A q;exact aG (λ_=>au (aqd x h g a b) λ_ _=>aj trivial) λ_=>aG (λ_=>au (aqq x h g a b) λ_ _=>aj trivial) λ_=>aG (λ_=>au (aiu x h g a b c d) λ_ _=>aj trivial) λ_=>aj trivial
def cyW:Nat->Nat
 |0=>1
 |d+1=>1+8*cyW d
abbrev Q!:=(WN×η)×Y η
def SpC (x:WN) (rr:Q!->M (Y η)) (d:Nat):Prop:=∀(ns:η) (out:Y η),l! ns+d=4->1<=l! ns->(∀z∈ns,0<=z/\z<(l! x.2.2.2:Int))->l! out+cyW d<=100000->Ok (rr ((x,ns),out)) λy=>l! y<=l! out+cyW d
def abg (d:Nat):1<=cyW d:=by cases d<;>simp[cyW]
def Wl (x:WN) (h:nz x) (ns:η) (d:Nat) (hd:l! ns+d=4) (h1:1<=l! ns) (hr:∀z∈ns,0<=z/\z<(l! x.2.2.2:Int)) (rr:Q!->M (Y η)) (hrr:∀A,d=A+1->SpC x rr A) (out:Y η) (ho:l! out+cyW d<=100000) (o1:Y η) (ho1:l! o1<=l! out+1):
 Ok (aJ (decide (aY (l! ns)=4)) (Z o1) (chk (ij 0 (l! ns)) λ_=>lt (aw aP ns 0) λz3=>iter (λx4:Int×Y η×WN=>aJ (gM x4.1 (aY (l! x4.2.2.2.2.2))) (jn (jn (av (lS (ns,x4.1)) λy7=>aJ (!y7) (chk (ij (aT .i64 (aY (l! ns)-1)) (l! ns)) λ_=>lt (aw aP ns (aT .i64 (aY (l! ns)-1))) λz8=>av (lj (x4.2.2,x4.1,z8)) λy9=>Z (bU (y9,x4.2))) (Z (bU (aa,x4.2)))) λN:Bool×Y η×WN=>aJ N.1 (chk (bh (ah ([]:η)+ah ns) 8) λ_=>chk (bh (ah (([]:η)++ns)+ah ([x4.1])) 8) λ_=>av (rr ((N.2.2,((([]:η)++ns)++([x4.1]))),N.2.1)) λy10=>chk (aB (ah N.2.1) (ah N.2.1)&&J) λ_=>Z (bU (y10,N.2.2))) (Z (bU N.2))) λx5=>Z (kZ (aT .i64 (x4.1+1),x5))) (Z (bU x4.2.1))) (aT .i64 (z3+1),o1,x))) λy=>l! y<=l! out+cyW d:=by
 have hln:=h.ln;refine aG (λq=>aj ?_) λq=>?_
 .have:=abg d;omega
 have hd0:¬d=0:=λe=>q (by dsimp only[al];omega)
 obtain⟨A,rfl⟩:∃A,d=A+1:=⟨d-1,by omega⟩
 have hrr:=hrr A rfl;have D:=hr _ (ba (T:=aP) (xs:=ns) (j:=0) (by omega) (by omega));refine bK (aS ?_);generalize aw aP ns 0=z at D;have hw:aT .i64 (aY (l! ns)-1)=(l! ns:Int)-1:=by dsimp only[al];rw[fh]
 rw[hw];have hl:=hr _ (ba (T:=aP) (xs:=ns) (j:=(l! ns:Int)-1) (by omega) (by omega));obtain⟨I,rfl,hzn⟩:∃I:Nat,z=(I:Int)/\I<l! x.2.2.2:=⟨aN z,(Int.toNat_of_nonneg D.1).symm,(Int.toNat_lt D.1).2 D.2⟩
 have hcw:cyW (A+1)=1+8*cyW A:=rfl;have hk8:∀k:Nat,k<=8->k*cyW A<=8*cyW A:=λk hk=>cg _ hk
 refine bC (l! x.2.2.2-(I+1)) (λk y=>∃o,y=(((I+1+k:Nat):Int),o,x)/\l! o<=l! out+1+k*cyW A) ?_ ?_ ⟨o1,by rw[fh];congr 1,by rw[Nat.zero_mul];omega⟩
 .rintro k y hk ⟨o,rfl,ho2⟩;have hkk:=hk8 (k+1) (by omega);rw[jl]at hkk;refine cE (h:=by dsimp only[al];omega) (aW (λz=>∃o,z=(o,x)/\l! o<=l! out+1+(k+1)*cyW A) ?_ ?_)
  .refine aW (λz=>z.2=(o,x)) ?_ ?_
   .refine aU (ER _ _ (by omega)) (dc (λ_=>bK (aS (au (Rx x h (by dsimp only;omega) hl) λ_ _=>aj rfl))) λ_=>aj rfl)
   rintro⟨b,z⟩ e;dsimp only at e;subst e;refine aR (λ_=>?_) λ_=>aj ⟨o,rfl,by rw[jl];omega⟩
   refine bu (by simp only[eS];omega) (by decide) (bu (by simp only[kR,a_];omega) (by decide) ?_);dsimp only;rw[kR];refine au (hrr (ns++[((I+1+k:Nat):Int)]) o (by rw[aF,a_];omega) (by rw[aF];omega) (λz D=>?_) (by omega)) λy hy=>bZ (fE rfl (mc (aj ⟨y,rfl,by rw[jl];omega⟩)))
   rcases bt.1 D with D|D
   .exact hr z D
   .rw[aE]at D;omega
  .rintro z ⟨o,rfl,ho3⟩;refine aj ⟨o,?_,ho3⟩;dsimp only;rw[fH];rfl
 .rintro y ⟨o,rfl,ho2⟩;have hkk:=hk8 (l! x.2.2.2-(I+1)) (by omega);exact cz (h:=by dsimp only[al];omega) (aj (by dsimp only;omega))
def gcyc (x:WN) (h:nz x) (rr:Q!->M (Y η)) (d:Nat) (hrr:∀A,d=A+1->SpC x rr A):SpC x (uh rr) d:=λns out hd h1 I N=>by
 have:=abg d;unfold uh dv bq bV bX bI be c7 aI cL;refine aW (λz=>z.2=x/\l! z.1<=l! out+1) ?_ ?_
 .refine au (T2 x h _) λb _=>aR (λ_=>?_) λ_=>aj ⟨rfl,by dsimp only;omega⟩
  exact bu (by simp only[eS];omega) (by decide) (bu (by simp only[a_];omega) (by decide) (aj ⟨rfl,by simp⟩))
 rintro⟨D,y⟩ ⟨e,q⟩;dsimp only at e q;subst e;exact Wl y h ns d hd h1 I rr hrr out N D q
def auu (x:WN) (h:nz x):∀(d n:Nat),d<n->SpC x (oz n) d
 |d,0,q=>bc q (dp _)
 |d,n+1,q=>by
  rw[show oz (n+1)=uh (oz n) from rfl];exact gcyc x h _ d λA e=>auu x h A n (by omega)
def ads (x:WN) (h:nz x) (hi:i<l! x.2.2.2):Ok (rF (x,[(i:Int)])) λy=>l! y<=600:=by
 unfold rF dv bq bV bX bI be c7 aI cL;have I:∀z∈[(i:Int)],0<=z/\z<(l! x.2.2.2:Int):=λz A=>by rw[aE]at A;omega
 refine aW (λz=>z.2=x/\l! z.1<=1) ?_ ?_
 .refine au (T2 x h _) λb _=>aR (λ_=>?_) λ_=>aj ⟨rfl,by simp⟩
  exact bu (by simp) (by decide) (bu (by simp) (by decide) (aj ⟨rfl,by simp⟩))
 rintro⟨D,y⟩ ⟨e,q⟩;dsimp only at e q;subst e;refine (Wl y h [(i:Int)] 3 rfl (bi _) I Bx (λN e=>auu y h N fZ (by rw[kl];omega)) [] (by decide) D (by simpa using q)).mono λz A=>?_
 have:cyW 3=585:=rfl;rw[this]at A;simp only[eS]at A;omega
def aga (x:WN) (h:nz x) (g:sA) (l:Y sA) (q:l! l<=100000):Ok (vF ((x,g),l)) λy=>l! y<=l! l+1:=by
 unfold vF bX;refine au (T2 x h g) λb _=>aR (λ_=>bu (by simp only[a_];omega) (by decide) (aj (by simp))) λ_=>aj (by dsimp only;omega)
def as5 (x:WN) (h:nz x):Ok (xS x) λy=>l! y<=100000:=by
 unfold xS bg bY bV gV bX bI mn be c7 aI cL;have N:=h.ln;refine bC (l! x.2.2.2) (λi y=>∃R,y=((i:Int),x,R)/\l! R<=i*8) ?_ ?_ ⟨[],rfl,by simp⟩
 .rintro i y hi ⟨R,rfl,q⟩;refine cE (bC (l! x.2.2.2) (λj y=>∃R,y=((j:Int),x,R)/\l! R<=i*8+j) ?_ ?_ ⟨R,rfl,by omega⟩)
  .rintro j y D ⟨R,rfl,q⟩;refine cE (au (aga x h _ R (by omega)) λy A=>bZ (fE rfl (mc (aj ⟨y,?_,by omega⟩))));dsimp only;rw[fH]
  .rintro y ⟨R,rfl,q⟩;refine cz (aj ⟨R,?_,by omega⟩);dsimp only;rw[fH]
 rintro y ⟨R,rfl,q⟩;refine cz (au (P:=λy=>l! y<=100000) ?_ λy A=>aj A);refine bC (l! x.2.2.2) (λi y=>∃R,y=((i:Int),x,R)/\l! R<=64+i*600) ?_ ?_ ⟨R,rfl,by omega⟩
 .rintro i y hi ⟨R,rfl,q⟩;refine cE (au (ads x h hi) λI hcy=>?_);refine bC (l! I) (λk y=>∃R,y=((k:Int),x,R,I)/\l! R<=64+i*600+k) ?_ ?_ ⟨R,rfl,by omega⟩
  .rintro k y hk ⟨R,rfl,q⟩;refine cE (bK (bK (aS (bu (by simp only[a_];omega) (by decide) (aj ?_)))));dsimp only;rw[fH];exact⟨_,rfl,by rw[aF,a_];omega⟩
  .rintro y ⟨R,rfl,q⟩;refine cz (aj ⟨R,?_,by omega⟩);dsimp only;rw[fH]
 rintro y ⟨R,rfl,q⟩;refine cz (au (P:=λy=>l! y<=100000) ?_ λy A=>aj A);refine bC (l! x.2.2.2) (λi y=>∃R,y=((i:Int),x,R)/\l! R<=5000+i*8) ?_ ?_ ⟨R,rfl,by omega⟩
 .rintro i y hi ⟨R,rfl,q⟩;refine cE (bC (l! x.2.2.2) (λj y=>∃R,y=((j:Int),x,R)/\l! R<=5000+i*8+j) ?_ ?_ ⟨R,rfl,by omega⟩)
  .rintro j y D ⟨R,rfl,q⟩;refine cE (au (aga x h _ R (by omega)) λy A=>bZ (fE rfl (mc (aj ⟨y,?_,by omega⟩))));dsimp only;rw[fH]
  .rintro y ⟨R,rfl,q⟩;refine cz (aj ⟨R,?_,by omega⟩);dsimp only;rw[fH]
 rintro y ⟨R,rfl,q⟩;refine cz (au (P:=λy=>l! y<=100000) ?_ λy A=>aj A);refine bC (l! x.2.2.2) (λi y=>∃R,y=((i:Int),x,R)/\l! R<=6000+i*512) ?_ ?_ ⟨R,rfl,by omega⟩
 .rintro i y hi ⟨R,rfl,q⟩;refine cE ?_;refine bC (l! x.2.2.2-(i+1)) (λj y=>∃R,y=(((i+1+j:Nat):Int),x,R)/\l! R<=6000+i*512+j*64) ?_ ?_ ⟨R,by dsimp only;rw[fH],by omega⟩
  .rintro j y D ⟨R,rfl,q⟩;refine cE (h:=by dsimp only[al];omega) ?_;refine aW (λz=>∃R,z=(x,R)/\l! R<=6000+i*512+(j+1)*64) ?_ ?_
   .refine aW (λz=>z.2=(x,R)) ?_ ?_
    .refine bK (aS (bK (aS (bw (λ_=>aj rfl) λ_=>?_))));refine bK (aS (aU (CC _) (dc (λ_=>aj rfl) λ_=>?_)));exact bK (aS (aU (CC _) (aj rfl)))
    rintro⟨b,z⟩ e;dsimp only at e;subst e;refine aR (λ_=>aj ⟨R,rfl,by omega⟩) λ_=>?_
    refine bC (l! x.2.2.2) (λc y=>∃R,y=((c:Int),x,R)/\l! R<=6000+i*512+j*64+c*8) ?_ ?_ ⟨R,rfl,by omega⟩
    .rintro c y hc ⟨R,rfl,q⟩;refine cE ?_;refine bC (l! x.2.2.2-c) (λf y=>∃R,y=(((c+f:Nat):Int),x,R)/\l! R<=6000+i*512+j*64+c*8+f) ?_ ?_ ⟨R,rfl,by omega⟩
     .rintro f y hf ⟨R,rfl,q⟩;refine cE (h:=by dsimp only[al];omega) (au (aga x h _ R (by omega)) λy A=>bZ (fE rfl (mc (aj ⟨y,?_,by omega⟩))));dsimp only;rw[fH];rfl
     .rintro y ⟨R,rfl,q⟩;refine cz (h:=by dsimp only[al];omega) (aj ⟨R,?_,by omega⟩);dsimp only;rw[fH]
    .rintro y ⟨R,rfl,q⟩;exact cz (aj ⟨R,rfl,by omega⟩)
   .rintro z ⟨R,rfl,q⟩;refine aj ⟨R,?_,q⟩;dsimp only;rw[fH];rfl
  .rintro y ⟨R,rfl,q⟩;refine cz (h:=by dsimp only[al];omega) (aj ⟨R,?_,by omega⟩);dsimp only;rw[fH]
 .rintro y ⟨R,rfl,q⟩;exact cz (aj (by dsimp only;omega))
def aqg (x:WN) (h:nz x) (k:Int) (D:0<=k/\k<=65535):Ok (ka (x,k)) λ_=>True:=by
 unfold ka bq bX bI be;refine au (as5 x h) λl I=>aG (λ_=>aj trivial) λq=>n_ q ?_
 have A:aT .i64 k=k:=fh;dsimp only[al]at q ⊢;rw[A];have h2:=kM (a:=k) (b:=(l! l:Int)) D.1;have h3:=Int.emod_nonneg k q;have h4:=Oy k (b:=(l! l:Int)) (by omega);rw[h2];exact aQ h3 h4 (aS (aj trivial))
def afj (P:Program) (f:Ty->TypeId->Bool):Y Field->Nat->Ty->Bool
 |[],_,.un=>J
 |[x],off,T=>aB x.offset off&&f T x.type&&aB (P.cellsOf x.type) T.size
 |x::y::r,off,.pr a b=>aB x.offset off&&f a x.type&&aB (P.cellsOf x.type) a.size&&afj P f (y::r) (off+a.size) b
 |_,_,_=>aa
def ac9 (P:Program) (f:Ty->TypeId->Bool) (e:TypeId):Nat->Ty->Bool
 |1,T=>f T e&&aB (P.cellsOf e) T.size
 |m+2,.pr a b=>f a e&&aB (P.cellsOf e) a.size&&ac9 P f e (m+1) b
 |_,_=>aa
def D8 (P:Program):Nat->Ty->TypeId->Bool
 |0,_,_=>aa
 |n+1,T,t=>match T,P.underlying t with
  |.int k,Z (.int q)=>k==q
  |.bool,Z .bool=>J
  |.str,Z .string=>J
  |.sl y,Z (.slice e)=>D8 P n y e&&aB (P.cellsOf e) y.size&&dw 0 y.size
  |.st y,Z (.struct A)=>afj P (D8 P n) A.toList 0 y&&aB (P.cellsOf t) y.size
  |.st y,Z (.array m e)=>ac9 P (D8 P n) e m y&&aB (P.cellsOf t) y.size
  |_,_=>aa
def ZT:(T:Ty)->T.den->Prop
 |.int k,n=>(Lit.int k n).wf=J
 |.str,s=>ah s<=maxLen
 |.sl y,xs=>ah xs<=maxLen/\∀x∈(xs:Y y.den),ZT y x
 |.st t,v=>ZT t v
 |.pr a b,v=>ZT a v.1/\ZT b v.2
 |_,_=>True
def Of (W:World) (T:Ty) (x:T.den) (cs:ξ):Prop:=l! cs=T.size/\∀(j:Nat) y v,(b8 T x)[j]? =Z y->cs[j]? =Z v->nA (λ_=>False) W y v
variable {R:Type}
def NT (z:R) (P:Nat->R->Prop):∀n:Nat,(∀i,i<n->∃a,P i a)->∃l:Y R,l! l=n/\∀i x,l[i]? =Z x->P i x
 |0,_=>⟨[],rfl,λi x h=>by simp at h⟩
 |n+1,h=>by
  let⟨l,q,hp⟩:=NT z P n (λi hi=>h i (by omega));let⟨a,D⟩:=h n (by omega);refine ⟨l++[a],by simp[q],λi x A=>?_⟩
  grind
def Addr.add_plain {a:Addr} (h:a.spot=U) (n:Nat):a.add n=⟨a.block,a.off+n,U⟩:=by
 unfold Addr.add;split
 next h0=>subst h0;cases a;subst h;rfl
 .rfl
variable {w:World} {v:Value}
def aeb {a:Addr} (h:w.cell? a=Z v):a.spot=U:=by
 unfold Ry at h;split at h
 .simp_all
 .cases h
variable {T:Ty} {E:ξ}
def Of.sub {x:T.den} {n:Nat} (h:Of w T x ((E.drop i).take n)) (D:n=T.size) (I:i+n<=l! E):∀(j:Nat) y v,(b8 T x)[j]? =Z y->E[i+j]? =Z v->nA (λ_=>False) w y v:=λj y v q A=>by
 refine h.2 j y v q ?_;have N:j<T.size:=by have:=(bH.1 q).1;rwa [bN]at this
 grind
section
variable {H:Type} {enc:TypeId×Value->H} {P:Program} {W:World} {base:Nat} {sp:Nat->Bool} {hd:Bool}
def aa2 {f:Ty->TypeId->Bool} (I:∀(T:Ty) (t:TypeId) (cs:ξ) x,f T t=J->DataW.trod enc P W base sp hd m t cs=Z x->∃v,Of W T v cs/\ZT T v) (cs:ξ) (ts:Y (DataW H×Y MemPlace)):
 ∀(fs:Y Field) (off k:Nat) (T:Ty),afj P f fs off T=J->off+T.size<=l! cs->(∀(i:Nat) (fl:Field),fs[i]? =Z fl->∃z,DataW.trod enc P W base sp hd m fl.type ((cs.drop fl.offset).take (P.cellsOf fl.type))=Z z)->
 ∃v,(∀(j:Nat) y u,(b8 T v)[j]? =Z y->cs[off+j]? =Z u->nA (λ_=>False) W y u)/\ZT T v
 |[],off,k,.un,_,_,_=>⟨(),λj y u A=>by simp[b8]at A,trivial⟩
 |[x],off,k,T,h,hl,D=>by
  simp only[afj,ak]at h;let⟨⟨h1,h2⟩,h3⟩:=h;have h1:=ar h1;have h3:=ar h3;let⟨z,N⟩:=D 0 x rfl;let⟨v,q,hw⟩:=I T _ _ _ h2 N;rw[h1]at q;exact⟨v,q.sub h3 (by omega),hw⟩
 |x::x'::r,off,k,.pr a b,h,hl,D=>by
  simp only[afj,ak]at h;let⟨⟨⟨h1,h2⟩,h3⟩,h4⟩:=h;have h1:=ar h1;have h3:=ar h3;simp[Ty.size]at hl;let⟨z,N⟩:=D 0 x rfl;let⟨v,q,hw⟩:=I a _ _ _ h2 N;rw[h1]at q;have q:=q.sub h3 (by omega);let⟨v',hv',hw'⟩:=aa2 I cs ts (x'::r) (off+a.size) (k+1) b h4 (by omega) (λi fl hi=>D (i+1) fl (by grind));refine ⟨(v,v'),λj y u A hu=>?_,hw,hw'⟩;simp[b8]at A;by_cases hj:j<a.size
  .rw[cU (by rw[bN];exact hj)]at A;exact q j y u A hu
  .rw[cB (by rw[bN];omega),bN]at A
   grind
variable {A:TypeId}
def aa3 {f:Ty->TypeId->Bool} (I:∀(T:Ty) (t:TypeId) (cs:ξ) x,f T t=J->DataW.trod enc P W base sp hd m t cs=Z x->∃v,Of W T v cs/\ZT T v) (cs:ξ):
 ∀(n i:Nat) (T:Ty),ac9 P f A n T=J->i*P.cellsOf A+T.size<=l! cs->(∀j,j<n->∃z,DataW.trod enc P W base sp hd m A ((cs.drop ((i+j)*P.cellsOf A)).take (P.cellsOf A))=Z z)->
 ∃v,(∀(j:Nat) y u,(b8 T v)[j]? =Z y->cs[i*P.cellsOf A+j]? =Z u->nA (λ_=>False) W y u)/\ZT T v
 |0,i,T,h,_,_=>by cases h
 |1,i,T,h,hl,D=>by
  simp only[ac9,ak]at h;have h3:=ar h.2;let⟨z,N⟩:=D 0 (by omega);let⟨v,q,hw⟩:=I T _ _ _ h.1 N;rw[dL]at q;exact⟨v,q.sub h3 (by omega),hw⟩
 |n+2,i,T,h,hl,D=>by
  cases T with
  |pr a b=>
   simp only[ac9,ak]at h;let⟨⟨h1,h2⟩,h4⟩:=h;have h3:=ar h2;simp[Ty.size]at hl;let⟨z,N⟩:=D 0 (by omega);let⟨v,q,hw⟩:=I a _ _ _ h1 N;rw[dL]at q;have q:=q.sub h3 (by omega);let⟨v',hv',hw'⟩:=aa3 I cs (n+1) (i+1) b h4 (by grind) (λj hj=>by have:=D (j+1) (by omega);rwa [show i+(j+1)=i+1+j from by omega]at this);refine ⟨(v,v'),λj y u e hu=>?_,hw,hw'⟩;simp[b8]at e;by_cases hj:j<a.size
   .rw[cU (by rw[bN];exact hj)]at e;exact q j y u e hu
   .rw[cB (by rw[bN];omega),bN]at e
    grind
  |_=>unfold ac9 at h;cases h
def La:∀(n:Nat) (T:Ty) (t:TypeId) (fZ:Nat) (cs:ξ) x,D8 P n T t=J->(∀b,sp b=J)->DataW.trod enc P W base sp hd fZ t cs=Z x->∃v,Of W T v cs/\ZT T v
 |0,_,_,_,_,_,h,_,_=>by unfold D8 at h;cases h
 |n+1,T,t,fZ,cs,x,h,hsp,ht=>by
  unfold D8 at h;split at h
  .rename_i k k' N;have hk:=eq_of_beq h;subst hk;obtain⟨m,rfl,_,hw⟩:=DataW.trod_int N ht;refine ⟨m,⟨rfl,λj y v A I=>?_⟩,hw⟩;cases j with
   |zero=>simp[b8]at A I;subst A I;exact .raw _
   |succ j=>simp[b8]at A
  .rename_i N;obtain⟨b,rfl,_⟩:=DataW.trod_bool N ht;refine ⟨b,⟨rfl,λj y v A I=>?_⟩,trivial⟩;cases j with
   |zero=>simp[b8]at A I;subst A I;exact .raw _
   |succ j=>simp[b8]at A
  .rename_i N;obtain⟨s,rfl,_,hs⟩:=DataW.trod_string N ht;refine ⟨s.data.toList,⟨rfl,λj y v A I=>?_⟩,by simpa[ZT] using hs⟩;cases j with
   |zero=>simp[b8]at A I;subst A I;exact .raw _
   |succ j=>simp[b8]at A
  .rename_i z e N;simp only[ak]at h;let⟨⟨h1,h2⟩,h3⟩:=h;have h2:=ar h2;have h3:0<z.size:=aX h3;rcases Go.Deep.open_slice N ht with ⟨rfl,_⟩|⟨a,len,cap,m,k,D,Pl,rfl,hb,hl,hm,hmm,_,hi⟩
   .refine ⟨[],⟨rfl,λj y v A I=>?_⟩,by simp[ZT]⟩;cases j with
    |zero=>simp[b8]at A I;subst A I;exact .nil _ _ (by unfold maxLen;omega)
    |succ j=>simp[b8]at A
   .rw[hsp,aK rfl]at hmm;rw[h2]at hi;let⟨xs,hx1,hx2⟩:=NT z.zero (λi (v:z.den)=>∃cs',W.cells? base (a.add (i*z.size)) z.size=Z cs'/\Of W z v cs'/\ZT z v) len (λi hil=>by
     let⟨cs',hc,htt⟩:=hi i (by omega);let⟨v,I,hw⟩:=La n z e k cs' _ h1 hsp htt;exact⟨v,cs',hc,I,hw⟩)
    refine ⟨xs,⟨rfl,λj y v A I=>?_⟩,by show ah xs<=maxLen;omega,λy A=>?_⟩
    .cases j with
     |succ j=>simp[b8]at A
     |zero=>
      simp[b8]at A I;subst A I;by_cases h0:len=0
      .have:xs=[]:=fd.1 (by omega);subst this h0;exact .nil _ _ hm
      .obtain⟨x0,hx0⟩:∃x0,xs[0]? =Z x0:=⟨xs[0]'(by omega),aL (by omega)⟩
       let⟨cs0,hc0,_⟩:=hx2 0 x0 hx0;let⟨_,hcl0,hat0⟩:=World.cells?_some hc0;have hca:=hat0 0 h3;rw[aL (by omega)]at hca;have hspot:a.spot=U:=by
        have:=aeb hca;simpa[Addr.add] using this
       have hblk:=World.block_lt_of_cell? W _ hca;rw[Nat.zero_mul,Addr.add_plain hspot,Addr.add_plain rfl]at hca hblk;have hcell:∀(i j:Nat) x,xs[i]? =Z x->j<z.size->∃cs',W.cell? ⟨a.block,a.off+(i*z.size+j),U⟩=cs'[j]? /\j<l! cs'/\Of W z x cs':=λi j x hx hj=>by
        let⟨cs',hc,hr,_⟩:=hx2 i x hx;let⟨_,hcl,hat⟩:=World.cells?_some hc;have:=hat j hj;rw[Addr.add_plain hspot,Addr.add_plain rfl,qW]at this;exact⟨cs',this,by omega,hr⟩
       have hflat:∀j,j<l! xs*z.size->∃x,xs[j/z.size]? =Z x/\j%z.size<z.size/\j=j/z.size*z.size+j%z.size:=λj hj=>by
        have h5:j/z.size<l! xs:=Nat.div_lt_of_lt_mul (by rw[CH];exact hj);exact⟨xs[j/z.size],aL h5,Nat.mod_lt _ h3,by rw[CH];exact (Nat.div_add_mod j z.size).symm⟩
       have hlen:l! (List.flatMap (b8 z) xs)=l! xs*z.size:=fe (bN z) xs;let⟨ab,ao,az⟩:=a;cases hspot;rw[<- hx1];refine .sl (List.flatMap (b8 z) xs) (l! xs) cap ab ao (λj=>(W.cell? ⟨ab,ao+j,U⟩).getD undef) (by omega) hm (λh=>h) hblk (vu z xs) (λj hj=>?_) (λj y A=>?_)
       .obtain⟨x,hx,hjs,hje⟩:=hflat j (by omega);let⟨cs',g1,g2,_⟩:=hcell _ _ x hx hjs;rw[<- hje]at g1;simp only[g1,aL g2,Option.getD_some]
       .have hj:j<l! xs*z.size:=by rw[<- hlen];exact (bH.1 A).1
        let⟨x,hx,hjs,hje⟩:=hflat j hj;let⟨cs',g1,g2,g3⟩:=hcell _ _ x hx hjs;rw[<- hje]at g1;simp only[g1];rw[aL g2];refine g3.2 (j%z.size) y _ ?_ (aL g2);let⟨r,hr⟩:=H_ (bN z) xs (j/z.size) x hx;have:((List.flatMap (b8 z) xs).drop (j/z.size*z.size))[j%z.size]? =Z y:=by rw[iz,<-hje];exact A
        rw[hr,cU (by rw[bN];exact hjs)]at this;exact this
    .obtain⟨i,hi'⟩:=eO A;let⟨_,_,_,hw⟩:=hx2 i y hi';exact hw
  .rename_i z fs N;simp only[ak]at h;have h2:=ar h.2;obtain⟨xs,m,rfl,_,hl,hxl,hg⟩:=DataW.trod_struct N ht;let⟨v,I,hw⟩:=aa2 (f:=D8 P n) (m:=m) (λT t cs x h1 h2=>La n T t m cs x h1 hsp h2) cs xs fs.toList 0 0 z h.1 (by omega) (λi fl hi=>by
    have hi':fs[i]? =Z fl:=by simpa using hi
    have:=hg i fl hi';have hlt:i<l! xs:=by rw[hxl];exact (cW.1 hi').1
    rw[aL hlt]at this;exact⟨_,this⟩)
   exact⟨v,⟨by rw[hl,h2];rfl,λj y u A N=>I j y u A (by rw[b9];exact N)⟩,hw⟩
  .rename_i z m e N;simp only[ak]at h;have h2:=ar h.2;obtain⟨xs,q,rfl,_,hl,hxl,hg⟩:=DataW.trod_array N ht;let⟨v,I,hw⟩:=aa3 (f:=D8 P n) (m:=q) (λT t cs x h1 h2=>La n T t q cs x h1 hsp h2) cs m 0 z h.1 (by omega) (λj hj=>by
    have:=hg j hj;rw[aL (by omega)]at this;rw[b9];exact⟨_,this⟩)
   exact⟨v,⟨by rw[hl,h2];rfl,λj y u A N=>I j y u A (by rw[Nat.zero_mul,b9];exact N)⟩,hw⟩
  .cases h
def UQ {r:Reach} (q:D8 P i T A=J) (h1:T.one=J) (h:KZ P W r m A v):v.cells.toList=[v]:=by
 cases i with
 |zero=>unfold D8 at q;cases q
 |succ i=>
  unfold D8 at q;unfold KZ at h;cases v with
  |agg cs=>
   split at q<;>rename_i t<;>first|(rw [t]at h;simp[]at h;unfold Cell.okWide at h;rw[t]at h;unfold Cell.ok at h;rw[t]at h;simp at h)|cases h1|cases q
  |_=>rfl
def X9 {r:Reach} (q:D8 P i T A=J) (h1:T.one=aa) (h:KZ P W r m A v):∃cs,v= .agg cs:=by
 cases i with
 |zero=>unfold D8 at q;cases q
 |succ i=>
  unfold D8 at q;unfold KZ at h;split at q<;>rename_i t<;>first|(rw [t]at h;let⟨cs,h,_⟩:=h;exact⟨cs,h⟩)|cases h1|cases q
def open_arg {n:Nat} {d:DataW H} {D:Y MemPlace} {r:Reach} (t:D8 P n T A=J) (hsp:∀b,sp b=J) (hok:KZ P W r i A v) (h:DataW.Trod enc P W base sp hd A v d D):∃x,nA (λ_=>False) W (gr T x) v/\ZT T x:=by
 let⟨fZ,hf⟩:=h;let⟨x,q,N⟩:=La n T A fZ _ _ t hsp hf;refine ⟨x,?_,N⟩;by_cases h1:T.one=J
 .obtain⟨e1,e2⟩:=M7 T x h1;exact q.2 0 _ v (by grind) (by rw[UQ t h1 hok];rfl)
 .obtain⟨cs,rfl⟩:=X9 t (by grind) hok;rw[rZ T x (by grind)];have hl:l! cs.toList=l! (b8 T x):=by rw[bN];exact q.1
  have:=nA.agg (O:=λ_=>False) (w:=W) (b8 T x) cs.toList hl (pd T x) (λj y u I hu=>q.2 j y u I hu);simpa using this
end
abbrev IT:Type:=ω
abbrev CT:Type:=WT×Y (Int×Y IT)
def tA (a b:Int):kh (a,b)=Z (decide (0<=a/\a<b)):=by
 refine bT ?_;unfold kh jr aI;with_reducible repeat' first|apply OS.ok;constructor|refine IM.mk λ_=>?_
 .by_cases h:a<b<;>simp[*,gM]
 .simp;omega
def ID (k:Int):rf k=Z (decide (1<=k/\k<=5)):=by
 refine bT ?_;unfold rf jr aI;with_reducible repeat' first|apply OS.ok;constructor|refine IM.mk λ_=>?_
 .by_cases h:k<=5<;>simp[*,c8]
 .simp;omega
def jU (i:IT):η:=
 if i.1=1\/i.1=6\/i.1=10\/i.1=27 then [i.2.1]
 else if i.1=2\/i.1=3 then [i.2.1,i.2.2.1]
 else if i.1=4 then [i.2.1,i.2.2.1,i.2.2.2.1]
 else if i.1=7 then [i.2.1,i.2.2.2.1]
 else if i.1=8\/i.1=26 then [i.2.2.1]
 else if i.1=9 then [i.2.2.1,i.2.2.2.1]
 else []
def vh (i:IT):kG i=Z (jU i):=by
 let⟨q,i2⟩:=i;unfold kG jU bg bA bQ bq aI;by_cases h1:q=1
 .subst h1;rfl
 by_cases h2:q=6
 .subst h2;rfl
 by_cases h3:q=10
 .subst h3;rfl
 by_cases h4:q=27
 .subst h4;rfl
 by_cases h5:q=2
 .subst h5;rfl
 by_cases h6:q=3
 .subst h6;rfl
 by_cases h7:q=4
 .subst h7;rfl
 by_cases N:q=7
 .subst N;rfl
 by_cases I:q=8
 .subst I;rfl
 by_cases D:q=26
 .subst D;rfl
 by_cases A:q=9
 .subst A;rfl
 simp[h1,h2,h3,h4,h5,h6,h7,N,I,D,A,decide_false,bcF,jnr,gH,fM]
def Fp (z:IT):l! (jU z)<=3:=by
 unfold jU
 (repeat' split)<;>simp
def agv (l:Y IT) (a:Int) (A:l! l<=1000000):Ok (qN (l,a)) λ_=>True:=by
 unfold qN bq bV jr bI be c7 aI cL;refine wK (λx=>((l! l:Int)+1-x.2).toNat) (λx=>0<=x.2/\x.2<=(l! l:Int)+1) ?_ ⟨by dsimp only;omega,by dsimp only;omega⟩;rintro⟨(a:Int),(n:Int)⟩ ⟨h0,h1⟩;refine dB (λg=>?_) λ_=>aj trivial
 dsimp [al]at g;refine aW (λ_=>True) ?_ λb _=>aj ?_
 .refine aW (λb=>b=aa->0<=a/\a<(l! l:Int)) ?_ ?_
  .refine bG (λ_=>aj nofun) λD=>aj λh=>?_
   rw[gq]at h
   grind
  .intro b q;refine aR (λ_=>aj trivial) λh=>?_
   let⟨q0,q1⟩:=q h;refine aQ q0 (by omega) (aS ?_);refine aU (ID _) ?_;refine dc (λ_=>aj trivial) λ_=>?_
   refine aQ q0 (by omega) (aS ?_);refine aG (λ_=>?_) λ_=>aj trivial
   exact aQ q0 (by omega) (aS (aj trivial))
 .dsimp only;rw[fh];omega
structure AR (w:WT) (b n:Int):Prop where
 b0:0<=b
 b1:b<l! w.1
 ix:(aw mb w.1 b).2.1=0
 sz:¬(aw mb w.1 b).2.2.1=0
 sn:(aw mb w.1 b).2.2.1=n
def Xm (w:WT) (b n:Int):Ok (qO (w,b,n)) λr=>r=J->AR w b n:=by
 refine gK ?_;refine aU (tA _ _) ?_;refine aG (λh=>?_) λ_=>aj (aj nofun)
 refine aQ h.1 h.2 (aS (aG (λh1=>?_) λ_=>aj (aj nofun)));refine aQ h.1 h.2 (aS (bw (λh2=>?_) λ_=>aj (aj nofun)));exact aQ h.1 h.2 (aS (aj (aj λh3=>⟨h.1,h.2,h1,h2,aZ h3⟩)))
def X_ (w:WT) (i:IT):Ok (mw (w,i)) λb=>b=J->(i.1=7->AR w i.2.2.1 i.2.2.2.2.1)/\(i.1=9->AR w i.2.1 i.2.2.2.2.1):=by
 have tr:∀{b:Bool},¬i.1=7->¬i.1=9->b=J->(i.1=7->AR w i.2.2.1 i.2.2.2.2.1)/\(i.1=9->AR w i.2.1 i.2.2.2.2.1):=λh1 h2 _=>⟨λh=>(h1 h).elim,λh=>(h2 h).elim⟩
 unfold mw bg bA bQ cS ji bq jr bI be aI;simp only[tA,R_];refine aG (λh6=>?_) λ_=>?_
 .refine aW (λ_=>True) ?_ λ_ _=>aj (tr (by omega) (by omega))
  refine aG (λh=>?_) λ_=>aj trivial
  exact aQ h.1 h.2 (aS (aj trivial))
 refine aG (λN=>?_) λ_=>?_
 .refine aW (λ_=>True) ?_ λ_ _=>aj (tr (by omega) (by omega))
  refine aG (λh=>?_) λ_=>aj trivial
  exact aQ h.1 h.2 (aS (aj trivial))
 refine aG (λq=>?_) λA=>?_
 .exact au (Xm _ _ _) λ_ h=>aj λh2=>⟨λ_=>h h2,λI=>by have q:i.1=7:=q;omega⟩
 refine aG (λI=>?_) λD=>?_
 .exact au (Xm _ _ _) λ_ h=>aj λh2=>⟨λq=>(A q).elim,λ_=>h h2⟩
 have tr:∀{b:Bool},b=J->(i.1=7->AR w i.2.2.1 i.2.2.2.2.1)/\(i.1=9->AR w i.2.1 i.2.2.2.2.1):=tr A D;refine aW (λx=>x.2=(w,i)) (aG (λ_=>aj rfl) λ_=>aj rfl) ?_;rintro⟨b,x⟩ e;subst e;refine aR (λ_=>?_) λ_=>?_
 .refine aW (λ_=>True) ?_ λ_ _=>aj tr
  refine aG (λh=>?_) λ_=>aj trivial
  exact aQ h.1 h.2 (aS (aj trivial))
 refine aW (λx=>x.2=(w,i)) (aG (λ_=>aj rfl) λ_=>aG (λ_=>aj rfl) λ_=>aG (λ_=>aj rfl) λ_=>aj rfl) ?_;rintro⟨b,x⟩ e;subst e;refine aR (λ_=>?_) λ_=>?_
 .refine aW (λ_=>True) ?_ λ_ _=>aj tr
  refine aG (λh=>?_) λ_=>aj trivial
  exact aQ h.1 h.2 (aS (aj trivial))
 refine aW (λx=>x.2=(w,i)) (aG (λ_=>aj rfl) λ_=>aG (λ_=>aj rfl) λ_=>aj rfl) ?_;rintro⟨b,x⟩ e;subst e;refine aR (λ_=>aj tr) λ_=>?_
 refine aW (λx=>x.2=(w,i)) (aG (λ_=>aj rfl) λ_=>aj rfl) ?_;rintro⟨b,x⟩ e;with_reducible repeat' first|apply OS.ok;constructor|refine IM.mk λ_=>?_
 all_goals exact tr
structure VI (n:Int) (i:IT):Prop where
 o1:1<=i.1
 o2:i.1<=28
 r:∀j∈jU i,0<=j/\j<n
structure VT (t:Int×List IT):Prop where
 r0:0<=t.1
 r1:t.1<=32
 i:∀i∈t.2,VI t.1 i
structure VJ (w:WT) (k:Int) (i:IT):Prop where
 a7:i.1=7->AR w i.2.2.1 i.2.2.2.2.1
 a9:i.1=9->AR w i.2.1 i.2.2.2.2.1
 se:i.1=28->i.2.2.2.2.2= -1
 si:¬i.1=28->0<=i.2.2.2.2.2/\i.2.2.2.2.2<l! w.2.2.2.2.2/\(aw pS w.2.2.2.2.2 i.2.2.2.2.2).1=k
def Lw (w:WT) (k:Int) (c:Int×Y IT) (hc:l! c.2<=1000000):Ok (iW (w,k,c)) λb=>b=J->VT c/\∀i∈c.2,VJ w k i:=by
 unfold iW bg bA bQ cS bY dv Rz bq bV gV bI be c7 aI cL;refine aW (λx=>x.2=(w,c)/\(x.1=aa->0<=c.1/\c.1<=32)) ?_ ?_
 .refine bG (λ_=>aj ⟨rfl,nofun⟩) λh0=>bG (λ_=>aj ⟨rfl,nofun⟩) λh1=>aj ⟨rfl,λ_=>⟨h0,h1⟩⟩
 rintro⟨b,x⟩ ⟨e,D⟩;dsimp only at e D;subst e;refine aR (λ_=>aj nofun) λh=>?_
 let⟨r0,r1⟩:=D h;refine bC (l! c.2) (λi x=>x.1=(i:Int)/\x.2=(w,c)/\∀q:Nat,q<i->VI c.1 (aw sx c.2 (q:Int))/\VJ w k (aw sx c.2 (q:Int))) ?_ ?_ ⟨rfl,rfl,λk N=>by omega⟩
 .rintro i ⟨a,x⟩ hi ⟨e1,e2,e3⟩;dsimp only at e1 e2 e3;subst e1 e2;refine cE ?_;refine bK (aS ?_);generalize hz:(aw _ _ _)=z;refine aW (λx=>x.2=(w,c,z)/\(x.1=aa->(1<=z.1/\z.1<=28)/\(z.1=7->AR w z.2.2.1 z.2.2.2.2.1)/\(z.1=9->AR w z.2.1 z.2.2.2.2.1))) ?_ ?_
  .refine bG (λ_=>aj ⟨rfl,nofun⟩) λh0=>bG (λ_=>aj ⟨rfl,nofun⟩) λh1=>?_
   refine aR (λ_=>aj ⟨rfl,nofun⟩) λ_=>?_
   refine au (X_ w z) λy hy=>?_
   refine dc (λ_=>aj ⟨rfl,nofun⟩) λhyt=>?_
   exact au (agv c.2 _ hc) λy _=>aj ⟨rfl,λ_=>⟨⟨h0,h1⟩,hy hyt⟩⟩
  rintro⟨b,x⟩ ⟨e,D⟩;dsimp only at e D;subst e;refine aR (λ_=>aj nofun) λh=>?_
  let⟨⟨o1,o2⟩,a7,a9⟩:=D h;refine aW (λx=>x.2=(w,c,z)/\(x.1=aa->(z.1=28->z.2.2.2.2.2= -1)/\(¬z.1=28->0<=z.2.2.2.2.2/\z.2.2.2.2.2<l! w.2.2.2.2.2/\(aw pS w.2.2.2.2.2 z.2.2.2.2.2).1=k))) ?_ ?_
  .simp only[tA,R_];refine aG (λA=>?_) λA=>?_
   .refine bw (λ_=>aj ⟨rfl,nofun⟩) λhm=>?_
    exact bw (λh=>(h A).elim) λ_=>aj ⟨rfl,λ_=>⟨λ_=>hm,λh=>(h A).elim⟩⟩
   .refine bw (λ_=>?_) λh=>(A h).elim
    refine bw (λ_=>aj ⟨rfl,nofun⟩) λh=>?_
    exact aQ h.1 h.2 (aS (aj ⟨rfl,λh2=>⟨λh3=>(A h3).elim,λ_=>⟨h.1,h.2,by simpa using h2⟩⟩⟩))
  rintro⟨b,x⟩ ⟨e,hsi⟩;dsimp only at e hsi;subst e;refine aR (λ_=>aj nofun) λhbs=>?_
  let⟨se,si⟩:=hsi hbs;refine aW (λx=>x.2=(w,c,z)) ?_ ?_
  .simp only[tA,R_];with_reducible repeat' first|apply OS.ok;constructor|refine IM.mk λ_=>?_
   all_goals rfl
  rintro⟨b,x⟩ e;dsimp only at e;subst e;refine aR (λ_=>aj nofun) λ_=>?_
  refine aU (vh z) ?_;refine bC (l! (jU z)) (λj x=>x.1=(j:Int)/\x.2=(w,c)/\∀k:Nat,k<j->0<=aw aP (jU z) (k:Int)/\aw aP (jU z) (k:Int)<c.1) ?_ ?_ ⟨rfl,rfl,λk N=>by omega⟩
  .rintro j ⟨a,x⟩ hj ⟨d1,d2,d3⟩;dsimp only at d1 d2 d3;subst d1 d2;refine cE ?_;refine bK (aS ?_);refine aU (tA _ _) ?_;refine bw (λ_=>aj nofun) λh=>aj ?_
   dsimp only at h ⊢;have hj32:l! (jU z)<=3:=Fp z;refine ⟨fH,rfl,λk N=>?_⟩
   grind
  .rintro⟨a,x⟩ ⟨d1,d2,d3⟩;dsimp only at d1 d2 d3;subst d1 d2;refine cz (aj ?_);dsimp only;refine ⟨fH,rfl,λk N=>?_⟩;rcases bF k i with h1|h1
   .exact e3 k h1
   .rw[show k=i by omega,hz];exact⟨⟨o1,o2,fI (T:=aP) d3⟩,⟨a7,a9,se,si⟩⟩
 .rintro⟨a,x⟩ ⟨e1,e2,e3⟩;refine cz (aj λ_=>⟨⟨r0,r1,fI (T:=sx) (p:=VI c.1) λq I=>(e3 q I).1⟩,fI (T:=sx) (p:=VJ w k) λq I=>(e3 q I).2⟩)
structure VC (c:CT):Prop where
 vl:VL c.1
 tl:l! c.2=l! c.1.2.2.2.2.1
 t:∀t∈c.2,VT t
 sv:SV0 c.1
 j:∀k:Nat,k<l! c.2->∀i∈(aw yP c.2 (k:Int)).2,VJ c.1 (k:Int) i
structure CB (c:CT):Prop where
 th:l! c.2<=1000000
 ins:∀t∈c.2,l! t.2<=1000000
 rg:∀t∈c.2,1<=t.1
 wx:WX c.1
 ok:kF c=Z J
 cn:∀t∈c.2,∀i∈t.2,i.1=1->IW i.2.2.2.2.1
def Xw (c:CT) (h1:l! c.2<=1000000) (h2:∀t∈c.2,l! t.2<=1000000):Ok (kF c) λb=>b=J->VC c:=by
 let⟨w,l⟩:=c;dsimp only at h1 h2;unfold kF bQ bV bI be c7 aI cL;refine aW (λx=>x.2=(w,l)/\(x.1=aa->(VL w/\SV0 w)/\l! l=l! w.2.2.2.2.1)) ?_ ?_
 .refine au (PU w) λb D=>?_
  refine dc (λ_=>aj ⟨rfl,nofun⟩) λh=>aj ⟨rfl,λh3=>⟨D h,?_⟩⟩
  simp at h3;omega
 rintro⟨b,x⟩ ⟨e,I⟩;subst e;refine aR (λ_=>aj nofun) λh=>?_
 let⟨⟨N,hsv⟩,hl⟩:=I h;refine bC (l! l) (λi x=>x.1=(i:Int)/\x.2=(w,l)/\∀k:Nat,k<i->VT (aw yP l (k:Int))/\∀q∈(aw yP l (k:Int)).2,VJ w (k:Int) q) ?_ ?_ ⟨rfl,rfl,λk A=>by omega⟩
 .rintro i ⟨a,x⟩ hi ⟨e1,e2,e3⟩;subst e1 e2;refine cE ?_;refine bK (aS ?_);have hm:=ba (T:=yP) (xs:=l) (j:=(i:Int)) (by omega) (by omega);revert hm;generalize hz:(aw yP l (i:Int))=z;intro hm;refine au (Lw w _ z (h2 z hm)) λb D=>?_
  refine dc (λ_=>aj nofun) λh=>aj ?_
  refine ⟨fH,rfl,λk A=>?_⟩
  grind
 .rintro⟨a,x⟩ ⟨e1,e2,e3⟩;subst e1 e2;refine cz (aj λ_=>⟨N,hl,fI (T:=yP) (p:=VT) λk A=>(e3 k A).1,hsv,λk A=>(e3 k A).2⟩)
section
abbrev TT:Type:=Int×η×Y η×Int
structure TL (F:Int->Prop) (E:Nat) (l:η):Prop where
 a:J6 l
 m:∀y∈l,0<=y/\y<(E:Int)
 f:∀y∈l,F y
variable {F:Int->Prop}
variable {c:η}
def TL.len (h:TL F i c):l! c<=i:=by
 have:=C3 c 0 i h.a h.m;omega
def TL.nil (E:Nat):TL F E []:=⟨trivial,λy q=>(by cases q),λy q=>(by cases q)⟩
def TL.uni {b:η} (D:TL F i c) (A:TL F i b):TL F i (za c b):=
 ⟨Uj c b,λy q=>by
   rcases Ly.1 q with h|h
   .exact D.m y h
   .exact A.m y h,λy q=>(Ly.1 q).elim (D.f y) (A.f y)⟩
def TL.mono {A:Int->Prop} (h:TL F i c) (hf:i<=m) (I:∀y,F y->A y):TL A m c:=⟨h.a,λy q=>⟨(h.m y q).1,by have:=(h.m y q).2;omega⟩,λy q=>I y (h.f y q)⟩
structure TH (F:Int->Prop) (E:Nat) (s:TT):Prop where
 r:l! s.2.1<=32
 t:l! s.2.2.1<=32
 l:∀l∈s.2.2.1,TL F E l
 e0:0<=s.2.2.2
 e1:s.2.2.2<=(E:Int)
 w:∀z∈s.2.1,IW z
def TH.zero (E:Nat):TH F E (0,[],[],0):=⟨by simp,by simp,λl A=>(by cases A),by simp,by simp,λz q=>(by cases q)⟩
def TH.mono {q:Int->Prop} {s:TT} (h:TH F i s) (hf:i<=m) (I:∀y,F y->q y):TH q m s:=⟨h.r,h.t,λl D=>(h.l l D).mono hf I,h.e0,by have:=h.e1;omega,h.w⟩
def yS (s:TT) (E:Nat) (D:E<=100000) (h:TH F E s):cF s=Z ((s.1,s.2.2.2),s.2.1,s.2.2.1):=by
 let⟨h1,h2,h3,h4,N,I⟩:=h;refine bT ?_;unfold cF bg bA bQ bY dv bV bX bI be c7 aI cL;refine a! ?_;refine bC (l! s.2.2.1) (λi x=>x.1=(i:Int)/\x.2.1=s/\x.2.2.2.1=(s.1,s.2.2.2)/\x.2.2.2.2.1=s.2.1/\x.2.2.2.2.2=s.2.2.1.take i) ?_ ?_ ⟨rfl,rfl,rfl,rfl,rfl⟩
 .rintro i ⟨a,b,c,d,e,f⟩ hi ⟨e1,e2,e3,e4,q⟩;dsimp only at e1 e2 e3 e4 q;subst e1 e2 q;refine cE ?_;refine bK (aS ?_);have A:=(h3 _ (ba (T:=.sl (.int .i64)) (xs:=b.2.2.1) (j:=(i:Int)) (by omega) (by omega))).len;refine bu (by simp only[eS,b9];exact cP A (by omega)) (by omega) ?_;refine a! (aj ?_);dsimp only;refine ⟨fH,rfl,e3,e4,?_⟩;rw[kA (T:=.sl (.int .i64)) hi];rfl
 .rintro⟨a,b,c,d,e,f⟩ ⟨e1,e2,e3,e4,q⟩;dsimp only at e1 e2 e3 e4 q;subst e1 e2 q;refine cz (aj ?_);show (d,e,_)=_;rw[e3,e4,cH]
def xH (b:Bool):Ok (gw b) λy=>IW y:=by
 unfold gw;exact aR (λ_=>aj (IW.sm (by decide) (by decide))) λ_=>aj (IW.sm (by decide) (by decide))
def IQ (n:Int):Ok (m7 n) λ_=>True:=by
 unfold m7 bV aI;with_reducible repeat' first|apply OS.ok;constructor|refine IM.mk λ_=>?_
 all_goals trivial
def ajh (x:ν):Ok (vM x) λy=>IW y.1:=by
 have q:IW 0:=IW.sm (by decide) (by decide);unfold vM bq;refine aG (λ_=>aj (Ug _)) λ_=>aG (λ_=>?_) λ_=>aj q
 exact au (xH _) λ_ h=>aj h
def aez (x:π) (h2:IW x.2.1):Ok (ua x) λy=>IW y.1:=by
 have A:IW 0:=IW.sm (by decide) (by decide);unfold ua bq gV bX aI;have q:∀b,Ok (av (gw b) λy=>Z (y,J)) λy:Int×Bool=>IW y.1:=λb=>au (xH _) λ_ h=>aj h
 refine aG (λ_=>aj (Ug _)) λ_=>aG (λ_=>aj (Ug _)) λ_=>aG (λ_=>aj (Ug _)) λ_=>?_
 refine aG (λ_=>aG (λ_=>aj A) λh=>n_ h (aj (Ug _))) λ_=>?_
 refine aG (λ_=>aG (λ_=>aj A) λh=>n_ h (aj (h2.tm _))) λ_=>?_
 refine aG (λ_=>q _) λ_=>aG (λ_=>q _) λ_=>aG (λ_=>q _) λ_=>aG (λ_=>q _) λ_=>aG (λ_=>q _) λ_=>aG (λ_=>q _) λ_=>?_
 refine aG (λ_=>aW (λy:Int×Bool=>IW y.1) (bw (λ_=>au (xH _) λ_ h=>aj h) λ_=>au (xH _) λ_ h=>aj h) λ_ h=>aj h) λ_=>?_
 exact aG (λ_=>aW (λy:Int×Bool=>IW y.1) (bw (λ_=>au (xH _) λ_ h=>aj h) λ_=>au (xH _) λ_ h=>aj h) λ_ h=>aj h) λ_=>aj A
def aca (E:Nat) (hE:E<=100000) (i:IT) (p:ν) (R:η) (T:Y η) (D:∀j∈jU i,0<=j/\j<(l! R:Int)) (o1:1<=i.1) (o2:i.1<=5) (hR:l! R<=32) (q:l! T=l! R) (hl:∀l∈T,TL F E l) (hw:∀z∈R,IW z) (hN:i.1=1->IW i.2.2.2.2.1):Ok (xV ((i,p),R,T)) λy=>y.1.1.2=p.2/\l! y.2.1=l! R/\l! y.2.2=l! T/\(∀l∈y.2.2,TL F E l)/\∀z∈y.2.1,IW z:=by
 unfold xV bg bA bQ ck bq bV bX bI mn be c7 aI cL;refine aU (vh i) ?_;have h3:=Fp i;refine bC (l! (jU i)) (λj x=>x.1=(j:Int)/\x.2.1=R/\x.2.2.1=T/\x.2.2.2.1=i/\x.2.2.2.2.1=p) ?_ ?_ ⟨rfl,rfl,rfl,rfl,rfl⟩
 .rintro j ⟨a,b,c,d,e⟩ hj ⟨e1,e2,e3,e4,I⟩;dsimp only at e1 e2 e3 e4 I;subst e1 e2 e3 e4;refine cE ?_;have hz:=D _ (ba (T:=aP) (xs:=jU d) (j:=(j:Int)) (by omega) (by omega));refine aW (λx=>x.2=(b,c,d,e)/\x.1=aa) ?_ ?_
  .refine bK (aS ?_);refine bG (λg=>?_) λ_=>?_
   .dsimp only at g;omega
   refine bK (aS (aj ⟨rfl,?_⟩));dsimp only;rw[gq];exact hz.2
  rintro⟨b',x⟩ ⟨f1,N⟩;dsimp only at f1 N;subst f1 N;refine aR nofun λ_=>aj ?_
  dsimp only;exact⟨fH,rfl,rfl,rfl,I⟩
 .rintro⟨a,b,c,d,e⟩ ⟨e1,e2,e3,e4,I⟩;dsimp only at e1 e2 e3 e4 I;subst e1 e2 e3 e4;refine cz ?_;let⟨e,e'⟩:=e;dsimp only at I;subst I;refine au (P:=λy=>y.1.1.2=e.2/\l! y.2.1=l! b/\l! y.2.2=l! c/\(∀l∈y.2.2,TL F E l)/\∀z∈y.2.1,IW z) ?_ λr D=>aj D
  have hA:d.1≠5->0<=d.2.1/\d.2.1<(l! b:Int):=λh5=>D _ (by
   unfold jU;(repeat' split)<;>simp<;>omega)
  have hB:2<=d.1->d.1≠5->0<=d.2.2.1/\d.2.2.1<(l! b:Int):=λh2 h5=>D _ (by
   unfold jU;(repeat' split)<;>simp<;>omega)
  have hC:d.1=4->0<=d.2.2.2.1/\d.2.2.2.1<(l! b:Int):=λh5=>D _ (by
   unfold jU;(repeat' split)<;>simp<;>omega)
  have hg:∀{j:Int},0<=j->j<(l! b:Int)->TL F E (aw (.sl (.int .i64)) c j):=λh0 h1=>hl _ (ba (T:=.sl (.int .i64)) (xs:=c) h0 (by rw[q];exact h1))
  refine aW (λx=>x.2.1=b/\x.2.2.1=c/\x.2.2.2.1=d/\x.2.2.2.2.1=e/\TL F E x.1.2.2/\d.1≠5/\IW x.1.1) ?_ ?_
  .refine aG (λ_=>aj ⟨rfl,rfl,rfl,hl,hw⟩) λA=>?_
   have hwg:∀{j:Int},0<=j->j<(l! b:Int)->IW (aw aP b j):=λh0 h1=>hw _ (ba (T:=aP) h0 h1)
   refine aG (λq1=>aj ⟨rfl,rfl,rfl,rfl,TL.nil E,A,hN q1⟩) λn1=>?_
   dsimp only at n1 A;let⟨b0,b1⟩:=hB (by omega) A;refine aG (λ_=>?_) λn2=>?_
   .refine aQ b0 b1 (aQ b0 b1 (aS ?_));refine aQ b0 (by dsimp only;rw[q];exact b1) (aQ b0 (by dsimp only;rw[q];exact b1) (aS ?_));exact aj ⟨rfl,rfl,rfl,rfl,hg b0 b1,A,hwg b0 b1⟩
   refine aG (λ_=>?_) λn3=>?_
   .refine au (IQ _) λy _=>?_
    refine aQ b0 b1 (aQ b0 b1 (aS ?_));refine au (ajh _) λy hy=>?_
    refine aQ b0 (by dsimp only;rw[q];exact b1) (aQ b0 (by dsimp only;rw[q];exact b1) (aS ?_));exact aj ⟨rfl,rfl,rfl,rfl,hg b0 b1,A,hy⟩
   dsimp only at n2 n3;let⟨c0,c1⟩:=hC (by omega);refine au (IQ _) λy _=>?_
   refine aQ b0 b1 (aQ b0 b1 (aS ?_));refine aQ c0 c1 (aQ c0 c1 (aS ?_));refine au (aez _ (hwg b0 b1)) λy hy=>?_
   refine aQ b0 (by dsimp only;rw[q];exact b1) (aQ b0 (by dsimp only;rw[q];exact b1) (aS ?_));refine aQ c0 (by dsimp only;rw[q];exact c1) (aQ c0 (by dsimp only;rw[q];exact c1) (aS ?_));have g1:=hg b0 b1;have g2:=hg c0 c1;refine aU (Xx _ _ (cP g1.len (by omega)) (cP g2.len (by omega))) ?_;exact aj ⟨rfl,rfl,rfl,rfl,g1.uni g2,A,hy⟩
  rintro⟨⟨v,ok,tn⟩,b',c',d',e',e''⟩ ⟨f1,N,f3,f4,f5,f6,f7⟩;dsimp only at f1 N f3 f4 f5 f6 f7;subst f1 N f3 f4;let⟨a0,a1⟩:=hA f6;have ht:=f5.len;refine a! ?_;refine aQ a0 a1 (aQ a0 a1 (aQ a0 (by dsimp only;rw[q];exact a1) (aQ a0 (by dsimp only;rw[q];exact a1) (aj ?_))));refine ⟨rfl,bM ..,bM ..,λl hm=>?_,λz hm=>?_⟩
  .rcases kB hm with h|h
   .exact hl l h
   .rw[h];exact f5
  .rcases kB hm with h|h
   .exact hw z h
   .rw[h];exact f7
def ael (E:Nat) (hE:E<=100000) (c:Int×Y IT) (hc:l! c.2<=1000000) (hv:VT c) (hN:∀i∈c.2,i.1=1->IW i.2.2.2.2.1) (s:TT) (h:TH F E s):Ok (ol (c,s)) λy=>TH F E y.1/\(l! y.1.2.1=0\/y.1.2.2.2=s.2.2.2):=by
 unfold ol bg bA bQ bY dt dv bq bV jr gV bX bI be c7 aI cL;have A:=h;let⟨h1,h2,h3,h4,h5,h6⟩:=h;refine aW (λx=>x.2.1=c/\x.2.2.1=s/\(x.1=aa->(l! s.2.1:Int)=c.1/\(l! s.2.2.1:Int)=c.1)) ?_ ?_
 .refine bw (λ_=>aj ⟨rfl,rfl,nofun⟩) λg=>aj ⟨rfl,rfl,λh=>?_⟩
  simp at h;exact⟨g,h⟩
 rintro⟨b,c',s',z⟩ ⟨e1,e2,e3⟩;dsimp only at e1 e2 e3;subst e1 e2;refine aR (λ_=>aj ⟨TH.zero E,.inl rfl⟩) λD=>?_
 let⟨q1,q2⟩:=e3 D;refine aU (yS s' E hE A) ?_;refine wK (λx=>((l! c'.2:Int)+1-x.1).toNat) (λx=>0<=x.1/\x.1<=(l! c'.2:Int)+1/\x.2.1=c'/\x.2.2.1.2=s'.2.2.2/\l! x.2.2.2.2.1=l! s'.2.1/\l! x.2.2.2.2.2=l! s'.2.2.1/\(∀l∈x.2.2.2.2.2,TL F E l)/\∀z∈x.2.2.2.2.1,IW z) ?_ ⟨by dsimp only;omega,by dsimp only;omega,rfl,rfl,rfl,rfl,h3,h6⟩;rintro⟨(n:Int),c,⟨(q:Int),ev⟩,z',R,T⟩ ⟨n0,n1,e1,e2,e3,e4,N,I⟩;dsimp only at n0 n1 e1 e2 e3 e4 N I;subst e1 e2;refine dB (λg=>?_) λ_=>aj ⟨TH.zero E,.inl rfl⟩
 dsimp only[al]at g;refine aW (λx=>x.2=(c,(q,s'.2.2.2),z',R,T)/\(x.1=aa->0<=q/\q<(l! c.2:Int))) ?_ ?_
 .refine bG (λ_=>aj ⟨rfl,nofun⟩) λg1=>aj ⟨rfl,λh=>?_⟩
  dsimp only at g1 h;rw[gq]at h;exact⟨g1,h⟩
 rintro⟨b',x⟩ ⟨f1,f2⟩;dsimp only at f1 f2;subst f1;refine aR (λ_=>aj ⟨TH.zero E,.inl rfl⟩) λD=>?_
 let⟨p0,p1⟩:=f2 D;refine aQ p0 p1 (aS ?_);have hi:=hv.i _ (ba (T:=sx) (xs:=c.2) (j:=q) p0 p1);have hNi:=hN _ (ba (T:=sx) (xs:=c.2) (j:=q) p0 p1);revert hi hNi;generalize (aw sx _ _)=i;intro hi hNi;refine aU (ID _) ?_;refine bw (λ_=>aj ⟨⟨by dsimp only;omega,by dsimp only;omega,N,h4,h5,I⟩,.inr rfl⟩) λhsil=>?_
 refine aG (λ_=>aj ⟨TH.zero E,.inl rfl⟩) λhn=>?_
 dsimp only[al]at hn;refine au (aca E hE i (q,s'.2.2.2) R T (λj hj=>by have:=hi.r j hj;omega) hsil.1 hsil.2 (by omega) (by omega) N I hNi) λy hy=>?_
 let⟨⟨⟨pc',ev'⟩,ok⟩,R',T'⟩:=y;let⟨k1,k2,k3,k4,k5⟩:=hy;dsimp only at k1 k2 k3 k4 k5;refine bZ (fE k3.symm (bZ (fE k2.symm (mc ?_))));refine dc (λ_=>aj ⟨TH.zero E,.inl rfl⟩) λ_=>aj ?_
 dsimp only;rw[fh];exact⟨⟨by omega,by omega,rfl,k1,by omega,by omega,k4,k5⟩,by omega⟩
end
abbrev ST:Type:=SY×η×η×Y TT
structure TF (c:Int×List IT) (t:TT):Prop where
 p0:0<=t.1
 p1:t.1<(l! c.2:Int)
 r:(l! t.2.1:Int)=c.1
 t:(l! t.2.2.1:Int)=c.1
structure FSx (c:CT) (s:ST):Prop where
 vc:VC c
 cd:∀d∈c.1.2.2.1,0<=d.2/\d.2<(l! c.1.2.1:Int)
 e3:l! s.1.2.2.2=l! c.1.2.2.2.2.1
 ce:l! s.2.1=l! c.1.1
 fu:l! s.2.2.1=l! c.1.2.2.2.1
 th:l! s.2.2.2=l! c.2
 t:∀k:Nat,k<l! c.2->TF (aw yP c.2 (k:Int)) (aw fg s.2.2.2 (k:Int))
def FQ (L:Y ET) (k:Int) (y:Int):Prop:=1<=y/\FLG L k y
structure SV (n:Nat) (L:List ET) (s:ST):Prop where
 sb:SB n s.1
 ln:l! L=n
 t:∀k:Nat,k<l! s.2.2.2->TH (FQ L k) n (aw fg s.2.2.2 (k:Int))
 cw:∀z∈s.2.1,IW z
 fw:∀z∈s.2.2.1,IW z
variable {L:Y ET}
def SV.ti {s:ST} (h:SV i L s) (h0:0<=a) (h1:a<(l! s.2.2.2:Int)):TH (FQ L a) i (aw fg s.2.2.2 a):=by
 have:=h.t a.toNat (by omega)
 grind
structure TG (c:CT) (L:List ET) (sy:SY) (k:Int) (t:TT):Prop where
 ev:t.2.2.2=(l! (fl L k):Int)
 wi:(aw gU sy.2.2.2 k).1=3\/(aw gU sy.2.2.2 k).1=4->(aw sx (aw yP c.2 k).2 t.1).1=21
 nw:l! (fl L k)=0->(aw gU sy.2.2.2 k).1=0\/(aw gU sy.2.2.2 k).1=1
structure SIv (c:CT) (L:List ET) (s:ST):Prop where
 ac:Acw c.1 L s.1 s.2.1 s.2.2.1
 t:∀k:Nat,k<l! s.2.2.2->(aw fg s.2.2.2 (k:Int)).2.1.length=0\/TG c L s.1 (k:Int) (aw fg s.2.2.2 (k:Int))
def amf (c:CT) (s:ST) (D:CB c):Ok (xU (c,s)) λb=>b=J->FSx c s:=by
 unfold xU bg bA dt dv bV jr gV bI be c7 aI cL;refine aW (λx=>x.2=(c,s)/\(x.1=aa->VC c/\(∀d∈c.1.2.2.1,0<=d.2/\d.2<(l! c.1.2.1:Int))/\l! s.1.2.2.2=l! c.1.2.2.2.2.1/\l! s.2.1=l! c.1.1/\l! s.2.2.1=l! c.1.2.2.2.1/\l! s.2.2.2=l! c.2)) ?_ ?_
 .refine au (Xw c D.th D.ins) λb A=>?_
  refine dc (λ_=>aj ⟨rfl,nofun⟩) λh=>?_
  have q:=A h;refine au (T9 c.1 s.1 (by have:=q.vl.d;omega)) λb2 I=>?_
  refine dc (λ_=>aj ⟨rfl,nofun⟩) λh2=>?_
  let⟨N,_,_,g4⟩:=I h2;refine bw (λ_=>aj ⟨rfl,nofun⟩) λk1=>?_
  refine bw (λ_=>aj ⟨rfl,nofun⟩) λk2=>aj ⟨rfl,λk3=>⟨q,N,g4,?_,?_,?_⟩⟩
  .grind
  .grind
  .simp at k3;omega
 rintro⟨b,x⟩ ⟨e,A⟩;subst e;refine aR (λ_=>aj nofun) λh=>?_
 let⟨q,hcd,h3,hce,hfu,hth⟩:=A h;have hcl:=D.th;refine bC (l! c.2) (λi x=>x.1=(i:Int)/\x.2=(c,s)/\∀k:Nat,k<i->TF (aw yP c.2 (k:Int)) (aw fg s.2.2.2 (k:Int))) ?_ ?_ ⟨rfl,rfl,λk hk=>by omega⟩
 .rintro i ⟨a,x⟩ hi ⟨e1,e2,e3⟩;subst e1 e2;refine cE ?_;have hin:((i:Nat):Int)<(l! c.2:Int):=by omega
  refine bK (aS ?_);refine aW (λx=>x.2=(c,s)/\(x.1=aa->TF (aw yP c.2 (i:Int)) (aw fg s.2.2.2 (i:Int)))) ?_ ?_
  .refine bG (λ_=>aj ⟨rfl,nofun⟩) λg0=>?_
   refine aQ (by simp) hin (aS ?_);refine dB (λ_=>aj ⟨rfl,nofun⟩) λN=>?_
   refine aQ (by simp) hin (aS ?_);refine bw (λ_=>aj ⟨rfl,nofun⟩) λg2=>?_
   refine aQ (by simp) hin (aS (aj ⟨rfl,λg3=>⟨g0,N,g2,?_⟩⟩));simp at g3;exact g3
  rintro⟨b,x⟩ ⟨e,A⟩;subst e;refine aR (λ_=>aj nofun) λh=>aj ?_
  refine ⟨fH,rfl,λk hk=>?_⟩
  grind
 .rintro⟨a,x⟩ ⟨e1,e2,e3⟩;subst e1 e2;refine cz (aj λ_=>⟨q,hcd,h3,hce,hfu,hth,e3⟩)
def aov {i:IT} (h:i.1=6\/i.1=7\/i.1=27\/i.1=10):i.2.1∈jU i:=by
 unfold jU;(repeat' split)<;>simp<;>omega
def aou {i:IT} (h:i.1=8\/i.1=9\/i.1=26):i.2.2.1∈jU i:=by
 unfold jU;(repeat' split)<;>simp<;>omega
def au9 {i:IT} (h:i.1=7\/i.1=9):i.2.2.2.1∈jU i:=by
 unfold jU;(repeat' split)<;>simp<;>omega
structure KD (op k:Int):Prop where
 ld:k=3->op=6\/op=7
 st:k=4->op=8\/op=9
 br:k=5->op=10
 se:k=22->op=26
 ge:k=23->op=27
 e1:k=2->op=28
 n1:¬k=1
 n17:¬k=17
 wt:k=16->op=21
 e2:¬k=0->op=28->k=2
 d7:¬k=0->op=7->k=3
 d8:¬k=0->op=8->k=4
 d9:¬k=0->op=9->k=4
 d10:¬k=0->op=10->k=5
 d26:¬k=0->op=26->k=22
def alo (op:Int):Ok (CQ op) λk=>KD op k:=by
 refine aW (λx=>x.2=[3,3,4,4,5,6,7,8,9,10,11,12,13,14,15,16,18,19,20,21,22,23,2]/\(x.1=aa->6<=op/\op<=28)) ?_ ?_
 .refine bG (λ_=>aj ⟨rfl,nofun⟩) λg=>aj ⟨rfl,λh=>?_⟩
  rw[g8]at h;exact⟨g,h⟩
 rintro⟨b,x⟩ ⟨e,q⟩;subst e;refine aR (λ_=>aj (by constructor<;>first|decide|(intro h;first|(exact (h rfl).elim)|(cases h;done)))) λh=>?_
 let⟨h1,h2⟩:=q h;dsimp only;rw[fh (n:=op-6) (by omega) (by omega)];refine aQ (by omega) (by simp;omega) (aQ (by omega) (by simp;omega) (aS (aj ?_)));have:op=6\/op=7\/op=8\/op=9\/op=10\/op=11\/op=12\/op=13\/op=14\/op=15\/op=16\/op=17\/op=18\/op=19\/op=20\/op=21\/op=22\/op=23\/op=24\/op=25\/op=26\/op=27\/op=28:=by omega
 rcases this with rfl|rfl|rfl|rfl|rfl|rfl|rfl|rfl|rfl|rfl|rfl|rfl|rfl|rfl|rfl|rfl|rfl|rfl|rfl|rfl|rfl|rfl|rfl;all_goals (constructor<;>decide)
def XI (a n:Int):Ok (vN (a,n)) λr=>n=2->r=0\/r=1:=by
 refine bG (λ_=>aj λh=>(by simp)) λh=>?_
 refine n_ (by omega) ?_;have q:=Int.lt_tmod_of_pos a (b:=n) (by omega);refine aW (λr=>n=2->r=0\/r=1) (bG (λg=>aj λh2=>?_) λg=>aj λh2=>?_) λ_ h=>aj h
 .dsimp only at g ⊢;rw[fh];omega
 .grind
def UR (i:IT) (t:TT) (hr:∀j∈jU i,0<=j/\j<(l! t.2.1:Int)):Ok (wN (i,t)) λo=>(i.1=7->i.2.2.1=3->i.2.2.2.2.1=2->o=3\/o=4)/\(i.1=9->i.2.1=3->i.2.2.2.2.1=2->o=3\/o=4):=by
 have q:i.1=7\/i.1=9->0<=i.2.2.2.1/\i.2.2.2.1<(l! t.2.1:Int):=λh=>hr _ (by
  unfold jU;(repeat' split)<;>simp<;>omega)
 have tr:∀{o:Int},¬i.1=7->¬i.1=9->(i.1=7->i.2.2.1=3->i.2.2.2.2.1=2->o=3\/o=4)/\(i.1=9->i.2.1=3->i.2.2.2.2.1=2->o=3\/o=4):=λh1 h2=>⟨λh=>(h1 h).elim,λh=>(h2 h).elim⟩
 have I:∀{b r n:Int},b=3->n=2->(n=2->r=0\/r=1)->aT .i64 (b+r)=3\/aT .i64 (b+r)=4:=λh1 h2 h3=>by
  rw[fh];omega
 refine aW (λx=>x.2=(i,t)/\(x.1=J->i.1=6\/i.1=27)) (aG (λh=>aj ⟨rfl,λ_=>.inl h⟩) λ_=>aj ⟨rfl,λh=>.inr (aZ h)⟩) ?_;rintro⟨b,x⟩ ⟨e,hb⟩;subst e;refine aR (λh=>aj (tr (by grind) (by grind))) λ_=>?_
 refine aG (λh=>?_) λA=>?_
 .exact aQ (q (.inl h)).1 (q (.inl h)).2 (aS (au (XI _ _) λy D=>aj ⟨λ_ h3 h4=>I h3 h4 D,λh9=>by dsimp only at h;omega⟩))
 refine aG (λh=>?_) λN=>?_
 .exact aQ (q (.inr h)).1 (q (.inr h)).2 (aS (au (XI _ _) λy D=>aj ⟨λh7=>(A h7).elim,λ_ h3 h4=>I h3 h4 D⟩))
 refine aW (λ_=>True) ?_ λx _=>aR (λ_=>aj (tr A N)) λ_=>aj (tr A N)
 with_reducible repeat' first|apply OS.ok;constructor|refine IM.mk λ_=>?_
 all_goals trivial
def apa {w:WT} (q:w.1=C0) {n:Int} (h:AR w a n):a=3/\n=2:=by
 let⟨b0,b1,ix,sz,sn⟩:=h;rw[q]at b1 ix sz sn;have b1:a<5:=b1;rcases (by omega:a=0\/a=1\/a=2\/a=3\/a=4) with rfl|rfl|rfl|rfl|rfl
 .exact (sz rfl).elim
 .exact (sz rfl).elim
 .exact (sz rfl).elim
 .exact⟨rfl,sn.symm⟩
 .exact bc ix (by decide)
def aom {w:WT} (q:w.1=C0) (h:a=3\/a=4):¬(aw mb w.1 a).2.2.1=0:=by
 rw[q];rcases h with rfl|rfl<;>decide
structure PE (n:Nat) (c:CT) (s:ST) (t:Int) (e:ET):Prop where
 fs:FSx c s
 t0:0<=t
 t1:t<(l! c.2:Int)
 et:e.1=t
 d:l! e.2.2.2.2.2.1<=n
 f:l! e.2.2.2.2.2.2<=n
 a:e.2.1=3\/e.2.1=23\/e.2.1=5->0<=(aw sx (aw yP c.2 t).2 (aw fg s.2.2.2 t).1).2.1/\(aw sx (aw yP c.2 t).2 (aw fg s.2.2.2 t).1).2.1<((aw fg s.2.2.2 t).2.1.length:Int)
 b:e.2.1=4\/e.2.1=22->0<=(aw sx (aw yP c.2 t).2 (aw fg s.2.2.2 t).1).2.2.1/\(aw sx (aw yP c.2 t).2 (aw fg s.2.2.2 t).1).2.2.1<((aw fg s.2.2.2 t).2.1.length:Int)
structure PS (c:CT) (L:List ET) (s:ST) (t:Int) (e:ET):Prop where
 tg:TG c L s.1 t (aw fg s.2.2.2 t)
 s1:e.2.1=1\/e.2.1=2->e.2.2.2.2.1= -1
 s2:¬(e.2.1=1\/e.2.1=2)->0<=e.2.2.2.2.1/\e.2.2.2.2.1<l! c.1.2.2.2.2.2/\(aw pS c.1.2.2.2.2.2 e.2.2.2.2.1).1=t
 de:0<l! e.2.2.2.2.2.1->e.2.1=5\/(e.2.1=3\/e.2.1=4)/\¬(aw mb c.1.1 e.2.2.1).2.2.1=0
 fr:0<l! e.2.2.2.2.2.2->e.2.1=4\/e.2.1=22
 da:J6 e.2.2.2.2.2.1
 dq:∀y∈e.2.2.2.2.2.1,FQ L t y
 fa:J6 e.2.2.2.2.2.2
 fq:∀y∈e.2.2.2.2.2.2,FQ L t y
 wt:e.2.1=16->(aw sx (aw yP c.2 t).2 (aw fg s.2.2.2 t).1).1=21
def ZK (n:Nat) (hn:n<=100000) (c:CT) (L:Y ET) (s:ST) (hc:CB c) (hs:SV n L s) (hI:SIv c L s) (t:Int):Ok (oP (c,s,t)) λy=>y.2=J->PE n c s t y.1/\PS c L s t y.1:=by
 unfold oP bg bA bQ bY dt dv bq bV bX bI be aI;refine aW (λx=>x.2.1=c/\x.2.2.1=s/\(x.1=aa->FSx c s/\0<=t/\t<(l! c.2:Int))) ?_ ?_
 .refine au (amf c s hc) λb hb=>?_
  refine dc (λ_=>aj ⟨rfl,rfl,nofun⟩) λh=>?_
  refine bG (λ_=>aj ⟨rfl,rfl,nofun⟩) λg0=>aj ⟨rfl,rfl,λg1=>?_⟩
  dsimp only at g0 g1;rw[gq]at g1;exact⟨hb h,g0,g1⟩
 rintro⟨b,A,s',z⟩ ⟨e1,e2,hb⟩;dsimp only at e1 e2 hb;subst e1 e2;refine aR (λ_=>aj nofun) λh=>?_
 let⟨hf,t0,t1⟩:=hb h;have hk:((t.toNat:Nat):Int)=t:=by omega
 have htf:=hf.t t.toNat (by omega);rw[hk]at htf;have hvt:=hf.vc.t _ (ba (T:=yP) (xs:=A.2) (j:=t) t0 t1);have hth:=hs.ti t0 (by rw[hf.th];exact t1);have key:∀e:ET,e.1=t->l! e.2.2.2.2.2.1<=n->l! e.2.2.2.2.2.2<=n->(e.2.1=1\/e.2.1=17\/KD (aw sx (aw yP A.2 t).2 (aw fg s'.2.2.2 t).1).1 e.2.1)->PE n A s' t e:=by
  intro e h1 h2 h3 h4;have hi:=hvt.i _ (ba (T:=sx) (xs:=(aw yP A.2 t).2) (j:=(aw fg s'.2.2.2 t).1) htf.p0 htf.p1);refine ⟨hf,t0,t1,h1,h2,h3,λh5=>?_,λh5=>?_⟩
  .rw[htf.r];rcases h4 with h4|h4|h4
   .omega
   .omega
   .refine hi.r _ ?_;have N:=h4.ld;have a2:=h4.ge;have a3:=h4.br;revert N a2 a3 h5;generalize (aw sx (aw yP A.2 t).2 (aw fg s'.2.2.2 t).1)=i;intro h5 N a2 a3;exact aov (by omega)
  .rw[htf.r];rcases h4 with h4|h4|h4
   .omega
   .omega
   .refine hi.r _ ?_;have N:=h4.st;have a2:=h4.se;revert N a2 h5;generalize (aw sx (aw yP A.2 t).2 (aw fg s'.2.2.2 t).1)=i;intro h5 N a2;exact aou (by omega)
 have hir:=(hvt.i _ (ba (T:=sx) (xs:=(aw yP A.2 t).2) (j:=(aw fg s'.2.2.2 t).1) htf.p0 htf.p1)).r;rw[<- htf.r]at hir;have hrg:=hc.rg _ (ba (T:=yP) (xs:=A.2) (j:=t) t0 t1);have htg:TG A L s'.1 t (aw fg s'.2.2.2 t):=by
  have:=hI.t t.toNat (by rw[hf.th];omega);rw[hk]at this;refine this.resolve_left λh=>?_
  have:=htf.r;omega
 have hvj:=hf.vc.j t.toNat (by omega);rw[hk]at hvj;have hvj:=hvj _ (ba (T:=sx) (xs:=(aw yP A.2 t).2) (j:=(aw fg s'.2.2.2 t).1) htf.p0 htf.p1);have hC0:=hc.wx.c;refine aQ t0 (by dsimp only;rw[hf.th];exact t1) (aS ?_);refine aQ t0 t1 (aS ?_);refine aQ htf.p0 htf.p1 (aS ?_);have t4:t<(l! s'.1.2.2.2:Int):=by rw[hf.e3,<-hf.vc.tl];exact t1
 have tz:(aw fg s'.2.2.2 t).2.2.1.length=(aw fg s'.2.2.2 t).2.1.length:=by have:=htf.r;have:=htf.t;omega
 refine aQ t0 t4 (aS ?_);refine aG (λ_=>aj λ_=>⟨key _ rfl (dU _) (dU _) (.inl rfl),⟨htg,λ_=>rfl,λh=>(h (.inl rfl)).elim,nofun,nofun,trivial,λy hy=>(by cases hy),trivial,λy hy=>(by cases hy),nofun⟩⟩) λ_=>?_
 refine aG (λh4=>aQ t0 t4 (aS (aj λ_=>⟨key _ rfl (dU _) (dU _) (.inr (.inl rfl)),⟨htg,λh=>(by rcases h with h|h<;>cases h),λ_=>hvj.si (by rw[htg.wi (.inr h4)];decide),nofun,nofun,trivial,λy hy=>(by cases hy),trivial,λy hy=>(by cases hy),nofun⟩⟩))) λ_=>?_
 refine aG (λ_=>?_) λ_=>aj nofun
 refine au (alo _) λk q=>?_
 refine au (UR _ _ hir) λo ho=>?_
 refine aG (λ_=>aj nofun) λD=>?_
 have fin:∀e:ET,e.1=t->e.2.1=k->e.2.2.1=o->e.2.2.2.2.1=(aw sx (aw yP A.2 t).2 (aw fg s'.2.2.2 t).1).2.2.2.2.2->(0<l! e.2.2.2.2.2.1->(aw sx (aw yP A.2 t).2 (aw fg s'.2.2.2 t).1).1=10\/(aw sx (aw yP A.2 t).2 (aw fg s'.2.2.2 t).1).1=7\/(aw sx (aw yP A.2 t).2 (aw fg s'.2.2.2 t).1).1=9)->(0<l! e.2.2.2.2.2.2->(aw sx (aw yP A.2 t).2 (aw fg s'.2.2.2 t).1).1=8\/(aw sx (aw yP A.2 t).2 (aw fg s'.2.2.2 t).1).1=9\/(aw sx (aw yP A.2 t).2 (aw fg s'.2.2.2 t).1).1=26)->TL (FQ L t) n e.2.2.2.2.2.1->TL (FQ L t) n e.2.2.2.2.2.2->PE n A s' t e/\PS A L s' t e:=by
  intro e h1 h2 h3 h4 h5 h6 h7 h8;refine ⟨key e h1 h7.len h8.len (.inr (.inr (h2▸q))),htg,λh=>?_,λh=>?_,λh=>?_,λh=>?_,h7.a,h7.f,h8.a,h8.f,λh=>q.wt (h2▸h)⟩
  .rw[h4];rw[h2]at h;exact hvj.se (q.e1 (h.resolve_left q.n1))
  .rw[h4];rw[h2]at h;exact hvj.si λh9=>h (.inr (q.e2 D h9))
  .rw[h2,h3];rcases h5 h with g|g|g
   .exact .inl (q.d10 D g)
   .obtain⟨q1,q2⟩:=apa hC0 (hvj.a7 g);exact .inr ⟨.inl (q.d7 D g),aom hC0 (ho.1 g q1 q2)⟩
   .obtain⟨q1,q2⟩:=apa hC0 (hvj.a9 g);exact .inr ⟨.inr (q.d9 D g),aom hC0 (ho.2 g q1 q2)⟩
  .rw[h2];rcases h6 h with g|g|g
   .exact .inl (q.d8 D g)
   .exact .inl (q.d9 D g)
   .exact .inr (q.d26 D g)
 clear key htg hvj ho hC0 hrg;revert fin htf hvt hth hir tz q;dsimp only;generalize (aw fg s'.2.2.2 t)=th;generalize (aw sx _ th.1)=i;intro htf hvt hth hir tz q fin;have hlen:∀{j:Int},0<=j->j<(l! th.2.2.1:Int)->TL (FQ L t) n (aw (.sl (.int .i64)) th.2.2.1 j):=λh0 h1=>hth.l _ (ba (T:=.sl (.int .i64)) (xs:=th.2.2.1) h0 h1)
 have hA:i.1=10->0<=i.2.1/\i.2.1<(l! th.2.2.1:Int):=λh=>by
  rw[tz];exact hir _ (aov (.inr (.inr (.inr h))))
 have hB:i.1=8\/i.1=9\/i.1=26->0<=i.2.2.1/\i.2.2.1<(l! th.2.2.1:Int):=λh=>by
  rw[tz];exact hir _ (aou (h))
 have hC:i.1=7\/i.1=9->0<=i.2.2.2.1/\i.2.2.2.1<(l! th.2.2.1:Int):=λh=>by
  rw[tz];exact hir _ (au9 (h))
 refine aW (λx=>x.2.1=th/\x.2.2.1=i/\(x.2.2.2.1.1=t/\x.2.2.2.1.2.1=k/\x.2.2.2.1.2.2.1=o/\x.2.2.2.1.2.2.2.2=i.2.2.2.2.2)/\TL (FQ L t) n x.2.2.2.2/\(0<l! x.2.2.2.2->i.1=10\/i.1=7\/i.1=9)) ?_ ?_
 .refine aG (λh=>?_) λ_=>?_
  .obtain⟨a0,N⟩:=hA h;refine aQ a0 N (aS ?_);have:=hlen a0 N;exact bu (cP this.len (by omega)) (by omega) (aj ⟨rfl,rfl,⟨rfl,rfl,rfl,rfl⟩,this,λ_=>.inl h⟩)
  refine aW (λx=>x.2.2.1=th/\x.2.2.2.1=i/\(x.2.2.2.2.1=t/\x.2.2.2.2.2.1=k/\x.2.2.2.2.2.2.1=o/\x.2.2.2.2.2.2.2.2=i.2.2.2.2.2)/\(x.1=J->i.1=7\/i.1=9)) ?_ ?_
  .refine aG (λh=>aj ⟨rfl,rfl,⟨rfl,rfl,rfl,rfl⟩,λ_=>.inl h⟩) λ_=>aj ⟨rfl,rfl,⟨rfl,rfl,rfl,rfl⟩,λh=>.inr (aZ h)⟩
  rintro⟨b,z0,th',i',t',k',z1⟩ ⟨e1,e2,e3,I⟩;dsimp only at e1 e2 e3 I;subst e1 e2;refine aR (λh=>?_) λ_=>aj ⟨rfl,rfl,e3,TL.nil n,nofun⟩
  let⟨a0,N⟩:=hC (I h);refine aQ a0 N (aS ?_);have:=hlen a0 N;exact bu (cP this.len (by omega)) (by omega) (aj ⟨rfl,rfl,e3,this,λ_=>.inr (I h)⟩)
 rintro⟨z0,th',i',⟨t',k',z1⟩,ds⟩ ⟨e1,e2,e3,hd,hd2⟩;dsimp only at e1 e2 e3 hd hd2;subst e1 e2;refine aW (λx=>(x.2.1.1=t/\x.2.1.2.1=k/\x.2.1.2.2.1=o/\x.2.1.2.2.2.2=i'.2.2.2.2.2)/\x.2.2.1=ds/\TL (FQ L t) n x.2.2.2/\(0<l! x.2.2.2->i'.1=8\/i'.1=9\/i'.1=26)) ?_ ?_
 .refine aW (λx=>x.2=(z0,th',i',(t',k',z1),ds)/\(x.1=J->i'.1=8\/i'.1=9\/i'.1=26)) ?_ ?_
  .exact aG (λh=>aj ⟨rfl,λ_=>.inl h⟩) λ_=>aG (λh=>aj ⟨rfl,λ_=>.inr (.inl h)⟩) λ_=>aj ⟨rfl,λh=>.inr (.inr (aZ h))⟩
  rintro⟨b,x⟩ ⟨e,I⟩;dsimp only at e I;subst e;refine aR (λh=>?_) λ_=>aj ⟨e3,rfl,TL.nil n,nofun⟩
  let⟨a0,N⟩:=hB (I h);refine aQ a0 N (aS ?_);have:=hlen a0 N;exact bu (cP this.len (by omega)) (by omega) (aj ⟨e3,rfl,this,λ_=>I h⟩)
 rintro⟨z2,⟨t2,k2,o2,z3,si⟩,d2,f2⟩ ⟨e1,e2,h1,h2⟩;dsimp only at e1 e2 h1 h2;subst e2;let⟨g1,g2,g3,g4⟩:=e1;exact aj λ_=>fin _ g1 g2 g3 g4 hd2 h2 hd h1
def apy {n:Nat} {k:Int} (h0:0<=k) (h1:k<n):(aw gU (thP n) k).1=0\/(aw gU (thP n) k).1=1:=by
 have hm:=ba (T:=gU) (xs:=thP n) h0 (by rw[RH];exact h1);revert hm;generalize aw gU (thP n) k=z;intro hm;cases n with
 |zero=>cases hm
 |succ n=>
  rcases bk.1 hm with rfl|hm
  .exact .inr rfl
  .grind
def ZI (c:CT) (hwx:WX c.1) (hvt:kF c=Z J) (N:VC c):Ok (vH c) λs=>SV 0 [] s/\SIv c [] s:=by
 unfold vH bg bA bQ cS bY dt dv gz bV AY bX bI be c7 aI cL;refine aU hvt (dc nofun λ_=>?_);let⟨vc,vl,vd,vf,_,vt,_⟩:=id N.vl;have htl:=N.tl;refine aU (ZJ c.1 N.vl) ?_;refine bC (l! c.1.1) (λi x=>x.1=(i:Int)/\x.2.1=c/\x.2.2.2.1=s0P c.1/\x.2.2.2.2=(c.1.1.take i).map λc=>c.2.2.2.2) ?_ ?_ ⟨rfl,rfl,rfl,rfl⟩
 .rintro i ⟨a,I,z,y',l⟩ hi ⟨e1,e2,e3,e4⟩;dsimp only at e1 e2 e3 e4;subst e1 e2 e3 e4;refine cE ?_;refine bK (aS (a! (aj ?_)));dsimp only;exact⟨fH,rfl,rfl,by rw[kA (T:=mb) hi,b7];rfl⟩
 rintro⟨a,I,z,y',l⟩ ⟨e1,e2,e3,e4⟩;dsimp only at e1 e2 e3 e4;subst e1 e2 e3;rw[cH]at e4;subst e4;refine cz ?_;refine au (P:=λs=>SV 0 [] s/\SIv I [] s) ?_ λr hr=>aj hr
 refine bC (l! I.1.2.2.2.1) (λi x=>x.1=(i:Int)/\x.2.1=I/\x.2.2.2.1=s0P I.1/\x.2.2.2.2.1=ce0 I.1/\x.2.2.2.2.2=aD i 0) ?_ ?_ ⟨rfl,rfl,rfl,rfl,rfl⟩
 .rintro i ⟨a,c,z,y,l,f⟩ hi ⟨e1,e2,e3,e4,D⟩;dsimp only at e1 e2 e3 e4 D;subst e1 e2 e3 D;refine cE ?_;refine a! (aj ?_);dsimp only;exact⟨fH,rfl,rfl,e4,by rw[wj]⟩
 rintro⟨a,c,z,y,l,f⟩ ⟨e1,e2,e3,e4,D⟩;dsimp only at e1 e2 e3 e4 D;subst e1 e2 e3 e4 D;refine cz ?_;refine au (P:=λs=>SV 0 [] s/\SIv c [] s) ?_ λr hr=>aj hr
 refine bC (l! c.2) (λi x=>x.1=(i:Int)/\x.2.1=c/\x.2.2.2.1=s0P c.1/\x.2.2.2.2.1=ce0 c.1/\x.2.2.2.2.2.1=fu0 c.1/\l! x.2.2.2.2.2.2=i/\∀t∈x.2.2.2.2.2.2,(∀F,TH F 0 t)/\t.2.2.2=0) ?_ ?_ ⟨rfl,rfl,rfl,rfl,rfl,rfl,λt ht=>(by cases ht)⟩
 .rintro i ⟨a,c,z,y,l,f,th⟩ hi ⟨e1,e2,e3,e4,e4b,D,e6⟩;dsimp only at e1 e2 e3 e4 e4b D e6;subst e1 e2 e3;refine cE ?_;have hin:((i:Nat):Int)<(l! c.2:Int):=by omega
  have hvt:=N.t _ (ba (T:=yP) (xs:=c.2) (j:=(i:Int)) (by omega) hin);have q0:=hvt.r0;have q1:=hvt.r1;refine aQ (by dsimp only;omega) hin (aS ?_);refine bZ (bZ (cK q0 (cK (c6 _) (a! ?_))));refine aQ (by dsimp only;omega) hin (aS ?_);refine bZ (bZ (cK q0 (cK (c6 _) (a! ?_))));refine a! (aj ?_);dsimp only;refine ⟨fH,rfl,rfl,e4,e4b,by simp;omega,λt ht=>?_⟩;rcases bt.1 ht with h|h
  .exact e6 t h
  .rw[aE]at h;subst h;refine ⟨λF=>⟨?_,?_,λl hl=>?_,c6 _,c6 _,λz A=>by rw[qX A];exact IW.sm (by decide) (by decide)⟩,rfl⟩
   .dsimp only;rw[cR];omega
   .dsimp only;rw[cR];omega
   .rw[qX hl];exact TL.nil 0
 .rintro⟨a,c,z,y,l,f,th⟩ ⟨e1,e2,e3,e4,e4b,D,e6⟩;dsimp only at e1 e2 e3 e4 e4b D e6;subst e1 e2 e3 e4 e4b;refine cz (aj ?_);have hm:∀k:Nat,k<l! th->_:=λk hk=>e6 _ (ba (T:=fg) (xs:=th) (j:=(k:Int)) (by omega) (by omega))
  refine ⟨⟨aq9 N.vl,rfl,λk hk=>(hm k hk).1 _,λz A=>?_,λz A=>by rw[qX A];exact IW.sm (by decide) (by decide)⟩,⟨.nil,λk hk=>.inr ?_⟩⟩
  .have A:z∈ce0 c.1:=A;unfold ce0 at A;rw[hwx.c]at A;have:∀z:Int,z∈C0.map (λc=>c.2.2.2.2)-> -1000000<=z/\z<=1000000:=by decide
   exact IW.sm (this z A).1 (this z A).2
  dsimp only at hk;have hst:=apy (n:=l! c.1.2.2.2.2.1) (k:=(k:Int)) (by omega) (by omega);exact⟨(hm k hk).2,λh=>(by rcases hst with q|q<;>rcases h with h|h<;>exact bc (q.symm.trans h) (by decide)),λ_=>hst⟩
variable {Q:Y (Int×Int×Bool)}
def LB {x j:Int} (h0:0<=a) (h1:a<l! Q) (q:0<=j):(aw gU (Dx Q a x) j).1=if j=a then x else (aw gU Q j).1:=by
 unfold Dx;rw[kx (T:=gU) _ _ _ _ h0 h1 q];split<;>rfl
def ap5 {x j:Int} (h0:0<=a) (h1:a<l! Q) (q:0<=j):(aw gU (cdP Q a x) j).1=(aw gU Q j).1:=by
 unfold cdP;rw[kx (T:=gU) _ _ _ _ h0 h1 q];split
 next h=>rw[h]
 .rfl
def ap9 {j:Int} {x:Bool} (h0:0<=a) (h1:a<l! Q) (q:0<=j):(aw gU (atP Q a x) j).1=(aw gU Q j).1:=by
 unfold atP;rw[kx (T:=gU) _ _ _ _ h0 h1 q];split
 next h=>rw[h]
 .rfl
def aox (A:0<=a):∀(l:η) (th:Y i?),(∀u:Int,u∈l->0<=u/\u<l! th)->(aw gU (IY th l) a).1=if a∈l then 4 else (aw gU th a).1
 |[],th,_=>by simp[IY]
 |x::r,th,h=>by
  have q:=h x (cj ..);have D:=aox A r (Dx th x 4) λu I=>by unfold Dx;rw[bM];exact h u (bP _ I)
  have e:IY th (x::r)=IY (Dx th x 4) r:=rfl;rw[e,D,LB q.1 q.2 A]
  grind
def Xo {w:WT} {s:SY} {k o u v:Int} {sy:SY} (h:(sy,v)=qD w s a k o u):qD w s a k o v=(sy,v):=by
 by_cases A:k=18
 .subst A;rw[Iz]at h ⊢;by_cases q:l! (wl s.2.2.2 o (l! s.2.2.2))=0
  .grind
  .rw[ay q]at h ⊢;have hm:=G3 u q;generalize wl s.2.2.2 o (l! s.2.2.2)=l at h q hm ⊢;obtain⟨rfl,rfl⟩:=Prod.mk.inj h;have:Do l (Do l u)=Do l u:=by
    rw[Do,ay q,aK (bR.2 hm)]
   rw[this]
 .rw[Rm _ _ _ _ _ _ u A,<-h]
def ark {w:WT} {s:SY} {k o:Int} (u:Int) (he:EN w s a k o) (hr:IE w s a k o) {j:Int} (h0:0<=j):(¬j=a->(aw gU (qD w s a k o u).1.2.2.2 j).1=(aw gU s.2.2.2 j).1\/((aw gU s.2.2.2 j).1=3/\(aw gU (qD w s a k o u).1.2.2.2 j).1=4)\/((aw gU s.2.2.2 j).1=0/\(aw gU (qD w s a k o u).1.2.2.2 j).1=1))/\(j=a->¬k=16->¬(aw gU (qD w s a k o u).1.2.2.2 j).1=3/\¬(aw gU (qD w s a k o u).1.2.2.2 j).1=4):=by
 have t0:=he.t0;have t1:a<l! s.2.2.2:=by have:=he.t1;have:=he.e3;omega
 have A:=hr.r;have hml:∀u:Int,u∈wl s.2.2.2 o (l! s.2.2.2)->0<=u/\u<l! s.2.2.2:=λu hu=>⟨(vz.1 hu).1,(vz.1 hu).2.1⟩
 have h3:∀u:Int,u∈wl s.2.2.2 o (l! s.2.2.2)->(aw gU s.2.2.2 u).1=3:=λu hu=>by
  have:=(vz.1 hu).2.2;unfold P9 at this;rw[ak]at this;exact aZ this.1
 have same:¬k=1->¬k=17->∀th:Y i?,(aw gU th j).1=(aw gU s.2.2.2 j).1->(¬j=a->(aw gU th j).1=(aw gU s.2.2.2 j).1\/((aw gU s.2.2.2 j).1=3/\(aw gU th j).1=4)\/((aw gU s.2.2.2 j).1=0/\(aw gU th j).1=1))/\(j=a->¬k=16->¬(aw gU th j).1=3/\¬(aw gU th j).1=4):=λt b th h=>⟨λ_=>.inl h,λh2 _=>by rw[h,h2,A t b];decide⟩
 have st:∀x:Int,¬x=3\/k=16->¬x=4->∀th:Y i?,(aw gU th j).1=(if j=a then x else (aw gU s.2.2.2 j).1)->(¬j=a->(aw gU th j).1=(aw gU s.2.2.2 j).1\/((aw gU s.2.2.2 j).1=3/\(aw gU th j).1=4)\/((aw gU s.2.2.2 j).1=0/\(aw gU th j).1=1))/\(j=a->¬k=16->¬(aw gU th j).1=3/\¬(aw gU th j).1=4):=λx hx hx4 th h=>⟨λhn=>.inl (by rw[h,ay hn]),λh2 h16=>by rw[h,aK h2];exact⟨hx.resolve_right h16,hx4⟩⟩
 have I:∀x:Int,a<l! (Dx s.2.2.2 a x):=λx=>by unfold Dx;rw[bM];exact t1
 by_cases k1:k=1
 .subst k1;exact st 2 (.inl (by decide)) (by decide) _ (LB t0 t1 h0)
 by_cases k2:k=2
 .subst k2;exact st 5 (.inl (by decide)) (by decide) _ (LB t0 t1 h0)
 by_cases k16:k=16
 .subst k16;exact st 3 (.inr rfl) (by decide) _ ((ap5 t0 (I _) h0).trans (LB t0 t1 h0))
 by_cases k17:k=17
 .subst k17;exact st 2 (.inl (by decide)) (by decide) _ ((ap5 t0 (I _) h0).trans (LB t0 t1 h0))
 by_cases k14:k=14
 .subst k14;exact same k1 k17 _ (ap9 t0 t1 h0)
 by_cases k15:k=15
 .subst k15;exact same k1 k17 _ (ap9 t0 t1 h0)
 by_cases k18:k=18
 .subst k18;rw[Iz];by_cases hl:l! (wl s.2.2.2 o (l! s.2.2.2))=0
  .rw[aK hl];exact same k1 k17 _ rfl
  .rw[ay hl];have hc:=G3 u hl;have N:=hml _ hc;have q:=h3 _ hc;dsimp only;rw[LB N.1 N.2 h0];generalize Do (wl s.2.2.2 o (l! s.2.2.2)) u=c at q;by_cases D:j=c
   .rw[aK D,D];exact⟨λ_=>.inr (.inl ⟨q,rfl⟩),λh _=>by rw[h,A k1 k17]at q;exact bc q (by decide)⟩
   .rw[ay D];exact⟨λ_=>.inl rfl,λh _=>by rw[h,A k1 k17];decide⟩
 by_cases k19:k=19
 .subst k19;show (_->(aw gU (IY _ _) j).1=_\/_/\(aw gU (IY _ _) j).1=_\/_/\(aw gU (IY _ _) j).1=_)/\(_->_->¬(aw gU (IY _ _) j).1=_/\¬(aw gU (IY _ _) j).1=_)
  rw[aox h0 _ _ hml];by_cases D:j∈wl s.2.2.2 o (l! s.2.2.2)
  .rw[aK D];have q:=h3 _ D;exact⟨λ_=>.inr (.inl ⟨q,rfl⟩),λh _=>by rw[h,A k1 k17]at q;exact bc q (by decide)⟩
  .rw[ay D];exact⟨λ_=>.inl rfl,λh _=>by rw[h,A k1 k17];decide⟩
 by_cases k20:k=20
 .subst k20;let⟨o0,o1⟩:=he.nm.th (.inl rfl);let⟨hot,ho0⟩:=hr.sp rfl;have o1':o<l! s.2.2.2:=by rw[he.e3];exact o1
  show (_->(aw gU (Dx _ _ _) j).1=_\/_/\(aw gU (Dx _ _ _) j).1=_\/_/\(aw gU (Dx _ _ _) j).1=_)/\(_->_->¬(aw gU (Dx _ _ _) j).1=_/\¬(aw gU (Dx _ _ _) j).1=_)
  rw[LB o0 o1' h0];by_cases D:j=o
  .rw[aK D,D];exact⟨λ_=>.inr (.inr ⟨ho0,rfl⟩),λh _=>(hot h).elim⟩
  .rw[ay D];exact⟨λ_=>.inl rfl,λh _=>by rw[h,A k1 k17];decide⟩
 refine same k1 k17 _ ?_;unfold qD;rw[ay k1,ay k2];repeat' split
 all_goals first|rfl|omega
def ame {e e':ET} (h1:e'.1=e.1) (h2:e'.2.1=e.2.1) (t:Int):fl [e'] t=fl [e] t:=by
 by_cases h:e.1=t
 .rw[BW h,BW (h1.trans h)];unfold nW;rw[h2]
 .rw[yg h,yg (λg=>h (h1.symm.trans g))]
def aoe {e e':ET} (h1:e'.1=e.1) (h2:e'.2.1=e.2.1) {y:Int} (h:FQ (L++[e]) a y):FQ (L++[e']) a y:=by
 unfold FQ FLG at h ⊢;rw[uG,ame h1 h2,<-uG];exact h
def MF (xs:Y T.den) (i k:Nat) (x:T.den) (hi:i<l! xs):aw _ (xs.set i x) (k:Int)=if k=i then x else aw _ xs (k:Int):=by
 refine (kx xs (i:Int) (k:Int) x (by omega) (by omega) (by omega)).trans ?_
 grind
abbrev z?:=ST×ET×Bool
def SQ (n:Nat) (c:CT) (L:Y ET) (y:z?):Prop:=y.2.2=J->SV (n+1) (L++[y.2.1]) y.1/\SIv c (L++[y.2.1]) y.1/\EvF c.1 y.2.1/\EvS y.2.1/\IWe y.2.1
variable {c:η}
def anp (hn:m+1<=100000) {ds:CT} {s:ST} {o v0 D:Int} {fs:η} {sy:SY} (hs:SV m L s) (hI:SIv ds L s) (hp:PE m ds s (i:Int) ((i:Int),a,o,v0,D,c,fs)) (hm:PS ds L s (i:Int) ((i:Int),a,o,v0,D,c,fs)) (he:EN ds.1 s.1 (i:Int) a o) (hr:IE ds.1 s.1 (i:Int) a o) (ha:AP m s.1 sy) (I:Int) (ce fu:η) (t':TT) (hap:(qD ds.1 s.1 (i:Int) a o I).1=sy) (hva:VA ds.1 s.1 s.2.1 s.2.2.1 (i:Int) a o I) (hce:ce=Rf s.2.1 ((i:Int),a,o,I,D,c,fs)) (hfu:fu=S6 s.2.2.1 ((i:Int),a,o,I,D,c,fs)) (ht:TH (FQ (L++[((i:Int),a,o,v0,D,c,fs)]) (i:Int)) (m+1) t') (hiw:IWe ((i:Int),a,o,I,D,c,fs)) (hg:l! t'.2.1=0\/t'.2.2.2=aT .i64 ((aw fg s.2.2.2 (i:Int)).2.2.2+1)/\(a=16->t'.1=(aw fg s.2.2.2 (i:Int)).1)):SQ m ds L ((sy,ce,fu,s.2.2.2.set i t'),((i:Int),a,o,I,D,c,fs),J):=by
 intro _;have q1:=hp.t1;have q2:=hp.fs.th;have q3:=hp.fs.e3;have q4:=hp.fs.vc.tl;have hil:i<l! s.2.2.2:=by omega
 have hln:=hs.ln;refine ⟨⟨ha.toSB hs.sb hn,by simp[hln],λk hk=>?_,λz A=>?_,λz A=>?_⟩,⟨?_,λk hk=>?_⟩,⟨he.nm,he.t0,he.t1,he.cd⟩,⟨cP hp.d (by omega),cP hp.f (by omega)⟩,hiw⟩
 .dsimp only at hk ⊢;rw[dI]at hk;rw[MF (T:=fg) _ _ _ _ hil];split
  next h=>subst h;exact ht.mono (bi _) λy N=>aoe (e:=((k:Int),a,o,v0,D,c,fs)) (e':=((k:Int),a,o,I,D,c,fs)) rfl rfl N
  .exact (hs.t k hk).mono (by omega) λy N=>⟨N.1,N.2.app _⟩
 .dsimp only at A;rw[hce]at A;unfold Rf at A;split at A
  .rename_i q;rcases kB A with A|A
   .exact hs.cw z A
   .rw[A];exact hiw (.inl q)
  .exact hs.cw z A
 .dsimp only at A;rw[hfu]at A;unfold S6 at A;split at A
  .rename_i q;rcases kB A with A|A
   .exact hs.fw z A
   .rw[A];exact hiw (.inr q)
  .exact hs.fw z A
 .rw[<- hap,hce,hfu];exact hI.ac.snoc (e:=((i:Int),a,o,I,D,c,fs)) ⟨he,hr,hm.s1,hm.s2,hm.de,hm.fr,⟨hm.da,λx hx=>⟨(hm.dq x hx).1,(hm.dq x hx).2.lt⟩⟩,⟨hm.fa,λx hx=>⟨(hm.fq x hx).1,(hm.fq x hx).2.lt⟩⟩,λy N=>(hm.dq y N).2,λy N=>(hm.fq y N).2,hva⟩
 .dsimp only at hk ⊢;rw[dI]at hk;rw[MF (T:=fg) _ _ _ _ hil];let⟨LC,st2⟩:=ark I he hr (j:=(k:Int)) (by omega);rw[hap]at LC st2;have hfl:=VW L (i:Int);split
  .rename_i h;subst h;rcases hg with hg|⟨g1,g2⟩
   .exact .inl hg
   .refine .inr ⟨?_,λhw=>?_,λA=>?_⟩
    .rw[g1,hm.tg.ev,uG,BW rfl,fH];simp
    .have h16:a=16:=xj λh=>hw.elim (st2 rfl h).1 (st2 rfl h).2
     rw[g2 h16];exact hm.wt h16
    .rw[uG,BW rfl]at A;simp at A
  .rename_i h;have hki:¬(k:Int)=(i:Int):=by omega
   have hfo:∀e:ET,e.1=(i:Int)->fl (L++[e]) (k:Int)=fl L (k:Int):=λe h=>by
    rw[uG,yg (by rw[h];exact λh=>hki h.symm),cJ]
   have LC:=LC hki;refine (hI.t k hk).imp id λg=>⟨by rw[hfo _ rfl];exact g.ev,λhw=>g.wi (by
    rcases LC with h1|⟨h1,_⟩|⟨_,h1⟩
    .rw[<- h1];exact hw
    .exact .inl h1
    .exact hw.elim (λh=>bc (h1.symm.trans h) (by decide)) λh=>bc (h1.symm.trans h) (by decide)),λA=>?_⟩
   rw[hfo _ rfl]at A;have g2:=g.nw A;rcases LC with h1|⟨h1,_⟩|⟨_,h1⟩
   .rw[h1];exact g2
   .exact (g2.elim (λh=>bc (h1.symm.trans h) (by decide)) λh=>bc (h1.symm.trans h) (by decide))
   .exact .inr h1
def X' {α:Type} (o:M α):av o (λ_=>(U:M R))=U:=by cases o<;>rfl
def aih (b:Bool):chk b (λ_=>(U:M R))=U:=by cases b<;>rfl
def alm {α:Type} (x:α):lt x (λ_=>(U:M R))=U:=rfl
def OkN (o:M R) (Q:R->Prop):Prop:=o=U\/Ok o Q
def OkN.or {a b:M R} {Q:R->Prop} (A:OkN a Q) (q:OkN b Q):OkN (orE a b) Q:=by
 rcases A with rfl|⟨y,rfl,h⟩
 .exact q
 .exact .inr ⟨y,rfl,h⟩
def Ok.orL {a b:M R} {Q:R->Prop} (q:Ok a Q):Ok (orE a b) Q:=by
 obtain⟨y,rfl,h⟩:=q;exact⟨y,rfl,h⟩
def OkN.orR {a b:M R} {Q:R->Prop} (A:OkN a Q) (q:Ok b Q):Ok (orE a b) Q:=by
 rcases A with rfl|⟨y,rfl,h⟩
 .exact q
 .exact⟨y,rfl,h⟩
def LA (hn:i+1<=100000) {c:CT} {s:ST} {u:Int} (N:CB c) (I:SV i L s) (hI:SIv c L s) (G:M z?->Prop) (hG:∀y,SQ i c L y->G (Z y)) (k:ET×Bool->SY×c?->M z?)
 (hk:∀e v sy,PE i c s a e->PS c L s a e->EN c.1 s.1 a e.2.1 e.2.2.1->IE c.1 s.1 a e.2.1 e.2.2.1->AP i s.1 sy->(sy,v)=qD c.1 s.1 a e.2.1 e.2.2.1 u->G (k (e,J) (sy,v,J))):
 G (av (oP (c,s,a)) λq=>aJ (!q.2) (Z ((([],0,[],[]),[],[],[]),(0,0,0,0,0,[],[]),aa)) (av (qL (c.1,s.1,a,q.1.2.1,q.1.2.2.1,u)) λA=>aJ (!A.2.2) (Z ((([],0,[],[]),[],[],[]),(0,0,0,0,0,[],[]),aa)) (k q A))):=by
 have D:=hG ((([],0,[],[]),[],[],[]),(0,0,0,0,0,[],[]),aa) nofun
 let⟨⟨e,b⟩,h1,h2⟩:=ZK i (by omega) c L s N I hI a;rw[h1,R_];cases b with
 |false=>exact D
 |true=>
  let⟨hp,hm⟩:=h2 rfl;have hcd:l! c.1.2.2.1<=1000:=by have:=hp.fs.vc.vl.d;omega
  let⟨⟨sy,v,b⟩,h3,h4,_,_⟩:=Ov c.1 s.1 I.sb hcd a e.2.1 e.2.2.1 u;have e0:∀{R:Type} (t b:M R),aJ (!J) t b=b:=λ_ _=>rfl
  rw[e0,h3,R_];cases b with
  |false=>exact D
  |true=>grind
def kdx (k:Int):k=1\/k=16\/k=2\/k=3\/k=23\/k=4\/k=22\/k=5\/((k=1)=False/\(k=16)=False/\(k=2)=False/\(k=3)=False/\(k=23)=False/\(k=4)=False/\(k=22)=False/\(k=5)=False):=by grind
def KR (n:Nat) (D:CT) (L:Y ET) (i:Nat) (u:Int) (l:Y TT) (z:R) (k:Int->(CT×SY×(ν)×Int×(υ)×ET×(ν)×(η)×(η)×R×(η)×Y η)->M z?):Prop:=
 ∀(F:Int->Prop) (p:Int) (sy:SY) (kd o v I:Int) (ds fs ce N A:η) (T:Y η) (ev:Int),
  (kd≠16->kd≠2->Ok (ol (aw yP D.2 (i:Int),(p,A,T,aT .i64 (ev+1)))) λy=>TH F (n+1) y.1/\(l! y.1.2.1=0\/y.1.2.2.2=aT .i64 (ev+1)))->
  (kd=16\/kd=2->TH F (n+1) (p,A,T,aT .i64 (ev+1)))->
  (∀q,TH F (n+1) q->(l! q.2.1=0\/q.2.2.2=aT .i64 (ev+1)/\(kd=16->q.1=p))->SQ n D L ((sy,ce,N,l.set i q),((i:Int),kd,o,v,I,ds,fs),J))->(i:Int)<(l! D.2:Int)->
  ∀pc,Ok (k p (D,sy,((i:Int),u),0,(0,0,0,0,0),((i:Int),kd,o,v,I,ds,fs),(pc,ev),ce,N,z,A,T)) (SQ n D L)
def D6 (N n:Nat) {cp:SY×(η)×(η)×Y TT->M (Int×(Y (Int×η))×(θ)×(Y (Int×Int×Bool))×(η)×(η)×R×(η)×Y η)} {pc ev:R->Int} {k:Int->(CT×SY×(ν)×Int×(υ)×ET×(ν)×(η)×(η)×R×(η)×Y η)->M z?} (hn:i+1<=100000) (q:CT) (L:Y ET) (s:ST) (t u:Int) (hc:CB q) (hs:SV i L s) (hI:SIv q L s)
 (h0:∀sy ce fu (l:Y TT),l! l<=4->l! l≠N->cp (sy,ce,fu,l)=U)
 (h1:∀sy ce fu (l:Y TT),SV i L (sy,ce,fu,l)->l! ce<=1000->l! fu<=1000->l! l=N->n<N/\∃y,cp (sy,ce,fu,l)=Z y/\y.2.2.2.2.1=ce/\y.2.2.2.2.2.1=fu/\y.2.2.2.2.2.2.2.1=(aw fg l (n:Int)).2.1/\y.2.2.2.2.2.2.2.2=(aw fg l (n:Int)).2.2.1/\pc y.2.2.2.2.2.2.1=(aw fg l (n:Int)).1/\ev y.2.2.2.2.2.2.1=(aw fg l (n:Int)).2.2.2/\KR i q L n u l y.2.2.2.2.2.2.1 k):
 OkN (SG (n:Int) cp pc ev k (q,s,t,u)) (SQ i q L)/\(l! s.2.2.2=N->t=(n:Int)->Ok (SG (n:Int) cp pc ev k (q,s,t,u)) (SQ i q L)):=by
 by_cases hz:l! s.2.2.2=N/\t=(n:Int)
 .obtain⟨hz1,rfl⟩:=hz;suffices h:Ok (SG (n:Int) cp pc ev k (q,s,(n:Int),u)) (SQ i q L) from ⟨.inr h,λ_ _=>h⟩
  unfold SG Prod.n Prod.q Prod.p bg bA bQ cS ji RA Prod.p8 Prod.m Prod.s Prod.r Prod.u bY dt tb Prod.o ck bq bI mn aI;refine LA hn hc hs hI (λo=>Ok o (SQ i q L)) (λy h=>aj h) _ λe v sy hp hm he hr ha hq=>?_
  obtain⟨sy0,ce,fu,l⟩:=s;obtain⟨e1,kd,o,e4,site,ds,fs⟩:=e;have het:=hp.et;dsimp only at hz1 he hr ha hq het;subst het;have vl:=hp.fs.vc.vl;have hce:=hp.fs.ce;have hfu:=hp.fs.fu;dsimp only at hce hfu;obtain⟨hiN,⟨q1,q2,q3,q4,ce',fu',z,R0,T0⟩,hcp,g1,g2,g3,g4,hpc,hve,hk⟩:=h1 sy0 ce fu l hs (by have:=vl.c;omega) (by have:=vl.f;omega) hz1;dsimp only at g1 g2 g3 g4 hpc hve hk;rw[g1,g2,g3,g4]at hcp;obtain⟨_,_,nmce,_,_,_,nmfu,_,_,_⟩:=id he.nm;have t1:(n:Int)<(l! q.2:Int):=hp.t1;have htf:TF (aw yP q.2 (n:Int)) (aw fg l (n:Int)):=hp.fs.t n (by omega);have hA:=hp.a;have hB:=hp.b;dsimp only at hA hB;have hvt:=hp.fs.vc.t _ (ba (T:=yP) (xs:=q.2) (j:=(n:Int)) (by omega) t1);have hci:=hc.ins _ (ba (T:=yP) (xs:=q.2) (j:=(n:Int)) (by omega) t1);have hcn:=hc.cn _ (ba (T:=yP) (xs:=q.2) (j:=(n:Int)) (by omega) t1);have hcw:=hs.cw;have hfw:=hs.fw;dsimp only at hcw hfw;have hth:TH (FQ L (n:Int)) i (aw fg l (n:Int)):=hs.t n (by dsimp only;omega);have done:=anp hn hs hI hp hm he hr ha;have htg:=hm.tg;have hrun:=hr.r;dsimp only at done htg;have hgv:kd=3\/kd=23->FQ (L++[((n:Int),kd,o,e4,site,ds,fs)]) (n:Int) (aw fg l (n:Int)).2.2.2:=λh3=>by
   have h2:=hrun (by omega) (by omega);have hn0:¬l! (fl L (n:Int))=0:=λh=>(htg.nw h).elim (λg=>bc (h2.symm.trans g) (by decide)) λg=>bc (h2.symm.trans g) (by decide)
   refine ⟨by rw[htg.ev];omega,FLG.last (e:=((n:Int),kd,o,e4,site,ds,fs)) ?_ htg.ev⟩;unfold nW;rcases h3 with h|h
   .rw[aO h];rfl
   .simp[h]
  have vaA:¬kd=3->¬kd=23->¬kd=5->VA q.1 sy0 ce fu (n:Int) kd o v:=λa b c=>⟨λh=>(a h).elim,λh=>(b h).elim,λh=>(c h).elim,λ_ _ _ _ _=>by rw[Xo hq]⟩
  have apA:(qD q.1 sy0 (n:Int) kd o v).1=sy:=by rw[Xo hq]
  have apB:¬kd=18->∀v',(qD q.1 sy0 (n:Int) kd o v').1=sy:=λh v'=>by rw[Rm _ _ _ _ _ _ u h,<-hq]
  have keep:∀x∈(aw fg l (n:Int)).2.2.1,TL (FQ (L++[((n:Int),kd,o,e4,site,ds,fs)]) (n:Int)) (i+1) x:=λx hx=>(hth.l x hx).mono (by omega) λy hy=>⟨hy.1,hy.2.app _⟩
  clear g3 g4 hm hI hrun htg;revert done hgv keep;generalize FQ (L++[((n:Int),kd,o,e4,site,ds,fs)]) (n:Int)=F;generalize aw fg l (n:Int)=th at hcp hpc hve htf hA hB hth ⊢;intro done hgv keep;refine aU hcp ?_;dsimp only;rw[hpc,hve];refine mL (aO rfl) ?_;refine aQ (by omega) t1 (aS (aQ htf.p0 htf.p1 (aS ?_)));have htz:l! th.2.2.1=l! th.2.1:=by have:=htf.r;have:=htf.t;omega
  have fin:∀(p:Int) (A:η) (T:Y η),l! A=l! th.2.1->l! T=l! th.2.2.1->(∀x∈T,TL F (i+1) x)->(∀z∈A,IW z)->Ok (ol (aw yP q.2 (n:Int),(p,A,T,aT .i64 (th.2.2.2+1)))) λy=>TH F (i+1) y.1/\(l! y.1.2.1=0\/y.1.2.2.2=aT .i64 (th.2.2.2+1)):=λp A T h1 h2 h3 h4=>by
   have D:=hth.e0;have a2:=hth.e1;have a3:=hth.r;have a4:=hth.t;rw[fh (n:=th.2.2.2+1) (by omega) (by omega)];exact ael (i+1) hn _ hci hvt hcn _ ⟨by dsimp only;omega,by dsimp only;omega,h3,by dsimp only;omega,by dsimp only;omega,h4⟩
  have mark:kd=3\/kd=23->∀j:Int,∀x∈ca th.2.2.1 j [th.2.2.2],TL F (i+1) x:=λh3 j x hx=>by
   rcases kB hx with h|h
   .exact keep x h
   .rw[h];exact⟨⟨λy hy=>(by cases hy),trivial⟩,λy hy=>by rw[aE]at hy;have:=hth.e0;have:=hth.e1;rw[hy];exact⟨by omega,by omega⟩,λy hy=>by rw[aE]at hy;rw[hy];exact hgv h3⟩
  have wset:∀{v:Int},IW v->∀{j:Int},∀z∈ca th.2.1 j v,IW z:=λ{v} hv {j} z hz=>by
   rcases kB hz with h|h
   .exact hth.w z h
   .rw[h];exact hv
  have no4:∀{k:Int} {e:Int×O!} {o v:Int},¬k=4->¬k=22->IWe ((n:Int),k,o,v,e):=λh1 h2 h=>(h.elim h1 h2).elim
  have nopark:TH F (i+1) (th.1,th.2.1,th.2.2.1,aT .i64 (th.2.2.2+1)):=by
   have D:=hth.e0;have a2:=hth.e1;rw[fh (n:=th.2.2.2+1) (by omega) (by omega)];exact⟨hth.r,hth.t,keep,by dsimp only;omega,by dsimp only;omega,hth.w⟩
  clear hp hs hc h0 h1 hcp g1 g2 hr ha hq he;generalize (aw sx (aw yP q.2 (n:Int)).2 th.1)=ins at hA hB ⊢;rcases kdx kd with rfl|rfl|rfl|rfl|rfl|rfl|rfl|rfl|⟨k1,k2,k3,k4,k5,k6,k7,k8⟩
  case inr.inr.inr.inr.inr.inr.inr.inr=>
   simp only[k1,k2,k3,k4,k5,k6,k7,k8,ec,dA,OC];refine hk F _ _ _ _ _ _ _ _ _ _ _ _ _ (λ_ _=>fin _ _ _ rfl rfl keep hth.w) (λh=>by rw[k2,k3]at h;exact (h.elim id id).elim) (λt' h g=>?_) t1 _;exact done v ce fu t' apA (vaA (of_eq_false k4) (of_eq_false k5) (of_eq_false k8)) (ay (of_eq_false k6)).symm (ay (of_eq_false k7)).symm h (no4 (of_eq_false k6) (of_eq_false k7)) (g.imp id λh=>⟨h.1,λh2=>(of_eq_false k2 h2).elim⟩)
  all_goals simp only[ec,dA,OC]
  .refine hk F _ _ _ _ _ _ _ _ _ _ _ _ _ (λ_ _=>fin _ _ _ rfl rfl keep hth.w) (λh=>by omega) (λt' h g=>?_) t1 _;exact done v ce fu t' apA (vaA (by decide) (by decide) (by decide)) rfl rfl h (no4 (by decide) (by decide)) (g.imp id λh=>⟨h.1,nofun⟩)
  .refine hk F _ _ _ _ _ _ _ _ _ _ _ _ _ (λh _=>(h rfl).elim) (λ_=>nopark) (λt' h g=>?_) t1 _;exact done v ce fu t' apA (vaA (by decide) (by decide) (by decide)) rfl rfl h (no4 (by decide) (by decide)) g
  .refine hk F _ _ _ _ _ _ _ _ _ _ _ _ _ (λ_ h=>(h rfl).elim) (λ_=>nopark) (λt' h g=>?_) t1 _;exact done v ce fu t' apA (vaA (by decide) (by decide) (by decide)) rfl rfl h (no4 (by decide) (by decide)) (g.imp id λh=>⟨h.1,nofun⟩)
  .obtain⟨o0,o1⟩:=nmce (.inl rfl);rw[<- hce]at o1;obtain⟨I,D⟩:=hA (.inl rfl);have a2:ins.2.1<(l! th.2.2.1:Int):=by rw[htz];exact D
   refine gK (aQ o0 o1 (aQ o0 o1 (aj ?_)));simp only[ec,dA,OC];refine gK (aQ I D (aQ I D (aQ I a2 (aQ I a2 (aj ?_)))));refine hk F _ _ _ _ _ _ _ _ _ _ _ _ _ (λ_ _=>fin _ _ _ (bM ..) (bM ..) (mark (.inl rfl) _) (wset (hcw _ (ba (T:=aP) o0 o1)))) (λh=>by omega) (λt' h g=>?_) t1 _;exact done _ ce fu t' (apB (by decide) _) ⟨λ_=>rfl,nofun,nofun,λh=>(h rfl).elim⟩ rfl rfl h (no4 (by decide) (by decide)) (g.imp id λh=>⟨h.1,nofun⟩)
  .obtain⟨o0,o1⟩:=nmfu (.inr rfl);rw[<- hfu]at o1;obtain⟨I,D⟩:=hA (.inr (.inl rfl));have a2:ins.2.1<(l! th.2.2.1:Int):=by rw[htz];exact D
   refine gK (aQ o0 o1 (aQ o0 o1 (aj ?_)));simp only[ec,dA,OC];refine gK (aQ I D (aQ I D (aQ I a2 (aQ I a2 (aj ?_)))));refine hk F _ _ _ _ _ _ _ _ _ _ _ _ _ (λ_ _=>fin _ _ _ (bM ..) (bM ..) (mark (.inr rfl) _) (wset (hfw _ (ba (T:=aP) o0 o1)))) (λh=>by omega) (λt' h g=>?_) t1 _;exact done _ ce fu t' (apB (by decide) _) ⟨nofun,λ_=>rfl,nofun,λ_ h=>(h rfl).elim⟩ rfl rfl h (no4 (by decide) (by decide)) (g.imp id λh=>⟨h.1,nofun⟩)
  .obtain⟨o0,o1⟩:=nmce (.inr rfl);rw[<- hce]at o1;obtain⟨I,D⟩:=hB (.inl rfl);refine gK (aQ I D (aQ I D (aQ o0 o1 (aQ o0 o1 (aj ?_)))));simp only[ec,dA,OC];refine hk F _ _ _ _ _ _ _ _ _ _ _ _ _ (λ_ _=>fin _ _ _ rfl rfl keep hth.w) (λh=>by omega) (λt' h g=>?_) t1 _;exact done _ _ fu t' (apB (by decide) _) ⟨nofun,nofun,nofun,λ_ _ _ h=>(h rfl).elim⟩ rfl rfl h (λ_=>hth.w _ (ba (T:=aP) I D)) (g.imp id λh=>⟨h.1,nofun⟩)
  .obtain⟨o0,o1⟩:=nmfu (.inl rfl);rw[<- hfu]at o1;obtain⟨I,D⟩:=hB (.inr rfl);refine gK (aQ I D (aQ I D (aQ o0 o1 (aQ o0 o1 (aj ?_)))));simp only[ec,dA,OC];refine hk F _ _ _ _ _ _ _ _ _ _ _ _ _ (λ_ _=>fin _ _ _ rfl rfl keep hth.w) (λh=>by omega) (λt' h g=>?_) t1 _;exact done _ ce _ t' (apB (by decide) _) ⟨nofun,nofun,nofun,λ_ _ _ _ h=>(h rfl).elim⟩ rfl rfl h (λ_=>hth.w _ (ba (T:=aP) I D)) (g.imp id λh=>⟨h.1,nofun⟩)
  .obtain⟨I,D⟩:=hA (.inr (.inr rfl));refine gK (aQ I D (aQ I D (aG (λ_=>aj ?_) λ_=>aj ?_)));all_goals
    simp only[ec,dA,OC];refine hk F _ _ _ _ _ _ _ _ _ _ _ _ _ (λ_ _=>fin _ _ _ rfl rfl keep hth.w) (λh=>by omega) (λt' h g=>?_) t1 _;exact done _ ce fu t' (apB (by decide) _) ⟨nofun,nofun,λ_=>(by decide),λ_ _ h=>(h rfl).elim⟩ rfl rfl h (no4 (by decide) (by decide)) (g.imp id λh=>⟨h.1,nofun⟩)
 .refine ⟨?_,λh1 h2=>(hz ⟨h1,h2⟩).elim⟩;unfold SG Prod.n Prod.q Prod.p bg bA bQ cS ji RA Prod.p8 Prod.m Prod.s Prod.r Prod.u bY dt tb Prod.o ck bq bI mn aI;refine LA hn hc hs hI (λo=>OkN o (SQ i q L)) (λy h=>.inr (aj h)) _ λe v sy hp _ _ _ _ _=>.inl ?_
  obtain⟨sy0,ce,fu,l⟩:=s;have vl:=hp.fs.vc.vl;by_cases hl:l! l=N
  .have ht:¬t=(n:Int):=λh=>hz ⟨hl,h⟩
   dsimp only;cases cp (sy0,ce,fu,l) with
   |none=>rfl
   |some y=>rw[R_,bp ht];rfl
  .show av (cp (sy0,ce,fu,l)) _=U;rw[h0 sy0 ce fu l (by have h1:l! l=l! q.2:=hp.fs.th;have:=hp.fs.vc.tl;have:=vl.t;omega) hl];rfl
def axc {W V:Type} {c0:CT} {l:Y TT} {z:R} {N:R->η->Y η->W} {I:W->V} {D:V->TT->Y TT} (h3:∀A T q,D (I (N z A T)) q=l.set i q):KR m c0 L i a l z (KG (i:Int) N I D):=by
 intro F p sy kd o v si ds fs ce fu A T ev fin park done ht pc;unfold KG Prod.n bg bA bQ cS ji RA Prod.p8 Prod.m Prod.s Prod.r Rz bq gV bI aI cL;have done:∀q,TH F (m+1) q->(l! q.2.1=0\/q.2.2.2=aT .i64 (ev+1)/\(kd=16->q.1=p))->SQ m c0 L ((sy,ce,fu,D (I (N z A T)) q),((i:Int),kd,o,v,si,ds,fs),J):=λq h g=>by grind
 by_cases h1:kd=16
 .subst h1;exact gK (gK (fJ rfl (aj (fJ rfl (aj (mL (aO rfl) (aj (done _ (park (.inl rfl)) (.inr ⟨rfl,λ_=>rfl⟩)))))))))
 by_cases h2:kd=2
 .subst h2;exact gK (gK (mL rfl (aj (fJ rfl (aj (mL (aO rfl) (aj (done _ (park (.inr rfl)) (.inr ⟨rfl,nofun⟩)))))))))
 rw[bp h1,bp h2];exact gK (gK (mL rfl (aj (mL rfl (aQ (eX i) ht (aS (au (fin h1 h2) λy hy=>aj (mL (aO rfl) (aj (done _ hy.1 (hy.2.imp id λh=>⟨h,λh2=>(h1 h2).elim⟩)))))))))))
def SOx (n:Nat) (q:CT) (L:Y ET) (s:ST) (t u:Int) (N i:Nat) (f:CT×ST×f?->M z?):Prop:=OkN (f (q,s,t,u)) (SQ n q L)/\(l! s.2.2.2=N->t=(i:Int)->Ok (f (q,s,t,u)) (SQ n q L))
def ajl (D:i+1<=100000) (q:CT) (L:Y ET) (s:ST) (t u:Int) (I:CB q) (A:SV i L s) (N:SIv q L s):SOx i q L s t u 4 0 re/\SOx i q L s t u 4 1 q_/\SOx i q L s t u 4 2 oh/\SOx i q L s t u 4 3 me/\SOx i q L s t u 3 0 lm/\SOx i q L s t u 3 1 ko/\SOx i q L s t u 3 2 jI/\SOx i q L s t u 2 0 iN/\SOx i q L s t u 2 1 gY/\SOx i q L s t u 1 0 gZ:=by
 refine ⟨D6 4 0 (cp:=tW) D q L s t u I A N ?_ ?_,D6 4 1 (cp:=tV) D q L s t u I A N ?_ ?_,D6 4 2 (cp:=tU) D q L s t u I A N ?_ ?_,D6 4 3 (cp:=tS) D q L s t u I A N ?_ ?_,D6 3 0 (cp:=tZ) D q L s t u I A N ?_ ?_,D6 3 1 (cp:=tY) D q L s t u I A N ?_ ?_,D6 3 2 (cp:=tX) D q L s t u I A N ?_ ?_,D6 2 0 (cp:=t8) D q L s t u I A N ?_ ?_,D6 2 1 (cp:=t7) D q L s t u I A N ?_ ?_,D6 1 0 (cp:=t_) D q L s t u I A N ?_ ?_⟩;all_goals
  intro sy ce fu l;first|unfold tW bg bY bV bX bI be|unfold tV bg bY bV bX bI be|unfold tU bg bY bV bX bI be|unfold tS bg bY bV bX bI be|unfold tZ bg bY bV bX bI be|unfold tY bg bY bV bX bI be|unfold tX bg bY bV bX bI be|unfold t8 bg bY bV bX bI be|unfold t7 bg bY bV bX bI be|unfold t_ bg bY bV bX bI be
  rcases l with _|⟨a,_|⟨b,_|⟨c,_|⟨d,_|⟨e,l⟩⟩⟩⟩⟩;all_goals first
  |intro h h0
   first|(simp at h0;done)|(exfalso;simp only[fX]at h;omega)|simp[gM,X',aih,alm,bcT,bcF]
   done
  |intro h hce hfu hl
   first|(simp at hl;done)|(exfalso;simp only[fX]at hl;omega)|skip
   have hE:=h.sb.n1;refine ⟨by decide,aU (ac7 sy h.sb) (a! (a! (mL rfl (bO rfl (aS (aU (yS a i hE (h.t 0 (by simp))) ?_))))))⟩;try refine mL rfl (bO rfl (aS (aU (yS b i hE (h.t 1 (by simp))) ?_)))
   try refine mL rfl (bO rfl (aS (aU (yS c i hE (h.t 2 (by simp))) ?_)))
   try refine mL rfl (bO rfl (aS (aU (yS d i hE (h.t 3 (by simp))) ?_)))
   exact fJ rfl (aj ⟨rfl,rfl,rfl,rfl,rfl,rfl,axc λR T t'=>rfl⟩)
def aej {n:Nat} (hn:n+1<=100000) (c:CT) (L:Y ET) (s:ST) (t u:Int) (hc:CB c) (hs:SV n L s) (hI:SIv c L s):Ok (CR (c,s,t,u)) (SQ n c L):=by
 unfold CR;let⟨I,D,A,q,a30,a31,N,a20,a21,a10⟩:=ajl hn c L s t u hc hs hI;by_cases hz:l! s.2.2.2<=4/\0<=t/\t<(l! s.2.2.2:Int)
 .obtain⟨h1,h2,h3⟩:=hz;have:(l! s.2.2.2=4/\t=0)\/(l! s.2.2.2=4/\t=1)\/(l! s.2.2.2=4/\t=2)\/(l! s.2.2.2=4/\t=3)\/(l! s.2.2.2=3/\t=0)\/(l! s.2.2.2=3/\t=1)\/(l! s.2.2.2=3/\t=2)\/(l! s.2.2.2=2/\t=0)\/(l! s.2.2.2=2/\t=1)\/(l! s.2.2.2=1/\t=0):=by omega
  rcases this with h|h|h|h|h|h|h|h|h|h;all_goals first|exact (I.2 h.1 h.2).orL|refine I.1.orR ?_
  all_goals first|exact (D.2 h.1 h.2).orL|refine D.1.orR ?_
  all_goals first|exact (A.2 h.1 h.2).orL|refine A.1.orR ?_
  all_goals first|exact (q.2 h.1 h.2).orL|refine q.1.orR ?_
  all_goals first|exact (a30.2 h.1 h.2).orL|refine a30.1.orR ?_
  all_goals first|exact (a31.2 h.1 h.2).orL|refine a31.1.orR ?_
  all_goals first|exact (N.2 h.1 h.2).orL|refine N.1.orR ?_
  all_goals first|exact (a20.2 h.1 h.2).orL|refine a20.1.orR ?_
  all_goals first|exact (a21.2 h.1 h.2).orL|refine a21.1.orR ?_
  exact a10.2 h.1 h.2
 .refine Ok.orL ?_;unfold re bg bA dt;refine LA hn hc hs hI (λo=>Ok o (SQ n c L)) (λy h=>aj h) _ λe v sy hp _ _ _ _ _=>(hz ?_).elim
  have h1:l! s.2.2.2=l! c.2:=hp.fs.th;have h2:l! c.2=l! c.1.2.2.2.2.1:=hp.fs.vc.tl;have h3:l! c.1.2.2.2.2.1<=4:=hp.fs.vc.vl.t;have h4:0<=t:=hp.t0;have h5:t<(l! c.2:Int):=hp.t1;exact⟨by omega,h4,by omega⟩
def am8 (c:CT) (s:ST) (l:Y ν) (hc:CB c) (hs:SV 0 [] s) (hI:SIv c [] s) (hl:l.length<=9223372036854775806):Ok (xT (c,s,l)) λy=>y.1.length<=400/\(∀e∈y.1,EvF c.1 e/\EvS e/\IWe e)/\∃sy ce fu,Acw c.1 y.1 sy ce fu:=by
 unfold xT bg bA dt bV bX bI be c7 aI cL;refine wK (λx=>((l.length:Int)-x.1).toNat) (λx=>0<=x.1/\x.2.2.1=c/\SV x.2.1.length x.2.1 x.2.2.2.1/\SIv c x.2.1 x.2.2.2.1/\x.2.1.length<=400/\∀e∈x.2.1,EvF c.1 e/\EvS e/\IWe e) ?_ ⟨c6 _,rfl,hs,hI,by simp,λe he=>(by cases he)⟩;rintro⟨(i:Int),A,q,s',z⟩ ⟨D,e1,e2,eI,e3,e4⟩;dsimp only at D e1 e2 eI e3 e4;subst e1;refine aW (λx=>x.2=(A,q,s',z)/\(x.1=J->i<(l.length:Int)/\A.length<400)) ?_ ?_
 .refine bG (λg=>aj ⟨rfl,λh=>⟨g,?_⟩⟩) λ_=>aj ⟨rfl,nofun⟩
  dsimp only at h;rw[tB]at h;dsimp only[al]at h;omega
 rintro⟨b,x⟩ ⟨N,I⟩;dsimp only at N I;subst N;refine aR (λh=>?_) λ_=>aj ⟨e3,e4,_,_,_,eI.ac⟩
 let⟨g1,g2⟩:=I h;refine aW (λx=>x.2.1=q/\SV x.1.length x.1 x.2.2.1/\SIv q x.1 x.2.2.1/\x.1.length<=400/\∀e∈x.1,EvF q.1 e/\EvS e/\IWe e) ?_ ?_
 .refine aQ D g1 (aS ?_);refine au (aej (n:=A.length) (by omega) q A s' _ _ hc e2 eI) λy hy=>?_
  refine aR (λh=>?_) λ_=>aj ⟨rfl,e2,eI,e3,e4⟩
  let⟨h1,hJ,h2,h3⟩:=hy h;refine a! (aj ⟨rfl,?_,hJ,by simp;omega,λe he=>?_⟩)
  .dsimp only;rw[aF,a_];exact h1
  .rcases bt.1 he with he|he
   .exact e4 e he
   .rw[aE]at he;subst he;exact⟨h2,h3⟩
 rintro⟨es',c2,s2,z2⟩ ⟨k1,k2,kI,k3,k4⟩;dsimp only at k1 k2 kI k3 k4;subst k1;refine aj ?_;dsimp only;rw[fh (n:=i+1) (by omega) (by omega)];exact⟨⟨by omega,rfl,k2,kI,k3,k4⟩,by omega⟩
def CB.vc {c:CT} (q:CB c):VC c:=by
 let⟨b,h1,h2⟩:=Xw c q.th q.ins;rw[q.ok]at h1;cases h1;exact h2 rfl
def as3 (c:CT) (l:Y ν) (q:CB c) (N:l! l<=9223372036854775806):Ok (By (c,l)) λy=>TR y.1:=by
 unfold By;refine aU q.ok (dc nofun λ_=>?_);have D:=q.vc;refine au (ZI c q.wx q.ok D) λs I=>?_
 refine au (am8 c s l q I.1 I.2 N) λy A=>aj ?_
 exact⟨D.vl.wb,D.vl,λe he=>(A.2.1 e he).1,by have:=A.1;dsimp only;omega,λe he=>(A.2.1 e he).2.1,q.wx,A.2.2,λe he=>(A.2.1 e he).2.2⟩
def ZR (l:η) (q:l! l<=1000000):Ok (tu l) λy=>l! y=l! l:=by
 refine bC (l! l) (λi x=>x.1=(i:Int)/\l! x.2=i) ?_ ?_ ⟨rfl,rfl⟩
 .rintro i ⟨a,b⟩ hi ⟨e1,e2⟩;subst e1;refine cE ?_;refine bK (aS (bK (aS (bu (by grind) (by omega) (aj ?_)))));exact⟨fH,by simp;omega⟩
 .rintro⟨a,b⟩ ⟨e1,e2⟩;exact cz (aj e2)
def fV (e:Xp):eJ (Xp.op e,Xp.n e,Xp.name e,Xp.l e)=e:=by cases e;rfl
def Bq (s:Sx):oZ (Sx.op s,Sx.line s,Sx.name s,Sx.arg s,Sx.index s,Sx.expr s,Sx.body s,Sx.els s)=s:=by cases s;rfl
abbrev NV:Y ζ:=[[97],[98],[120],[121],[118]]
def GE:Nat->Xp->Prop
 |0,_=>False
 |d+1,e=>(e.op=3->e.name=[113])/\(e.op≠1->e.op≠2->1<=l! e.l)/\l! e.l<=2/\(∀x∈e.l,GE d x)/\(e.op=2->e.name∈NV)/\(e.op=1->IW e.n)/\(e.op≠1->e.op≠2->e.op≠3->2<=l! e.l/\6<=e.op/\e.op<=18)
def GE.mono:∀{d:Nat} {e:Xp},GE d e->GE (d+1) e
 |0,_,h=>h.elim
 |_+1,_,h=>⟨h.1,h.2.1,h.2.2.1,λx q=>(h.2.2.2.1 x q).mono,h.2.2.2.2⟩
def GE.le {e:Xp} (h:GE i e) (A:i<=m):GE m e:=by
 induction A with
 |refl=>exact h
 |step _ q=>exact q.mono
def Sf (n:Int):sX n=Z (.mk 1 n [] []):=rfl
def Ld (s:ζ):qR s=Z (.mk 2 0 s []):=rfl
def Iw (o:Int) (a b:Xp):oY (o,a,b)=Z (.mk o 0 [] [a,b]):=by
 cases a;cases b;rfl
def vx (s:ζ) (e:Xp):kj (s,e)=Z (.mk 1 0 s [] [] e [] []):=by
 cases e;rfl
abbrev MK:Type:=R!
abbrev T3:Type:=q!
abbrev HD:Type:=Bool×Y ζ
def GE.num (A:IW a) (d:Nat):GE (d+1) (.mk 1 a [] []):=⟨nofun,λh=>(h rfl).elim,by simp[Xp.l],λx q=>(by cases q),nofun,λ_=>A,λh=>(h rfl).elim⟩
def GE.nm {s:ζ} (A:s∈NV) (d:Nat):GE (d+1) (.mk 2 0 s []):=⟨nofun,λ_ h=>(h rfl).elim,by simp[Xp.l],λx q=>(by cases q),λ_=>A,nofun,λ_ h=>(h rfl).elim⟩
def GE.bin {o b:Xp} (A:6<=a/\a<=18) (I:GE i o) (D:GE i b):GE (i+1) (.mk a 0 [] [o,b]):=
 ⟨λh=>(by have h:a=3:=h;omega),λ_ _=>by simp[Xp.l],by simp[Xp.l],λx q=>by
   simp only[Xp.l,bk,cI,gH]at q;rcases q with rfl|rfl
   .exact I
   .exact D,λh=>(by have h:a=2:=h;omega),λh=>(by have h:a=1:=h;omega),λ_ _ _=>⟨by simp[Xp.l],A⟩⟩
def GE.ix {a:Xp} (A:GE i a):GE (i+1) (.mk 3 0 [113] [a]):=
 ⟨λ_=>rfl,λ_ _=>by simp[Xp.l],by simp[Xp.l],λx q=>by
   simp only[Xp.l,bk,cI,gH]at q;rw[q];exact A,nofun,nofun,λ_ _ h=>(h rfl).elim⟩
def Gi:∀(n d:Nat),d<n->d<=10->∀(m:MK) (t:T3) (h:HD),TP t->Ok (iZ n ((d:Int),m,t,h)) λy=>GE (d+1) y.1/\y.2.1=m/\Rp t y.2.2.1/\y.2.2.2=h
 |0,d,hd,_,_,_,_,_=>by omega
 |n+1,d,hd,h10,m,t,h,ht=>by
  rw[Be];unfold pa bg bA bY dt dv bq bV bX mn be aI;refine au (nQ 10 t ht) λy q=>?_
  let⟨k,t1⟩:=y;let⟨D,k0,k1,_⟩:=q;have k1:=k1 (by decide);dsimp only at D k0 k1;refine aW (λx=>x.2=(m,t1,h,(0,0,[]),[[97],[98],[120],[121],[118],[120],[121]])/\(x.1=aa->2<=k/\(d=0->k<7))) ?_ ?_
  .refine bG (λ_=>aj ⟨rfl,nofun⟩) λg=>aG (λg2=>aj ⟨rfl,λg3=>⟨g,λ_=>?_⟩⟩) λg2=>aj ⟨rfl,λ_=>⟨g,λh=>(g2 (by dsimp only;omega)).elim⟩⟩
   dsimp only at g3;rw[gq]at g3;exact g3
  rintro⟨b,x⟩ ⟨e,hb⟩;dsimp only at e hb;subst e;refine aR (λ_=>?_) λg=>?_
  .refine au (nQ 4 t1 D.p) λy q=>?_
   refine aU (Sf _) (aj ?_);exact⟨GE.num (IW.sm (wG (by decide) q.2.1) (wG (Int.le_of_lt (q.2.2.1 (by decide))) (by decide))) _,rfl,D.trans q.1,rfl⟩
  let⟨q0,q1⟩:=hb g;refine bG (λg=>?_) λg=>?_
  .refine au (nQ _ t1 D.p) λy q=>?_
   let⟨N,I,A,_⟩:=q;have A:=A (show (1:Int)<=7 by decide);refine aQ I A (aQ I A (aS ?_));refine aU (Ld _) (aj ?_);have hnv:∀z∈([[97],[98],[120],[121],[118],[120],[121]]:Y ζ),z∈NV:=by decide
   exact⟨GE.nm (hnv _ (ba (T:=.str) I A)) _,rfl,D.trans N,rfl⟩
  dsimp only at g;have hd0:d≠0:=λh=>by have:=q1 h;omega
  obtain⟨d,rfl⟩:∃k,d=k+1:=⟨d-1,by omega⟩
  refine aG (λg=>?_) λg=>?_
  .refine au (Gi n 0 (by omega) (by omega) m t1 h D.p) λy q=>?_
   let⟨e,m',t',h'⟩:=y;let⟨v1,v2,v3,v4⟩:=q;dsimp only at v1 v2 v3 v4;subst v2 v4;refine bO (by simp) (aj ?_);dsimp only;rw[fV];exact⟨(GE.ix (v1.le (by omega):GE (d+1) e)),rfl,D.trans v3,rfl⟩
  .refine au (nQ _ t1 D.p) λy q=>?_
   let⟨k2,t2⟩:=y;let⟨N,I,A,_⟩:=q;have A:=A (by decide);dsimp only at N I A;refine aQ I A (aQ I A (aS ?_));have ho:(6:Int)<=aw aP [6,7,8,11,13,17] k2/\aw aP [6,7,8,11,13,17] k2<=(18:Int):=by
    have h1:=ba (T:=aP) (xs:=([6,7,8,11,13,17]:η)) I A;have:∀z:Int,z∈([6,7,8,11,13,17]:η)->6<=z/\z<=18:=by decide
    exact this _ h1
   have ew:aT .i64 (((d+1:Nat):Int)-1)=(d:Int):=by rw[fh];omega
   dsimp only;rw[ew];refine au (Gi n d (by omega) (by omega) m t2 h N.p) λy q=>?_
   let⟨e,m',t',h'⟩:=y;let⟨v1,v2,v3,v4⟩:=q;dsimp only at v1 v2 v3 v4;subst v2 v4;refine bO (by simp) ?_;refine au (Gi n d (by omega) (by omega) m' t' h' v3.p) λy q=>?_
   let⟨e2,m2,t2',h2⟩:=y;let⟨w1,w2,w3,w4⟩:=q;dsimp only at w1 w2 w3 w4;subst w2 w4;refine bO (by simp) ?_;refine aU (Iw _ _ _) (aj ?_);dsimp only;rw[fV];exact⟨GE.bin ho v1 w1,rfl,D.trans (N.trans (v3.trans w3)),rfl⟩
def agp (d:Nat) (hd:d<=10) (m:MK) (t:T3) (h:HD) (ht:TP t):Ok (fG ((d:Int),m,t,h)) λy=>GE (d+1) y.1/\y.2.1=m/\Rp t y.2.2.1/\y.2.2.2=h:=Gi fZ d (by rw[kl];omega) hd m t h ht
section
def NE (op:Int):Prop:=op=1\/op=2\/op=3\/op=14
def ZE (e:Xp):Prop:=GE 4 e\/e= .mk 0 0 [] []
structure NO (nT:Nat) (s:Sx):Prop where
 o0:1<=s.op
 o1:s.op<=15
 vr:s.op=1->s.index=[]->s.name∈NV
 lk:s.op=4->s.name=[109]\/s.name=[110]
 rw:s.op=5\/s.op=6->s.name=[114]
 cn:s.op=9\/s.op=10\/s.op=11->s.name=[99]
 sp:s.op=12\/s.op=13->s.name∈yV.take nT
 se:s.op=14->s.name=[102]
 ge:s.op=15->s.name=[97]/\s.arg=[102]
 el:¬s.op=2->s.els=[]
 bo:s.op=1\/9<=s.op->s.body=[]
variable {nT:Nat}
def GS (nT:Nat):Nat->Sx->Prop
 |0,_=>False
 |d+1,s=>(s.index≠[]->s.name=[113])/\l! s.index<=1/\(∀e∈s.index,GE 4 e)/\(NE s.op->GE 4 s.expr)/\ZE s.expr/\l! s.body<=8/\l! s.els<=8/\(∀x∈s.body,GS nT d x)/\(∀x∈s.els,GS nT d x)/\NO nT s
def GS.mono:∀{d:Nat} {s:Sx},GS nT d s->GS nT (d+1) s
 |0,_,h=>h.elim
 |_+1,_,⟨a,b,c,e,f,g,i,j,k,l⟩=>⟨a,b,c,e,f,g,i,λx q=>(j x q).mono,λx q=>(k x q).mono,l⟩
def GS.le {s:Sx} (h:GS nT i s) (A:i<=m):GS nT m s:=by
 induction A with
 |refl=>exact h
 |step _ q=>exact q.mono
def NO.asg {s a:ζ} {e:Xp} {i:Y Xp} (q:i=[]->s∈NV):NO nT (.mk 1 0 s a i e [] []):=by
 constructor<;>simp[Sx.op,Sx.name,Sx.index,Sx.els,Sx.body];exact λh=>by simpa using q h
def GS.asg {s:ζ} (A:s∈NV) {e:Xp} (h:GE 4 e):GS nT (i+1) (.mk 1 0 s [] [] e [] []):=
 ⟨λh=>(h rfl).elim,by simp[Sx.index],λe he=>(by cases he),λ_=>h,.inl h,by simp[Sx.body],by simp[Sx.els],λx q=>(by cases q),λx q=>(by cases q),NO.asg λ_=>A⟩
def GS.aix {d e:Xp} (hi:GE 4 d) (h:GE 4 e):GS nT (i+1) (.mk 1 0 [113] [] [d] e [] []):=
 ⟨λ_=>rfl,by simp[Sx.index],λe he=>(by simp[Sx.index,aE]at he;rw[he];exact hi),λ_=>h,.inl h,by simp[Sx.body],by simp[Sx.els],λx q=>(by cases q),λx q=>(by cases q),NO.asg nofun⟩
def GS.we {s op:ζ} {e:Xp} {b l:Y Sx} (h:GE 4 e) (D:l! b<=8) (A:l! l<=8) (N:∀x∈b,GS nT i x) (I:∀x∈l,GS nT i x) (q:NO nT (.mk a 0 s op [] e b l)):GS nT (i+1) (.mk a 0 s op [] e b l):=
 ⟨λh=>(h rfl).elim,by simp[Sx.index],λe he=>(by cases he),λ_=>h,.inl h,D,A,N,I,q⟩
def GS.wo {ln:Int} {s op:ζ} {b:Y Sx} (N:4<=a/\a≠14) (D:l! b<=8) (I:∀x∈b,GS nT i x) (A:NO nT (.mk a ln s op [] (.mk 0 0 [] []) b [])):GS nT (i+1) (.mk a ln s op [] (.mk 0 0 [] []) b []):=
 ⟨λh=>(h rfl).elim,by simp[Sx.index],λe he=>(by cases he),λh=>(by have h:a=1\/a=2\/a=3\/a=14:=h;omega),.inr rfl,D,by simp[Sx.els],I,λx q=>(by cases q),A⟩
def QS (nT:Nat) (d:Nat) (n:Int) (t:T3) (h:HD) (y:MK×T3×HD×Y Sx):Prop:=(l! y.2.2.2:Int)<=max 0 n/\(∀s∈y.2.2.2,GS nT (d+1) s)/\Rp t y.2.1/\y.2.2.1.2=h.2
abbrev C!:=MK×T3×HD
def QT (nT:Nat) (d:Nat) (t:T3) (h:HD) (y:Sx×C!):Prop:=GS nT (d+1) y.1/\Rp t y.2.2.1/\y.2.2.2.2=h.2
def QB (nT:Nat) (d:Nat) (t:T3) (h:HD) (y:Y Sx×C!):Prop:=l! y.1<=2/\(∀s∈y.1,GS nT (d+1) s)/\Rp t y.2.2.1/\y.2.2.2.2=h.2
abbrev RS:Type:=(ν×C!)->M (MK×T3×HD×Y Sx)
abbrev RT:Type:=(Int×C!)->M (Sx×C!)
abbrev RBk:Type:=((ζ×Int)×C!)->M (Y Sx×C!)
def SpS (nT:Nat) (q:RS) (d:Nat):Prop:=∀(n:Int) (m:MK) (t:T3) (h:HD),n<=3->TP t->l! h.2+d<=100->Ok (q (((d:Int),n),m,t,h)) (QS nT d n t h)
def SpT (nT:Nat) (q:RT) (d:Nat):Prop:=∀(m:MK) (t:T3) (h:HD),TP t->l! h.2+d<=100->Ok (q ((d:Int),m,t,h)) (QT nT d t h)
def SpB (nT:Nat) (q:RBk) (d:Nat):Prop:=∀(s:ζ) (m:MK) (t:T3) (h:HD),TP t->l! h.2+1+d<=100->Ok (q ((s,(d:Int)),m,t,h)) (QB nT d t h)
def adc (D:RS) (A:RT) (I:RBk) (d:Nat) (ht:SpT nT A d):SpS nT (nH D A I) d:=by
 intro n m t h hn hp hh;unfold nH bg bA bQ bY dt dv bq bV bX c7 aI cL eL;refine wK (λx=>(n-x.1).toNat) (λx=>0<=x.1/\(x.1<=n\/x.1=0)/\Rp t x.2.2.1/\(l! x.2.2.2.1:Int)<=x.1/\(∀s∈x.2.2.2.1,GS nT (d+1) s)/\x.2.2.2.2.2=h.2) ?_ ⟨c6 _,.inr rfl,Rp.refl hp,by simp,λs hs=>(by cases hs),rfl⟩;rintro⟨(i:Int),m',q,l,h'⟩ ⟨i0,N,e1,e2,e3,e4⟩;dsimp only at i0 N e1 e2 e3 e4;refine aW (λx=>x.2=(m',q,l,h')/\(x.1=J->i<n)) ?_ ?_
 .refine bG (λg=>aG (λ_=>aj ⟨rfl,λ_=>g⟩) λ_=>aj ⟨rfl,λ_=>g⟩) λ_=>aj ⟨rfl,nofun⟩
 rintro⟨b,x⟩ ⟨f1,f2⟩;subst f1;refine aR (λhb=>?_) λ_=>aj ⟨by dsimp only;omega,e3,e1,e4⟩
 have g:=f2 hb;refine au (ht m' q h' e1.p (by grind)) λy hy=>?_
 let⟨s,m2,t2,h2⟩:=y;let⟨k1,k2,k3⟩:=hy;refine bO (by simp) (bu (by grind) (by omega) (aj ?_));rw[fV,Bq,fh (n:=i+1) (by omega) (by omega)];refine ⟨⟨by omega,by omega,e1.trans k2,by simp;omega,λx hx=>?_,k3.trans e4⟩,by omega⟩
 grind
def adg (D:RS) (N:RT) (rb:RBk) (d:Nat) (hs:SpS nT D d):SpB nT (nI D N rb) d:=by
 intro s m t h hp hh;unfold nI bg bA bY dt bX be;refine bu (by grind) (by omega) ?_;refine au (nQ 2 t hp) λy q=>?_
 let⟨k,I⟩:=y;let⟨A,u2,u3,_⟩:=q;have ew:aT .i64 (1+k)=1+k:=fh;rw[ew];refine au (hs (1+k) m I (h.1,h.2++[s]) (by omega) A.p (by grind)) λy q=>?_
 let⟨m2,t2,h2,l⟩:=y;let⟨k1,k2,k3,k4⟩:=q;dsimp only at k1 k2 k3 k4;refine bO (by simp) ?_;rw[k4];have el:aT .i64 ((aY (l! (h.2++[s])))-1)=(l! h.2:Int):=by
  rw[aF,a_,fh (by simp) (by grind)];simp<;>omega
 refine bZ (a? (pY (by grind) (aj ?_)));refine ⟨by dsimp only;omega,k2,A.trans k3,?_⟩;simp_all
def F3 (s:ζ) (m:MK) (t:T3) (h:HD) (hh:l! h.2<=100):Ok (e9 (s,m,t,h)) λy=>y.2=(m,t,h):=by
 unfold e9 dt;exact au (AU h.2 s (by omega)) λy _=>aj rfl
def ahp (rs:RS) (rt:RT) (rb:RBk) (d:Nat) (hd:d<=5) (h0:1<=d->SpS nT rs 0) (hS:1<=d->SpS nT rs (d-1)) (hB:1<=d->SpB nT rb (d-1)):SpT nT (o_ rs rt rb) d:=by
 intro m t h hp hh;unfold o_ bg bA bQ bY dt dv bq bV bX mn aI eL;refine au (nQ 18 t hp) λy A=>?_
 let⟨k,I⟩:=y;let⟨D,k0,k1,_⟩:=A;have k1:=k1 (by decide);dsimp only at D k0 k1;have hE:∀(j:Nat) (m':MK) (t':T3) (h':HD),j<=1->TP t'->Ok (fG ((j:Int),m',t',h')) λy=>GE 4 y.1/\y.2.1=m'/\Rp t' y.2.2.1/\y.2.2.2=h':=λj m' t' h' hj ht'=>(agp j (by omega) m' t' h' ht').mono λy A=>⟨A.1.le (by omega),A.2⟩
 have ed:aT .i64 ((d:Int)-1)=(d:Int)-1:=fh;have ed1:1<=d->(d:Int)-1=((d-1:Nat):Int):=λ_=>by omega
 refine aW (λx=>x.2=((m.1,aT .i64 (m.2.1-1),m.2.2),I,(0,0,[],[],0,0,[]),h)/\(x.1=J->1<=d)) ?_ ?_
 .refine bG (λg=>aS (bG (λ_=>aj ⟨rfl,λ_=>?_⟩) λ_=>aj ⟨rfl,nofun⟩)) λ_=>aj ⟨rfl,nofun⟩
  dsimp only at g;omega
 generalize ((m.1,aT .i64 (m.2.1-1),m.2.2):MK)=m0;rintro⟨nest,x⟩ ⟨e,hn⟩;dsimp only at e hn;subst e;refine bG (λ_=>?_) λg4=>?_
 .refine aQ k0 (by dsimp only[ah];omega) (aQ k0 (by dsimp only[ah];omega) (aS ?_));refine au (hE 1 m0 I h (by omega) D.p) λy A=>?_
  let⟨e,m2,t2,h2⟩:=y;let⟨v1,v2,v3,v4⟩:=A;dsimp only at v1 v2 v3 v4;subst v2 v4;refine bO (by simp) (aU (vx _ _) (aj ?_));dsimp only;rw[fV,Bq];have hnv:∀z∈([[120],[121],[120],[118]]:Y ζ),z∈NV:=by decide
  exact⟨GS.asg (hnv _ (ba (T:=.str) k0 (by dsimp only[ah];omega))) v1,D.trans v3,rfl⟩
 dsimp only at g4;refine aG (λ_=>?_) λg5=>?_
 .refine au (nQ 2 I D.p) λy A=>?_
  let⟨u1,u2,u3,_⟩:=A;have u3:=u3 (by decide);refine aQ u2 u3 (aQ u2 u3 (aS ?_));refine au (hE 1 m0 y.2 h (by omega) u1.p) λz N=>?_
  let⟨e,m2,t2,h2⟩:=z;let⟨v1,v2,v3,v4⟩:=N;dsimp only at v1 v2 v3 v4;subst v2 v4;refine bO (by simp) (aU (vx _ _) (aj ?_));dsimp only;rw[fV,Bq];have hnv:∀z∈([[97],[98]]:Y ζ),z∈NV:=by decide
  exact⟨GS.asg (hnv _ (ba (T:=.str) u2 u3)) v1,D.trans (u1.trans v3),rfl⟩
 dsimp only at g5;refine aG (λ_=>?_) λg6=>?_
 .refine au (hE 0 m0 I h (by omega) D.p) λz N=>?_
  let⟨e,m2,t2,h2⟩:=z;let⟨v1,v2,v3,v4⟩:=N;dsimp only at v1 v2 v3 v4;subst v2 v4;refine bO (by simp) ?_;refine au (hE 1 m2 t2 h2 (by omega) v3.p) λz N=>?_
  let⟨e',m3,t3,h3⟩:=z;let⟨w1,w2,w3,w4⟩:=N;dsimp only at w1 w2 w3 w4;subst w2 w4;refine bO (by simp) (aj ?_);dsimp only;rw[fV,fV];exact⟨GS.aix v1 w1,D.trans (v3.trans w3),rfl⟩
 dsimp only at g6;have N:∀(c:Prop),c->c:=λ_ h=>h
 have dd:1<=d->d-1+1=d:=λ_=>by omega
 have w8:8<=k->aT .i64 (k-8)=k-8:=λ_=>fh
 refine aW (λx=>x.2=(m0,I,(0,0,[],[],0,0,[]),h)/\(x.1=J->1<=d)) ?_ ?_
 .refine aG (λ_=>aj ⟨rfl,λg=>?_⟩) λ_=>aj ⟨rfl,nofun⟩
  dsimp only at g;rw[tB]at g;omega
 rintro⟨b,x⟩ ⟨e,hb⟩;dsimp only at e hb;subst e;refine aR (λq=>?_) λ_=>?_
 .have d1:=hb q;refine au (hE 1 m0 I h (by omega) D.p) λz N=>?_
  let⟨e,m2,t2,h2⟩:=z;let⟨v1,v2,v3,v4⟩:=N;dsimp only at v1 v2 v3 v4;subst v2 v4;refine bO (by simp) ?_;dsimp only;rw[ed,ed1 d1];refine au (hS d1 1 m2 t2 h2 (by omega) v3.p (by omega)) λz N=>?_
  let⟨m3,t3,h3,l⟩:=z;let⟨w1,w2,w3,w4⟩:=N;dsimp only at w1 w2 w3 w4;rw[dd d1]at w2;refine bO (by simp) ?_;refine aW (λx=>x.2.2.2.1=(2,0,[],[],e.op,e.n,e.name,e.l)/\Rp I x.2.1/\x.2.2.2.2.1.2=h2.2/\x.2.2.2.2.2.1=l/\l! x.2.2.2.2.2.2<=8/\∀s∈x.2.2.2.2.2.2,GS nT d s) ?_ ?_
  .refine au (nQ 2 t3 w3.p) λy A=>?_
   refine aG (λ_=>?_) λ_=>aj ⟨rfl,v3.trans (w3.trans A.1),w4,rfl,by simp,λs hs=>(by cases hs)⟩
   dsimp only;refine au (hS d1 1 m3 y.2 h3 (by omega) A.1.p (by rw[w4];omega)) λz N=>?_
   let⟨m4,t4,h4,l2⟩:=z;let⟨x1,x2,x3,x4⟩:=N;dsimp only at x1 x2 x3 x4;rw[dd d1]at x2;exact bO (by simp) (aj ⟨rfl,v3.trans (w3.trans (A.1.trans x3)),x4.trans w4,rfl,by dsimp only;omega,x2⟩)
  rintro⟨m5,t5,z5,e5,h5,l5,l6⟩ ⟨x1,x2,x3,x4,x5,x6⟩;dsimp only at x1 x2 x3 x4 x5 x6;subst x1 x4;refine aj ?_;dsimp only;rw[fV];exact⟨GS.we v1 (by first|omega|(dsimp only;omega)) x5 w2 x6 (by constructor<;>simp[Sx.op,Sx.name,Sx.index,Sx.arg,Sx.els,Sx.body]),D.trans x2,x3⟩
 refine aW (λx=>x.2=(m0,I,(0,0,[],[],0,0,[]),h)/\(x.1=J->1<=d)) ?_ ?_
 .refine aG (λ_=>aj ⟨rfl,λg=>?_⟩) λ_=>aj ⟨rfl,nofun⟩
  dsimp only at g;rw[tB]at g;omega
 rintro⟨b,x⟩ ⟨e,hb⟩;dsimp only at e hb;subst e;refine aR (λq=>?_) λ_=>?_
 .have d1:=hb q;refine aU (Ld _) (aU (Sf _) (aU (Iw _ _ _) ?_));dsimp only;rw[ed,ed1 d1];refine au (hS d1 1 _ I h (by omega) D.p (by omega)) λz N=>?_
  let⟨m3,t3,h3,l⟩:=z;let⟨w1,w2,w3,w4⟩:=N;dsimp only at w1 w2 w3 w4;rw[dd d1]at w2;refine bO (by simp) ?_;refine aU (Ld _) (aU (Sf _) (aU (Iw _ _ _) (aU (vx _ _) ?_)));refine a! (aj ?_);dsimp only;rw[fV,fV,Bq];refine ⟨GS.we (GE.bin (by omega) (GE.nm (by decide) 2) (GE.num (IW.sm (by decide) (by decide)) 2)) (by simp;omega) (by simp) (λx hx=>?_) (λx hx=>(by cases hx)) (by constructor<;>simp[Sx.op,Sx.name,Sx.index,Sx.arg,Sx.els,Sx.body]),D.trans w3,w4⟩;rcases bt.1 hx with hx|hx
  .exact w2 x hx
  .rw[aE]at hx;subst hx;rw[<- dd d1];exact GS.asg (by decide) (GE.bin (by omega) (GE.nm (by decide) 2) (GE.num (IW.sm (by decide) (by decide)) 2))
 refine aW (λx=>x.2=(m0,I,(0,0,[],[],0,0,[]),h)/\(x.1=J->nest=J/\(k=8\/k=9))) ?_ ?_
 .refine aG (λg=>aR (λgn=>?_) λ_=>aj ⟨rfl,nofun⟩) λ_=>aG (λg=>aR (λgn=>?_) λ_=>aj ⟨rfl,nofun⟩) λ_=>aj ⟨rfl,nofun⟩
  all_goals
   dsimp only at g ⊢;rw[w8 (by omega)];refine aQ (by omega) (by simp;omega) (aQ (by omega) (by simp;omega) (aS ?_));refine au (F3 _ m0 I h (by omega)) λy A=>?_
   let⟨yb,y2⟩:=y;dsimp only at A;subst A;exact bO (by simp) (aj ⟨rfl,λ_=>⟨gn,by omega⟩⟩)
 rintro⟨b,x⟩ ⟨e,hb⟩;dsimp only at e hb;subst e;refine aR (λq=>?_) λ_=>?_
 .obtain⟨q1,q2⟩:=hb q;have d1:=hn q1;have hnm:aw (.str) [[109],[110]] (k-8)=[109]\/aw (.str) [[109],[110]] (k-8)=[110]:=by rcases q2 with rfl|rfl<;>simp[aw]
  dsimp only;rw[w8 (by omega),ed,ed1 d1];refine aQ (by omega) (by simp;omega) (aQ (by omega) (by simp;omega) (aS ?_));refine au (hB d1 _ m0 I h D.p (by omega)) λz N=>?_
  let⟨l,m3,t3,h3⟩:=z;let⟨w1,w2,w3,w4⟩:=N;dsimp only at w1 w2 w3 w4;rw[dd d1]at w2;exact bO (by simp) (aj ⟨GS.wo (by omega) (by first|omega|(dsimp only;omega)) w2 (by constructor<;>simp[Sx.op,Sx.name,Sx.index,Sx.arg,Sx.els,Sx.body];exact hnm),D.trans w3,w4⟩)
 refine aW (λx=>x.2=(m0,I,(0,0,[],[],0,0,[]),h)/\(x.1=J->nest=J/\(k=10\/k=11))) ?_ ?_
 .refine aG (λg=>aR (λgn=>?_) λ_=>aj ⟨rfl,nofun⟩) λ_=>aG (λg=>aR (λgn=>?_) λ_=>aj ⟨rfl,nofun⟩) λ_=>aj ⟨rfl,nofun⟩
  all_goals
   dsimp only at g ⊢;refine au (F3 _ m0 I h (by omega)) λy A=>?_
   let⟨yb,y2⟩:=y;dsimp only at A;subst A;exact bO (by simp) (aj ⟨rfl,λ_=>⟨gn,by omega⟩⟩)
 rintro⟨b,x⟩ ⟨e,hb⟩;dsimp only at e hb;subst e;refine aR (λq=>?_) λ_=>?_
 .obtain⟨q1,q2⟩:=hb q;have d1:=hn q1;dsimp only;rw[ed,ed1 d1,fh (n:=k-10) (by omega) (by omega),fh (n:=k-10+5) (by omega) (by omega)];refine au (hB d1 _ m0 I h D.p (by omega)) λz N=>?_
  let⟨l,m3,t3,h3⟩:=z;let⟨w1,w2,w3,w4⟩:=N;dsimp only at w1 w2 w3 w4;rw[dd d1]at w2;exact bO (by simp) (aj ⟨GS.wo (by omega) (by first|omega|(dsimp only;omega)) w2 (by constructor<;>simp[Sx.op,Sx.name,Sx.index,Sx.arg,Sx.els,Sx.body]<;>omega),D.trans w3,w4⟩)
 refine aW (λx=>x.2=(m0,I,(0,0,[],[],0,0,[]),h)/\(x.1=J->nest=J)) ?_ ?_
 .exact aG (λ_=>aj ⟨rfl,λg=>g⟩) λ_=>aj ⟨rfl,nofun⟩
 rintro⟨b,x⟩ ⟨e,hb⟩;dsimp only at e hb;subst e;refine aR (λq=>?_) λ_=>?_
 .have d1:=hn (hb q);refine au (nQ 2 I D.p) λy A=>?_
  let⟨u1,u2,u3,_⟩:=A;have u3:=u3 (by decide);dsimp only;rw[fh (n:=1+y.1) (by omega) (by omega)];refine au (h0 d1 (1+y.1) _ y.2 h (by omega) u1.p (by omega)) λz N=>?_
  let⟨m3,t3,h3,l⟩:=z;let⟨w1,w2,w3,w4⟩:=N;dsimp only at w1 w2 w3 w4;exact bO (by simp) (aj ⟨GS.wo (by omega) (by first|omega|(dsimp only;omega)) (λx hx=>(w2 x hx).le (by omega)) (by constructor<;>simp[Sx.op,Sx.name,Sx.index,Sx.arg,Sx.els,Sx.body]),D.trans (u1.trans w3),w4⟩)
 refine aW (λx=>x.2=(m0,I,(0,0,[],[],0,0,[]),h)/\(x.1=J->nest=J)) ?_ ?_
 .exact aG (λ_=>aR (λgn=>aj ⟨rfl,λ_=>gn⟩) λ_=>aj ⟨rfl,nofun⟩) λ_=>aj ⟨rfl,nofun⟩
 rintro⟨b,x⟩ ⟨e,hb⟩;dsimp only at e hb;subst e;refine aR (λq=>?_) λ_=>?_
 .have d1:=hn (hb q);dsimp only;rw[ed,ed1 d1];refine au (hS d1 2 _ I h (by omega) D.p (by omega)) λz N=>?_
  let⟨m3,t3,h3,l⟩:=z;let⟨w1,w2,w3,w4⟩:=N;dsimp only at w1 w2 w3 w4;rw[dd d1]at w2;exact bO (by simp) (aj ⟨GS.wo (by omega) (by first|omega|(dsimp only;omega)) w2 (by constructor<;>simp[Sx.op,Sx.name,Sx.index,Sx.arg,Sx.els,Sx.body]),D.trans w3,w4⟩)
 refine aW (λx=>x.2=(m0,I,(0,0,[],[],0,0,[]),h)/\(x.1=J->nest=J)) ?_ ?_
 .refine aG (λ_=>aR (λgn=>aR (λ_=>?_) λ_=>aj ⟨rfl,nofun⟩) λ_=>aj ⟨rfl,nofun⟩) λ_=>aj ⟨rfl,nofun⟩
  refine au (F3 _ m0 I h (by omega)) λy A=>?_
  let⟨yb,y2⟩:=y;dsimp only at A;subst A;exact bO (by simp) (aj ⟨rfl,λ_=>gn⟩)
 rintro⟨b,x⟩ ⟨e,hb⟩;dsimp only at e hb;subst e;refine aR (λq=>?_) λ_=>?_
 .have d1:=hn (hb q);refine aU (Ld _) (aU (vx _ _) (aj ?_));dsimp only;rw[fV,Bq];refine ⟨GS.wo (by omega) (by simp) (λx hx=>?_) (by constructor<;>simp[Sx.op,Sx.name,Sx.index,Sx.arg,Sx.els,Sx.body]),D,rfl⟩;simp only[bk,cI,gH]at hx;rw[<- dd d1];rcases hx with rfl|rfl
  .exact GS.wo (by omega) (by simp) (λx hx=>(by cases hx)) (by constructor<;>simp[Sx.op,Sx.name,Sx.index,Sx.arg,Sx.els,Sx.body])
  .exact GS.asg (by decide) (GE.nm (by decide) 3)
 refine aW (λx=>x.2=(m0,I,(0,0,[],[],0,0,[]),h)/\(x.1=J->nest=J)) ?_ ?_
 .refine aG (λ_=>aR (λgn=>?_) λ_=>aj ⟨rfl,nofun⟩) λ_=>aj ⟨rfl,nofun⟩
  refine au (F3 _ m0 I h (by omega)) λy A=>?_
  let⟨yb,y2⟩:=y;dsimp only at A;subst A;exact bO (by simp) (aj ⟨rfl,λ_=>gn⟩)
 rintro⟨b,x⟩ ⟨e,hb⟩;dsimp only at e hb;subst e;refine aR (λq=>?_) λ_=>?_
 .have d1:=hn (hb q);refine au (nQ 2 I D.p) λy A=>aj ?_
  let⟨u1,u2,u3,_⟩:=A;have u3:=u3 (by decide);dsimp only;rw[fh (n:=10+y.1) (by omega) (by omega)];refine ⟨GS.wo (by omega) (by simp) (λx hx=>?_) (by constructor<;>simp[Sx.op,Sx.name,Sx.index,Sx.arg,Sx.els,Sx.body]),D.trans u1,rfl⟩;simp only[bk,cI,gH]at hx;rw[hx,<-dd d1];exact GS.wo (by omega) (by simp) (λx hx=>(by cases hx)) (by constructor<;>simp[Sx.op,Sx.name,Sx.index,Sx.arg,Sx.els,Sx.body]<;>omega)
 refine aW (λx=>x.2=(m0,I,(0,0,[],[],0,0,[]),h)) ?_ ?_
 .exact aG (λ_=>aR (λ_=>aR (λ_=>aj rfl) λ_=>aj rfl) λ_=>aj rfl) λ_=>aj rfl
 rintro⟨b,x⟩ e;dsimp only at e;subst e;refine aR (λq=>?_) λ_=>?_
 .refine au (hE 1 _ I h (by omega) D.p) λz N=>?_
  let⟨e,m2,t2,h2⟩:=z;let⟨v1,v2,v3,v4⟩:=N;dsimp only at v1 v2 v3 v4;subst v2 v4;refine bO (by simp) (aj ?_);dsimp only;rw[fV];exact⟨GS.we v1 (by simp) (by simp) (λx hx=>(by cases hx)) (λx hx=>(by cases hx)) (by constructor<;>simp[Sx.op,Sx.name,Sx.index,Sx.arg,Sx.els,Sx.body]),D.trans v3,rfl⟩
 refine aW (λx=>x.2.1=m0/\Rp I x.2.2.1/\x.2.2.2.2=h) ?_ ?_
 .refine aG (λ_=>aR (λ_=>?_) λ_=>aj ⟨rfl,Rp.refl D.p,rfl⟩) λ_=>aj ⟨rfl,Rp.refl D.p,rfl⟩
  exact au (nQ 2 I D.p) λy A=>aj ⟨rfl,A.1,rfl⟩
 rintro⟨b,m9,t9,z9,h9⟩ ⟨e1,e2,e3⟩;dsimp only at e1 e2 e3;subst e1 e3;refine aR (λq=>?_) λ_=>?_
 .exact aj ⟨GS.wo (by omega) (by simp) (λx hx=>(by cases hx)) (by constructor<;>simp[Sx.op,Sx.name,Sx.index,Sx.arg,Sx.els,Sx.body]),D.trans e2,rfl⟩
 refine au (hE 1 _ t9 h9 (by omega) e2.p) λz N=>?_
 let⟨e,m2,t2,h2⟩:=z;let⟨v1,v2,v3,v4⟩:=N;dsimp only at v1 v2 v3 v4;subst v2 v4;refine bO (by simp) (aU (vx _ _) (aj ?_));dsimp only;rw[fV,Bq];exact⟨GS.asg (by decide) v1,D.trans (e2.trans v3),rfl⟩
def QH:∀(n:Nat),(∀d:Nat,d<=5->3*d+1<=n->SpT nT (eW n) d)/\(∀d:Nat,d<=5->3*d+2<=n->SpS nT (dN n) d)/\(∀d:Nat,d<=5->3*d+3<=n->SpB nT (eE n) d)
 |0=>⟨λd _ h=>by omega,λd _ h=>by omega,λd _ h=>by omega⟩
 |n+1=>by
  let⟨A,q,D⟩:=QH n;refine ⟨λd h1 h2=>?_,λd h1 h2=>?_,λd h1 h2=>?_⟩
  .exact ahp (dN n) (eW n) (eE n) d h1 (λh=>q 0 (by omega) (by omega)) (λh=>q (d-1) (by omega) (by omega)) (λh=>D (d-1) (by omega) (by omega))
  .exact adc (dN n) (eW n) (eE n) d (A d h1 (by omega))
  .exact adg (dN n) (eW n) (eE n) d (q d h1 (by omega))
def acn (d:Nat) (hd:d<=5):SpS nT rL d:=(QH fZ).2.1 d hd (by rw[kl];omega)
end
def GX:Nat->Xp->Prop
 |0,_=>False
 |d+1,e=>l! e.l<=2/\∀x∈e.l,GX d x
def GE.x:∀{d:Nat} {e:Xp},GE d e->GX d e
 |0,_,h=>h.elim
 |_+1,_,h=>⟨h.2.2.1,λx q=>(h.2.2.2.1 x q).x⟩
def ZE.x {e:Xp} (h:ZE e):GX 4 e:=by
 rcases h with h|rfl
 .exact h.x
 .exact⟨by simp[Xp.l],λx q=>(by cases q)⟩
def GT:Nat->Sx->Prop
 |0,_=>False
 |d+1,s=>l! s.index<=1/\(∀e∈s.index,GX 4 e)/\GX 4 s.expr/\l! s.body<=8/\l! s.els<=8/\(∀x∈s.body,GT d x)/\(∀x∈s.els,GT d x)
def GS.t {nT:Nat}:∀{d:Nat} {s:Sx},GS nT d s->GT d s
 |0,_,h=>h.elim
 |_+1,_,⟨_,b,c,_,f,g,i,j,k,_⟩=>⟨b,λe he=>(c e he).x,f.x,g,i,λx q=>(j x q).t,λx q=>(k x q).t⟩
def At (s:Sx):oZ (Sx.op s,Sx.line s,Sx.name s,Sx.arg s,Sx.index s,eJ (Xp.op (Sx.expr s),Xp.n (Sx.expr s),Xp.name (Sx.expr s),Xp.l (Sx.expr s)),Sx.body s,Sx.els s)=s:=by
 rw[fV,Bq]
def XC (k:Int):Ok (m_ k) λ_=>True:=by
 unfold m_ bq jr aI;with_reducible repeat' first|apply OS.ok;constructor|refine IM.mk λ_=>?_
 all_goals trivial
def sh (e:Xp):Ok (qP e) λ_=>True:=by
 unfold qP bq aI;with_reducible repeat' first|apply OS.ok;constructor|refine IM.mk λ_=>?_
 all_goals trivial
def BZ:∀(n d:Nat) (e:Xp),d<n->GX d e->Ok (iO n e) λ_=>True
 |0,_,_,h,_=>by omega
 |n+1,0,_,_,h=>h.elim
 |n+1,d+1,e,D,h=>by
  let⟨h1,h2⟩:=h;refine aW (λx=>x.2=e) (aG (λ_=>aj (fV e)) λ_=>aj (fV e)) ?_;rintro⟨b,x⟩ A;dsimp only at A;subst A;refine aW (λy=>y.2=x) ?_ ?_
  .refine au (XC _) λ_ _=>?_
   with_reducible repeat' first|refine bw (λ_=>?_) λ_=>?_|refine bG (λ_=>?_) λ_=>?_|refine dc (λ_=>?_) λ_=>?_|refine aR (λ_=>?_) λ_=>?_|exact aj (fV x)|refine au (i_ _) λ_ _=>?_
  rintro⟨I,y⟩ q;dsimp only at q;subst q;refine aR (λ_=>aj trivial) λ_=>?_
  refine bC (l! y.l) (λi x=>x.1=(i:Int)/\x.2=y) ?_ ?_ ⟨rfl,fV y⟩
  .rintro i ⟨a,z⟩ hi ⟨e1,e2⟩;dsimp only at e1 e2;subst e1 e2;refine cE ?_;refine bK (aS ?_);refine au (BZ n d _ (by omega) (h2 _ (ba (T:=.ex) (xs:=z.l) (j:=(i:Int)) (by omega) (by omega)))) λ_ _=>?_
   refine dc (λ_=>aj trivial) λ_=>aj ?_
   exact⟨fH,fV z⟩
  .rintro⟨a,z⟩ ⟨e1,e2⟩;dsimp only at e1 e2;subst e2;exact cz (aj trivial)
def gQ (e:Xp) (h:GX 4 e):Ok (j5 e) λ_=>True:=BZ fZ 4 e (by rw[kl];omega) h
abbrev Q?:=Int×Int×ζ×Int×Int×ζ
def OK (d:Q?):Ok (mO d) λ_=>True:=by
 refine aW (λ_=>True) ?_ λx _=>aR (λ_=>aj trivial) λ_=>?_
 .with_reducible repeat' first|refine bw (λ_=>?_) λ_=>?_|refine bG (λ_=>?_) λ_=>?_|refine dc (λ_=>?_) λ_=>?_|exact aj trivial|refine au (i_ _) λ_ _=>?_
 refine aW (λ_=>True) ?_ λx _=>aR (λ_=>aj trivial) λ_=>?_
 .with_reducible repeat' first|refine bw (λ_=>?_) λ_=>?_|refine aG (λ_=>?_) λ_=>?_|refine dc (λ_=>?_) λ_=>?_|exact aj trivial|refine au (i_ _) λ_ _=>?_
 with_reducible repeat' first|apply OS.ok;constructor|refine IM.mk λ_=>?_
 all_goals trivial
def Ku (q:Sx->M Bool) (A:Y Sx->M Bool) (l:Y Sx) (D:l! l<=1000) (h:∀s∈l,Ok (q s) λ_=>True):Ok (lY q A l) λ_=>True:=by
 refine bC (l! l) (λi x=>x=(i:Int)) ?_ ?_ rfl
 .rintro i x hi rfl;refine cE ?_;refine bK ?_;refine au (h _ (ba (T:=.sm) (xs:=l) (j:=(i:Int)) (by omega) (by omega))) λ_ _=>?_
  exact dc (λ_=>aj trivial) λ_=>aj fH
 .rintro x rfl;exact cz (aj trivial)
def MN (D:Sx->M Bool) (A:Y Sx->M Bool) (s:Sx) (h1:∀e∈s.index,GX 4 e) (h2:GX 4 s.expr) (I:Ok (A s.body) λ_=>True) (he:Ok (A s.els) λ_=>True):Ok (kX D A s) λ_=>True:=by
 unfold kX bq bV jr gV bI aI eL;refine aW (λx=>x.2=s) ?_ ?_
 .with_reducible repeat' first|refine bw (λ_=>?_) λ_=>?_|refine aG (λ_=>?_) λ_=>?_|refine bG (λ_=>?_) λ_=>?_|refine dB (λ_=>?_) λ_=>?_|refine dc (λ_=>?_) λ_=>?_|refine aR (λ_=>?_) λ_=>?_|exact aj (At _)|refine au (i_ _) λ_ _=>?_|refine au (sh _) λ_ _=>?_|refine au (gQ _ h2x) λ_ _=>?_
 rintro⟨b,x⟩ q;have q:=q.symm;subst q;refine aR (λ_=>aj trivial) λ_=>?_
 refine aW (λx=>x.2=s) ?_ ?_
 .with_reducible repeat' first|refine bw (λ_=>?_) λ_=>?_|refine aG (λ_=>?_) λ_=>?_|refine bG (λ_=>?_) λ_=>?_|refine dB (λ_=>?_) λ_=>?_|refine dc (λ_=>?_) λ_=>?_|refine aR (λ_=>?_) λ_=>?_|exact aj (At _)|refine au (i_ _) λ_ _=>?_|refine au (sh _) λ_ _=>?_|refine au (gQ _ h2x) λ_ _=>?_
 rintro⟨b,x⟩ q;have q:=q.symm;subst q;refine aW (λx=>x.2=s) ?_ ?_
 .with_reducible repeat' first|refine bw (λ_=>?_) λ_=>?_|refine aG (λ_=>?_) λ_=>?_|refine bG (λ_=>?_) λ_=>?_|refine dB (λ_=>?_) λ_=>?_|refine dc (λ_=>?_) λ_=>?_|refine aR (λ_=>?_) λ_=>?_|exact aj (At _)|refine au (i_ _) λ_ _=>?_|refine au (sh _) λ_ _=>?_|refine au (gQ _ h2x) λ_ _=>?_
 rintro⟨b,x⟩ q;have q:=q.symm;subst q;refine aR (λ_=>aj trivial) λ_=>?_
 refine aW (λx=>x.2=s) ?_ ?_
 .with_reducible repeat' first|refine bw (λ_=>?_) λ_=>?_|refine aG (λ_=>?_) λ_=>?_|refine bG (λ_=>?_) λ_=>?_|refine dB (λ_=>?_) λ_=>?_|refine dc (λ_=>?_) λ_=>?_|refine aR (λ_=>?_) λ_=>?_|exact aj (At _)|refine au (i_ _) λ_ _=>?_|refine au (sh _) λ_ _=>?_|refine au (gQ _ h2x) λ_ _=>?_
 rintro⟨b,x⟩ q;have q:=q.symm;subst q;refine aR (λ_=>aj trivial) λ_=>?_
 refine aW (λx=>x.2=s) ?_ ?_
 .with_reducible repeat' first|refine bw (λ_=>?_) λ_=>?_|refine aG (λ_=>?_) λ_=>?_|refine bG (λ_=>?_) λ_=>?_|refine dB (λ_=>?_) λ_=>?_|refine dc (λ_=>?_) λ_=>?_|refine aR (λ_=>?_) λ_=>?_|exact aj (At _)|refine au (i_ _) λ_ _=>?_|refine au (sh _) λ_ _=>?_|refine au (gQ _ h2x) λ_ _=>?_
  all_goals
   rename_i g;dsimp [al]at g;refine bK (aS ?_);refine au (gQ _ (h1 _ (ba (T:=.ex) (xs:=Sx.index _) (j:=0) (by omega) (by omega)))) λ_ _=>aj (At _)
 rintro⟨b,x⟩ q;have q:=q.symm;subst q;refine aR (λ_=>aj trivial) λ_=>?_
 refine aW (λx=>x.2=s) ?_ ?_
 .with_reducible repeat' first|refine bw (λ_=>?_) λ_=>?_|refine aG (λ_=>?_) λ_=>?_|refine bG (λ_=>?_) λ_=>?_|refine dB (λ_=>?_) λ_=>?_|refine dc (λ_=>?_) λ_=>?_|refine aR (λ_=>?_) λ_=>?_|exact aj (At _)|refine au (i_ _) λ_ _=>?_|refine au (sh _) λ_ _=>?_|refine au (gQ _ h2x) λ_ _=>?_
 rintro⟨b,x⟩ q;have q:=q.symm;subst q;refine aW (λx=>x.2=s) ?_ ?_
 .have h2x:GX 4 (eJ (Xp.op (Sx.expr s),Xp.n (Sx.expr s),Xp.name (Sx.expr s),Xp.l (Sx.expr s))):=by exact h2
  with_reducible repeat' first|refine bw (λ_=>?_) λ_=>?_|refine aG (λ_=>?_) λ_=>?_|refine bG (λ_=>?_) λ_=>?_|refine dB (λ_=>?_) λ_=>?_|refine dc (λ_=>?_) λ_=>?_|refine aR (λ_=>?_) λ_=>?_|exact aj (At _)|refine au (i_ _) λ_ _=>?_|refine au (sh _) λ_ _=>?_|refine au (gQ _ h2x) λ_ _=>?_
 rintro⟨b,x⟩ q;have q:=q.symm;subst q;refine aR (λ_=>aj trivial) λ_=>?_
 refine aW (λx=>x.2=s) ?_ ?_
 .with_reducible repeat' first|refine bw (λ_=>?_) λ_=>?_|refine aG (λ_=>?_) λ_=>?_|refine bG (λ_=>?_) λ_=>?_|refine dB (λ_=>?_) λ_=>?_|refine dc (λ_=>?_) λ_=>?_|refine aR (λ_=>?_) λ_=>?_|exact aj (At _)|refine au (i_ _) λ_ _=>?_|refine au (sh _) λ_ _=>?_|refine au (gQ _ h2x) λ_ _=>?_
 rintro⟨b,x⟩ q;have q:=q.symm;subst q;refine aW (λx=>x.2=s) ?_ ?_
 .with_reducible repeat' first|refine bw (λ_=>?_) λ_=>?_|refine aG (λ_=>?_) λ_=>?_|refine bG (λ_=>?_) λ_=>?_|refine dB (λ_=>?_) λ_=>?_|refine dc (λ_=>?_) λ_=>?_|refine aR (λ_=>?_) λ_=>?_|exact aj (At _)|refine au (i_ _) λ_ _=>?_|refine au (sh _) λ_ _=>?_|refine au (gQ _ h2x) λ_ _=>?_
 rintro⟨b,x⟩ q;dsimp only at q;subst q;refine aR (λ_=>aj trivial) λ_=>?_
 refine aW (λ_=>True) ?_ λ_ _=>aj trivial
 refine au I λ_ _=>aR (λ_=>au he λ_ _=>aj trivial) λ_=>aj trivial
def MY:∀(n:Nat),(∀(d:Nat) (s:Sx),2*d<n->GT d s->Ok (eU n s) λ_=>True)/\(∀(d:Nat) (l:Y Sx),2*d+1<n->l! l<=1000->(∀s∈l,GT d s)->Ok (dK n l) λ_=>True)
 |0=>⟨λd _ h=>by omega,λd _ h=>by omega⟩
 |n+1=>by
  let⟨I,q⟩:=MY n;refine ⟨λd s hd h=>?_,λd l hd D h=>?_⟩
  .cases d with
   |zero=>exact h.elim
   |succ d=>
    let⟨_,g2,g3,g4,g5,g6,N⟩:=h;exact MN (eU n) (dK n) s g2 g3 (q d _ (by omega) (by omega) g6) (q d _ (by omega) (by omega) N)
  .exact Ku (eU n) (dK n) l D λs A=>I d s (by omega) (h s A)
def Oe (d:Nat) (hd:d<=100) (l:Y Sx) (q:l! l<=1000) (h:∀s∈l,GT d s):Ok (oV l) λ_=>True:=(MY fZ).2 d l (by rw[kl];omega) q h
abbrev DT:Type:=Q?
abbrev HT:Type:=ζ×Int×Y ζ×Y Sx
abbrev PG:Type:=Y DT×Y HT
structure PX (p:PG):Prop where
 d:l! p.1<=100
 t:l! p.2<=8
 l:∀t∈p.2,l! t.2.2.1<=100
 b:∀t∈p.2,l! t.2.2.2<=100
 s:∀t∈p.2,∀s∈t.2.2.2,GT 5 s
def aek (p:PG) (h:PX p):Ok (rh p) λ_=>True:=by
 let⟨hd,ht,N,hb,I⟩:=h;unfold rh bg bQ dv bV bI be c7 aI cL;refine bC (l! p.1) (λi x=>x.1=(i:Int)/\x.2=p) ?_ ?_ ⟨rfl,rfl⟩
 .rintro i ⟨a,x⟩ hi ⟨e1,e2⟩;dsimp only at e1 e2;subst e1 e2;refine cE ?_;refine bK (aS ?_);refine au (OK _) λ_ _=>?_
  exact dc (λ_=>aj trivial) λ_=>aj ⟨fH,rfl⟩
 rintro⟨a,x⟩ ⟨e1,e2⟩;dsimp only at e1 e2;subst e2;refine cz ?_;refine au (P:=λ_=>True) ?_ λ_ _=>aj trivial
 refine bC (l! x.2) (λi y=>y.1=(i:Int)/\y.2=x) ?_ ?_ ⟨rfl,rfl⟩
 .rintro i ⟨a,x⟩ hi ⟨e1,e2⟩;subst e1;have e2:=e2.symm;subst e2;refine cE ?_;refine bK (aS ?_);have hm:=ba (T:=uL) (xs:=x.2) (j:=(i:Int)) (by omega) (by omega);have h1:=N _ hm;have h2:=hb _ hm;have h3:=I _ hm;revert h1 h2 h3;generalize (aw uL x.2 (i:Int))=t;intro h1 h2 h3;refine bC (l! t.2.2.1) (λk y=>y.1=(k:Int)/\y.2=(x,t)) ?_ ?_ ⟨rfl,rfl⟩
  .rintro k ⟨a,z⟩ hk ⟨A,q⟩;subst A q;refine cE ?_;refine bK (aS ?_);refine au (i_ _) λ_ _=>?_
   exact dc (λ_=>aj trivial) λ_=>aj ⟨fH,rfl⟩
  .rintro⟨a,z⟩ ⟨A,q⟩;subst A q;refine cz ?_;refine au (P:=λr=>match r with|.inl y=>y.1=((i+1:Nat):Int)/\y.2=x|.inr _=>True) ?_ ?_
   .refine aW (λy=>y.2=x) ?_ ?_
    .refine au (i_ _) λ_ _=>dc (λ_=>aj rfl) λ_=>?_
     exact au (Oe 5 (by omega) _ (by grind) h3) λ_ _=>aj rfl
    rintro⟨b,y⟩ e;subst e;exact aR (λ_=>aj trivial) λ_=>aj ⟨fH,rfl⟩
   .rintro (y|y) D
    .exact aj D
    .exact aj trivial
 .rintro⟨a,y⟩ ⟨e1,e2⟩;dsimp only at e1 e2;subst e2;exact cz (aj trivial)
def yR (l:Y DT) (s:ζ) (q:l! l<=1000):Ok (jK (l,s)) λr=> -1<=r/\r<(l! l:Int):=by
 refine bC (l! l) (λi x=>x=(i:Int)) ?_ ?_ rfl
 .rintro i x hi rfl;refine cE ?_;refine bK (aS ?_);exact aG (λ_=>aj ⟨by omega,by omega⟩) λ_=>aj fH
 .rintro x rfl;exact cz (aj ⟨by omega,by omega⟩)
def ut (l:Y HT) (s:ζ) (q:l! l<=1000):Ok (jA (l,s)) λr=> -1<=r/\r<(l! l:Int):=by
 refine bC (l! l) (λi x=>x=(i:Int)) ?_ ?_ rfl
 .rintro i x hi rfl;refine cE ?_;refine bK (aS ?_);exact aG (λ_=>aj ⟨by omega,by omega⟩) λ_=>aj fH
 .rintro x rfl;exact cz (aj ⟨by omega,by omega⟩)
def DD (p:PG) (s:ζ):Prop:=∃v,jK (p.1,s)=Z v/\0<=v/\v<(l! p.1:Int)
def aev (p:PG) (h:PX p) (t:Int) (s:ζ):Ok (ub (p,t,s)) λk=>k≠0->k≠7->k≠8->DD p s:=by
 have hd:=h.d;have ht:=h.t;refine aW (λx=>x.2=p) ?_ ?_
 .refine dB (λI=>bG (λD=>?_) λ_=>aj rfl) λ_=>aj rfl
  refine aQ I D (aS ?_);have hm:=h.l _ (ba (T:=uL) (xs:=p.2) (j:=t) I D);exact au (AU _ s (cP hm (by omega))) λ_ _=>aj rfl
 rintro⟨b,x⟩ e;have e:=e.symm;subst e;refine aR (λ_=>aj λ_ _ h=>(h rfl).elim) λ_=>?_
 let⟨v,A,v0,v1⟩:=yR p.1 s (by omega);refine aU A ?_;refine bG (λ_=>?_) λg=>?_
 .exact au (ut p.2 s (by omega)) λ_ _=>dB (λ_=>aj λ_ h=>(h rfl).elim) λ_=>aj λh=>(h rfl).elim
 have q:DD p s:=⟨v,A,g,v1⟩
 refine aQ g v1 (aS ?_);refine aG (λ_=>?_) λ_=>?_
 .exact aQ g v1 (aS (bw (λ_=>aj λ_ _ _=>q) λ_=>aj λ_ _ _=>q))
 refine aG (λ_=>aj λ_ _ _=>q) λ_=>?_
 refine aW (λx=>x.2=p) (aG (λ_=>aj rfl) λ_=>aG (λ_=>aj rfl) λ_=>aG (λ_=>aj rfl) λ_=>aj rfl) ?_;rintro⟨b,x⟩ e;dsimp only at e;subst e;exact aR (λ_=>aQ g v1 (aS (aj λ_ _ _=>q))) λ_=>aj λ_ _ _=>q
def pX (p:PG) (h:PX p) (t:Int) (s:ζ) (a b:Int):Ok (iC (p,t,s,a,b)) λr=>r=0->(a≠7/\a≠8)->(b≠7/\b≠8)->DD p s:=by
 refine au (aev p h t s) λk q=>?_
 refine aG (λ_=>aj nofun) λg=>?_
 refine aW (λx=>x=aa->k=a\/k=b) ?_ ?_
 .refine bw (λ_=>aj λh=>?_) λh=>aj λ_=>.inl h
  simp at h;exact .inr h
 rintro x A;refine aR (λ_=>aj nofun) λh=>aj λ_ h1 h2=>q g ?_ ?_
 .grind
 .grind
def QK:∀(n d:Nat) (e:Xp),d<n->GX d e->Ok (oB n e) λ_=>True
 |0,_,_,h,_=>by omega
 |n+1,0,_,_,h=>h.elim
 |n+1,d+1,e,q,h=>by
  let⟨h1,h2⟩:=h;refine bC (l! e.l) (λi x=>x.1.2.2=(i:Int)/\x.2=e) ?_ ?_ ⟨rfl,fV e⟩
  .rintro i ⟨⟨a,b,c⟩,z⟩ hi ⟨e1,e2⟩;dsimp only at e1 e2;subst e1 e2;refine cE ?_;refine bK (aS ?_);refine au (QK n d _ (by omega) (h2 _ (ba (T:=.ex) (xs:=z.l) (j:=(i:Int)) (by omega) (by omega)))) λ_ _=>aj ?_
   exact⟨fH,fV z⟩
  .rintro⟨⟨a,b,c⟩,z⟩ ⟨e1,e2⟩;dsimp only at e1 e2;subst e2;exact cz (aj trivial)
def Jb (p:PG) (hp:PX p) (t:Int):∀(n d:Nat) (e:Xp),d<n->GX d e->Ok (oA n (p,t,e)) λ_=>True
 |0,_,_,h,_=>by omega
 |n+1,0,_,_,h=>h.elim
 |n+1,d+1,e,N,h=>by
  let⟨h1,h2⟩:=h;rw[Az];unfold vW bq bV bI c7 aI cL;refine aW (λx=>x.2.1=p/\x.2.2=e) ?_ ?_
  .refine aG (λ_=>au (pX p hp t _ _ _) λ_ _=>aj ⟨rfl,fV e⟩) λ_=>aG (λ_=>au (pX p hp t _ _ _) λ_ _=>aj ⟨rfl,fV e⟩) λ_=>aj ⟨rfl,fV e⟩
  rintro⟨r,D,e'⟩ ⟨A,q⟩;have A:=A.symm;subst A;have q:=q.symm;subst q;refine wK (λx=>((l! e.l:Int)-x.1.2).toNat) (λx=>0<=x.1.2/\x.2.1=p/\x.2.2=e) ?_ ⟨c6 _,rfl,fV e⟩;rintro⟨⟨a,(b:Int)⟩,D,e'⟩ ⟨b0,A,q⟩;dsimp only at b0 A q;have A:=A.symm;subst A;have q:=q.symm;subst q;refine aW (λx=>x.2.1=p/\x.2.2=e/\(x.1=J->b<(l! e.l:Int))) ?_ ?_
  .exact bG (λg=>aj ⟨rfl,fV e,λ_=>g⟩) λ_=>aj ⟨rfl,fV e,nofun⟩
  rintro⟨c,D,e'⟩ ⟨A,q,f3⟩;have A:=A.symm;subst A;have q:=q.symm;subst q;refine aR (λI=>?_) λ_=>aj trivial
  have g:=f3 I;refine aQ b0 g (aS ?_);refine au (Jb p hp t n d _ (by omega) (h2 _ (ba (T:=.ex) (xs:=e.l) (j:=b) b0 g))) λ_ _=>aj ?_
  dsimp only;rw[fh (n:=b+1) (by omega) (by omega)];exact⟨⟨by omega,rfl,fV e⟩,by omega⟩
def yQ (p:PG) (hp:PX p) (t:Int) (e:Xp) (h:GX 4 e):Ok (oU (p,t,e)) λ_=>True:=by
 have q:GX 4 (eJ (Xp.op e,Xp.n e,Xp.name e,Xp.l e)):=by exact h
 refine au (gQ _ q) λ_ _=>dc (λ_=>aj trivial) λ_=>?_
 refine au (QK fZ 4 _ (by rw[kl];omega) q) λ_ _=>?_
 refine aW (λx=>x.2.1=p/\x.2.2=e) (bG (λ_=>aj ⟨rfl,fV e⟩) λ_=>aj ⟨rfl,fV e⟩) ?_;rintro⟨r,I,e'⟩ ⟨A,D⟩;have A:=A.symm;subst A D;exact aR (λ_=>aj trivial) λ_=>au (Jb p hp t fZ 4 _ (by rw[kl];omega) q) λ_ _=>aj trivial
def fQ (b:Bool):Ok (di b) λ_=>True:=by
 unfold di;exact aR (λ_=>aj trivial) λ_=>aj trivial
def vC (x:ν):Ok (jX x) λr=>r=0->x.1=0/\x.2=0:=by
 unfold jX gV;exact bw (λh=>aj λh2=>(h h2).elim) λh=>aj λh2=>⟨h,h2⟩
abbrev WK:Type:=(Y DT×Y HT×Int)×(Bool×Y Sx)×Y ζ×Y ζ
def acr (a b:Int) (s:ζ) (w:WK) (h:l! w.2.1.2<=100):Ok (eC ((a,b,s),w)) λy=>y.2=w:=by
 unfold eC bg bq bV mn be c7 aI cL;refine bC (l! w.2.1.2) (λi x=>x.1=(i:Int)/\x.2=w) ?_ ?_ ⟨rfl,rfl⟩
 .rintro i ⟨c,x⟩ hi ⟨e1,e2⟩;subst e1;have e2:=e2.symm;subst e2;refine cE ?_;refine bK (bK (aS ?_));refine aW (λx=>x.2=w) ?_ ?_
  .refine aG (λ_=>aG (λ_=>aj rfl) λ_=>aj rfl) λ_=>aG (λ_=>aG (λ_=>aj rfl) λ_=>aj rfl) λ_=>aj rfl
  rintro⟨c,x⟩ e;dsimp only at e;subst e;exact aR (λ_=>aj rfl) λ_=>aj ⟨fH,rfl⟩
 .rintro⟨c,x⟩ ⟨e1,e2⟩;subst e1;have e2:=e2.symm;subst e2;exact cz (aj rfl)
def Ue:Nat->Sx->Nat
 |0,_=>0
 |d+1,s=>1+(s.body.map (Ue d)).sum+(s.els.map (Ue d)).sum
def oJ (d:Nat) (l:Y Sx):Nat:=(l.map (Ue d)).sum
def KS:Nat->Nat
 |0=>0
 |d+1=>1+16*KS d
def RI {f:R->Nat} :∀{l:Y R},(∀x∈l,f x<=i)->(l.map f).sum<=l! l*i
 |[],_=>by simp
 |x::r,h=>by
  have:=RI (l:=r) λy q=>h y (bP _ q)
  have:=h x (cj ..);rw[eg,List.sum_cons,fX,nC];omega
def Zm:∀{d:Nat} {s:Sx},GT d s->Ue d s<=KS d
 |0,_,h=>h.elim
 |d+1,s,⟨_,_,_,h4,I,D,A⟩=>by
  have a:=RI (f:=Ue d) (l:=s.body) λx q=>Zm (D x q)
  have b:=RI (f:=Ue d) (l:=s.els) λx q=>Zm (A x q)
  have c:=cg (KS d) h4;have e:=cg (KS d) I;show 1+_+_<=1+16*KS d;omega
def Tw:∀{d:Nat} {s:Sx},GT d s->Ue (d+1) s=Ue d s
 |0,_,h=>h.elim
 |d+1,s,⟨_,_,_,_,_,D,A⟩=>by
  show 1+(s.body.map (Ue (d+1))).sum+(s.els.map (Ue (d+1))).sum=1+(s.body.map (Ue d)).sum+(s.els.map (Ue d)).sum;rw[List.map_congr_left λx q=>Tw (D x q),List.map_congr_left λx q=>Tw (A x q)]
def aic {l:Y Sx} (h:∀s∈l,GT i s):oJ i l<=l! l*KS i:=RI λx q=>Zm (h x q)
def yt {l:Y Sx} (hi:i<l! l):oJ m (l.take (i+1))=oJ m (l.take i)+Ue m (aw (.sm) l (i:Int)):=by
 unfold oJ;rw[kA (T:=.sm) hi,b7,IH];simp
def Tx {d:Nat} (l:Y Sx) (i:Nat):oJ d (l.take i)<=oJ d l:=by
 conv=>rhs;rw[<- oK i l]
 unfold oJ;rw[b7,IH];omega
def Ia:∀(n d:Nat) (l:Y Sx),d<n->l! l<=1000->(∀s∈l,GT d s)->KS d<=100000->oC n l=Z ((oJ d l:Nat):Int)
 |0,_,_,h,_,_,_=>by omega
 |n+1,d,l,hn,q,h,D=>by
  refine bT ?_;have hb:=aic h;have A:=Nat.mul_le_mul q D;refine bC (l! l) (λi x=>x.2=(i:Int)/\x.1=(l! l:Int)-i+(oJ d (l.take i):Nat)) ?_ ?_ ⟨rfl,by simp[oJ]⟩
  .rintro i ⟨a,b⟩ hi ⟨e1,e2⟩;subst e1 e2;have hp:=Tx (d:=d) l (i+1);rw[yt hi]at hp;refine cE ?_;refine bK (aS ?_);rw[yt hi];have hm:=h _ (ba (T:=.sm) (xs:=l) (j:=(i:Int)) (by omega) (by omega));revert hm hp;generalize (aw (.sm) l (i:Int))=s;intro hp hm;cases d with
   |zero=>exact hm.elim
   |succ d=>
    let⟨_,_,_,g4,g5,N,I⟩:=hm;have hk:KS (d+1)=1+16*KS d:=rfl;have hc:Ue (d+1) s=1+oJ d s.body+oJ d s.els:=rfl;refine aU (Ia n d _ (by omega) (by omega) N (by omega)) ?_;refine bK (aS ?_);refine aU (Ia n d _ (by omega) (by omega) I (by omega)) (aj ⟨fH,?_⟩);rw[fh (n:=(l! l:Int)-i+(oJ (d+1) (l.take i):Nat)+(oJ d s.body:Nat)) (by omega) (by omega),fh];omega
  .rintro⟨a,b⟩ ⟨e1,e2⟩;subst e1 e2;exact cz (aj (by simp))
def YS (l:Y DT) (A:l! l<=100):Ok (sT l) λ_=>True:=by
 unfold sT bg bA bQ bY dt gz bq bV jr gV bX bI be c7 aI cL;refine bC (l! l) (λi x=>x.2.2.2.2=(i:Int)) ?_ ?_ rfl
 .rintro i ⟨a,b,c,d,e⟩ hi e1;subst e1;refine cE ?_;refine aW (λ_=>True) ?_ λx _=>aj fH
  refine bK (aS ?_);have htk:l! (cu (aN (i:Int)) l)<=100:=by grind
  refine bZ (cK (by simp) (cK (by grind) ?_));refine au (yR _ _ (cP htk (by omega))) λv q=>?_
  refine dB (λ_=>aj trivial) λ_=>bG (λ_=>aj trivial) λ_=>?_
  refine aW (λ_=>True) ?_ λx _=>?_
  .refine aW (λ_=>True) (aG (λ_=>aj trivial) λ_=>aj trivial) λx _=>aR (λ_=>aj trivial) λ_=>?_
   refine aW (λ_=>True) (aG (λ_=>aj trivial) λ_=>aj trivial) λx _=>aR (λ_=>aj trivial) λ_=>?_
   exact aG (λ_=>aj trivial) λ_=>aj trivial
  refine aW (λ_=>True) (bG (λ_=>aj trivial) λ_=>bG (λ_=>aj trivial) λ_=>bG (λ_=>aj trivial) λ_=>aj trivial) λx _=>aR (λ_=>aj trivial) λ_=>?_
  refine aG (λ_=>?_) λ_=>aj trivial
  refine bZ (cK (by simp) (cK (by grind) ?_));refine au (yR _ _ (cP htk (by omega))) λv q=>?_
  refine bG (λ_=>aj trivial) λg=>?_
  have h2:=q.2;rw[bl]at h2;exact aQ g (by omega) (aS (bw (λ_=>aj trivial) λ_=>aj trivial))
 .rintro⟨a,b,c,d,e⟩ e1;subst e1;exact cz (aj trivial)
def RG (p:PG) (h:PX p):Ok (oT p) λ_=>True:=by
 have hd:=h.d;have ht:=h.t;unfold oT bg bA bQ bV jr bX bI be c7 aI cL;refine bC (l! p.2) (λi x=>x.1=(i:Int)/\x.2=p) ?_ ?_ ⟨rfl,rfl⟩
 .rintro i ⟨a,x⟩ hi ⟨e1,e2⟩;subst e1;have e2:=e2.symm;subst e2;refine cE ?_;refine bK (aS ?_);refine aW (λx=>x.2.1=p) ?_ ?_
  .refine au (yR _ _ (by grind)) λv D=>dB (λ_=>aj rfl) λ_=>?_
   refine bZ (cK (by simp) (cK (by grind) ?_));exact au (ut _ _ (by grind)) λ_ _=>aj rfl
  rintro⟨b,x,z⟩ e;dsimp only at e;subst e;exact aR (λ_=>aj trivial) λ_=>aj ⟨fH,rfl⟩
 rintro⟨a,x⟩ ⟨e1,e2⟩;subst e1;have e2:=e2.symm;subst e2;refine cz ?_;refine au (P:=λ_=>True) ?_ λ_ _=>aj trivial
 refine bC (l! p.2) (λi x=>x.1=(i:Int)/\x.2=p) ?_ ?_ ⟨rfl,rfl⟩
 .rintro i ⟨a,x⟩ hi ⟨e1,e2⟩;subst e1;have e2:=e2.symm;subst e2;refine cE ?_;refine bK (aS ?_);have hm:=h.l _ (ba (T:=uL) (xs:=p.2) (j:=(i:Int)) (by omega) (by omega));revert hm;generalize (aw uL p.2 (i:Int))=t;intro hm;refine bG (λ_=>aj trivial) λ_=>?_
  refine bC (l! t.2.2.1) (λk y=>y.1=(k:Int)/\y.2=(p,t)) ?_ ?_ ⟨rfl,rfl⟩
  .rintro k ⟨a,z⟩ I ⟨A,q⟩;subst A q;refine cE ?_;refine bK (aS ?_);refine aW (λx=>x.2=(p,t)) ?_ ?_
   .refine au (yR _ _ (by grind)) λv D=>dB (λ_=>aj rfl) λ_=>?_
    refine au (ut _ _ (by grind)) λv D=>dB (λ_=>aj rfl) λ_=>?_
    refine bZ (cK (by simp) (cK (by grind) ?_));exact au (AU _ _ (by grind)) λ_ _=>aj rfl
   rintro⟨b,x⟩ e;subst e;exact aR (λ_=>aj trivial) λ_=>aj ⟨fH,rfl⟩
  .rintro⟨a,z⟩ ⟨A,q⟩;subst A q;exact cz (aj ⟨fH,rfl⟩)
 .rintro⟨a,x⟩ ⟨e1,e2⟩;subst e1;have e2:=e2.symm;subst e2;exact cz (aj trivial)
structure WQ (w:WK) (y:Int×WK):Prop where
 p:y.2.1=w.1
 a:y.2.2.1=w.2.1
 s:l! y.2.2.2.1<=l! w.2.2.1+1
 t:l! y.2.2.2.2<=l! w.2.2.2+1
def WQ.same (w:WK) (e:Int):WQ w (e,w):=⟨rfl,rfl,Nat.le_succ _,Nat.le_succ _⟩
def aqi (s:Sx) (D:Y DT) (T:Y HT) (t:Int) (A:Bool×Y Sx) (sp q:Y ζ) (hp:PX (D,T)) (hA:l! A.2<=100) (h1:l! sp<=100000000) (h2:l! q<=100000000) (N:∀e∈s.index,GX 4 e) (he:GX 4 s.expr):Ok (m8 (s,((D,T,t),A,sp,q))) (WQ ((D,T,t),A,sp,q)):=by
 have hex:GX 4 (eJ (Xp.op s.expr,Xp.n s.expr,Xp.name s.expr,Xp.l s.expr)):=by rw[fV];exact he
 have hin:∀(a b:Int) (n:ζ),Ok (eC ((a,b,n),((D,T,t),A,sp,q))) λy=>y.2=((D,T,t),A,sp,q):=λa b n=>acr a b n _ hA
 have hth:l! T<=1000:=by have:=hp.t;dsimp only at this;omega
 have hdl:l! D<=1000:=by have:=hp.d;dsimp only at this;omega
 have sm:∀e,WQ ((D,T,t),A,sp,q) (e,((D,T,t),A,sp,q)):=WQ.same _;unfold m8 bg bA bQ cS bY dt dv gz bq jr gV bX bI aI eL;refine au (hin _ _ _) λy I=>?_
 let⟨b1,y2⟩:=y;dsimp only at I;subst I;refine bO (by simp) ?_;refine au (hin _ _ _) λy I=>?_
 let⟨b2,y2⟩:=y;dsimp only at I;subst I;refine bO (by simp) ?_;refine au (hin _ _ _) λy I=>?_
 let⟨b3,y2⟩:=y;dsimp only at I;subst I;refine bO (by simp) ?_;refine aG (λ_=>?_) λ_=>?_
 .refine aG (λ_=>?_) λg=>?_
  .exact au (pX _ hp _ _ _ _) λ_ _=>au (yQ _ hp _ _ hex) λ_ _=>au (vC _) λ_ _=>aj (sm _)
  .refine au (pX _ hp _ _ _ _) λ_ _=>?_
   dsimp only[al]at g;refine bK (aS ?_);refine au (yQ _ hp _ _ (N _ (ba (T:=.ex) (xs:=s.index) (j:=0) (by omega) (by omega)))) λ_ _=>?_
   exact au (yQ _ hp _ _ hex) λ_ _=>au (vC _) λ_ _=>au (vC _) λ_ _=>aj (sm _)
 refine aW (λx=>x.2=((D,T,t),A,s,(D,T),sp,q)) (aG (λ_=>aj (by dsimp only;rw[At])) λ_=>aj (by dsimp only;rw[At])) ?_;rintro⟨b,x⟩ e;dsimp only at e;subst e;refine aR (λ_=>au (yQ _ hp _ _ hex) λ_ _=>aj (sm _)) λ_=>?_
 refine aG (λ_=>?_) λ_=>?_
 .refine aW (λx=>WQ ((D,T,t),A,sp,q) x) ?_ λx N=>aj N
  refine au (pX _ hp _ _ _ _) λ_ _=>aR (λ_=>?_) λ_=>?_
  .exact au (fQ _) λ_ _=>au (vC _) λ_ _=>aj (sm _)
  .refine au (hin _ _ _) λy I=>?_
   let⟨b4,y2⟩:=y;dsimp only at I;subst I;exact bO (by simp) (au (fQ _) λ_ _=>au (vC _) λ_ _=>aj (sm _))
 refine aW (λx=>x.2=((D,T,t),A,s,(D,T),sp,q)) (aG (λ_=>aj (by dsimp only;rw[At])) λ_=>aj (by dsimp only;rw[At])) ?_;rintro⟨b,x⟩ e;dsimp only at e;subst e;refine aR (λ_=>?_) λ_=>?_
 .refine aW (λx=>WQ ((D,T,t),A,sp,q) x) ?_ λx N=>aj N
  refine au (pX _ hp _ _ _ _) λ_ _=>aR (λ_=>?_) λ_=>?_
  .exact au (fQ _) λ_ _=>au (vC _) λ_ _=>aj (sm _)
  .refine au (hin _ _ _) λy I=>?_
   let⟨b4,y2⟩:=y;dsimp only at I;subst I;exact bO (by simp) (au (fQ _) λ_ _=>au (vC _) λ_ _=>aj (sm _))
 refine aG (λ_=>au (fQ _) λ_ _=>aj (sm _)) λ_=>?_
 refine aG (λ_=>?_) λ_=>?_
 .refine aW (λx=>WQ ((D,T,t),A,sp,q) x) ?_ λx N=>aj N
  exact aR (λ_=>au (fQ _) λ_ _=>aj (sm _)) λ_=>au (fQ _) λ_ _=>aj (sm _)
 refine aW (λx=>x.2=((D,T,t),A,s,(D,T),sp,q)) (aG (λ_=>aj (by dsimp only;rw[At])) λ_=>aG (λ_=>aj (by dsimp only;rw[At])) λ_=>aj (by dsimp only;rw[At])) ?_;rintro⟨b,x⟩ e;dsimp only at e;subst e;refine aR (λ_=>?_) λ_=>?_
 .refine au (pX _ hp _ _ _ _) λr hr=>bw (λ_=>aj (sm _)) λg=>?_
  let⟨v,hv,v0,v1⟩:=hr g (by omega) (by omega);refine aU hv (aQ v0 v1 (aS ?_));refine au (hin _ _ _) λy I=>?_
  let⟨b4,y2⟩:=y;dsimp only at I;subst I;refine bO (by simp) ?_;refine aW (λx=>WQ ((D,T,t),A,sp,q) x) ?_ λx N=>aj N
  refine aR (λ_=>au (fQ _) λ_ _=>aj (sm _)) λ_=>dc (λ_=>au (fQ _) λ_ _=>aj (sm _)) λ_=>?_
  exact aG (λ_=>au (fQ _) λ_ _=>aj (sm _)) λ_=>au (fQ _) λ_ _=>aj (sm _)
 refine aG (λ_=>?_) λ_=>?_
 .refine au (pX _ hp _ _ _ _) λr hr=>bw (λ_=>aj (sm _)) λg=>?_
  refine au (ut T _ hth) λv hv=>?_
  refine aW (λx=>x.2=((D,T,t),A,s,sp,q)) ?_ ?_
  .refine aR (λ_=>aj (by dsimp only;rw[At])) λ_=>aR (λ_=>aj (by dsimp only;rw[At])) λ_=>aR (λ_=>aj (by dsimp only;rw[At])) λ_=>aG (λ_=>aj (by dsimp only;rw[At])) λ_=>aj (by dsimp only;rw[At])
  rintro⟨b,x⟩ e;dsimp only at e;subst e;refine aR (λ_=>aj (sm _)) λ_=>?_
  refine au (AU sp _ (by omega)) λ_ _=>dB (λ_=>aj (sm _)) λ_=>?_
  exact a! (aj ⟨rfl,rfl,by simp,Nat.le_succ _⟩)
 refine aG (λ_=>?_) λ_=>?_
 .refine aW (λx=>WQ ((D,T,t),A,sp,q) x) ?_ λx N=>aj N
  refine au (pX _ hp _ _ _ _) λr hr=>?_
  refine aR (λ_=>au (fQ _) λ_ _=>au (vC _) λ_ _=>aj (sm _)) λ_=>?_
  refine aR (λ_=>au (fQ _) λ_ _=>au (vC _) λ_ _=>aj (sm _)) λ_=>?_
  exact au (ut T _ hth) λv hv=>au (fQ _) λ_ _=>au (vC _) λ_ _=>aj (sm _)
 refine aG (λ_=>?_) λ_=>?_
 .refine aW (λx=>x.2=((D,T,t),A,s,(D,T),sp,q)) ?_ ?_
  .refine au (pX _ hp _ _ _ _) λr hr=>?_
   exact aR (λ_=>au (fQ _) λ_ _=>au (vC _) λ_ _=>aj (by dsimp only;rw[At])) λ_=>au (fQ _) λ_ _=>au (vC _) λ_ _=>aj (by dsimp only;rw[At])
  rintro⟨b,x⟩ e;dsimp only at e;subst e;refine aW (λx=>x.2=((D,T,t),A,s,(D,T),sp,q)) ?_ ?_
  .refine aW (λx=>x.2=((D,T,t),A,s,(D,T),sp,q)) ?_ ?_
   .exact aG (λ_=>au (AU q _ (by omega)) λ_ _=>aj (by dsimp only;rw[At])) λ_=>aj (by dsimp only;rw[At])
   rintro⟨b,x⟩ e;dsimp only at e;subst e;exact aR (λ_=>aj (by dsimp only;rw[At])) λ_=>aj (by dsimp only;rw[At])
  rintro⟨b,x⟩ e;dsimp only at e;subst e;refine a! ?_;exact au (yQ _ hp _ _ hex) λ_ _=>au (vC _) λ_ _=>aj ⟨rfl,rfl,Nat.le_succ _,by simp⟩
 exact au (pX _ hp _ _ _ _) λ_ _=>au (pX _ hp _ _ _ _) λ_ _=>au (fQ _) λ_ _=>au (vC _) λ_ _=>au (vC _) λ_ _=>aj (sm _)
abbrev RA4:Type:=(Y Sx×WK)->M (ν×WK)
structure QA (l:List Sx) (d:Nat) (w:WK) (y:ν×WK):Prop where
 p:y.2.1=w.1
 a:l! y.2.2.1.2=l! w.2.1.2
 s:l! y.2.2.2.1<=l! w.2.2.1+l! l*KS d
 t:l! y.2.2.2.2<=l! w.2.2.2+l! l*KS d
def SpA (rr:RA4) (d:Nat):Prop:=∀(l:Y Sx) (w:WK),l! l<=100->(∀s∈l,GT d s)->PX (w.1.1,w.1.2.1)->l! w.2.1.2+d<=50->l! w.2.2.1+l! l*KS d<=100000000->l! w.2.2.2+l! l*KS d<=100000000->Ok (rr (l,w)) (QA l d w)
def am7 (rr:RA4) (d:Nat) (hr:∀d',d=d'+1->SpA rr d'):SpA (nh rr) d:=by
 rintro l ⟨⟨D,T,t⟩,A,sp,se⟩ hl hg hp hA h1 h2;dsimp only at hp hA h1 h2;have hK:∀i:Nat,i<=l! l->i*KS d<=l! l*KS d:=λi hi=>cg _ hi
 unfold nh bg bA bQ bY dt dv ck bq bV gV bX bI be c7 aI cL eL;refine bC (l! l) (λi x=>x.1=(i:Int)/\x.2.1=(D,T,t)/\l! x.2.2.1.2=l! A.2/\l! x.2.2.2.1<=l! sp+i*KS d/\l! x.2.2.2.2<=l! se+i*KS d) ?_ ?_ ⟨rfl,rfl,rfl,by simp,by simp⟩
 .rintro i ⟨a,P,A',sp',se'⟩ hi ⟨e1,e2,e3,e4,I⟩;dsimp only at e1 e2 e3 e4 I;subst e1 e2;have hKi:=hK (i+1) (by omega);have hKs:=nC i (KS d);rw[Nat.succ_eq_add_one]at hKs;refine cE ?_;refine bK (aS ?_);have hm:=hg _ (ba (T:=.sm) (xs:=l) (j:=(i:Int)) (by omega) (by omega));revert hm;generalize (aw (.sm) l (i:Int))=s;intro hm;cases d with
  |zero=>exact hm.elim
  |succ d=>
   have hR:=hr d rfl;let⟨_,g2,g3,g4,g5,g6,g7⟩:=hm;have hk:KS (d+1)=1+16*KS d:=rfl;have kb:l! s.body*KS d<=8*KS d:=cg _ g4;have ke:l! s.els*KS d<=8*KS d:=cg _ g5;dsimp only;rw[At];refine au (aqi s D T t A' sp' se' hp (by omega) (by omega) (by omega) g2 g3) λy q=>?_
   let⟨e,P2,A2,sp2,se2⟩:=y;let⟨q1,q2,q3,q4⟩:=q;dsimp only at q1 q2 q3 q4;subst q1 q2;refine bO (by simp) ?_;refine aW (λx=>x.2=((D,T,t),s,A2,sp2,se2)) (bG (λ_=>aj rfl) λ_=>aj rfl) ?_;rintro⟨e,x⟩ ex;dsimp only at ex;subst ex;refine bw (λ_=>aj ⟨rfl,e3,by dsimp only;omega,by dsimp only;omega⟩) λ_=>?_
   refine a! (aQ (by simp) (by simp;omega) (aQ (by simp) (by simp;omega) ?_));dsimp only;rw[At];refine au (hR s.body ((D,T,t),(A2.1,ca (A2.2++[_]) _ s),sp2,se2) (by omega) g6 hp ?_ ?_ ?_) λy q=>?_
   .dsimp only;rw[bM];simp;omega
   .dsimp only;omega
   .dsimp only;omega
   let⟨e6,P6,A6,sp6,se6⟩:=y;let⟨q1,q2,q5,q6⟩:=q;dsimp only at q1 q2 q5 q6;subst q1;rw[bM,aF,a_]at q2;refine bO (by simp) ?_;refine aW (λx=>x.2.1=(D,T,t)/\l! x.2.2.1.2=l! A2.2+1/\l! x.2.2.2.1<=l! sp2+16*KS d/\l! x.2.2.2.2<=l! se2+16*KS d) ?_ ?_
   .refine aG (λ_=>?_) λ_=>aj ⟨rfl,q2,by dsimp only;omega,by dsimp only;omega⟩
    refine au (hR s.els ((D,T,t),A6,sp6,se6) (by omega) g7 hp (by dsimp only;omega) (by dsimp only;omega) (by dsimp only;omega)) λy q=>?_
    let⟨e7,P7,A7,sp7,se7⟩:=y;let⟨r1,r2,r5,N⟩:=q;dsimp only at r1 r2 r5 N;subst r1;exact bO (by simp) (aj ⟨rfl,r2.trans q2,by dsimp only;omega,by dsimp only;omega⟩)
   rintro⟨e8,P8,A8,sp8,se8⟩ ⟨r1,r2,r5,N⟩;dsimp only at r1 r2 r5 N;subst r1;have el:aT .i64 ((aY (l! A8.2))-1)=(l! A2.2:Int):=by
    rw[r2,fh (by simp<;>omega) (by simp<;>omega)];simp<;>omega
   dsimp only;rw[el];have tk:l! (cu (aN (l! A2.2:Int)) A8.2)=l! A2.2:=by rw[bl];omega
   refine bZ (a? (pY (by rw[r2];omega) ?_));refine bw (λ_=>aj ⟨rfl,by dsimp only;omega,by dsimp only;omega,by dsimp only;omega⟩) λ_=>aj ?_
   exact⟨fH,rfl,by dsimp only;omega,by dsimp only;omega,by dsimp only;omega⟩
 .rintro⟨a,P,A',sp',se'⟩ ⟨e1,e2,e3,e4,I⟩;dsimp only at e1 e2 e3 e4 I;subst e1 e2;exact cz (aj ⟨rfl,e3,e4,I⟩)
def ab8:∀(n d:Nat),d<n->SpA (jD n) d
 |0,_,h=>by omega
 |n+1,d,h=>am7 (jD n) d λq hd=>ab8 n q (by omega)
def Ha (p:PG) (h:PX p):Ok (gg p) λr=>r.1=0->(p.2.map λt=>oJ 5 t.2.2.2).sum<=60:=by
 have hd:=h.d;have ht:=h.t;refine au (aek p h) λ_ _=>dc (λ_=>aj nofun) λ_=>?_
 refine au (YS p.1 hd) λ_ _=>bw (λI=>aj λh=>(I h).elim) λ_=>bG (λ_=>aj nofun) λ_=>?_
 refine au (RG p h) λ_ _=>bw (λI=>aj λh=>(I h).elim) λ_=>?_
 have hk5:KS 5=69905:=rfl;refine bC (l! p.2) (λi x=>x.1.2=(i:Int)/\x.2=p/\x.1.1=((((p.2.take i).map λt=>oJ 5 t.2.2.2).sum:Nat):Int)/\(x.1.1:Int)<=((i*6990500:Nat):Int)) ?_ ?_ ⟨rfl,rfl,by simp,by simp⟩
 .rintro i ⟨⟨(c:Int),a⟩,x⟩ hi ⟨e1,e2,e3,e4⟩;dsimp only at e1 e2 e3 e4;subst e1;have e2:=e2.symm;subst e2;refine cE ?_;refine bK (aS ?_);have hm:=ba (T:=uL) (xs:=p.2) (j:=(i:Int)) (by omega) (by omega);have q:=h.b _ hm;have hcb:=aic (h.s _ hm);have hcb2:=cg (KS 5) q;rw[hk5]at hcb hcb2;refine aU (Ia fZ 5 _ (by rw[kl];omega) (cP q (by omega)) (h.s _ hm) (by omega)) (aj ⟨fH,rfl,?_,?_⟩)
  .dsimp only;rw[kA (T:=uL) hi,b7,IH,fh,e3];simp
  .dsimp only;rw[fh];omega
 rintro⟨⟨(c:Int),a⟩,x⟩ ⟨e1,e2,e3,e4⟩;dsimp only at e1 e2 e3 e4;subst e1;have e2:=e2.symm;subst e2;rw[cH]at e3;refine cz ?_;refine au (P:=λr=>r.1=0->(p.2.map λt=>oJ 5 t.2.2.2).sum<=60) ?_ λ_ h=>aj h
 refine bG (λ_=>aj nofun) λN=>?_
 have N:c<=60:=N;refine bC (l! p.2) (λi x=>x.1=(i:Int)/\x.2.1=p/\x.2.2.1.1=p.1/\x.2.2.1.2.1=p.2/\l! x.2.2.2.1.2=0/\l! x.2.2.2.2.1<=i*6990500/\l! x.2.2.2.2.2<=i*6990500) ?_ ?_ ⟨rfl,rfl,rfl,rfl,rfl,by simp,by simp⟩
 .rintro i ⟨a,x,⟨D,T,t⟩,A,sp,se⟩ hi ⟨e1,e2,e3,e4,e5,e6,e7⟩;dsimp only at e1 e2 e3 e4 e5 e6 e7;subst e1;have e2:=e2.symm;subst e2 e3 e4;refine cE ?_;refine bK (aS ?_);have hm:=ba (T:=uL) (xs:=p.2) (j:=(i:Int)) (by omega) (by omega);have q:=h.b _ hm;have hs:=h.s _ hm;revert q hs;dsimp only;generalize (aw uL p.2 (i:Int))=th;intro q hs;have hk:KS 5=69905:=rfl;have hle:l! th.2.2.2*KS 5<=100*KS 5:=cg _ q;rw[hk]at hle;refine au (ab8 fZ 5 (by rw[kl];omega) th.2.2.2 ((p.1,p.2,(i:Int)),A,sp,se) q hs h (by grind) (by grind) (by grind)) λy hy=>?_
  let⟨e,P2,A2,sp2,se2⟩:=y;let⟨q1,q2,q3,q4⟩:=hy;dsimp only at q1 q2 q3 q4;subst q1;rw[hk]at q3 q4;refine bO (by simp) (bw (λI=>aj λh=>(I h).elim) λ_=>aj ?_);exact⟨fH,rfl,rfl,rfl,by dsimp only;omega,by dsimp only;omega,by dsimp only;omega⟩
 .rintro⟨a,x,P,w⟩ ⟨e1,e2,_⟩;dsimp only at e1 e2;subst e1;have e2:=e2.symm;subst e2;exact cz (aj λ_=>by omega)
def dj {o q:M R} {Q:R->Prop} (h:o=q) (A:Ok q Q):Ok o Q:=h▸A
def D0:Y DT:=[(1,0,[120],0,0,[]),(1,0,[121],0,1,[]),(2,0,[118],0,0,[]),(1,0,[113],2,0,[]),(3,0,[109],0,0,[]),(3,0,[110],0,0,[]),(4,0,[114],0,0,[]),(5,0,[99],0,0,[109]),(6,0,[102],0,0,[])]
def L0:Y ζ:=[[97],[98]]
set_option maxHeartbeats 20000000 in
def auv:∃r,gg (D0,[([109,97,105,110],0,L0,[oZ (1,0,[120],[],[],eJ (1,1,[],[]),[],[])])])=Z r/\r.1=0:=by
 suffices h:Ok (gg (D0,[([109,97,105,110],0,L0,[oZ (1,0,[120],[],[],eJ (1,1,[],[]),[],[])])])) λr=>r.1=0 by
  obtain⟨y,h1,h2⟩:=h;exact⟨y,h1,h2⟩
 unfold gg bg bA bQ bY dv bV gV bX bI be c7 aI cL;with_reducible repeat' first|exact aj rfl|refine aa8 ?_|refine aa7 ?_|refine aa6 ?_|refine aa4 ?_|refine UO ?_|refine al9 ?_|refine aS ?_|refine mL rfl ?_|refine fJ rfl ?_|refine bO rfl ?_|refine aa5 ?_|refine UP ?_|refine dj (rh.eq_1 ..) ?_|refine dj (mO.eq_1 ..) ?_|refine dj (fS.eq_1 ..) ?_|refine dj (lT.eq_1 ..) ?_|refine dj (ly.eq_1 ..) ?_|refine dj (mg.eq_1 ..) ?_|refine dj (qQ.eq_1 ..) ?_|refine dj (sU.eq_1 ..) ?_|refine dj (oV.eq_1 ..) ?_|refine dj (lY.eq_1 ..) ?_|refine dj (kX.eq_1 ..) ?_|refine dj (qo.eq_1 ..) ?_|refine dj (j5.eq_1 ..) ?_|refine dj (m_.eq_1 ..) ?_|refine dj (qP.eq_1 ..) ?_|refine dj (sT.eq_1 ..) ?_|refine dj (jK.eq_1 ..) ?_|refine dj (oT.eq_1 ..) ?_|refine dj (jA.eq_1 ..) ?_|refine dj (ki.eq_1 ..) ?_|refine dj (Ei.eq_1 ..) ?_|refine dj (zV.eq_1 ..) ?_|refine dj (xr.eq_1 ..) ?_|refine dj (nh.eq_1 ..) ?_|refine dj (m8.eq_1 ..) ?_|refine dj (eC.eq_1 ..) ?_|refine dj (iC.eq_1 ..) ?_|refine dj (ub.eq_1 ..) ?_|refine dj (oU.eq_1 ..) ?_|refine dj (Eh.eq_1 ..) ?_|refine dj (zU.eq_1 ..) ?_|refine dj (Eg.eq_1 ..) ?_|refine dj (vW.eq_1 ..) ?_|refine dj (jX.eq_1 ..) ?_|refine dj (di.eq_1 ..) ?_|refine dj (ck.eq_1 ..) ?_|refine dj (congrFun (gW dK kl) _) ?_|refine dj (Bd _ _) ?_|refine dj (congrFun (gW eU kl) _) ?_|refine dj (BU _ _) ?_|refine dj (congrFun (gW iO kl) _) ?_|refine dj (BV _ _) ?_|refine dj (congrFun (gW oC kl) _) ?_|refine dj (Kx _ _) ?_|refine dj (congrFun (gW jD kl) _) ?_|refine dj (Ev _ _) ?_|refine dj (congrFun (gW oB kl) _) ?_|refine dj (Kw _ _) ?_|refine dj (congrFun (gW oA kl) _) ?_|refine dj (Az _ _) ?_
 all_goals trace_state
structure TM (nT:Nat) (t:HT):Prop where
 l:t.2.2.1=L0
 b:l! t.2.2.2<=8
 s:∀s∈t.2.2.2,GS nT 3 s
structure PJ (p:PG):Prop where
 d:p.1=D0
 t0:1<=l! p.2
 t:l! p.2<=4
 m:∀t∈p.2,TM (l! p.2) t
 n:p.2.map Prod.fst=yV.take (l! p.2)
def PJ.x {p:PG} (h:PJ p):PX p:=⟨by rw[h.d];decide,by have:=h.t;omega,λt ht=>by rw[(h.m t ht).l];decide,λt ht=>by have:=(h.m t ht).b;omega,λt ht s q=>((h.m t ht).s s q).le (by omega:3<=5) |>.t⟩
def Wf:ue ()=Z D0:=rfl
def ajj:∀m:Nat,m<5->∀j:Nat,j<m->aw (.str) yV (j:Int)∈yV.take m:=by decide
def Ut {nT:Nat} (op:Int) {n:ζ} (A:op=12\/op=13) (D:n∈yV.take nT):GS nT 3 (oZ (op,0,n,[],[],eJ (0,0,[],[]),[],[])):=GS.wo (by omega) (by simp) (λx q=>(by cases q)) (by rcases A with rfl|rfl<;>(constructor<;>simp[Sx.op,Sx.name,Sx.index,Sx.arg,Sx.els,Sx.body]<;>exact D))
def Kh (x:η) (hl:l! x<=9223372036854775807) (hx:∀z∈x,0<=z/\z<=255):Ok (pL x) λp=>PJ p/\∃r,gg p=Z r/\r.1=0:=by
 unfold pL bg bA bQ cS ji RA Prod.p8 bY gz tb Rz Prod.o bq bV gV bX mn c7 aI cL eL;refine aU Wf ?_;refine au (nQ 3 (x,0) ⟨hl,hx,by dsimp only;omega,by dsimp only;omega⟩) λy A=>?_
 let⟨n,t0⟩:=y;let⟨s0,n0,n1,_⟩:=A;have n1:=n1 (by decide);dsimp only at s0 n0 n1;have ew:aT .i64 (2+n)=2+n:=fh;obtain⟨nT,hnT⟩:∃m:Nat,2+n=(m:Int):=⟨(2+n).toNat,by omega⟩
 refine bC nT (λi x=>x.1=(i:Int)/\x.2.2.1=D0/\x.2.2.2.1=yV/\TP x.2.2.2.2.1/\x.2.2.2.2.2.1.2=[]/\x.2.2.2.2.2.2.map Prod.fst=yV.take i/\∀t∈x.2.2.2.2.2.2,TM nT t) ?_ ?_ ⟨rfl,rfl,rfl,s0.p,rfl,rfl,λt ht=>(by cases ht)⟩
 .rintro i ⟨a,m,D,N,t,h,th⟩ hi ⟨e1,e2,e3,e4,e5,e6,e7⟩;dsimp only at e1 e2 e3 e4 e5 e6 e7;subst e1 e2;refine bG (λg=>?_) λg=>(by dsimp only at g;rw[ew]at g;omega)
  have l4:l! N=4:=by rw[e3];rfl
  refine bK (bK (aS ?_));have hthl:l! th=i:=by have:=gW ah e6;rw[bj,bl]at this;have q4:yV.length=4:=rfl;omega
  refine aW (λx=>x.2.2.2.1.1=aw (.str) N (i:Int)/\x.2.1=D0/\x.2.2.1=yV/\TP x.2.2.2.2.1/\x.2.2.2.2.2.1.2=[]/\x.2.2.2.2.2.2.1=th/\x.2.2.2.2.2.2.2.1=L0/\l! x.2.2.2.2.2.2.2.2<=3/\∀s∈x.2.2.2.2.2.2.2.2,GS nT 3 s) ?_ ?_
  .refine aG (λ_=>?_) λ_=>aj ⟨rfl,rfl,e3,e4,e5,rfl,rfl,by simp,λs q=>(by cases q)⟩
   refine bC (1+n).toNat (λk x=>x.2.2.2.2.1.1=aw (.str) N (i:Int)/\x.1=1+(k:Int)/\x.2.2.1=D0/\x.2.2.2.1=yV/\TP x.2.2.2.2.2.1/\x.2.2.2.2.2.2.1.2=[]/\x.2.2.2.2.2.2.2.1=th/\x.2.2.2.2.2.2.2.2.1=L0/\l! x.2.2.2.2.2.2.2.2.2<=k/\∀s∈x.2.2.2.2.2.2.2.2.2,GS nT 3 s) ?_ ?_ ⟨rfl,rfl,rfl,e3,e4,e5,rfl,rfl,by simp,λs q=>(by cases q)⟩
   .rintro k ⟨c,m1,D1,N1,z1,t1,h1,th1,l1,b1⟩ hk ⟨fz,f1,f2,f3,f4,I,f6,f7,f8,f9⟩;dsimp only at fz f1 f2 f3 f4 I f6 f7 f8 f9;subst f1;refine bG (λ_=>?_) λg=>(by dsimp only at g;rw[ew]at g;omega)
    have l41:l! N1=4:=by rw[f3];rfl
    refine bK (bK (aS ?_));refine a! (aj ?_);dsimp only;rw[fh (n:=1+(k:Int)+1) (by omega) (by omega)];refine ⟨fz,by omega,f2,f3,f4,I,f6,f7,by simp;omega,λs q=>?_⟩;rcases bt.1 q with q|q
    .exact f9 s q
    .rw[aE]at q;rw[q];refine Ut 12 (.inl rfl) ?_;rw[f3,show 1+(k:Int)=((1+k:Nat):Int) by omega];exact ajj nT (by omega) (1+k) (by omega)
   .rintro⟨c,m1,D1,N1,z1,t1,h1,th1,l1,b1⟩ ⟨fz,f1,f2,f3,f4,I,f6,f7,f8,f9⟩;dsimp only at fz f1 f2 f3 f4 I f6 f7 f8 f9;subst f1;refine bG (λg=>(by dsimp only at g;rw[ew]at g;omega)) λ_=>aj ?_
    exact⟨fz,f2,f3,f4,I,f6,f7,by dsimp only;omega,f9⟩
  rintro⟨m1,D1,N1,z1,t1,h1,th1,l1,b1⟩ ⟨fz,f2,f3,f4,I,f6,f7,f8,f9⟩;dsimp only at fz f2 f3 f4 I f6 f7 f8 f9;subst f2 f6 f7;refine au (nQ 3 t1 f4) λy A=>?_
  let⟨k2,t2⟩:=y;let⟨u1,u2,u3,_⟩:=A;have u3:=u3 (by decide);dsimp only at u1 u2 u3;dsimp only;rw[fh (n:=1+k2) (by omega) (by omega)];refine au (acn (nT:=nT) 2 (by omega) (1+k2) m1 t2 h1 (by omega) u1.p (by rw[I];simp)) λy A=>?_
  let⟨m3,t3,h3,l3⟩:=y;let⟨w1,w2,w3,w4⟩:=A;dsimp only at w1 w2 w3 w4;refine bO (by simp) (a! ?_);have hbody:∀s∈b1++l3,GS nT 3 s:=λs q=>by
   rcases bt.1 q with q|q
   .exact f9 s q
   .exact w2 s q
  have hlen:l! (b1++l3)<=6:=by rw[aF];omega
  refine aW (λx=>x.2.2.2.1.1=aw (.str) N (i:Int)/\x.2.1=D0/\x.2.2.1=yV/\TP x.2.2.2.2.1/\x.2.2.2.2.2.1.2=[]/\x.2.2.2.2.2.2.1=th1/\x.2.2.2.2.2.2.2.1=L0/\l! x.2.2.2.2.2.2.2.2<=8/\∀s∈x.2.2.2.2.2.2.2.2,GS nT 3 s) ?_ ?_
  .refine aW (λx=>x.2.2.2.2.1.1=aw (.str) N (i:Int)/\x.2.2.1=D0/\x.2.2.2.1=yV/\TP x.2.2.2.2.2.1/\x.2.2.2.2.2.2.1.2=[]/\x.2.2.2.2.2.2.2.1=th1/\x.2.2.2.2.2.2.2.2.1=L0/\x.2.2.2.2.2.2.2.2.2=b1++l3) ?_ ?_
   .refine aG (λ_=>?_) λ_=>aj ⟨fz,rfl,f3,w3.p,w4.trans I,rfl,rfl,rfl⟩
    exact au (nQ 3 t3 w3.p) λy A=>aj ⟨fz,rfl,f3,A.1.p,w4.trans I,rfl,rfl,rfl⟩
   rintro⟨b,m4,D4,N4,z4,t4,h4,th4,l4,b4⟩ ⟨pz,p2,p3,p4,p5,p6,p7,p8⟩;dsimp only at pz p2 p3 p4 p5 p6 p7 p8;subst p2 p6 p7 p8;have l44:l! N4=4:=by rw[p3];rfl
   refine aR (λ_=>?_) λ_=>aj ⟨pz,rfl,p3,p4,p5,rfl,rfl,by dsimp only;omega,hbody⟩
   refine bK (bK (aS ?_));refine bu (by simp at hlen ⊢;omega) (by omega) (aj ⟨pz,rfl,p3,p4,p5,rfl,rfl,by dsimp only;rw[aF,a_];omega,λs q=>?_⟩);rcases bt.1 q with q|q
   .exact hbody s q
   .rw[aE]at q;rw[q];refine Ut 13 (.inr rfl) ?_;rw[p3];exact ajj nT (by omega) 1 (by omega)
  rintro⟨m4,D4,N4,z4,t4,h4,th4,l4,b4⟩ ⟨pz,p2,p3,p4,p5,p6,p7,p8,p9⟩;dsimp only at pz p2 p3 p4 p5 p6 p7 p8 p9;subst p2 p6 p7;refine a! (aj ?_);dsimp only;refine ⟨fH,rfl,p3,p4,p5,by rw[kA (T:=.str) (xs:=yV) (i:=i) (by have q4:yV.length=4:=rfl;omega),b7,e6,<-e3];show _++[z4.1]=_;rw[pz],λt ht=>?_⟩;rcases bt.1 ht with ht|ht
  .exact e7 t ht
  .rw[aE]at ht;rw[ht];exact⟨rfl,p8,p9⟩
 .rintro⟨a,m,D,N,t,h,th⟩ ⟨e1,e2,e3,e4,e5,e6,e7⟩;dsimp only at e1 e2 e3 e4 e5 e6 e7;subst e1 e2;refine bG (λg=>(by dsimp only at g;rw[ew]at g;omega)) λ_=>?_
  have hthl:l! th=nT:=by have:=gW ah e6;rw[bj,bl]at this;have q4:yV.length=4:=rfl;omega
  have hpm:PJ (D0,th):=⟨rfl,by dsimp only;omega,by dsimp only;omega,by dsimp only;rw[hthl];exact e7,by dsimp only;rw[hthl];exact e6⟩
  refine au (P:=λp=>PJ p/\∃r,gg p=Z r/\r.1=0) ?_ λr hr=>aj hr
  let⟨y,A,_⟩:=Ha (D0,th) hpm.x;refine aU A (bw (λ_=>?_) λh=>aj ⟨hpm,y,A,h⟩);refine aU Wf (aU (Sf _) (aU (vx _ _) (aj ?_)));refine ⟨⟨rfl,by simp,by simp,λt ht=>?_,rfl⟩,auv⟩;simp only[aE]at ht;rw[ht];refine ⟨rfl,by simp,λs q=>?_⟩;simp only[aE]at q;rw[q,fV,Bq];exact GS.asg (by decide) (GE.num (IW.sm (by decide) (by decide)) 3)
abbrev iA (l:Y IT) (k:Nat):IT:=aw sx l (k:Int)
def JT (l:Y IT) (ρ:Nat->Nat) (a e k:Nat):Prop:=(iA l k).1=5->∃q:Nat,(iA l k).2.1=(q:Int)/\(q=e\/a<=q/\q<e/\ρ q<ρ k)
def sq (l:Y IT) (a e:Nat):Prop:=a<=e/\∃ρ:Nat->Nat,∀k,a<=k->k<e->1<=ρ k/\ρ k<=e-a/\JT l ρ a e k/\((iA l k).1<5->k+1=e\/ρ (k+1)<ρ k)
def sq.nil (l:Y IT) (a:Nat):sq l a a:=⟨bi _,λ_=>0,λk h1 h2=>by omega⟩
def sq.one {l:Y IT} (h:¬(iA l i).1=5):sq l i (i+1):=⟨by omega,λ_=>1,λk h1 h2=>⟨bi 1,by show 1<=i+1-i;omega,λq=>by rw[show k=i by omega]at q;exact (h q).elim,λ_=>.inl (by omega)⟩⟩
def sq.congr {l q:Y IT} (h:sq l i m) (I:∀k,i<=k->k<m->iA q k=iA l k):sq q i m:=by
 let⟨h1,ρ,h2⟩:=h;exact⟨h1,ρ,λk D A=>by unfold JT;rw[I k D A];exact h2 k D A⟩
def sq.app {l:Y IT} {c:Nat} (h:sq l i m) (k:sq l m c):sq l i c:=by
 let⟨h1,ρ,h2⟩:=h;let⟨k1,σ,k2⟩:=k;refine ⟨by omega,λk=>if k<m then ρ k+(c-m) else σ k,λk g1 g2=>?_⟩;by_cases D:k<m
 .obtain⟨q1,q2,q3,q4⟩:=h2 k g1 D;simp only[aK D];refine ⟨by omega,by omega,?_,λq=>?_⟩
  .intro q;simp only[aK D];let⟨A,e,r⟩:=q3 q;refine ⟨A,e,?_⟩;rcases r with r|⟨r1,r2,r3⟩
   .subst r;by_cases I:A=c
    .exact .inl I
    .have:=(k2 A (bi _) (by omega)).2.1;rw[ay (E7 _)];exact .inr ⟨by omega,by omega,by omega⟩
   .rw[aK r2];exact .inr ⟨r1,by omega,by omega⟩
  .rcases q4 q with r|r
   .by_cases I:k+1=c
    .exact .inl I
    .have:=(k2 (k+1) (by omega) (by omega)).2.1;rw[ay (by omega)];exact .inr (by omega)
   .by_cases N:k+1<m
    .rw[aK N];exact .inr (by omega)
    .rw[ay N];by_cases I:k+1=c
     .exact .inl I
     .have:=(k2 (k+1) (by omega) (by omega)).2.1;exact .inr (by omega)
 .obtain⟨q1,q2,q3,q4⟩:=k2 k (by omega) g2;simp only[ay D];refine ⟨q1,by omega,?_,λq=>?_⟩
  .intro q;simp only[ay D];let⟨A,e,r⟩:=q3 q;refine ⟨A,e,r.imp id λ⟨r1,r2,r3⟩=>⟨by omega,r2,?_⟩⟩;rw[ay (by omega)];exact r3
  .rw[ay (by omega)];exact q4 q
def sq.ite {l:Y IT} {e:Nat} (h:sq l i m) (hj:(iA l m).1=5) (N:(iA l m).2.1=(e:Int)) (k:sq l (m+1) e):sq l i e:=by
 let⟨h1,ρ,h2⟩:=h;let⟨k1,σ,k2⟩:=k;refine ⟨by omega,λk=>if k<m then ρ k+(e-m) else if k=m then e-m else σ k,λk g1 g2=>?_⟩;by_cases A:k<m
 .obtain⟨q1,q2,q3,q4⟩:=h2 k g1 A;simp only[aK A];refine ⟨by omega,by omega,?_,λq=>?_⟩
  .intro q;simp only[aK A];let⟨D,e',r⟩:=q3 q;refine ⟨D,e',.inr ?_⟩;rcases r with r|⟨r1,r2,r3⟩
   .rw[r,ay (E7 _),aK rfl];exact⟨by omega,by omega,by omega⟩
   .rw[aK r2];exact⟨r1,by omega,by omega⟩
  .refine .inr ?_;by_cases I:k+1<m
   .rw[aK I];rcases q4 q with r|r<;>omega
   .rw[ay I,aK (by omega)];omega
 .by_cases hkj:k=m
  .subst hkj;simp only[ay A,aK];exact⟨by omega,by omega,λ_=>⟨e,N,.inl rfl⟩,λq=>by rw[hj]at q;omega⟩
  .obtain⟨q1,q2,q3,q4⟩:=k2 k (by omega) g2;simp only[ay A,ay hkj];refine ⟨q1,by omega,?_,λq=>?_⟩
   .intro q;simp only[ay A,ay hkj];let⟨D,e',r⟩:=q3 q;refine ⟨D,e',r.imp id λ⟨r1,r2,r3⟩=>⟨by omega,r2,?_⟩⟩;rw[ay (by omega),ay (by omega)];exact r3
   .rw[ay (by omega),ay (by omega)];exact q4 q
def sq.whl {l:Y IT} {j:Nat} (h:sq l i m) (hc:(iA l m).1=10) (k:sq l (m+1) j) (hj:(iA l j).1=5) (hx:(iA l j).2.1=(i:Int)):sq l i (j+1):=by
 let⟨h1,ρ,h2⟩:=h;let⟨k1,σ,k2⟩:=k;refine ⟨by omega,λk=>if k<m then ρ k+1 else if k=m then 1 else if k<j then σ k+(m-i)+2 else m-i+2,λk g1 g2=>?_⟩;by_cases A:k<m
 .obtain⟨q1,q2,q3,q4⟩:=h2 k g1 A;simp only[aK A];refine ⟨by omega,by omega,?_,λq=>?_⟩
  .intro q;simp only[aK A];let⟨I,e',r⟩:=q3 q;refine ⟨I,e',.inr ?_⟩;rcases r with r|⟨r1,r2,r3⟩
   .rw[r,ay (E7 _),aK rfl];exact⟨by omega,by omega,by omega⟩
   .rw[aK r2];exact⟨r1,by omega,by omega⟩
  .refine .inr ?_;by_cases D:k+1<m
   .rw[aK D];rcases q4 q with r|r<;>omega
   .rw[ay D,aK (by omega)];omega
 .by_cases hkc:k=m
  .subst hkc;simp only[ay A,aK];exact⟨by omega,by omega,λq=>by rw[hc]at q;omega,λq=>by rw[hc]at q;omega⟩
  .simp only[ay A,ay hkc];by_cases hkj:k<j
   .obtain⟨q1,q2,q3,q4⟩:=k2 k (by omega) hkj;simp only[aK hkj];refine ⟨by omega,by omega,?_,λq=>?_⟩
    .intro q;simp only[ay A,ay hkc,aK hkj];let⟨I,e',r⟩:=q3 q;refine ⟨I,e',.inr ?_⟩;rcases r with r|⟨r1,r2,r3⟩
     .rw[r,ay (by omega),ay (by omega),ay (E7 _)];exact⟨by omega,by omega,by omega⟩
     .rw[ay (by omega),ay (by omega),aK r2];exact⟨by omega,by omega,by omega⟩
    .refine .inr ?_;rw[ay (by omega),ay (by omega)];by_cases D:k+1<j
     .rw[aK D];rcases q4 q with r|r<;>omega
     .rw[ay D];omega
   .have hkj:k=j:=by omega
    subst hkj;simp only[ay (E7 _)];refine ⟨by omega,by omega,λ_=>⟨i,hx,.inr ⟨bi _,by omega,?_⟩⟩,λq=>by rw[hj]at q;omega⟩;simp only[ay A,ay hkc,ay (E7 _)];by_cases N:i<m
    .rw[aK N];have:=(h2 i (bi _) N).2.1;omega
    .rw[ay N,aK (by omega)];omega
def OB (nT:Nat) (i:IT):Prop:=
 if i.1=6 then 0<=i.2.2.1/\i.2.2.1<=2 else if i.1=8 then 0<=i.2.1/\i.2.1<=2 else if i.1=7 then i.2.2.1=3/\i.2.2.2.2.1=2 else if i.1=9 then i.2.1=3/\i.2.2.2.2.1=2 else if i.1=11\/i.1=12 then i.2.1=0\/i.2.1=1 else if 13<=i.1/\i.1<=16 then i.2.1=2 else if 21<=i.1/\i.1<=23 then i.2.1=0 else if i.1=24\/i.1=25 then 0<=i.2.1/\i.2.1<(nT:Int) else if i.1=26 then i.2.1=0 else if i.1=27 then i.2.2.1=0 else if i.1=4 then 6<=i.2.2.2.2.1/\i.2.2.2.2.1<=18 else ¬i.1=3/\(i.1=1->IW i.2.2.2.2.1)
def OB.cn {nT:Nat} {i:IT} (q:OB nT i) (h:i.1=1):IW i.2.2.2.2.1:=by
 unfold OB at q;simp[h]at q;exact q
structure GO (nT:Nat) (i:IT):Prop where
 o1:1<=i.1
 o2:i.1<=27
 r:∀j:Int,j∈jU i->0<=j/\j<32
 b:OB nT i
def SO (ss:Y π) (t s:Int):Prop:=0<=s/\s<l! ss/\(aw pS ss s).1=t
structure GI (nT:Nat) (ss:List π) (t:Int) (i:IT):Prop where
 o:GO nT i
 s:SO ss t i.2.2.2.2.2
def Yg (l:Y IT) (hl:l! l<=1000000) (h1:1<=l! l) (hb:sq l 0 (l! l-1)) (he:(iA l (l! l-1)).1=28) (k:Nat) (hk:k<l! l):qN (l,(k:Int))=Z J:=by
 let⟨_,ρ,hρ⟩:=hb;refine bT ?_;unfold qN bq bV jr bI be c7 aI cL;refine wK (λx=>((l! l:Int)+1-x.2).toNat) (λx=>0<=x.2/\∃q:Nat,x.1=(q:Int)/\q<l! l/\((if q<l! l-1 then ρ q else 0:Nat):Int)+x.2<=(l! l:Int)) ?_ ⟨by dsimp only;omega,k,rfl,hk,?_⟩
 .rintro⟨a,(n:Int)⟩ ⟨n0,q,e,hq,hr⟩;dsimp only at n0 e hr;subst e;refine dB (λ_=>?_) λg=>(by dsimp only[al]at g;omega)
  refine gK ?_;refine gK (bG (λg=>by dsimp only at g;omega) λ_=>aj ?_);refine fJ (by rw[gq];dsimp only[al];omega) ?_;refine bK (aS ?_);refine aU (ID _) ?_;refine dc (λ_=>aj rfl) λI=>?_
  have I:1<=(iA l q).1/\(iA l q).1<=5:=aZ I;have D:q<l! l-1:=xj λh=>by rw[show q=l! l-1 by omega]at I;rw[he]at I;omega
  let⟨r1,r2,r3,r4⟩:=hρ q (dU _) D;rw[aK D]at hr;refine bK (aS ?_);have fin:∀A:Nat,A=l! l-1\/A<l! l-1/\ρ A<ρ q->0<=n+1/\∃q2:Nat,(A:Int)=(q2:Int)/\q2<l! l/\((if q2<l! l-1 then ρ q2 else 0:Nat):Int)+(n+1)<=(l! l:Int):=λA h=>⟨by omega,A,rfl,by omega,by
   rcases h with h|⟨h,h'⟩
   .rw[ay (by omega)];omega
   .rw[aK h];omega⟩
  refine aG (λN=>?_) λN=>aj (aj ?_)
  .obtain⟨A,e,hq'⟩:=r3 N;refine aQ (eX _) (by dsimp only;omega) (aS (aj (aj ?_)));dsimp only;rw[fh (n:=n+1) (by omega) (by omega)];have:=fin A (hq'.imp id λh=>⟨h.2.1,h.2.2⟩);rw[<- e]at this;exact⟨this,by omega⟩
  .dsimp only;have N:¬(iA l q).1=5:=N;rw[fh (n:=n+1) (by omega) (by omega),fH];refine ⟨fin (q+1) ?_,by omega⟩;rcases r4 (by omega) with h|h
   .exact .inl h
   .by_cases hb:q+1=l! l-1
    .exact .inl hb
    .exact .inr ⟨by omega,h⟩
 .dsimp only;split
  next h=>have:=(hρ k (dU _) h).2.1;omega
  .omega
def N7 (w:WT) (q:w.1=C0):qO (w,3,2)=Z J:=by
 refine bT ?_;have h0:(0:Int)<=3:=by decide
 have h1:(3:Int)<(l! w.1:Int):=by rw[q];decide
 have A:aw mb w.1 3=([113],0,2,aa,0):=by rw[q];rfl
 unfold qO bq gV bI be aI;refine gK (aU (tA _ _) (aG (λ_=>?_) λh=>(h ⟨h0,h1⟩).elim));rw[A];refine aQ h0 h1 (aS (aG (λ_=>?_) λh=>(h rfl).elim));refine aQ h0 h1 (aS (bw (λ_=>?_) λh=>bc h (by decide)));exact aQ h0 h1 (aS (aj (aj rfl)))
def Sa {nT:Nat} (w:WT) (i:IT) (hw:WX w) (hT:l! w.2.2.2.2.1=nT) (q:OB nT i):mw (w,i)=Z J:=by
 let⟨A,I,hd,hf,_,_,_⟩:=hw;refine bT ?_;unfold mw bg bA bQ cS ji bq jr bI be aI;unfold OB at q;simp only[tA,R_];refine aG (λh=>?_) λn6=>?_
 .rw[aK h]at q;have D:(aw mb w.1 i.2.2.1).2.2.1=(0:Int):=by
   rw[A];rcases (by omega:i.2.2.1=0\/i.2.2.1=1\/i.2.2.1=2) with h|h|h<;>rw[h]<;>rfl
  have hi:0<=i.2.2.1/\i.2.2.1<(l! w.1:Int):=⟨q.1,by rw[A];have:=q.2;show i.2.2.1<5;omega⟩
  exact gK (aG (λ_=>aQ hi.1 hi.2 (aS (aj (aj (aO D))))) λh=>(h hi).elim)
 rw[ay n6]at q;refine aG (λh=>?_) λn8=>?_
 .rw[aK h]at q;have D:(aw mb w.1 i.2.1).2.2.1=(0:Int):=by
   rw[A];rcases (by omega:i.2.1=0\/i.2.1=1\/i.2.1=2) with h|h|h<;>rw[h]<;>rfl
  have hi:0<=i.2.1/\i.2.1<(l! w.1:Int):=⟨q.1,by rw[A];have:=q.2;show i.2.1<5;omega⟩
  exact gK (aG (λ_=>aQ hi.1 hi.2 (aS (aj (aj (aO D))))) λh=>(h hi).elim)
 rw[ay n8]at q;refine aG (λh=>?_) λn7=>?_
 .rw[aK h]at q;rw[q.1,q.2];exact aU (N7 w A) (aj rfl)
 rw[ay n7]at q;refine aG (λh=>?_) λn9=>?_
 .rw[aK h]at q;rw[q.1,q.2];exact aU (N7 w A) (aj rfl)
 rw[ay n9]at q;refine aW (λx=>x.2=(w,i)/\(x.1=J↔i.1=11\/i.1=12)) (aG (λh=>aj ⟨rfl,λ_=>.inl h,λ_=>aO h⟩) λh=>aj ⟨rfl,λh2=>.inr (aZ h2),λh2=>aO (h2.resolve_left h)⟩) ?_;rintro⟨b,x⟩ ⟨e,N⟩;dsimp only at e N;subst e;refine aR (λh=>?_) λh=>?_
 .rw[aK (N.1 h)]at q;have D:(aw sk w.2.1 i.2.1).2=aa:=by
   rw[I];rcases q with h|h<;>rw[h]<;>rfl
  have hi:0<=i.2.1/\i.2.1<(l! w.2.1:Int):=⟨by omega,by rw[I];show i.2.1<3;omega⟩
  exact gK (aG (λ_=>aQ hi.1 hi.2 (aS (aj (aj (by dsimp only;rw[D];rfl))))) λh=>(h hi).elim)
 rw[ay λh2=>by rw[N.2 h2]at h;cases h]at q;have hj:∀{p:Prop} {b:Bool},(b=J->p)->(p->b=J)->b=aa->¬p:=λ_ h2 h3 h4=>by rw[h2 h4]at h3;cases h3
 refine aW (λx=>x.2=(w,i)/\(x.1=J->13<=i.1/\i.1<=16)/\(13<=i.1/\i.1<=16->x.1=J)) (aG (λh=>aj ⟨rfl,λ_=>by first|omega|(dsimp only at h;omega),λ_=>aO h⟩) λ_=>aG (λh=>aj ⟨rfl,λ_=>by first|omega|(dsimp only at h;omega),λ_=>aO h⟩) λ_=>aG (λh=>aj ⟨rfl,λ_=>by first|omega|(dsimp only at h;omega),λ_=>aO h⟩) λ_=>aj ⟨rfl,λh=>by have:=aZ h;first|omega|(dsimp only at this;omega),λh=>aO (by first|omega|(dsimp only at *;omega))⟩) ?_;rintro⟨b,x⟩ ⟨e,h1,h2⟩;dsimp only at e h1 h2;subst e;refine aR (λh=>?_) λh=>?_
 .rw[aK (h1 h)]at q;have hi:0<=i.2.1/\i.2.1<(l! w.2.1:Int):=⟨by omega,by rw[I];show i.2.1<3;omega⟩
  exact gK (aG (λ_=>aQ hi.1 hi.2 (aS (aj (aj (by dsimp only;rw[q,I];rfl))))) λh=>(h hi).elim)
 rw[ay (hj h1 h2 h)]at q;refine aW (λx=>x.2=(w,i)/\(x.1=J->21<=i.1/\i.1<=23)/\(21<=i.1/\i.1<=23->x.1=J)) (aG (λh=>aj ⟨rfl,λ_=>by first|omega|(dsimp only at h;omega),λ_=>aO h⟩) λ_=>aG (λh=>aj ⟨rfl,λ_=>by first|omega|(dsimp only at h;omega),λ_=>aO h⟩) λ_=>aj ⟨rfl,λh=>by have:=aZ h;first|omega|(dsimp only at this;omega),λh=>aO (by first|omega|(dsimp only at *;omega))⟩) ?_;rintro⟨b,x⟩ ⟨e,h1,h2⟩;dsimp only at e h1 h2;subst e;refine aR (λh=>?_) λh=>?_
 .rw[aK (h1 h)]at q;exact aj (aO ⟨by dsimp only;omega,by dsimp only;rw[hd];show i.2.1<1;omega⟩)
 rw[ay (hj h1 h2 h)]at q;refine aW (λx=>x.2=(w,i)/\(x.1=J->i.1=24\/i.1=25)/\(i.1=24\/i.1=25->x.1=J)) (aG (λh=>aj ⟨rfl,λ_=>.inl h,λ_=>aO h⟩) λh=>aj ⟨rfl,λh2=>.inr (aZ h2),λh2=>aO (h2.resolve_left h)⟩) ?_;rintro⟨b,x⟩ ⟨e,h1,h2⟩;dsimp only at e h1 h2;subst e;refine aR (λh=>?_) λh=>?_
 .rw[aK (h1 h)]at q;exact aj (aO ⟨q.1,by dsimp only;rw[hT];exact q.2⟩)
 rw[ay (hj h1 h2 h)]at q;refine aG (λh=>?_) λn=>?_
 .rw[aK h]at q;exact aj (aO ⟨by dsimp only;omega,by dsimp only;rw[hf];show i.2.1<1;omega⟩)
 rw[ay n]at q;refine aG (λh=>?_) λn=>?_
 .rw[aK h]at q;exact aj (aO ⟨by dsimp only;omega,by dsimp only;rw[hf];show i.2.2.1<1;omega⟩)
 rw[ay n]at q;by_cases h4:i.1=4
 .rw[aK h4]at q;refine aG (λh=>by have h:i.1=3:=h;omega) λ_=>aG (λ_=>?_) λh=>(h h4).elim
  refine gK (dB (λ_=>aj (aj (rR.2 q.2))) λh=>by dsimp only at h;omega)
 .rw[ay h4]at q;exact aG (λh=>(q.1 h).elim) λ_=>aG (λh=>(h4 h).elim) λ_=>aj rfl
structure GC (nT:Nat) (ss:List π) (k:Int) (c:Int×List IT):Prop where
 r0:1<=c.1
 r1:c.1<=32
 n:1<=l! c.2
 u:l! c.2<=1000000
 e:(iA c.2 (l! c.2-1)).1=28/\(iA c.2 (l! c.2-1)).2.2.2.2.2= -1
 b:sq c.2 0 (l! c.2-1)
 i:∀q:Nat,q<l! c.2-1->GI nT ss k (iA c.2 q)
 r:∀q:Nat,q<l! c.2-1->(iA c.2 q).1=10->0<=(iA c.2 q).2.2.1/\(iA c.2 q).2.2.1<(l! c.2:Int)
 g:∀q:Nat,q<l! c.2-1->∀j:Int,j∈jU (iA c.2 q)->j<c.1
def Hl {nT:Nat} {w:WT} {c:Int×Y IT} (hw:WX w) (hT:l! w.2.2.2.2.1=nT) (hc:GC nT w.2.2.2.2.2 a c):iW (w,a,c)=Z J:=by
 let⟨r0,r1,n1,hu,he,hb,hi,hr,hg⟩:=hc;refine bT ?_;unfold iW bg bA bQ cS bY dv Rz bq bV gV bI be c7 aI cL;refine aW (λx=>x.2=(w,c)/\x.1=aa) ?_ ?_
 .refine bG (λh=>by have h:c.1<0:=h;omega) λ_=>bG (λh=>by have h:32<c.1:=h;omega) λ_=>aj ⟨rfl,bp λh=>by have h:aY (l! c.2)=0:=h;dsimp only[al]at h;omega⟩
 rintro⟨b,x⟩ ⟨e,N⟩;dsimp only at e N;subst e N;refine iM ?_;refine bC (l! c.2) (λi x=>x.1=(i:Int)/\x.2=(w,c)) ?_ ?_ ⟨rfl,rfl⟩
 .rintro i ⟨k,x⟩ hi2 ⟨e1,e2⟩;dsimp only at e1 e2;subst e1 e2;have hla:=Yg c.2 hu n1 hb he.1 i hi2;have hz:∀z:IT,z=iA c.2 i->(i<l! c.2-1->GI nT w.2.2.2.2.2 a z/\(z.1=10->0<=z.2.2.1/\z.2.2.1<(l! c.2:Int))/\(z.1=5->0<=z.2.1/\z.2.1<(l! c.2:Int))/\∀j:Int,j∈jU z->j<c.1)/\(i=l! c.2-1->z.1=28/\z.2.2.2.2.2= -1):=λz hz=>by
   subst hz;refine ⟨λh=>⟨hi i h,hr i h,λh5=>?_,hg i h⟩,λh=>by rw[h];exact he⟩;let⟨_,ρ,hρ⟩:=hb;let⟨q',e,hq'⟩:=(hρ i (dU _) h).2.2.1 h5;rw[e];omega
  refine cE ?_;refine bK (aS ?_);generalize hzz:(aw sx c.2 (i:Int))=z;let⟨q,A⟩:=hz z hzz.symm;have hcs:i<l! c.2-1\/i=l! c.2-1:=by omega
  have o1:1<=z.1:=by
   rcases hcs with h|h
   .exact (q h).1.o.o1
   .rw[(A h).1];decide
  have o2:z.1<=28:=by
   rcases hcs with h|h
   .exact wG (q h).1.o.o2 (by decide)
   .rw[(A h).1];decide
  have o28:z.1=28->i=l! c.2-1:=λh=>hcs.resolve_left λg=>by have:=(q g).1.o.o2;rw[h]at this;exact bc this (by decide)
  have hob:OB nT z:=by
   rcases hcs with h|h
   .exact (q h).1.o.b
   .unfold OB;rw[(A h).1];simp
  have hrg:∀j:Int,j∈jU z->0<=j/\j<c.1:=λj D=>by
   rcases hcs with h|h
   .exact⟨((q h).1.o.r j D).1,(q h).2.2.2 j D⟩
   .unfold jU at D;rw[(A h).1]at D;simp at D
  have hwr:aT .i64 (aY (l! c.2)-1)=((l! c.2-1:Nat):Int):=by rw[fh (by dsimp only[al];omega) (by dsimp only[al];omega)];dsimp only[al];omega
  have hcd:((decide (z.1=28)==decide ((i:Int)=aT .i64 (aY (l! c.2)-1))) !=J)=aa:=by grind
  refine aW (λx=>x=(aa,w,c,z)) ?_ ?_
  .refine bG (λh=>bc h (gG.2 o1)) λ_=>bG (λh=>bc h (gG.2 o2)) λ_=>fJ hcd ?_
   refine aU (Sa w z hw hT hob) (fJ rfl (aU hla (aj rfl)))
  rintro x rfl;refine iM (aW (λx=>x=(aa,w,c,z)) ?_ ?_)
  .simp only[tA,R_];refine aG (λh=>?_) λh=>?_
   .have h5:=(A (o28 h)).2;exact bw (λg=>(g h5).elim) λ_=>bw (λg=>(g h).elim) λ_=>aj rfl
   .have hsi:=(q (hcs.resolve_right λg=>h (A g).1)).1.s;refine bw (λ_=>bw (λg=>(g ⟨hsi.1,hsi.2.1⟩).elim) λg=>aQ g.1 g.2 (aS (aj ?_))) λg=>(h g).elim
    rw[aO hsi.2.2];rfl
  rintro x rfl;refine iM (aW (λx=>x=(aa,w,c,z)) ?_ ?_)
  .simp only[tA,R_];have I:z.1=5\/z.1=10->i<l! c.2-1:=λh=>hcs.resolve_right λg=>by rw[(A g).1]at h;exact bc h (by decide)
   refine aG (λh=>?_) λh=>?_
   .have h2:=(q (I (.inl h))).2.2.1 h;refine bw (λg=>(g h2).elim) λ_=>aG (λg=>?_) λ_=>aj rfl
    rw[h]at g;exact bc g (by decide)
   .refine aG (λg=>aj ?_) λ_=>aj rfl
    have h2:=(q (I (.inr g))).2.1 g;rw[aO (show 0<=z.2.2.1/\z.2.2.1<aY (l! c.2) from h2)];rfl
  rintro x rfl;refine iM (aU (vh z) ?_);have hrl:=Fp z;refine bC (l! (jU z)) (λj x=>x=((j:Int),w,c)) ?_ ?_ rfl
  .rintro j x D rfl;refine cE ?_;refine bK (aS ?_);refine aU (tA _ _) (bw (λg=>(g (hrg _ (ba (T:=aP) (xs:=jU z) (j:=(j:Int)) (by omega) (by omega)))).elim) λ_=>aj ?_);dsimp only;rw[fH]
  .rintro x rfl;exact cz (aj ⟨fH,rfl⟩)
 .rintro⟨k,x⟩ ⟨e1,e2⟩;dsimp only at e1 e2;subst e1 e2;exact cz (aj rfl)
section
abbrev GN:Type:=Y (ζ×Int×Int×Bool×Int)×Y (ζ×Bool)×Y (ζ×Int)×Y ζ×Y ζ×Y π×Y ζ×f?
def Qw (l:Y v?) (s:ζ) (D:l! l<=1000):Ok (mf (l,s)) λr=> -1<=r/\r<l! l/\(0<=r->(aw sk l r).1=s)/\(r<0->∀c∈l,c.1≠s):=by
 refine bC (l! l) (λi x=>x=(i:Int)/\∀k:Nat,k<i->(aw sk l (k:Int)).1≠s) ?_ ?_ ⟨rfl,λk A=>by omega⟩
 .rintro i x hi ⟨rfl,q⟩;refine cE ?_;refine bK (aS ?_);refine aG (λh=>aj ⟨by omega,by omega,λ_=>h,λh=>by omega⟩) λh=>aj ⟨fH,λk A=>?_⟩
  grind
 .rintro x ⟨rfl,q⟩;exact cz (aj ⟨by omega,by omega,λh=>by omega,λ_=>fI (T:=sk) (p:=λc=>c.1≠s) q⟩)
def aoz {s:ζ} (h: -1<=a/\a<E6.length/\(0<=a->(aw sk E6 a).1=s)/\(a<0->∀c∈E6,c.1≠s)):(s=[109]->a=0)/\(s=[110]->a=1)/\(s=[114]->a=2):=by
 let⟨h0,h1,h2,h3⟩:=h;have h1:a<3:=h1;rcases (by omega:a= -1\/a=0\/a=1\/a=2) with rfl|rfl|rfl|rfl
 .have h3:=h3 (by decide);exact⟨λh=>(h3 ([109],aa) (by decide) h.symm).elim,λh=>(h3 ([110],aa) (by decide) h.symm).elim,λh=>(h3 ([114],J) (by decide) h.symm).elim⟩
 .have h2:[109]=s:=h2 (by decide)
  grind
 .have h2:[110]=s:=h2 (by decide)
  grind
 .have h2:[114]=s:=h2 (by decide)
  grind
def C4 (w:WT) (s:ζ) (A:w.1=C0):Ok (om (w,s)) λr=>(s∈NV->s∉L0->0<=r/\r<=2)/\(s=[113]->r=3):=by
 have hl:l! w.1=5:=by rw[A];rfl
 refine bC (l! w.1) (λi x=>x.1=(i:Int)/\x.2=w/\∀k:Nat,k<i->(aw mb w.1 (k:Int)).1≠s) ?_ ?_ ⟨rfl,rfl,λk I=>by omega⟩
 .rintro i ⟨a,x⟩ hi ⟨e1,e2,e3⟩;subst e1;have e2:=e2.symm;subst e2;refine cE ?_;refine bK (aS ?_);refine aG (λh=>aj ?_) λg=>aj ?_
  .rw[A]at h e3;rcases (by omega:i=0\/i=1\/i=2\/i=3\/i=4) with rfl|rfl|rfl|rfl|rfl
   .have h:[120]=s:=h
    grind
   .have h:[121]=s:=h
    grind
   .have h:[118]=s:=h
    grind
   .have h:[113]=s:=h
    grind
   .have h:[113]=s:=h;exact (e3 3 (by omega) h).elim
  .refine ⟨fH,rfl,λk I=>?_⟩
   grind
 .rintro⟨a,x⟩ ⟨e1,e2,e3⟩;subst e1;have e2:=e2.symm;subst e2;refine cz (aj ?_);have q:=fI (T:=mb) (p:=λc=>c.1≠s) e3;rw[A]at q;have a1:=q ([120],0,0,aa,0) (by decide);have a2:=q ([121],0,0,aa,1) (by decide);have a3:=q ([118],0,0,J,0) (by decide);have N:=q ([113],0,2,aa,0) (by decide);refine ⟨λh D=>?_,λh=>(N h.symm).elim⟩;simp[bk,cI,gH,L0]at h D
  grind
def LI (i:IT) (g:GN) (out:Y IT) (h:l! out<=100000000):Ok (cN (i,g,out)) λy=>y.1=g/\y.2=out++[(i.1,i.2.1,i.2.2.1,i.2.2.2.1,i.2.2.2.2.1,g.2.2.2.2.2.2.2.1)]:=by
 exact bu (by grind) (by omega) (aj ⟨rfl,rfl⟩)
def VE:Nat->Nat
 |0=>0
 |d+1=>1+2*VE d
def Ml {l m:Y IT} (h:i<l! l):iA (l++m) i=iA l i:=by
 unfold iA;rw[xC,xC,aA,aA,cU h]
def zP (l:Y IT) (x:IT):iA (l++[x]) (l! l)=x:=by
 unfold iA;rw[xC,aA,cB (bi _)];simp
structure QC (nT:Nat) (ss:List π) (t:Int) (n:Nat) (out o:List IT):Prop where
 l:l! out<=l! o
 u:l! o<=l! out+n
 p:∀k:Nat,k<l! out->iA o k=iA out k
 b:sq o (l! out) (l! o)
 i:∀k:Nat,l! out<=k->k<l! o->GI nT ss t (iA o k)
 r:∀k:Nat,l! out<=k->k<l! o->(iA o k).1=10->0<=(iA o k).2.2.1/\(iA o k).2.2.1<=(l! o:Int)
variable {nT:Nat} {ss:Y π} {t:Int}
def QC.nil (n:Nat) (out:Y IT):QC nT ss t n out out:=⟨bi _,by omega,λ_ _=>rfl,sq.nil _ _,λk h1 h2=>by omega,λk h1 h2=>by omega⟩
def QC.trans {c:Nat} {x y z:Y IT} (h:QC nT ss t i x y) (k:QC nT ss t m y z) (N:i+m<=c):QC nT ss t c x z:=by
 let⟨h1,h2,h3,h4,h5,h6⟩:=h;let⟨k1,k2,k3,k4,k5,k6⟩:=k;refine ⟨by omega,by omega,λq A=>(k3 q (by omega)).trans (h3 q A),(h4.congr λq _ A=>k3 q A).app k4,λq I D=>?_,λq I D g3=>?_⟩
 .grind
 .grind
def QC.one {out:Y IT} {i:IT} (h:GI nT ss t i) (q:¬i.1=5/\¬i.1=10):QC nT ss t 1 out (out++[i]):=by
 have A:l! (out++[i])=l! out+1:=by simp
 refine ⟨by omega,by omega,λk D=>Ml D,?_,λk h1 h2=>?_,λk h1 h2 h3=>?_⟩
 .rw[A];exact sq.one (by rw[zP];exact q.1)
 .rw[show k=l! out by omega,zP];exact h
 .rw[show k=l! out by omega,zP]at h3;exact (q.2 h3).elim
structure GK (ss:List π) (t:Int) (g:GN):Prop where
 c:g.1=C0
 l:g.2.2.2.2.2.2.1=L0
 s:SO ss t g.2.2.2.2.2.2.2.1
def goI {nT:Nat} {A B C N y:Int} (h1:1<=a) (h2:a<=27) (q:∀j:Int,j∈jU (a,A,B,C,N,y)->0<=j/\j<32) (D:OB nT (a,A,B,C,N,y)):GO nT (a,A,B,C,N,y):=⟨h1,h2,q,D⟩
def Hs {r:υ} {g:GN} {out:Y IT} (h:l! out<=100000000) (A:GK ss t g) (hi:GO nT (a,r)) (D:¬a=5/\¬a=10):Ok (cN ((a,r),g,out)) λy=>y.1=g/\QC nT ss t 1 out y.2:=(LI (a,r) g out h).mono λy q=>⟨q.1,by rw[q.2];exact QC.one ⟨⟨hi.o1,hi.o2,hi.r,hi.b⟩,A.s⟩ D⟩
abbrev v!:=GN×Y IT
def QE:∀(n d:Nat),d<n->∀(e:Xp) (k:Int) (g:GN) (out:Y IT),GE d e->GK ss t g->0<=k->k+d<=31->l! out+VE d<=100000000->Ok (jO n ((e,k),g,out)) λy=>y.1=g/\QC nT ss t (VE d) out y.2
 |0,_,h,_,_,_,_,_,_,_,_,_=>by omega
 |n+1,0,_,e,_,_,_,h,_,_,_,_=>h.elim
 |n+1,d+1,hn,e,k,g,out,h,D,k0,k1,hb=>by
  obtain⟨h1,h2,h3,h4,h5,hc,h6⟩:=h;obtain⟨gc,gl,gs⟩:=id D;have hv:VE (d+1)=1+2*VE d:=rfl;rw[Dk];unfold rU bg bA bQ cS ji bq jr bX bI aI cL;refine aW (λy=>y.1=g/\QC nT ss t (VE (d+1)) out y.2) ?_ λx hx=>aj hx
  have fin:∀{y:v!},(y.1=g/\QC nT ss t 1 out y.2)->y.1=g/\QC nT ss t (VE (d+1)) out y.2:=λh=>⟨h.1,(QC.nil 0 out).trans h.2 (by omega)⟩
  refine aG (λn1=>?_) λn1=>?_
  .refine au (Hs (nT:=nT) (by omega) D (goI (by decide) (by decide) (by simp[jU];omega) (⟨(by decide:¬(1:Int)=3),λ_=>hc n1⟩)) (by decide)) λy q=>bO (by simp) (aj (fin q))
  refine aG (λN=>?_) λN=>?_
  .refine au (AU _ _ (by dsimp only;rw[gl];decide)) λv hv=>dB (λg0=>?_) λg0=>?_
   .have v1:=hv.2.1;dsimp only at v1 g0;rw[gl]at v1;have v1:v<2:=v1;refine au (Hs (nT:=nT) (by omega) D (goI (by decide) (by decide) (by simp[jU];omega) (⟨(by decide:¬(2:Int)=3),nofun⟩)) (by decide)) λy q=>bO (by simp) (aj (fin q))
   .have v1:=hv.2.2.2 g0;dsimp only at v1;rw[gl]at v1;refine au (C4 _ _ gc) λv A=>?_
    have v2:=A.1 (h5 N) v1;refine au (Hs (nT:=nT) (by omega) D (goI (by decide) (by decide) (by simp[jU];omega) (v2)) (by decide)) λy q=>bO (by simp) (aj (fin q))
  have hl:=h2 n1 N;have hrec:∀(j:Nat),j<l! e.l->∀(I:Int) (o:Y IT),0<=I->I+d<=31->l! o+VE d<=100000000->Ok (jO n ((aw (.ex) e.l (j:Int),I),g,o)) λy=>y.1=g/\QC nT ss t (VE d) o y.2:=λj hj I o q0 q1 ho=>QE n d (by omega) _ I g o (h4 _ (ba (T:=.ex) (xs:=e.l) (j:=(j:Int)) (by omega) (by omega))) D q0 q1 ho
  refine aG (λn3=>?_) λn3=>?_
  .refine bK (aS ?_);refine au (hrec 0 hl k out k0 (by omega) (by omega)) λy q=>?_
   obtain⟨g2,o2⟩:=y;obtain⟨q1,q2⟩:=q;dsimp only at q1 q2;subst q1;have q3:=q2.u;refine bO (by simp) ?_;refine au (C4 _ _ gc) λv A=>?_
   have v3:=A.2 (h1 n3);have v3:v=3:=v3;subst v3;refine aQ (by decide) (by dsimp only;rw[gc];decide) (aS ?_);refine au (Hs (nT:=nT) (by omega) D (goI (by decide) (by decide) (by simp[jU];omega) (⟨rfl,by dsimp only;rw[gc];rfl⟩)) (by decide)) λy q=>bO (by simp) (aj ⟨q.1,q2.trans q.2 (by omega)⟩)
  obtain⟨h7,h8,h9⟩:=h6 n1 N n3;refine aG (λn4=>?_) λn4=>?_
  .dsimp only[al]at n4;omega
  .have hl2:1<l! e.l:=by omega
   refine bK (aS ?_);refine au (hrec 0 hl k out k0 (by omega) (by omega)) λy q=>?_
   obtain⟨g2,o2⟩:=y;obtain⟨q1,q2⟩:=q;dsimp only at q1 q2;subst q1;have q3:=q2.u;refine bO (by simp) ?_;refine bK (aS ?_);dsimp only;rw[fh (n:=k+1) (by omega) (by omega)];refine au (hrec 1 hl2 _ o2 (by omega) (by omega) (by omega)) λy q=>?_
   obtain⟨g3,o3⟩:=y;obtain⟨r1,r2⟩:=q;dsimp only at r1 r2;subst r1;have r3:=r2.u;refine bO (by simp) ?_;refine au (Hs (nT:=nT) (by omega) D (goI (by decide) (by decide) (by simp[jU];omega) (⟨h8,h9⟩)) (by decide)) λy q=>bO (by simp) (aj ⟨q.1,(q2.trans r2 (bi _)).trans q.2 (by omega)⟩)
def XW (e:Xp) (k:Int) (g:GN) (out:Y IT) (he:GE 4 e) (A:GK ss t g) (q:0<=k) (k1:k<=27) (h:l! out<=99999900):Ok (jJ ((e,k),g,out)) λy=>y.1=g/\QC nT ss t 15 out y.2:=QE fZ 4 (by rw[kl];omega) e k g out he A q (by omega) (by have:VE 4=15:=rfl;omega)
end
section
structure GB (nT:Nat) (g:GN):Prop where
 c:g.1=C0
 l:g.2.1=E6
 d:g.2.2.1=Rw
 f:g.2.2.2.1=XP
 t:g.2.2.2.2.1=yV.take nT
 h:g.2.2.2.2.2.2.1=L0
structure GQ (g y:GN):Prop where
 a:y.1=g.1
 b:y.2.1=g.2.1
 c:y.2.2.1=g.2.2.1
 d:y.2.2.2.1=g.2.2.2.1
 e:y.2.2.2.2.1=g.2.2.2.2.1
 h:y.2.2.2.2.2.2.1=g.2.2.2.2.2.2.1
def GQ.refl (g:GN):GQ g g:=⟨rfl,rfl,rfl,rfl,rfl,rfl⟩
def GQ.trans {a b c:GN} (h:GQ a b) (k:GQ b c):GQ a c:=⟨k.a.trans h.a,k.b.trans h.b,k.c.trans h.c,k.d.trans h.d,k.e.trans h.e,k.h.trans h.h⟩
variable {nT:Nat} {ss:Y π} {t:Int}
def GB.of {g y:GN} (h:GB nT g) (q:GQ g y):GB nT y:=⟨q.a.trans h.c,q.b.trans h.l,q.c.trans h.d,q.d.trans h.f,q.e.trans h.t,q.h.trans h.h⟩
def GQ.site (g:GN) (x:Y π) (a b:Int):GQ g (g.1,g.2.1,g.2.2.1,g.2.2.2.1,g.2.2.2.2.1,x,g.2.2.2.2.2.2.1,a,b):=⟨rfl,rfl,rfl,rfl,rfl,rfl⟩
abbrev gS (g:GN):Int:=g.2.2.2.2.2.2.2.1
abbrev gN (g:GN):Int:=g.2.2.2.2.2.2.2.2
structure QG (nT:Nat) (ss:List π) (t:Int) (n m:Nat) (g:GN) (out:List IT) (y:GN×List IT):Prop where
 q:GQ g y.1
 c:QC nT ss t n out y.2
 x:gN y.1=gN g+(m:Int)
def zA {r:υ} {g:GN} {out:Y IT} (h:l! out<=100000000) (q:GB nT g) (A:SO ss t (gS g)) (hi:GO nT (a,r)) (D:¬a=5/\¬a=10):Ok (cN ((a,r),g,out)) λy=>y.1=g/\QC nT ss t 1 out y.2:=Hs h ⟨q.c,q.h,A⟩ hi D
def Fd (e:Xp) (k:Int) (g:GN) (out:Y IT) (he:GE 4 e) (q:GB nT g) (D:SO ss t (gS g)) (A:0<=k) (k1:k<=27) (h:l! out<=99999000):Ok (jJ ((e,k),g,out)) λy=>y.1=g/\QC nT ss t 15 out y.2:=XW e k g out he ⟨q.c,q.h,D⟩ A k1 (by omega)
def GB.len {g:GN} (h:GB nT g):aY (ah g.2.2.2.2.2.2.1)=2:=by rw[h.h];rfl
def Zz (s:Sx) (g:GN) (out:Y IT) (h1:s.index≠[]->s.name=[113]) (h2:∀e∈s.index,GE 4 e) (h3:GE 4 s.expr) (h4:s.index=[]->s.name∈NV) (q:GB nT g) (I:SO ss t (gS g)) (h:l! out<=99990000):Ok (mN (s,g,out)) λy=>y.1=g/\QC nT ss t 40 out y.2:=by
 have hex:GE 4 (eJ (Xp.op s.expr,Xp.n s.expr,Xp.name s.expr,Xp.l s.expr)):=by rw[fV];exact h3
 have e3:aT .i64 ((2:Int)+1)=3:=fh (by decide) (by decide);unfold mN bg bA bQ cS ji bV jr bX bI be;refine bG (λD=>?_) λD=>?_
 .dsimp only[al]at D;refine bK (aS ?_);refine au (Fd _ _ g out (h2 _ (ba (T:=.ex) (xs:=s.index) (j:=0) (by omega) (by omega))) q I (by rw[q.len];decide) (by rw[q.len];decide) (by omega)) λy A=>?_
  let⟨g2,o2⟩:=y;let⟨q1,q2⟩:=A;dsimp only at q1 q2;subst q1;have q3:=q2.u;refine bO (by simp) ?_;dsimp only;rw[q.len,e3];refine au (Fd _ _ g2 o2 hex q I (by decide) (by decide) (by omega)) λy A=>?_
  let⟨g3,o3⟩:=y;let⟨r1,r2⟩:=A;dsimp only at r1 r2;subst r1;have r3:=r2.u;refine bO (by simp) ?_;refine au (C4 _ _ q.c) λv N=>?_
  have v3:=N.2 (h1 (λh=>by rw[h]at D;simp at D));have v3:v=3:=v3;subst v3;refine aQ (by decide) (by dsimp only;rw[q.c];decide) (aS ?_);refine au (zA (by omega) q I (goI (by decide) (by decide) (by simp[jU,q.h,L0]) (⟨rfl,by dsimp only;rw[q.c];rfl⟩)) (by decide)) λy A=>bO (by simp) (aj ⟨A.1,(q2.trans r2 (bi _)).trans A.2 (by omega)⟩)
 .have hi0:s.index=[]:=fd.1 (by dsimp only[al]at D;omega);refine au (Fd _ _ g out hex q I (by rw[q.len];decide) (by rw[q.len];decide) (by omega)) λy A=>?_
  let⟨g2,o2⟩:=y;let⟨q1,q2⟩:=A;dsimp only at q1 q2;subst q1;have q3:=q2.u;refine bO (by simp) ?_;refine au (AU _ _ (by dsimp only;rw[q.h];decide)) λv N=>dB (λD=>?_) λD=>?_
  .have v1:=N.2.1;dsimp only at v1 D;rw[q.h]at v1;have v1:v<2:=v1;refine au (zA (by omega) q I (goI (by decide) (by decide) (by simp[jU,q.h,L0];omega) (⟨(by decide:¬(2:Int)=3),nofun⟩)) (by decide)) λy A=>bO (by simp) (aj ⟨A.1,q2.trans A.2 (by omega)⟩)
  .have v1:=N.2.2.2 D;dsimp only at v1;rw[q.h]at v1;refine au (C4 _ _ q.c) λv hv2=>?_
   have v2:=hv2.1 (h4 hi0) v1;refine au (zA (by omega) q I (goI (by decide) (by decide) (by simp[jU,q.h,L0]) (v2)) (by decide)) λy A=>bO (by simp) (aj ⟨A.1,q2.trans A.2 (by omega)⟩)
def aia (s:ζ) (g:GN) (out:Y IT) (q:GB nT g):Ok (kq (s,g,out)) λy=>y.2=(g,out)/\(s=[99]->y.1=0):=by
 have hd:l! g.2.2.1=1:=by rw[q.d];rfl
 unfold kq bg bV bI be c7 aI cL;refine bC 1 (λi x=>x.1=(i:Int)/\x.2=(g,out)/\(s=[99]->i=0)) ?_ ?_ ⟨rfl,rfl,λ_=>rfl⟩
 .rintro i ⟨a,x⟩ hi ⟨e1,e2,e3⟩;subst e1 e2;refine cE ?_;refine bK (aS ?_);refine aG (λ_=>aj ⟨rfl,λ_=>by dsimp only;omega⟩) λh=>aj ⟨fH,rfl,λh2=>?_⟩
  refine (h ?_).elim;rw[q.d,show i=0 by omega,h2];rfl
 .rintro⟨a,x⟩ ⟨e1,e2,e3⟩;subst e1 e2;exact cz (aj ⟨rfl,λh=>by have:=e3 h;omega⟩)
def ME:Nat->Nat
 |0=>0
 |d+1=>50+16*ME d
def SR (ss:Y π) (t a:Int) (m:Nat):Prop:=0<=a/\a+m<=1000/\∀i:Int,a<=i->i<a+m->SO ss t i
def SpG (nT:Nat) (ss:Y π) (t:Int) (q:Sx×v!->M v!) (d:Nat):Prop:=∀(s:Sx) (g:GN) (out:Y IT),GS nT d s->GB nT g->SR ss t (gN g) (Ue d s)->l! out+ME d<=90000000->Ok (q (s,g,out)) (QG nT ss t (ME d) (Ue d s) g out)
def ajn (nT:Nat) (ss:Y π) (t:Int) (q:Y Sx×v!->M v!) (d:Nat):Prop:=∀(l:Y Sx) (g:GN) (out:Y IT),l! l<=100->(∀s∈l,GS nT d s)->GB nT g->SR ss t (gN g) (oJ d l)->l! out+l! l*ME d<=90000000->Ok (q (l,g,out)) (QG nT ss t (l! l*ME d) (oJ d l) g out)
end
section
abbrev FS6:Type:=Y Sx×v!->M v!
abbrev FT6:Type:=Sx×v!->M v!
abbrev FA6:Type:=(Sx×Int×Int×Int)×v!->M v!
variable {nT:Nat} {ss:Y π} {t:Int}
def as0 (nT:Nat) (ss:Y π) (t:Int) (q:FT6) (d:Nat):Prop:=∀(s:Sx) (g:GN) (out:Y IT),s.op=2\/s.op=3->GE 4 s.expr->l! s.body<=8->l! s.els<=8->(∀x∈s.body,GS nT d x)->(∀x∈s.els,GS nT d x)->(¬s.op=2->s.els=[])->GB nT g->SO ss t (gS g)->SR ss t (gN g) (oJ d s.body+oJ d s.els)->l! out+ME (d+1)<=90000000->Ok (q (s,g,out)) (QG nT ss t (17+16*ME d) (oJ d s.body+oJ d s.els) g out)
def as1 (nT:Nat) (ss:Y π) (t:Int) (q:FA6) (d:Nat):Prop:=∀(s:Sx) (a b c:Int) (g:GN) (out:Y IT),l! s.body<=8->(∀x∈s.body,GS nT d x)->GO nT (a,c,0,0,0,0)->GO nT (b,c,0,0,0,0)->¬a=5/\¬a=10->¬b=5/\¬b=10->GB nT g->SO ss t (gS g)->SR ss t (gN g) (oJ d s.body)->l! out+ME (d+1)<=90000000->Ok (q ((s,a,b,c),g,out)) (QG nT ss t (17+16*ME d) (oJ d s.body) g out)
def SR.sub {b:Int} {n:Nat} (h:SR ss t a m) (h1:a<=b) (h2:b+n<=a+m):SR ss t b n:=⟨by have:=h.1;omega,by have:=h.2.1;omega,λi A q=>h.2.2 i (by omega) (by omega)⟩
def YL (rs:FS6) (D:FT6) (rb:FT6) (ra:FA6) (d:Nat) (ht:SpG nT ss t D d):ajn nT ss t (vV rs D rb ra) d:=by
 intro l g out hl hs hg hso hb;refine bC (l! l) (λi x=>x.1=(i:Int)/\QG nT ss t (i*ME d) (oJ d (l.take i)) g out x.2) ?_ ?_ ⟨rfl,GQ.refl g,QC.nil _ _,by simp[oJ]⟩
 .rintro i ⟨a,N,I⟩ hi ⟨e1,q1,q2,q3⟩;dsimp only at e1 q1 q2 q3;subst e1;have hK:(i+1)*ME d<=l! l*ME d:=cg _ (by omega);have hKs:=nC i (ME d);rw[Nat.succ_eq_add_one]at hKs;have hp:=Tx (d:=d) l (i+1);rw[yt hi]at hp;have q4:=q2.u;refine cE ?_;refine bK (aS ?_);refine au (ht _ N I (hs _ (ba (T:=.sm) (xs:=l) (j:=(i:Int)) (by omega) (by omega))) (hg.of q1) (hso.sub (by omega) (by grind)) (by omega)) λy A=>bO (by simp) (aj ?_)
  rw[yt hi];exact⟨fH,q1.trans A.q,q2.trans A.c (by omega),by rw[A.x,q3];dsimp only;omega⟩
 .rintro⟨a,N,I⟩ ⟨e1,q⟩;rw[cH]at q;exact cz (aj q)
def VG (I:FS6) (rt:FT6) (rb:FT6) (ra:FA6) (d:Nat) (hS:ajn nT ss t I d):as1 nT ss t (uE I rt rb ra) d:=by
 intro s a b c g out h1 h2 ga gb na nb A hs hso hb;have hm:ME (d+1)=50+16*ME d:=rfl;have kb:l! s.body*ME d<=8*ME d:=cg _ h1;refine au (zA (by omega) A hs ga na) λy q=>?_
 let⟨g2,o2⟩:=y;let⟨q1,q2⟩:=q;dsimp only at q1 q2;subst q1;have q3:=q2.u;refine bO (by simp) ?_;refine au (hS s.body g2 o2 (by omega) h2 A hso (by omega)) λy q=>?_
 let⟨D,o3⟩:=y;let⟨r1,r2,r3⟩:=q;have r4:=r2.u;refine bO (by simp) ?_;have N:=r1.trans (GQ.site D D.2.2.2.2.2.1 g2.2.2.2.2.2.2.2.1 D.2.2.2.2.2.2.2.2);refine au (zA (by grind) (A.of N) hs gb nb) λy q=>bO (by simp) (aj ⟨?_,?_,?_⟩)
 .rw[q.1];exact N
 .exact (q2.trans r2 (bi _)).trans q.2 (by omega)
 .rw[q.1];exact r3
def BG {l:Y IT} {x:IT} (h:i<l! l):iA (ca l (i:Int) x) m=if m=i then x else iA l m:=MF (T:=sx) l i m x h
abbrev ptB (l:Y IT) (j:Nat) (b:Int):Y IT:=ca l (j:Int) ((iA l j).1,(iA l j).2.1,b,(iA l j).2.2.2.1,(iA l j).2.2.2.2.1,(iA l j).2.2.2.2.2)
abbrev ptA (l:Y IT) (j:Nat) (a:Int):Y IT:=ca l (j:Int) ((iA l j).1,a,(iA l j).2.2.1,(iA l j).2.2.2.1,(iA l j).2.2.2.2.1,(iA l j).2.2.2.2.2)
def GI.pb {i:IT} (h:GI nT ss t i) (h1:i.1=10):GI nT ss t (i.1,i.2.1,a,i.2.2.2.1,i.2.2.2.2.1,i.2.2.2.2.2):=by
 let⟨i1,N,I,D,A,q⟩:=i;dsimp only at h1;subst h1;exact⟨⟨h.o.o1,h.o.o2,h.o.r,⟨(by decide:¬(10:Int)=3),nofun⟩⟩,h.s⟩
def QC.cbr {out A o2 I:Y IT} {D:IT} (h1:QC nT ss t i out A) (h2:o2=A++[D]) (hb:GI nT ss t D) (h10:D.1=10) (h3:QC nT ss t m o2 I) (F:Y IT) (hl:l! I<=l! F) (hF:∀k:Nat,k<l! I->¬k=l! A->iA F k=iA I k) (hFb:∃b:Int,(0<=b/\b<=(l! F:Int))/\iA F (l! A)=(D.1,D.2.1,b,D.2.2.2.1,D.2.2.2.2.1,D.2.2.2.2.2)):(∀k:Nat,k<l! out->iA F k=iA out k)/\sq F (l! out) (l! A)/\(iA F (l! A)).1=10/\sq F (l! A+1) (l! I)/\(∀k:Nat,l! out<=k->k<l! I->GI nT ss t (iA F k))/\∀k:Nat,l! out<=k->k<l! I->(iA F k).1=10->0<=(iA F k).2.2.1/\(iA F k).2.2.1<=(l! F:Int):=by
 have l2:l! o2=l! A+1:=by grind
 have l1:=h1.l;have l3:=h3.l;have e1:∀k:Nat,k<l! A->iA F k=iA A k:=λk q=>by rw[hF k (by omega) (by omega),h3.p k (by omega),h2,Ml q]
 let⟨b,hb0,eb⟩:=hFb;refine ⟨λk q=>(e1 k (by omega)).trans (h1.p k q),h1.b.congr λk _ q=>e1 k q,by rw[eb];exact h10,?_,λk g1 N=>?_,λk g1 N g3=>?_⟩
 .have:=h3.b;rw[l2]at this;exact this.congr λk g1 N=>hF k N (by omega)
 .rcases CJ k (l! A) with q|q|q
  .rw[e1 k q];exact h1.i k g1 q
  .rw[q,eb];exact hb.pb h10
  .rw[hF k N (by omega)];exact h3.i k (by omega) N
 .rcases CJ k (l! A) with q|q|q
  .rw[e1 k q]at g3 ⊢;have:=h1.r k g1 q g3;omega
  .rw[q,eb];exact hb0
  .rw[hF k N (by omega)]at g3 ⊢;have:=h3.r k (by omega) N g3;omega
def Pf (rs:FS6) (rt:FT6) (rb:FT6) (ra:FA6) (d:Nat) (hS:ajn nT ss t rs d):as0 nT ss t (nF rs rt rb ra) d:=by
 intro s g out hop he h1 h2 h3 h4 hel hg hs hso hb;have hm:ME (d+1)=50+16*ME d:=rfl;have kb:l! s.body*ME d<=8*ME d:=cg _ h1;have ke:l! s.els*ME d<=8*ME d:=cg _ h2;have hex:GE 4 (eJ (Xp.op s.expr,Xp.n s.expr,Xp.name s.expr,Xp.l s.expr)):=by rw[fV];exact he
 unfold nF bg bA bQ cS ji RA Rz ck bq bX be;refine au (Fd _ _ g out hex hg hs (by rw[hg.len];decide) (by rw[hg.len];decide) (by omega)) λy hy=>?_
 let⟨g1,N⟩:=y;let⟨p1,p2⟩:=hy;dsimp only at p1 p2;subst p1;have p3:=p2.u;have p4:=p2.l;refine bO (by simp) ?_;refine au (LI _ g1 N (by omega)) λy hy=>?_
 let⟨A,o2⟩:=y;let⟨q1,q2⟩:=hy;dsimp only at q1 q2;subst q1;rw[hg.len]at q2;have hbr:GI nT ss t ((10,2,0,0,0,A.2.2.2.2.2.2.2.1):IT):=⟨goI (by decide) (by decide) (by simp[jU]) ⟨(by decide:¬(10:Int)=3),nofun⟩,hs⟩
 have l2:l! o2=l! N+1:=by rw[q2,aF];rfl
 refine bO (by simp) ?_;refine au (hS s.body A o2 (by omega) h3 hg (hso.sub (c6 _) (by omega)) (by omega)) λy hy=>?_
 let⟨g3,q⟩:=y;let⟨r1,r2,r3⟩:=hy;dsimp only at r1 r2 r3;have r4:=r2.u;have r5:=r2.l;have ebr:iA q (l! N)=(10,2,0,0,0,A.2.2.2.2.2.2.2.1):=by rw[r2.p _ (by omega),q2,zP]
 refine bO (by simp) ?_;have qs:=r1.trans (GQ.site g3 g3.2.2.2.2.2.1 A.2.2.2.2.2.2.2.1 g3.2.2.2.2.2.2.2.2);refine aG (λh3w=>?_) λh3w=>?_
 .have hels:oJ d s.els=0:=by rw[hel (by have h3w:s.op=3:=h3w;omega)];rfl
  rw[hels,dL];refine au (LI _ _ q (by omega)) λy hy=>?_
  let⟨g4,D⟩:=y;let⟨w1,w2⟩:=hy;dsimp only at w1 w2;have l4:l! D=l! q+1:=by rw[w2,aF];rfl
  refine bO (by simp) (aQ (eX _) (by dsimp only[al];omega) (aQ (eX _) (by dsimp only[al];omega) (aj ?_)));have hat:l! N<l! D:=by omega
  have ej:iA D (l! q)=(5,(l! out:Int),0,0,0,A.2.2.2.2.2.2.2.1):=by rw[w2,zP];rfl
  have e43:∀k:Nat,k<l! q->iA D k=iA q k:=λk I=>by rw[w2,Ml I]
  refine ⟨by dsimp only;rw[w1];exact qs,?_,by dsimp only;rw[w1];exact r3⟩;dsimp only;have eF:∀{z:IT} {k:Nat},¬k=l! N->iA (ca D ((l! N:Nat):Int) z) k=iA D k:=λh=>by rw[BG hat,ay h]
  let⟨f1,f2,f3,f4,f5,f6⟩:=p2.cbr q2 hbr rfl r2 (ptB D (l! N) (aY (l! D))) (by rw[bM];omega) (λk I hn=>(eF hn).trans (e43 k I)) ⟨_,⟨eX _,by rw[bM];exact c6 _⟩,by rw[BG hat,aK rfl,e43 _ (by omega),ebr];rfl⟩;show QC nT ss t _ out (ptB D (l! N) (aY (l! D)));have ejF:iA (ptB D (l! N) (aY (l! D))) (l! q)=(5,(l! out:Int),0,0,0,A.2.2.2.2.2.2.2.1):=(eF (by omega:¬l! q=l! N)).trans ej;refine ⟨by rw[bM];omega,by rw[bM];omega,f1,?_,λk g1 A=>?_,λk g1 A g3=>?_⟩
  .rw[(bM _ _ _).trans l4];exact f2.whl f3 f4 (by rw[ejF]) (by rw[ejF])
  .rw[bM,l4]at A;by_cases I:k<l! q
   .exact f5 k g1 I
   .rw[show k=l! q by omega,ejF];exact⟨goI (by decide) (by decide) (by simp[jU]) ⟨(by decide:¬(5:Int)=3),nofun⟩,hs⟩
  .have g2':=A;rw[bM,l4]at g2';by_cases I:k<l! q
   .exact f6 k g1 I g3
   .rw[show k=l! q by omega,ejF]at g3;cases g3
 refine aG (λhz=>?_) λ_=>?_
 .have hels:oJ d s.els=0:=by rw[fd.1 (by dsimp only[al]at hz;omega:l! s.els=0)];rfl
  rw[hels,dL];refine aQ (eX _) (by dsimp only[al];omega) (aQ (eX _) (by dsimp only[al];omega) (aj ⟨qs,?_,r3⟩));dsimp only;have hat:l! N<l! q:=by omega
  let⟨f1,f2,f3,f4,f5,f6⟩:=p2.cbr q2 hbr rfl r2 (ptB q (l! N) (aY (l! q))) (by rw[bM];omega) (λk I hn=>by rw[BG hat,ay hn]) ⟨_,⟨eX _,by rw[bM];exact c6 _⟩,by rw[BG hat,aK rfl,ebr];rfl⟩;show QC nT ss t _ out (ptB q (l! N) (aY (l! q)));refine ⟨by rw[bM];omega,by rw[bM];omega,f1,?_,λk g1 A=>?_,λk g1 A g3=>?_⟩
  .rw[bM];exact (f2.app (sq.one (by rw[f3];decide))).app f4
  .rw[bM]at A;exact f5 k g1 A
  .exact f6 k g1 (by rw[bM]at A;exact A) g3
 .refine au (LI _ _ q (by omega)) λy hy=>?_
  let⟨g4,D⟩:=y;let⟨w1,w2⟩:=hy;dsimp only at w1 w2;have l4:l! D=l! q+1:=by rw[w2,aF];rfl
  have qs4:GQ A g4:=by rw[w1];exact qs
  have x4:gN g4=gN A+(oJ d s.body:Nat):=by rw[w1];exact r3
  have hat:l! N<l! D:=by omega
  have ej:iA D (l! q)=(5,0,0,0,0,A.2.2.2.2.2.2.2.1):=by rw[w2,zP]
  have e43:∀k:Nat,k<l! q->iA D k=iA q k:=λk I=>by rw[w2,Ml I]
  refine bO (by simp) (aQ (eX _) (by dsimp only[al];omega) (aQ (eX _) (by dsimp only[al];omega) ?_));have eF:∀{z:IT} {k:Nat},¬k=l! N->iA (ca D ((l! N:Nat):Int) z) k=iA D k:=λh=>by rw[BG hat,ay h]
  refine au (hS s.els g4 (ptB D (l! N) (aY (l! D))) (by omega) h4 (hg.of qs4) (hso.sub (by rw[x4];omega) (by rw[x4];omega)) (by rw[bM];omega)) λy hy=>?_
  let⟨g5,o5⟩:=y;let⟨z1,z2,z3⟩:=hy;dsimp only at z1 z2 z3;have z4:=z2.l;have z5:=z2.u;have zp:=z2.p;have zb:=z2.b;have zi:=z2.i;have zr:=z2.r;rw[bM]at z4 z5 zp zb zi zr;have hj5:l! q<l! o5:=by omega
  refine bO (by simp) (aQ (eX _) (by dsimp only[al];omega) (aQ (eX _) (by dsimp only[al];omega) (aj ⟨qs4.trans z1,?_,by dsimp only;rw[z3,x4];omega⟩)));dsimp only;show QC nT ss t _ out (ptA o5 (l! q) (aY (l! o5)));have eG:∀{z:IT} {k:Nat},¬k=l! q->iA (ca o5 ((l! q:Nat):Int) z) k=iA o5 k:=λh=>by rw[BG hj5,ay h]
  have ej5:iA o5 (l! q)=(5,0,0,0,0,A.2.2.2.2.2.2.2.1):=by rw[zp _ (by omega),eF (by omega),ej]
  let⟨f1,f2,f3,f4,f5,f6⟩:=p2.cbr q2 hbr rfl r2 (ptA o5 (l! q) (aY (l! o5))) (by rw[bM];omega) (λk I hn=>by rw[eG (by omega),zp k (by omega),eF hn,e43 k I]) ⟨aY (l! D),⟨eX _,by rw[bM];dsimp only[al];omega⟩,by rw[eG (by omega),zp _ (by omega),BG hat,aK rfl,e43 _ (by omega),ebr]⟩;have ejF:iA (ptA o5 (l! q) (aY (l! o5))) (l! q)=(5,aY (l! o5),0,0,0,A.2.2.2.2.2.2.2.1):=by rw[BG hj5,aK rfl,ej5]
  refine ⟨by rw[bM];omega,by rw[bM];omega,f1,?_,λk g1 A=>?_,λk g1 A g3=>?_⟩
  .rw[bM];refine ((f2.app (sq.one (by rw[f3];decide))).app f4).ite (by rw[ejF]) (by rw[ejF];rfl) ?_;rw[l4]at zb;exact zb.congr λk g1 A=>eG (by omega)
  .rw[bM]at A;rcases CJ k (l! q) with I|I|I
   .exact f5 k g1 I
   .rw[I,ejF];exact⟨goI (by decide) (by decide) (by simp[jU]) ⟨(by decide:¬(5:Int)=3),nofun⟩,hs⟩
   .rw[eG (by omega)];exact zi k (by omega) A
  .have g2':=A;rw[bM]at g2';rcases CJ k (l! q) with I|I|I
   .exact f6 k g1 I g3
   .rw[I,ejF]at g3;cases g3
   .rw[eG (by omega)]at g3 ⊢;rw[bM];exact zr k (by omega) g2' g3
def ade (rs:FS6) (rt:FT6) (rb:FT6) (ra:FA6) (d:Nat) (hB:as0 nT ss t rb d) (hA:as1 nT ss t ra d):SpG nT ss t (tC rs rt rb ra) (d+1):=by
 intro s g out hs hg hso hb;have hm:ME (d+1)=50+16*ME d:=rfl;let⟨i1,i2,i3,i4,i5,i6,i7,i8,i9,hN⟩:=hs;have hcn:Ue (d+1) s=1+oJ d s.body+oJ d s.els:=rfl;rw[hcn]at hso ⊢;let⟨so0,so1,so2⟩:=id hso;have so0:0<=g.2.2.2.2.2.2.2.2:=so0;have so1:g.2.2.2.2.2.2.2.2+((1+oJ d s.body+oJ d s.els:Nat):Int)<=1000:=so1;have ew:aT .i64 (g.2.2.2.2.2.2.2.2+1)=g.2.2.2.2.2.2.2.2+1:=fh;have gs:=GQ.site g g.2.2.2.2.2.1 g.2.2.2.2.2.2.2.2 (aT .i64 (g.2.2.2.2.2.2.2.2+1));unfold tC bg bA bQ cS ji bY Rz bq bX be aI cL eL;refine aW (λx=>QG nT ss t (ME (d+1)) (1+oJ d s.body+oJ d s.els) g out x) ?_ λx hx=>aj hx
 dsimp only;have hs1:SO ss t (gS ((g.1,g.2.1,g.2.2.1,g.2.2.2.1,g.2.2.2.2.1,g.2.2.2.2.2.1,g.2.2.2.2.2.2.1,g.2.2.2.2.2.2.2.2,aT .i64 (g.2.2.2.2.2.2.2.2+1)):GN)):=so2 _ (c6 _) (by show g.2.2.2.2.2.2.2.2<g.2.2.2.2.2.2.2.2+((1+oJ d s.body+oJ d s.els:Nat):Int);omega);have hn1:gN ((g.1,g.2.1,g.2.2.1,g.2.2.2.1,g.2.2.2.2.1,g.2.2.2.2.2.1,g.2.2.2.2.2.2.1,g.2.2.2.2.2.2.2.2,aT .i64 (g.2.2.2.2.2.2.2.2+1)):GN)=gN g+1:=ew;revert gs hs1 hn1;generalize ((g.1,g.2.1,g.2.2.1,g.2.2.2.1,g.2.2.2.2.1,g.2.2.2.2.2.1,g.2.2.2.2.2.2.1,g.2.2.2.2.2.2.2.2,aT .i64 (g.2.2.2.2.2.2.2.2+1)):GN)=N;intro gs hs1 hn1;have I:=hg.of gs;have hso1:=hso.sub (b:=gN N) (n:=oJ d s.body+oJ d s.els) (by rw[hn1];omega) (by rw[hn1];omega);have fin:∀(n m:Nat) (y:v!),QG nT ss t n m N out y->n<=ME (d+1)->m=oJ d s.body+oJ d s.els->QG nT ss t (ME (d+1)) (1+oJ d s.body+oJ d s.els) g out y:=λn m y D hn hm=>⟨gs.trans D.q,(QC.nil 0 out).trans D.c (by omega),by rw[D.x,hn1];omega⟩
 have fin0:s.op=1\/9<=s.op->∀(n:Nat) (y:v!),y.1=N/\QC nT ss t n out y.2->n<=ME (d+1)->QG nT ss t (ME (d+1)) (1+oJ d s.body+oJ d s.els) g out y:=λA n y D hn=>fin n 0 y ⟨by rw[D.1];exact GQ.refl N,D.2,by rw[D.1];simp⟩ hn (by rw[hN.bo A,hN.el (by omega)];rfl)
 refine aG (λA=>?_) λ_=>?_
 .refine au (Zz (oZ _) N out ?_ ?_ ?_ ?_ I hs1 (by omega)) λy D=>bO (by simp) (aj (fin0 (.inl A) _ _ D (by omega)))
  .rw[At];exact i1
  .rw[At];exact i3
  .rw[At];exact i4 (.inl A)
  .rw[At];exact hN.vr A
 refine aW (λx=>x.2=(N,s,out)/\(x.1=J↔s.op=2\/s.op=3)) ?_ ?_
 .exact aG (λh=>aj ⟨by dsimp only;rw[At],λ_=>.inl h,λ_=>aO h⟩) λh=>aj ⟨by dsimp only;rw[At],λh2=>.inr (aZ h2),λh2=>aO (h2.resolve_left h)⟩
 rintro⟨b,x⟩ ⟨e,hb2⟩;dsimp only at e hb2;subst e;refine aR (λhb3=>?_) λhbf=>?_
 .dsimp only;rw[At];refine au (hB s N out (hb2.1 hb3) (i4 (by rcases hb2.1 hb3 with h|h;exact .inr (.inl h);exact .inr (.inr (.inl h)))) i6 i7 i8 i9 hN.el I hs1 hso1 hb) λy D=>bO (by simp) (aj (fin _ _ _ D (by omega) rfl))
 have har:∀(a b c:Int),4<=s.op->GO nT (a,c,0,0,0,0)->GO nT (b,c,0,0,0,0)->¬a=5/\¬a=10->¬b=5/\¬b=10->Ok (ra ((s,a,b,c),N,out)) λy=>QG nT ss t (ME (d+1)) (1+oJ d s.body+oJ d s.els) g out y:=λa b c h4 ga gb na nb=>(hA s a b c N out i6 i8 ga gb na nb I hs1 (hso1.sub (c6 _) (by omega)) hb).mono λy D=>fin _ _ _ D (by omega) (by rw[hN.el (by omega)];rfl)
 have hput:∀{op:Int} {r:υ},9<=s.op->GO nT (op,r)->¬op=5/\¬op=10->Ok (cN ((op,r),N,out)) (QG nT ss t (ME (d+1)) (1+oJ d s.body+oJ d s.els) g out):=λh9 hi h5=>(zA (by omega) I hs1 hi h5).mono λy D=>fin0 (.inr h9) _ _ D (by omega)
 have hlk:∀n:ζ,Ok (mf (N.2.1,n)) λr=>(n=[109]->r=0)/\(n=[110]->r=1)/\(n=[114]->r=2):=λn=>(Qw N.2.1 n (by rw[I.l];decide)).mono λr h=>aoz (by rw[I.l]at h;exact h)
 have hcond:∀(n:ζ),Ok (kq (n,N,out)) λy=>y.2=(N,out)/\(n=[99]->y.1=0):=λn=>aia n N out I
 have hth:Ok (ki (N.2.2.2.2.1,s.name)) λr=>s.op=12\/s.op=13->0<=r/\r<(nT:Int):=(AU N.2.2.2.2.1 s.name (by rw[I.t,bl];have q4:yV.length=4:=rfl;omega)).mono λr hr A=>by
  have hn:=hN.sp A;have hl:l! (yV.take nT)<=nT:=J9 ..;let⟨_,h2,_,h4⟩:=hr;rw[I.t]at h2 h4;exact⟨gG.1 λh=>h4 h hn,by omega⟩
 have hft:∀n:ζ,Ok (ki (N.2.2.2.1,n)) λr=>n=[102]->r=0:=λn=>(AU N.2.2.2.1 n (by rw[I.f];decide)).mono λr hr hn=>by
  let⟨h1,h2,_,h4⟩:=hr;rw[I.f]at h2 h4;have h2:r<1:=h2;have:¬r<0:=λh=>h4 h (by rw[hn];decide)
  omega
 dsimp only;rw[At];have gor:∀{a c:Int},1<=a->a<=27->jU (a,c,0,0,0,0)=[]->OB nT (a,c,0,0,0,0)->GO nT (a,c,0,0,0,0):=λh1 h2 h3 h4=>⟨h1,h2,by rw[h3];exact λj hj=>(by cases hj),h4⟩
 refine aG (λA=>au (hlk _) λv hv=>au (har _ _ _ (by have A:s.op=4:=A;omega) (gor (by decide) (by decide) rfl ?_) (gor (by decide) (by decide) rfl ?_) (by decide) (by decide)) λy D=>bO (by simp) (aj D)) λ_=>?_
 .exact (hN.lk A).imp hv.1 hv.2.1
 .exact (hN.lk A).imp hv.1 hv.2.1
 refine aG (λA=>au (hlk _) λv hv=>au (har _ _ _ (by have A:s.op=5:=A;omega) (gor (by decide) (by decide) rfl ?_) (gor (by decide) (by decide) rfl ?_) (by decide) (by decide)) λy D=>bO (by simp) (aj D)) λ_=>?_
 .exact hv.2.2 (hN.rw (.inl A))
 .exact hv.2.2 (hN.rw (.inl A))
 refine aG (λA=>au (hlk _) λv hv=>au (har _ _ _ (by have A:s.op=6:=A;omega) (gor (by decide) (by decide) rfl ?_) (gor (by decide) (by decide) rfl ?_) (by decide) (by decide)) λy D=>bO (by simp) (aj D)) λ_=>?_
 .exact hv.2.2 (hN.rw (.inr A))
 .exact hv.2.2 (hN.rw (.inr A))
 refine aG (λA=>au (har _ _ _ (by have A:s.op=7:=A;omega) (gor (by decide) (by decide) rfl ⟨(by decide:¬(17:Int)=3),nofun⟩) (gor (by decide) (by decide) rfl ⟨(by decide:¬(18:Int)=3),nofun⟩) (by decide) (by decide)) λy D=>bO (by simp) (aj D)) λ_=>?_
 refine aG (λA=>au (har _ _ _ (by have A:s.op=8:=A;omega) (gor (by decide) (by decide) rfl ⟨(by decide:¬(19:Int)=3),nofun⟩) (gor (by decide) (by decide) rfl ⟨(by decide:¬(20:Int)=3),nofun⟩) (by decide) (by decide)) λy D=>bO (by simp) (aj D)) λ_=>?_
 refine aG (λA=>au (hcond _) λy D=>?_) λ_=>?_
 .obtain⟨v,y2⟩:=y;let⟨y3,y4⟩:=D;dsimp only at y3;subst y3;exact bO (by simp) (au (hput (by have A:s.op=9:=A;omega) (gor (by decide) (by decide) rfl (y4 (hN.cn (.inl A)))) (by decide)) λy D=>bO (by simp) (aj D))
 refine aG (λA=>au (hcond _) λy D=>?_) λ_=>?_
 .obtain⟨v,y2⟩:=y;let⟨y3,y4⟩:=D;dsimp only at y3;subst y3;exact bO (by simp) (au (hput (by have A:s.op=10:=A;omega) (gor (by decide) (by decide) rfl (y4 (hN.cn (.inr (.inl A))))) (by decide)) λy D=>bO (by simp) (aj D))
 refine aG (λA=>au (hcond _) λy D=>?_) λ_=>?_
 .obtain⟨v,y2⟩:=y;let⟨y3,y4⟩:=D;dsimp only at y3;subst y3;exact bO (by simp) (au (hput (by have A:s.op=11:=A;omega) (gor (by decide) (by decide) rfl (y4 (hN.cn (.inr (.inr A))))) (by decide)) λy D=>bO (by simp) (aj D))
 refine aG (λA=>au hth λv hv=>au (hput (by have A:s.op=12:=A;omega) (gor (by decide) (by decide) rfl (hv (.inl A))) (by decide)) λy D=>bO (by simp) (aj D)) λ_=>?_
 refine aG (λA=>au hth λv hv=>au (hput (by have A:s.op=13:=A;omega) (gor (by decide) (by decide) rfl (hv (.inr A))) (by decide)) λy D=>bO (by simp) (aj D)) λ_=>?_
 refine aG (λA=>?_) λn14=>?_
 .have hex:GE 4 (eJ (Xp.op s.expr,Xp.n s.expr,Xp.name s.expr,Xp.l s.expr)):=by rw[fV];exact i4 (.inr (.inr (.inr A)))
  refine au (Fd _ _ N out hex I hs1 (by rw[hg.len];decide) (by rw[hg.len];decide) (by omega)) λy D=>?_
  let⟨g2,o2⟩:=y;let⟨q1,q2⟩:=D;dsimp only at q1 q2;subst q1;have q3:=q2.u;refine bO (by simp) (au (hft _) λv hv=>?_);refine au (zA (by omega) I hs1 (goI (by decide) (by decide) (by simp[jU,hg.h,L0]) (hv (hN.se A))) (by decide)) λy D=>bO (by simp) (aj (fin0 (.inr (by have A:s.op=14:=A;omega)) 16 _ ⟨D.1,q2.trans D.2 (bi _)⟩ (by omega)))
 refine aG (λA=>?_) λn15=>?_
 .refine au (AU _ _ (by rw[I.h];decide)) λv hv=>au (hft _) λv2 hv2=>?_
  have hge:=hN.ge A;have hl:(0:Int)<=v/\v<2:=by
   let⟨_,h2,_,h4⟩:=hv;rw[I.h]at h2 h4;exact⟨gG.1 λh=>h4 h (by rw[hge.1];decide),h2⟩
  exact au (hput (by have A:s.op=15:=A;omega) (goI (by decide) (by decide) (by simp[jU];omega) (hv2 hge.2)) (by decide)) λy D=>bO (by simp) (aj D)
 .exfalso;have h1:=hN.o0;have h2:=hN.o1;have h3:¬(s.op=2\/s.op=3):=λh=>by have hbf:b=aa:=hbf;rw[hb2.2 h]at hbf;cases hbf
  omega
end
section
variable {nT:Nat} {ss:Y π} {t:Int}
def ab4:∀(n:Nat),(∀d:Nat,3*d<n->SpG nT ss t (fc n) d)/\(∀d:Nat,3*d+1<n->ajn nT ss t (dT n) d)/\(∀d:Nat,3*d+2<n->as0 nT ss t (dl n) d)/\(∀d:Nat,3*d+2<n->as1 nT ss t (dM n) d)
 |0=>⟨λd h=>by omega,λd h=>by omega,λd h=>by omega,λd h=>by omega⟩
 |n+1=>by
  let⟨D,q,I,hA⟩:=ab4 n;refine ⟨λd h=>?_,λd h=>?_,λd h=>?_,λd h=>?_⟩
  .cases d with
   |zero=>exact λs g out A=>A.elim
   |succ d=>exact ade (dT n) (fc n) (dl n) (dM n) d (I d (by omega)) (hA d (by omega))
  .exact YL (dT n) (fc n) (dl n) (dM n) d (D d (by omega))
  .exact Pf (dT n) (fc n) (dl n) (dM n) d (q d (by omega))
  .exact VG (dT n) (fc n) (dl n) (dM n) d (q d (by omega))
def S5 (d:Nat) (hd:d<=100):ajn nT ss t vK d:=(ab4 fZ).2.1 d (by rw[kl];omega)
structure SL (t k:Int) (m:Nat) (S:List π):Prop where
 l:l! S=m
 v:∀i:Nat,i<m->(aw pS S (i:Int)).1=t/\(aw pS S (i:Int)).2.1=k+i
def MI {l m:Y T.den} (h:i<l! l):aw _ (l++m) (i:Int)=aw _ l (i:Int):=by
 rw[xC,xC,aA,aA,cU h]
def MH {l m:Y T.den} (h:l! l<=i):aw _ (l++m) (i:Int)=aw _ m ((i-l! l:Nat):Int):=by
 rw[xC,xC,aA,aA,cB h]
def SL.nil (t k:Int):SL t k 0 []:=⟨rfl,λi h=>by omega⟩
def SL.one (t k z:Int):SL t k 1 [(t,k,z)]:=⟨rfl,λi h=>by rw[show i=0 by omega];exact⟨rfl,by show k=k+((0:Nat):Int);omega⟩⟩
def SL.app {q:Int} {k:Nat} {S S':Y π} (h:SL t a k S) (h':SL t q i S') (D:q=a+k):SL t a (k+i) (S++S'):=by
 let⟨h1,h2⟩:=h;let⟨h3,h4⟩:=h';refine ⟨by rw[aF];omega,λb hi=>?_⟩;by_cases A:b<l! S
 .rw[MI (T:=pS) A];exact h2 b (by omega)
 .rw[MH (T:=pS) (by omega)]
  grind
def H8:∀(n d:Nat),d<n->∀(t k:Int) (l:Y Sx) (out:Y π),l! l<=100->(∀s∈l,GT d s)->0<=k->k+oJ d l<=100000000->l! out+oJ d l<=100000000->Ok (qS n ((t,k,l),out)) λy=>y.1=k+oJ d l/\∃S,y.2=out++S/\SL t k (oJ d l) S
 |0,_,h,_,_,_,_,_,_,_,_,_=>by omega
 |n+1,d,hn,t,k,l,out,hl,hs,k0,hkb,hb=>by
  rw[Kv];unfold zS bV AY bX be c7 aI cL;refine bC (l! l) (λi x=>x.1.2=(i:Int)/\x.1.1=k+oJ d (l.take i)/\∃S,x.2=out++S/\SL t k (oJ d (l.take i)) S) ?_ ?_ ⟨rfl,by simp[oJ],[],by simp,by simp[oJ];exact SL.nil t k⟩
  .rintro i ⟨⟨a,b⟩,o⟩ hi ⟨e1,e2,S,e3,e4⟩;subst e1 e2 e3;have hp:=Tx (d:=d) l (i+1);rw[yt hi]at hp;rw[yt hi];refine cE ?_;have hin:((i:Nat):Int)<(l! l:Int):=by omega
   have hm:=hs _ (ba (T:=.sm) (xs:=l) (j:=(i:Int)) (by omega) (by omega));have hSl:=e4.l;cases d with
   |zero=>exact hm.elim
   |succ d=>
    let⟨_,_,_,g4,g5,g6,g7⟩:=hm;have hc:Ue (d+1) (aw (.sm) l (i:Int))=1+oJ d (Sx.body (aw (.sm) l (i:Int)))+oJ d (Sx.els (aw (.sm) l (i:Int))):=rfl;rw[hc]at hp ⊢;dsimp only;refine aQ (by omega) hin (aS (bu (by grind) (by omega) (aQ (by omega) hin (aS ?_))));rw[fh (n:=k+(oJ (d+1) (l.take i):Nat)+1) (by omega) (by omega)];refine au (H8 n d (by omega) _ _ _ _ (by omega) g6 (by omega) (by omega) (by grind)) λy q=>bO (by simp) ?_
    let⟨a2,o2⟩:=y;let⟨y1,S2,y2,A⟩:=q;subst y1 y2;have hSl2:=A.l;refine aQ (by omega) hin (aS ?_);refine au (H8 n d (by omega) _ _ _ _ (by omega) g7 (by omega) (by omega) (by grind)) λy q=>bO (by simp) (aj ?_)
    let⟨a3,o3⟩:=y;let⟨N,S3,I,D⟩:=q;subst N I;refine ⟨fH,by dsimp only;omega,S++([_]++(S2++S3)),by simp[bm];rfl,?_⟩;refine e4.app ?_ rfl;rw[qW];exact (SL.one t _ _).app (A.app D rfl) (by simp)
  .rintro⟨⟨a,b⟩,o⟩ ⟨e1,e2,e3⟩;subst e1 e2;rw[cH]at e3 ⊢;exact cz (aj ⟨rfl,e3⟩)
def Z0 {A D k:Int} {l S:Y π} (h:RN a l=Z (A,D)) (I:SL t k m S) (hk:(A=t/\D=k)\/(A<t/\t<a/\k=0)):∀i:Nat,i<=m->RN a (l++S.take i)=Z (if i=0 then (A,D) else (t,k+i))
 |0,_=>by grind
 |i+1,hi=>by
  have N:=Z0 h I hk i (by omega);rw[kA (T:=pS) (xs:=S) (i:=i) (by rw[I.l];omega),<-bm,aks,N];let⟨v1,v2⟩:=I.v i (by omega);by_cases q:i=0
  .subst q;unfold ZZ
   grind
  .rw[ay q];unfold ZZ
   grind
end
abbrev CE6:Type:=ζ×o!
abbrev W4T:Type:=Y CE6×Y (ζ×Bool)×Y (ζ×Int)×Y ζ
def ceD (z:DT):Y CE6:=(mI (aN (FW z.2.2.2.1 1))).map λ(k:Nat)=>(z.2.2.1,(k:Int),z.2.2.2.1,decide (z.1=2),z.2.2.2.2.1)
def adD (y:W4T) (z:DT):W4T:=
 if z.1=1\/z.1=2 then (y.1++ceD z,y.2) else if z.1=3\/z.1=4 then (y.1,y.2.1++[(z.2.2.1,decide (z.1=4))],y.2.2) else if z.1=5 then (y.1,y.2.1,y.2.2.1++[(z.2.2.1,0)],y.2.2.2) else (y.1,y.2.1,y.2.2.1,y.2.2.2++[z.2.2.1])
def W4 (i:Nat):W4T:=(D0.take i).foldl adD ([],[],[],[])
def W4_9:W4 9=(C0,E6,Rw,XP):=rfl
def W4_s (hi:i<9):W4 (i+1)=adD (W4 i) (aw J3 D0 (i:Int)):=by
 unfold W4;rw[kA (T:=J3) (xs:=D0) hi,dD];rfl
def D0_c:∀i:Nat,i<9->(aw J3 D0 (i:Int)).1=5->i=7:=by decide
def av3:∀i:Nat,i<9->(W4 i).1.length<=5/\(W4 i).2.1.length<=3/\(W4 i).2.2.1.length<=1/\(W4 i).2.2.2.length<=1/\FW (aw J3 D0 (i:Int)).2.2.2.1 1<=2/\1<=FW (aw J3 D0 (i:Int)).2.2.2.1 1:=by decide
def bsN (p:PG) (i:Nat):Nat:=((p.2.take i).map λt=>oJ 5 t.2.2.2).sum
def boN (p:PG) (i:Nat):Nat:=oJ 5 (aw uL p.2 (i:Int)).2.2.2
def ap7 {p:PG} (hi:i<l! p.2):bsN p (i+1)=bsN p i+boN p i:=by
 unfold bsN boN;rw[kA (T:=uL) hi,b7,IH];simp
def Zv {p:PG} (i:Nat) (h:(p.2.map λt=>oJ 5 t.2.2.2).sum<=60):bsN p i<=60:=by
 refine cP ?_ h
 conv=>rhs;rw[<- oK i p.2]
 unfold bsN;rw[b7,IH];omega
structure SW (p:PG) (i:Nat) (S:List π):Prop where
 l:l! S=bsN p i
 f:∃a b,RN (l! p.2) S=Z (a,b)/\(a<i\/a=0/\b=0)
 s:∀j:Nat,j<i->SR S (j:Int) (bsN p j:Nat) (boN p j)
structure WW (p:PG) (w:WT):Prop where
 x:WX w
 t:w.2.2.2.2.1=yV.take (l! p.2)
 s:∀j:Nat,j<l! p.2->SR w.2.2.2.2.2 (j:Int) (bsN p j:Nat) (boN p j)
def SO.app {S S':Y π} {t:Int} (h:SO S t a):SO (S++S') t a:=by
 let⟨h0,h1,h2⟩:=h;obtain⟨a,rfl⟩:∃n:Nat,a=(n:Int):=⟨a.toNat,by omega⟩
 exact⟨h0,by rw[aF];omega,by rw[MI (T:=pS) (by omega)];exact h2⟩
def ZG (p:PG) (hp:PJ p) (r:ν) (hr:gg p=Z r) (h0:r.1=0) (hc:(p.2.map λt=>oJ 5 t.2.2.2).sum<=60):Ok (vL p) (WW p):=by
 have hpt:=hp.t;unfold vL bg bA bQ cS ji bY dt dv gz tb bq bV gV bX bI be c7 aI cL;refine aU hr (bw (λh=>(h h0).elim) λ_=>?_);have hD:p.1=D0:=hp.d;have hlen:l! p.1=9:=by rw[hD];rfl
 refine bC 9 (λi x=>x.1=(i:Int)/\x.2.1=p/\x.2.2=W4 i) ?_ ?_ ⟨rfl,rfl,rfl⟩
 .rintro i ⟨a,p',y⟩ hi ⟨e1,e2,e3⟩;dsimp only at e1 e2 e3;subst e1;have e2:=e2.symm;subst e2;let⟨b1,b2,b3,b4,b5,b6⟩:=av3 i hi;rw[<- e3]at b1 b2 b3 b4;have hW:=W4_s hi;rw[<- e3]at hW;have hcd:=D0_c i hi;have hlk:i=7->y.2.1=E6/\(aw J3 D0 (i:Int)).2.2.2.2.2=[109]:=λh=>by subst h;rw[e3];exact⟨rfl,rfl⟩
  refine cE ?_;refine bK (aS ?_);dsimp only;rw[hD];revert hW hcd hlk b5 b6;generalize (aw J3 D0 (i:Int))=z;intro b5 b6 hW hcd hlk;refine aW (λx=>x=(p,W4 (i+1))) ?_ ?_
  .rw[hW];unfold adD;refine aW (λx=>x.2=(p,z,y)/\(x.1=J↔(z.1=1\/z.1=2))) ?_ ?_
   .exact aG (λh=>aj ⟨rfl,λ_=>.inl h,λ_=>aO h⟩) λh=>aj ⟨rfl,λh2=>.inr (aZ h2),λh2=>aO (h2.resolve_left h)⟩
   rintro⟨b,x⟩ ⟨e,hb⟩;dsimp only at e hb;subst e;refine aR (λA=>?_) λA=>?_
   .rw[aK (hb.1 A)];unfold ceD;obtain⟨m,hm⟩:∃m:Nat,FW z.2.2.2.1 1=(m:Int):=⟨(FW z.2.2.2.1 1).toNat,by omega⟩
    rw[hm,kL];refine bC m (λk x=>x=((k:Int),p,z,y.1++(mI k).map (λ(k:Nat)=>(z.2.2.1,(k:Int),z.2.2.2.1,decide (z.1=2),z.2.2.2.2.1)),y.2)) ?_ ?_ (by simp)
    .rintro k x hk rfl;refine bG (λ_=>?_) λg=>(by dsimp only at g;rw[hm]at g;omega)
     refine a! (aj ?_);dsimp only;rw[fH,List.range_succ,b7,<-bm];rfl
    .rintro x rfl;exact bG (λg=>(by dsimp only at g;rw[hm]at g;omega)) λ_=>aj rfl
   rw[ay λh=>by have A:b=aa:=A;rw[hb.2 h]at A;cases A];refine aW (λx=>x.2=(p,z,y)/\(x.1=J↔(z.1=3\/z.1=4))) ?_ ?_
   .exact aG (λh=>aj ⟨rfl,λ_=>.inl h,λ_=>aO h⟩) λh=>aj ⟨rfl,λh2=>.inr (aZ h2),λh2=>aO (h2.resolve_left h)⟩
   rintro⟨c,x⟩ ⟨e,N⟩;dsimp only at e N;subst e;refine aR (λh=>?_) λh=>?_
   .rw[aK (N.1 h)];exact a! (aj rfl)
   rw[ay λh2=>by have h:c=aa:=h;rw[N.2 h2]at h;cases h];refine aG (λh5=>?_) λh5=>?_
   .obtain⟨l1,l2⟩:=hlk (hcd h5);rw[aK h5];refine au (Qw _ _ (by dsimp only;rw[l1];decide)) λv hv=>?_
    have hv:=(aoz (by dsimp only at hv;rw[l1]at hv;exact hv)).1 l2;subst hv;exact a! (aj rfl)
   .rw[ay h5];exact a! (aj rfl)
  rintro x rfl;exact aj ⟨fH,rfl,rfl⟩
 .rintro⟨a,p',y⟩ ⟨e1,e2,j⟩;dsimp only at e1 e2 j;subst e1;have e2:=e2.symm;subst e2;rw[W4_9]at j;subst j;refine cz ?_;refine au (P:=WW p) ?_ λr hr=>aj hr
  refine bC (l! p.2) (λi x=>x.1=(i:Int)/\x.2.1=p/\x.2.2.1=C0/\x.2.2.2.1=E6/\x.2.2.2.2.1=Rw/\x.2.2.2.2.2.1=XP/\x.2.2.2.2.2.2.1=yV.take i/\SW p i x.2.2.2.2.2.2.2) ?_ ?_ ⟨rfl,rfl,rfl,rfl,rfl,rfl,rfl,rfl,⟨0,0,rfl,.inr ⟨rfl,rfl⟩⟩,λj hj=>by omega⟩
  .rintro i ⟨a,p2,c2,l2,d2,f2,t2,s2⟩ hi ⟨e1,e2,e3,e4,e5,e6,e7,I,⟨fa,fb,f8,f9⟩,D⟩;dsimp only at e1 e2 e3 e4 e5 e6 e7 I f8 D;subst e1;have e2:=e2.symm;subst e2;have hb8:=Zv (i+1) hc;have hbs:=ap7 hi;refine cE ?_;have hin:((i:Nat):Int)<(l! p.2:Int):=by omega
   have hm:=hp.m _ (ba (T:=uL) (xs:=p.2) (j:=(i:Int)) (by omega) hin);have hnm:(aw uL p.2 (i:Int)).1=aw (.str) yV (i:Int):=by
    have h1:=kA (T:=uL) hi;have h2:=gW (List.map Prod.fst) h1;rw[b7,nR,nR,hp.n,su,su,Nat.min_eq_left (by omega),Nat.min_eq_left (by omega),kA (T:=.str) (xs:=yV) (i:=i) (by have q4:yV.length=4:=rfl;omega)]at h2;exact ((E8 (List.append_cancel_left h2)).1).symm
   have htl:l! t2=i:=by rw[e7,bl];have q4:yV.length=4:=rfl;omega
   dsimp only;refine aQ (by omega) hin (aS (a! (aQ (by omega) hin (aS ?_))));refine au (H8 fZ 5 (by rw[kl];omega) _ _ _ s2 (by have:=hm.b;omega) (λs hs=>((hm.s s hs).le (by omega:3<=5)).t) (c6 _) ?_ ?_) λy hy=>bO (by simp) (aj ?_)
   .show (0:Int)+(boN p i:Nat)<=_;omega
   .show (l! s2)+boN p i<=_;omega
   let⟨_,S,h2,h3⟩:=hy;have h3:SL (i:Int) 0 (boN p i) S:=h3;refine ⟨fH,rfl,e3,e4,e5,e6,?_,?_⟩
   .dsimp only;rw[e7,hnm,<-kA (T:=.str) (xs:=yV) (i:=i) (by have q4:yV.length=4:=rfl;omega)]
   .dsimp only;rw[h2];refine ⟨by rw[aF,h3.l,I,hbs],?_,λj hj=>?_⟩
    .have hr:=Z0 f8 h3 (by rcases f9 with h|⟨h,h'⟩;exact .inr ⟨h,by omega,rfl⟩;rcases Nat.eq_zero_or_pos i with hi0|hi0;exact .inl ⟨by omega,h'⟩;exact .inr ⟨by omega,by omega,rfl⟩) (boN p i) (bi _);rw[<- h3.l,cH]at hr;rw[hr];split
     .exact⟨_,_,rfl,f9.imp (λh=>by omega) id⟩
     .exact⟨_,_,rfl,.inl (by omega)⟩
    .rcases bF j i with h1|h1
     .obtain⟨g1,g2,g3⟩:=D j h1;exact⟨g1,g2,λq q1 q2=>(g3 q q1 q2).app⟩
     .have hj:j=i:=by omega
      subst hj;refine ⟨by omega,by omega,λq q1 q2=>?_⟩;obtain⟨q,rfl⟩:∃n:Nat,q=(n:Int):=⟨q.toNat,by omega⟩
      refine ⟨by omega,by rw[aF,h3.l];omega,?_⟩;rw[MH (T:=pS) (by omega)];exact (h3.v _ (by omega)).1
  .rintro⟨a,p2,c2,l2,d2,f2,t2,s2⟩ ⟨e1,e2,e3,e4,e5,e6,e7,I,⟨fa,fb,f8,f9⟩,D⟩;dsimp only at e1 e2 e3 e4 e5 e6 e7 I f8 D;subst e1;have e2:=e2.symm;subst e2 e3 e4 e5 e6 e7;refine cz (aj ?_);have hb8:=Zv (l! p.2) hc;refine ⟨⟨rfl,rfl,rfl,rfl,⟨l! p.2,hp.t0,hp.t,rfl⟩,by dsimp only;omega,?_⟩,rfl,D⟩;unfold SV0;have hTl:l! (yV.take (l! p.2))=l! p.2:=by rw[bl];have q4:yV.length=4:=rfl;omega
   dsimp only;rw[hTl,f8];simp
def NM9:Y ζ:=[[120],[121],[118],[113],[109],[110],[114],[99],[102]]
set_option maxHeartbeats 20000000 in
def agi (t:Y ζ) (ht:l! t<=4) (s:Y π):qM (C0,E6,Rw,XP,t,s)=Z (NM9++t,J):=by
 refine bT ?_;unfold qM bg bA bQ cS dt tb bq bV gV bX bI be c7 aI cL;with_reducible repeat' first|exact aj rfl|refine aa8 ?_|refine aa7 ?_|refine aa6 ?_|refine aa4 ?_|refine al9 ?_|refine aS ?_|refine mL rfl ?_|refine fJ rfl ?_|refine bO rfl ?_|refine aa5 ?_|refine UP ?_|refine UO ?_
 refine bu (by show 9+l! t<=1073741824;omega) (by decide) ?_;with_reducible repeat' first|exact aj rfl|refine aa8 ?_|refine aa7 ?_|refine aa6 ?_|refine aa4 ?_|refine al9 ?_|refine aS ?_|refine mL rfl ?_|refine fJ rfl ?_|refine bO rfl ?_|refine aa5 ?_|refine UP ?_|refine UO ?_
def XH:∀x∈NM9++yV,Ok (fS x) λb=>b=J:=by
 intro x q;simp only[NM9,yV,ft,kR,bk,cI,gH]at q;rcases q with rfl|rfl|rfl|rfl|rfl|rfl|rfl|rfl|rfl|rfl|rfl|rfl|rfl;all_goals with_reducible repeat' first|exact aj rfl|refine aa8 ?_|refine aa7 ?_|refine aa6 ?_|refine aa4 ?_|refine UO ?_|refine al9 ?_|refine aS ?_|refine mL rfl ?_|refine fJ rfl ?_|refine bO rfl ?_|refine aa5 ?_|refine UP ?_|refine dj (fS.eq_1 ..) ?_|refine dj (lT.eq_1 ..) ?_|refine dj (ly.eq_1 ..) ?_|refine dj (mg.eq_1 ..) ?_|refine dj (qQ.eq_1 ..) ?_|refine dj (sU.eq_1 ..) ?_
def GT.up:∀{d:Nat} {s:Sx},GT d s->GT (d+1) s
 |0,_,h=>h.elim
 |_+1,_,⟨a,b,c,e,f,g,i⟩=>⟨a,b,c,e,f,λx q=>GT.up (g x q),λx q=>GT.up (i x q)⟩
def arf {l:Y Sx} (h:∀s∈l,GT 3 s):oJ 5 l=oJ 3 l:=by
 unfold oJ;rw[List.map_congr_left λx q=>(Tw (GT.up (h x q))).trans (Tw (h x q))]
def as4:∀i:Nat,i<13->∀r:Nat,r<i->aw (.str) (NM9++yV) (r:Int)≠aw (.str) (NM9++yV) (i:Int):=by decide
def Ed {b:Int} {t f:M R} {Q:R->Prop} (h:b<=a) (hf:Ok f Q):Ok (aJ (gM a b) t f) Q:=fJ (g8.2 h) hf
def KQ {w:WT} (hx:WX w):jZ w=Z J:=by
 let⟨w1,w2,w3,w4,q,A⟩:=w;let⟨hc,hl,hd,hf,⟨n,n1,n4,ht⟩,hs,hv⟩:=hx;dsimp only at hc hl hd hf ht hs;subst hc hl hd hf;have hT:l! q=n:=by rw[ht,bl];have q4:yV.length=4:=rfl;omega
 have hv:RN (l! q) A≠U:=hv;refine bT ?_;unfold jZ bg bA bQ cS dv gz bq bV jr gV bX bI be c7 aI cL;refine aW (λx=>x=(aa,C0,E6,Rw,XP,q,A)) ?_ ?_
 .refine Ed (show (5:Int)<=12 by decide) (Ed (show (3:Int)<=4 by decide) (Ed (show (1:Int)<=2 by decide) (Ed (show (1:Int)<=2 by decide) (Ed (show (1:Int)<=(l! q:Int) by omega) (Ed (show (l! q:Int)<=4 by omega) (aj ?_))))));dsimp only[al];rw[g8.2 (show (l! A:Int)<=60 by omega)]
 rintro x rfl;refine iM (aU (agi q (by omega) A) (fJ rfl ?_));have hN:NM9++q=(NM9++yV).take (9+n):=by rw[ht];rcases (by omega:n=1\/n=2\/n=3\/n=4) with rfl|rfl|rfl|rfl<;>rfl
 have hNl:l! (NM9++q)=9+n:=by rw[aF,hT];rfl
 have hNg:∀i:Nat,i<9+n->aw (.str) (NM9++q) (i:Int)=aw (.str) (NM9++yV) (i:Int):=λi hi=>by
  rw[hN,xC,xC,aA,aA,yU hi]
 refine bC (9+n) (λi x=>x=((i:Int),C0,E6,Rw,XP,q,A)) ?_ ?_ rfl
 .rintro i x hi rfl;refine bG (λ_=>?_) λg=>(by dsimp only[al]at g;rw[hNl]at g;omega)
  refine aW (λx=>x=(aa,C0,E6,Rw,XP,q,A)) ?_ ?_
  .refine aQ (by dsimp only;omega) (by dsimp only;rw[hNl];omega) (aS ?_);have hmem:aw (.str) (NM9++q) (i:Int)∈NM9++yV:=by rw[hNg i hi];exact ba (T:=.str) (by omega) (by have:l! (NM9++yV)=13:=rfl;omega)
   refine au (XH _ hmem) λb hb=>?_
   refine fJ (by rw[hb];rfl) (bZ (a? (cK (by dsimp only;rw[hNl];omega) ?_)));refine aQ (by dsimp only;omega) (by dsimp only;rw[hNl];omega) (aS ?_);refine au (AU _ _ (by dsimp only;rw[bl,hNl];omega)) λr hr=>aj ?_
   let⟨_,h2,h3,_⟩:=hr;dsimp only at h2 h3;rw[bl,hNl]at h2;have hr0:¬0<=r:=λh0=>by
    have h3:=h3 h0;obtain⟨r,rfl⟩:∃m:Nat,r=(m:Int):=⟨r.toNat,by omega⟩
    rw[xC,aA,yU (by omega),<-aA,<-xC (T:=.str),hNg r (by omega),hNg i hi]at h3;exact as4 i (by omega) r (by omega) h3
   rw[gq.2 (by omega)]
  .rintro x rfl;exact iM (aj (by dsimp only;rw[fH]))
 rintro x rfl;refine bG (λg=>(by dsimp only[al]at g;rw[hNl]at g;omega)) λ_=>?_
 refine au (P:=λb=>b=J) ?_ λy hy=>aj hy
 refine bC 1 (λi x=>x=((i:Int),C0,E6,Rw,XP,q,A)) ?_ ?_ rfl
 .rintro i x hi rfl;have hi0:i=0:=by omega
  subst hi0;refine mL rfl (bO rfl (aS (aW (λx=>x=(aa,C0,E6,Rw,XP,q,A)) ?_ ?_)))
  .exact fJ rfl (fJ rfl (bO rfl (aS (aj rfl))))
  .rintro x rfl;exact iM (aj (by dsimp only;rw[fH]))
 rintro x rfl;refine bG (λg=>(by have g:(1:Int)<1:=g;omega)) λ_=>?_
 refine au (P:=λb=>b=J) ?_ λy hy=>aj hy
 refine bC (l! A) (λi x=>x=((i:Int),C0,E6,Rw,XP,q,A)/\∃t k:Int,RN (l! q) (A.take i)=Z (t,k)/\0<=t/\t<(l! q:Int)/\(i=0->t=0/\k=0)/\(¬i=0->(aw pS A ((i-1:Nat):Int)).1=t/\(aw pS A ((i-1:Nat):Int)).2.1+1=k/\0<k/\k<=i)) ?_ ?_ ⟨rfl,0,0,rfl,by omega,by omega,λ_=>⟨rfl,rfl⟩,λh=>(h rfl).elim⟩
 .rintro i x hi ⟨rfl,t,k,hF,t0,tT,hz,hp⟩;have hw:¬(i:Int)=0->aT .i64 ((i:Int)-1)=((i-1:Nat):Int):=λh=>by rw[fh];omega
  have hnx:=LD (T:=l! q) hi;have hne:=Z1 hv (i+1);rw[hnx,hF]at hne;let⟨hs1,D⟩:=aft hne;rw[hF,hs1]at hnx;refine cE ?_;refine aW (λx=>x=(C0,E6,Rw,XP,q,A)) ?_ ?_
  .refine bK (aS ?_);revert D;generalize (aw pS A (i:Int))=z;obtain⟨(I:Int),(z2:Int),z3⟩:=z;intro D;dsimp only at D;refine aW (λx=>x=(aa,(C0,E6,Rw,XP,q,A),I,z2,z3)) ?_ ?_
   .refine Ed (show (0:Int)<=I by omega) (aj ?_);dsimp only[al];rw[gq.2 (show I<(l! q:Int) by omega)]
   rintro x rfl;refine iM (aW (λx=>x.2=((C0,E6,Rw,XP,q,A),I,z2,z3)/\(x.1=J->i=0\/¬t=I)/\(x.1=aa->¬i=0/\t=I)) ?_ ?_)
   .refine aG (λh=>aj ⟨rfl,λ_=>.inl (by have h:((i:Nat):Int)=0:=h;omega),nofun⟩) λh=>?_
    have h:¬((i:Nat):Int)=0:=h;dsimp only;rw[hw h];have hq:=(hp (by omega)).1;exact aQ (by omega) (by first|omega|(dsimp only;omega)) (aS (aj ⟨rfl,λh2=>.inr (by rw[<- hq];simpa using h2),λh2=>⟨by omega,by rw[<- hq];simpa using h2⟩⟩))
   rintro⟨c,x⟩ ⟨e,N,hc⟩;dsimp only at e N hc;subst e;refine aR (λhct=>?_) λhcf=>?_
   .have hz2:z2=0:=by
     rcases N hct with h|h
     .have:=hz h;omega
     .omega
    refine aW (λx=>x=(aa,C0,E6,Rw,XP,q,A)) ?_ ?_
    .refine bw (λh=>(h hz2).elim) λ_=>bG (λh=>?_) λ_=>aj rfl
     have h:(0:Int)<((i:Nat):Int):=h;dsimp only;rw[hw (by omega)];have hq:=(hp (by omega)).1;refine aQ (by omega) (by first|omega|(dsimp only;omega)) (aS (aj ?_));dsimp only;rw[hq,g8.2 (show t<=I by omega)]
    rintro x rfl;exact iM (aj rfl)
   .obtain⟨h1,h2⟩:=hc hcf;let⟨_,p2,p3,p4⟩:=hp h1;dsimp only;rw[hw (by omega)];refine aQ (by omega) (by first|omega|(dsimp only;omega)) (aS ?_);refine bw (λh=>(h ?_).elim) λ_=>aj rfl
    try dsimp only
    rw[p2,fh];omega
  .rintro x rfl;refine aj ⟨by dsimp only;rw[fH],_,_,hnx,?_⟩;revert D;rw[show i+1-1=i by omega];generalize (aw pS A (i:Int))=z;obtain⟨(I:Int),(z2:Int),z3⟩:=z;intro D;dsimp only at D ⊢;refine ⟨by omega,by omega,λh=>by omega,λ_=>⟨rfl,rfl,?_,?_⟩⟩
   .by_cases h0:i=0
    .have:=hz h0;omega
    .have:=hp h0;omega
   .by_cases h0:i=0
    .have:=hz h0;omega
    .have:=hp h0;omega
 .rintro x ⟨rfl,_⟩;exact cz (aj rfl)
def ZH {c:CT} (q:WX c.1) (A:l! c.2=l! c.1.2.2.2.2.1) (h:∀k:Nat,k<l! c.2->GC (l! c.2) c.1.2.2.2.2.2 (k:Int) (aw yP c.2 (k:Int))):kF c=Z J:=by
 let⟨w,l⟩:=c;have h4:l! l<=4:=by
  let⟨n,_,D,ht⟩:=q.t
  grind
 refine bT ?_;unfold kF bQ bV bI be c7 aI cL;refine aW (λx=>x=(aa,w,l)) ?_ ?_
 .refine aU (KQ q) (fJ rfl (aj ?_));rw[A];simp
 rintro x rfl;refine iM (bC (l! l) (λi x=>x=((i:Int),w,l)) ?_ ?_ rfl)
 .rintro i x hi rfl;refine cE ?_;refine bK (aS (aU (Hl q A.symm (h i hi)) (fJ rfl (aj ?_))));rw[fH]
 .rintro x rfl;exact cz (aj rfl)
def T4 (p:PG) (hp:PJ p) (hr4:∃r,gg p=Z r/\r.1=0):Ok (rI p) λy=>CB y.1:=by
 have hpt:=hp.t;let⟨r,hr,h0⟩:=hr4;let⟨r',hr',h60⟩:=Ha p hp.x;rw[hr]at hr';cases hr';have h60:=h60 h0;unfold rI bg bA bQ cS ji bY dv gz Rz bV gV bX bI mn be c7 aI cL;refine aU hr (bw (λh=>(h h0).elim) λ_=>?_);refine au (ZG p hp r hr h0 h60) λw hw=>?_
 have hwT:l! w.2.2.2.2.1=l! p.2:=by rw[hw.t,bl];have q4:yV.length=4:=rfl;omega
 refine bC (l! p.2) (λi x=>x.1.1=((bsN p i:Nat):Int)/\x.1.2=(i:Int)/\x.2.1=p/\x.2.2.1=w/\l! x.2.2.2=i/\∀j:Nat,j<i->GC (l! p.2) w.2.2.2.2.2 (j:Int) (aw yP x.2.2.2 (j:Int))) ?_ ?_ ⟨rfl,rfl,rfl,rfl,rfl,λj I=>by omega⟩
 .rintro i ⟨⟨a,b⟩,p2,w2,cs⟩ hi ⟨e0,e1,e2,e3,e4,e5⟩;dsimp only at e0 e1 e2 e3 e4 e5;subst e0 e1;have e2:=e2.symm;subst e2;have e3:=e3.symm;subst e3;have hin:((i:Nat):Int)<(l! p.2:Int):=by omega
  refine cE ?_;have hm:=hp.m _ (ba (T:=uL) (xs:=p.2) (j:=(i:Int)) (by omega) hin);have hsr:=hw.s i hi;have hbs:=ap7 hi;have hb1:=Zv (i+1) h60;have hbo:boN p i=oJ 3 (aw uL p.2 (i:Int)).2.2.2:=arf λs hs=>(hm.s s hs).t
  rw[hbo]at hsr hbs;dsimp only;refine aQ (by omega) hin (aS (aQ (by omega) hin (aS ?_)));revert hm hsr hbs;generalize (aw uL p.2 (i:Int))=t;intro hm hsr hbs;have N:ME 3=50+16*(50+16*50):=rfl;have hle:=cg (ME 3) hm.b;rw[N]at hle;have hll:l! t.2.2.1=2:=by rw[hm.l];rfl
  refine au (S5 (nT:=l! p.2) (ss:=w.2.2.2.2.2) (t:=(i:Int)) 3 (by omega) _ _ [] (by have:=hm.b;omega) hm.s ⟨hw.x.c,hw.x.l,hw.x.d,hw.x.f,hw.t,hm.l⟩ hsr (by rw[N,eS];omega)) λy hy=>bO (by simp) ?_
  let⟨g2,o2⟩:=y;let⟨q1,q2,q3⟩:=hy;dsimp only at q1 q2 q3;have q4:=q2.u;rw[N,eS]at q4;refine au (LI _ _ o2 (by omega)) λy hy=>bO (by simp) ?_
  let⟨g3,A⟩:=y;let⟨hg3,ho3⟩:=hy;dsimp only at hg3 ho3;have hL:aY (ah g3.2.2.2.2.2.2.1)=2:=by
   rw[hg3];show aY (ah g2.2.2.2.2.2.2.1)=2;rw[q1.h];show aY (ah t.2.2.1)=2;rw[hll];rfl
  have l3:l! A=l! o2+1:=by rw[ho3,aF];rfl
  have l31:l! A-1=l! o2:=by omega
  have iq:∀q:Nat,q<l! o2->iA A q=iA o2 q:=λq D=>by rw[ho3,Ml D]
  have iend:iA A (l! o2)=(28,0,0,0,0,-1):=by rw[ho3,zP]
  have hreg:∀q:Nat,q<l! A->∀j:Int,j∈jU (iA A q)->0<=j/\j<32:=λq D j I=>by
   by_cases h:q<l! o2
   .rw[iq q h]at I;exact (q2.i q (dU _) h).o.r j I
   .rw[show q=l! o2 by omega,iend]at I;simp[jU]at I
  dsimp only;rw[hL];refine bC (l! A) (λk x=>∃rg:Int,x=((k:Int),p,w,g3,rg,cs,A)/\2<=rg/\rg<=32/\∀q:Nat,q<k->∀j:Int,j∈jU (iA A q)->j<rg) ?_ ?_ ⟨2,rfl,by omega,by omega,λq D=>by omega⟩
  .rintro k x hk2 ⟨rg,rfl,r0,r1,r2⟩;refine cE ?_;dsimp only;refine bK (bK (aS (aU (vh _) ?_)));have hrk:=hreg k hk2;have hrl:=Fp (iA A k);revert hrk hrl;generalize hins:(aw sx A (k:Int))=ins;rw[show iA A k=ins from hins];intro hrk hrl;refine bC (l! (jU ins)) (λj x=>∃rg':Int,x=((j:Int),p,w,g3,rg',cs,A)/\rg<=rg'/\rg'<=32/\∀q:Nat,q<j->rg'>aw aP (jU ins) (q:Int)) ?_ ?_ ⟨rg,rfl,c6 _,r1,λq D=>by omega⟩
   .rintro j x I ⟨rg',rfl,s0,s1,s2⟩;refine cE ?_;refine bK (aS (aj ?_));have hz:=hrk _ (ba (T:=aP) (xs:=jU ins) (j:=(j:Int)) (by omega) (by omega));dsimp only;obtain⟨z,hzj⟩:∃z:Int,aw aP (jU ins) (j:Int)=z:=⟨_,rfl⟩
    rw[hzj]at hz ⊢;have hz0:(0:Int)<=z:=hz.1;have hz1:(32:Int)>z:=hz.2;rw[fH,fh (n:=z+1) (by omega) (by omega)];have him:rg'<=FW rg' (z+1)/\z+1<=FW rg' (z+1)/\FW rg' (z+1)<=32:=by
     unfold FW;split
     next h=>have h:=tB.1 h;omega
     next h=>have h:=g8.1 (Bool.eq_false_iff.2 h);omega
    refine ⟨_,rfl,by omega,him.2.2,λq D=>?_⟩;rcases bF q j with h1|h1
    .have:=s2 q h1;omega
    .rw[show q=j by omega,hzj];exact Int.lt_of_lt_of_le (show z<z+1 by omega) him.2.1
   .rintro x ⟨rg',rfl,s0,s1,s2⟩;refine cz (aj ?_);refine ⟨rg',by dsimp only;rw[fH],by omega,s1,λq D j I=>?_⟩;rcases bF q k with h1|h1
    .have:=r2 q h1 j I;omega
    .rw[show q=k by omega,show iA A k=ins from hins]at I;exact fI (T:=aP) (p:=λc=>rg'>c) s2 j I
  .rintro x ⟨rg,rfl,r0,r1,r2⟩;refine cz (UP (a! (UO (aj ?_))));dsimp only;have q3':(g2.2.2.2.2.2.2.2.2:Int)=(bsN p i:Nat)+(oJ 3 t.2.2.2:Nat):=q3;refine ⟨by rw[q3',hbs];omega,fH,rfl,rfl,by simp;omega,λj I=>?_⟩;rcases bF j i with h1|h1
   .rw[MI (T:=yP) (by rw[e4];exact h1)];exact e5 j h1
   .rw[show j=i by omega,MH (T:=yP) (by rw[e4];omega),e4,CE];refine ⟨show (1:Int)<=rg by omega,r1,show 1<=l! A by omega,show (l! A)<=1000000 by omega,?_,?_,?_,?_,?_⟩
    .show (iA A (l! A-1)).1=28/\(iA A (l! A-1)).2.2.2.2.2= -1;rw[l31,iend];exact⟨rfl,rfl⟩
    .show sq A 0 (l! A-1);rw[l31];exact q2.b.congr λq _ D=>iq q D
    .show ∀q:Nat,q<l! A-1->GI (l! p.2) w.2.2.2.2.2 (i:Int) (iA A q);rw[l31];exact λq D=>by rw[iq q D];exact q2.i q (dU _) D
    .show ∀q:Nat,q<l! A-1->(iA A q).1=10->0<=(iA A q).2.2.1/\(iA A q).2.2.1<(l! A:Int)
     rw[l31];intro q D h10;rw[iq q D]at h10 ⊢;have:=q2.r q (dU _) D h10;omega
    .exact λq D j I=>r2 q (show q<l! A by have D:q<l! A-1:=D;omega) j I
 .rintro⟨⟨a,b⟩,p2,w2,cs⟩ ⟨e0,e1,e2,e3,e4,e5⟩;dsimp only at e0 e1 e2 e3 e4 e5;subst e1 e2 e3;refine cz (aj ?_);have hgc:∀t∈cs,∃k:Nat,GC p2.2.length w2.2.2.2.2.2 (k:Int) t:=fI (T:=yP) λk N=>⟨k,e5 k (by omega)⟩
  refine ⟨by dsimp only;omega,λt ht=>?_,λt ht=>?_,hw.x,ZH hw.x ?_ ?_,λt ht=>?_⟩
  .obtain⟨k,N⟩:=hgc t ht;exact N.u
  .obtain⟨k,N⟩:=hgc t ht;exact N.r0
  .dsimp only;rw[e4,hwT]
  .dsimp only;rw[e4];exact e5
  .obtain⟨k,N⟩:=hgc t ht;refine fI (T:=sx) (p:=λi=>i.1=1->IW i.2.2.2.2.1) λq D h1=>?_
   rcases bF q (l! t.2-1) with g|g
   .exact (N.i q g).o.b.cn h1
   .have h28:=N.e.1;rw[show (l! t.2)-1=q by omega]at h28;exact bc (h28.symm.trans h1) (by decide)
def OT (a b:η) (N:l! a<=9223372036854775807) (A:∀z∈a,0<=z/\z<=255) (I:l! b<=1000000):Ok (wO (a,b)) TR:=by
 refine au (P:=CB) ?_ λc D=>au (ZR b I) λl hl=>?_
 .unfold zF;exact au (Kh a N A) λp hp=>au (T4 p hp.1 hp.2) λy q=>aj q
 .exact au (as3 c l D (by omega)) λy q=>aj q
def aoq {w:WT} (tr:TR (w,L)):∀i:Nat,i<=l! L->Hj (nD w (Qg w) L i).1/\(∀z∈(nD w (Qg w) L i).2.1,IW z)/\∀z∈(nD w (Qg w) L i).2.2.1,IW z
 |0,_=>by
  have N:IW (-1):=IW.sm (by decide) (by decide);have D:IW 0:=IW.sm (by decide) (by decide);refine ⟨⟨λL I=>?_,N,λt ht=>?_⟩,λz A=>?_,λz A=>?_⟩
  .have I:L∈aD (l! w.2.1) ((-1:Int),([]:η)):=I;rw[(te.1 I).2];exact N
  .have ht:t∈thP (l! w.2.2.2.2.1):=ht;cases hn:l! w.2.2.2.2.1 with
   |zero=>rw[hn]at ht;cases ht
   |succ n=>
    rw[hn]at ht;rcases bk.1 ht with rfl|ht
    .exact⟨IW.sm (by decide) (by decide),D⟩
    .rw[(te.1 ht).2];exact⟨D,D⟩
  .have A:z∈ce0 w:=A;unfold ce0 at A;have hc:=tr.wx.c;dsimp only at hc;rw[hc]at A;have:∀z:Int,z∈C0.map (λc=>c.2.2.2.2)-> -1000000<=z/\z<=1000000:=by decide
   exact IW.sm (this z A).1 (this z A).2
  .have A:z∈aD (l! w.2.2.2.1) (0:Int):=A;rw[(te.1 A).2];exact D
 |i+1,hi=>by
  let⟨a,b,c⟩:=aoq tr i (by omega);let⟨_,en,_⟩:=(K8.of tr (eZ hi)).nb tr hi;have ht:=tr.vl.t;have t0:=en.t0;have t1:=en.t1;dsimp only at ht;have hw:=tr.iw _ (M8 (show i<l! L from hi));rw[Dy _ _ hi];refine ⟨a.ap _ _ (IW.sm (by omega) (by omega)) (en.nm.iw tr.vl),λz A=>?_,λz A=>?_⟩
  .have A:z∈Rf _ _:=A;unfold Rf at A;split at A
   .rename_i q;rcases kB A with A|rfl
    .exact b z A
    .exact hw (.inl q)
   .exact b z A
  .have A:z∈S6 _ _:=A;unfold S6 at A;split at A
   .rename_i q;rcases kB A with A|rfl
    .exact c z A
    .exact hw (.inr q)
   .exact c z A
def afc {w:WT} (tr:TR (w,L)) (q:m<=8) (hi:i<l! L):nz (Fc w L m i):=by
 have k8:=K8.of tr (eZ hi);let⟨nb,en,_⟩:=k8.nb tr hi;exact⟨tr.vl,tr.wx.l,nb.mono (by omega),⟨k8.c,k8.f,k8.k⟩,⟨en.e1,en.e2,en.e3⟩,k8.r,(CHN.tr tr).slice i m,by show l! ((L.drop i).take m)<=8;rw[bl];omega,λe he=>tr.ls e (pW (dV he))⟩
def afb {w:WT} (tr:TR (w,L)) (z:Nat) (hi:i<=l! L):RX (Fc w L z i):=by
 have k8:=K8.of tr hi;let⟨a,b,c⟩:=aoq tr i hi;have A:l! L<=400:=tr.len;refine ⟨a,b,c,?_,λe he=>tr.iw e (pW (dV he))⟩;refine fI (T:=aP) (p:=λz=>0<=z/\z<=(100000:Int)) λk q=>?_
 have e:aw aP (Fc w L z i).2.2.1.2.2.2 (k:Int)=(l! (fl (L.take i) (k:Int)):Int):=k8.n (k:Int) (by omega) (Int.ofNat_lt.2 q);rw[e];have:=VW (L.take i) (k:Int);rw[bl]at this;have e2:(0:Int)<=(l! (fl (L.take i) (k:Int)):Int)/\(l! (fl (L.take i) (k:Int)):Int)<=100000:=⟨by omega,by omega⟩
 exact e2
def ahx (l:Y ET) (t:Int):∀i:Nat,i<=l! l->fl (l.take i) t=(eY l t i).map λz=>nW (aw gm l z)
 |0,_=>rfl
 |i+1,hi=>by
  rw[kA (T:=gm) (show i<l! l by omega),uG,ahx l t i (by omega),eY];by_cases q:(eN l i).1=t
  .rw[aK q,BW q,b7];rfl
  .rw[ay q,yg q,cJ]
def apt {w:WT} {k:Nat} (h:k<(Fc w L m i).2.2.2.length):eN (Fc w L m i).2.2.2 k=eN L (i+k)/\i+k<l! L:=by
 have h:k<l! ((L.drop i).take m):=h;rw[bl,fo]at h;refine ⟨?_,by omega⟩;show eN ((L.drop i).take m) k=_;unfold eN;rw[xC,xC];simp only[aA];rw[dG,aK (by omega),iz]
def apv {w:WT} (tr:TR (w,L)) (z:Nat) (hi:i<=l! L):RDW (Fc w L z i):=λk I n q A=>by
 let⟨e,hik⟩:=apt I;have sc:=tr.sc hik;have k8:=K8.of tr hi;have t0:=sc.en.t0;have t1:=sc.en.t1;have N:aw aP (Fc w L z i).2.2.1.2.2.2 (eN L (i+k)).1=(l! (fl (L.take i) (eN L (i+k)).1):Int):=k8.n _ t0 (by rw[k8.k];exact t1);have hf:FLG (L.take (i+k)) (eN L (i+k)).1 n:=by
  rw[e]at q;rcases q with q|q
  .exact sc.rd1 n q
  .exact sc.rd2 n q
 rw[e]at A ⊢;rw[N]at A ⊢;have A:(l! (fl (L.take i) (eN L (i+k)).1):Int)<=n:=A;let⟨n0,hf⟩:=hf;have hkl:k<=l! ((L.drop i).take z):=eZ I;have htk:L.take (i+k)=L.take i++((L.drop i).take z).take k:=by
  rw[List.take_add,su];congr 2;rw[bl]at hkl;omega
 rw[htk,uG,aA,cB (by omega),ahx _ _ k hkl,bL]at hf;show nW (aw gm ((L.drop i).take z) (aw aP (eY ((L.drop i).take z) (eN L (i+k)).1 k) _))=J;generalize eY ((L.drop i).take z) (eN L (i+k)).1 k=own at hf ⊢;generalize (L.drop i).take z=v at hf ⊢;have e2:n-(l! (fl (L.take i) (eN L (i+k)).1):Int)=((n.toNat-l! (fl (L.take i) (eN L (i+k)).1):Nat):Int):=by omega
 rw[e2];generalize n.toNat-l! (fl (L.take i) (eN L (i+k)).1)=m at hf ⊢;cases D:own[m]? with
 |none=>rw[D]at hf;cases hf
 |some a=>
  rw[D]at hf;have:aw aP own (m:Int)=a:=by
   unfold aw;rw[aA];show (own[m]?).getD _=a;rw[D];rfl
  rw[this];exact hf
def au7 (w:WT) (s:SN) (l:Y ET) {k:Nat} (q:k<=m):nD w (nD w s l i) ((l.drop i).take m) k=nD w s l (i+k):=by
 unfold nD;rw[su,show min k m=k by omega,<-dD,List.take_add]
def apu {w:WT} (tr:TR (w,L)) {n s p:Nat} (D:n<=4) (hp:p<=n) (A:s+p<l! L):∃P S,l! P=p/\vg (Fc w L n (s+p)) (Fc w L (2*n) s) P S:=by
 have q:l! ((L.drop s).take p)=p:=by rw[bl,fo];omega
 refine ⟨(L.drop s).take p,((L.drop (s+p)).take (2*n-p)).drop n,q,rfl,?_,?_,afc tr (by omega) A,afc tr (by omega) (by omega),afb tr _ (by omega),afb tr _ (by omega),apv tr _ (by omega)⟩
 .show (L.drop s).take (2*n)=(L.drop s).take p++((L.drop (s+p)).take n++((L.drop (s+p)).take (2*n-p)).drop n)
  have h1:(L.drop (s+p)).take n=((L.drop (s+p)).take (2*n-p)).take n:=by rw[su];congr 1;omega
  rw[h1,oK,<-List.drop_drop,<-List.take_add];congr 1;omega
 .rw[q];exact (au7 w (Qg w) L (by omega)).symm
def aqs (a b:η):Ok (kc (a,b)) λr=>r=aa->l! b<=60:=by
 unfold kc bV be aI;refine aW (λr=>r=aa->l! b<=60) ?_ λr q=>aj q
 refine bG (λ_=>aj nofun) λ_=>aj λh=>?_
 have:=g8.1 h;dsimp only[al]at this;omega
def afa {q n:Nat} (D:n=1\/n=2\/n=3\/n=4) (a1:m*n<i+n) (N:i<=m*n) (b1:q*(2*n)<i+2*n) (I:i<=q*(2*n)):q=(m+1)/2:=by
 rcases D with rfl|rfl|rfl|rfl<;>omega
def KU (a b:η) (sz D k:Int) (ha:l! a<=9223372036854775807) (hx:∀z∈a,0<=z/\z<=255) (hs:0<=sz/\sz<=255) (hw:0<=D/\D<=255) (hk:0<=k/\k<=65535):fU (a,b,sz,D,k)=Z J:=by
 refine bT ?_;unfold fU bg bA bQ cS bY dt dv bq bV jr gV bX bI be c7 aI cL;have hawake:sS ()=Z J:=rfl;refine au (aqs a b) λr N=>aR (λ_=>aj rfl) λhb=>?_
 have hb:=N hb;refine au (OT a b ha hx (by omega)) λy tr=>?_
 let⟨w,l⟩:=y;obtain⟨n,hn,hn4⟩:∃n:Nat,aT .i64 (cC (aT .i64 sz) 4+1)=(n:Int)/\(n=1\/n=2\/n=3\/n=4):=by
  have h1:=kM (a:=sz) (b:=4) hs.1;have h2:=Int.emod_nonneg sz (b:=4) (by decide);have h3:=Oy sz (b:=4) (by decide);rw[fh (n:=sz) (by omega) (by omega),h1,fh];exact⟨(sz%4+1).toNat,by omega,by omega⟩
 dsimp only;rw[hn];have hl:l! l<=400:=tr.len;have h2n:aT .i64 (2*(n:Int))=((2*n:Nat):Int):=by rw[fh];omega
 rw[h2n];refine aU (ac1 tr (by omega) (by omega)) (aU (ac1 tr (by omega) (by omega)) ?_);let⟨a1,a2,a3⟩:=XR w l (z:=n) (by omega) (l! l);let⟨b1,b2,b3⟩:=XR w l (z:=2*n) (by omega) (l! l);have hA:=XQ w l n (l! l);generalize Ua w l n (l! l)=A at a1 a2 a3 hA ⊢;generalize Ua w l (2*n) (l! l)=B at b1 b2 b3 ⊢;have hAB:=afa hn4 a1 a2 b1 b2;refine aW (λr=>r=aa) ?_ ?_
 .refine bw (λh=>bc rfl h) λ_=>bw (λh=>bc rfl h) λ_=>aj ?_
  have e:aY (l! B)=aT .i64 (wn (aT .i64 (aY (l! A)+1)) 2):=by
   dsimp only[al];rw[fH,Ox (by omega),fh];omega
  exact gW not (aO e)
 rintro r rfl;refine fJ rfl (aG (λ_=>aU hawake (aj rfl)) λq=>n_ q ?_);dsimp only[al]at q ⊢;obtain⟨i,hi,hiA⟩:∃i:Nat,cC (aT .i64 D) (l! A:Int)=(i:Int)/\i<l! A:=by
  have h1:=kM (a:=D) (b:=(l! A:Int)) hw.1;have h2:=Int.emod_nonneg D (b:=(l! A:Int)) q;have h3:=Oy D (b:=(l! A:Int)) (by omega);rw[fh (n:=D) (by omega) (by omega),h1];exact⟨(D%(l! A:Int)).toNat,by omega,by omega⟩
 rw[hi];have hm2:cC (i:Int) 2=((i%2:Nat):Int):=by rw[kM (by omega)];rfl
 have hd2:aT .i64 (wn (i:Int) 2)=((i/2:Nat):Int):=by rw[Ox (by omega),fh];rfl
 have hmn:i%2*n<=n:=by
  have:i%2<=1:=by omega
  have:=cg n this;omega
 have hby:aT .i64 (((i%2:Nat):Int)*(n:Int))=((i%2*n:Nat):Int):=by rw[<- Int.natCast_mul,fh]
 rw[hm2,hd2,hby];have hin:i*n<l! l:=by
  have:(i+1)*n<=l! A*n:=cg n hiA;rw[jl]at this;omega
 have hsp:i/2*(2*n)+i%2*n=i*n:=by
  have h1:=Nat.div_add_mod i 2;have:(2*(i/2)+i%2)*n=i*n:=by rw[h1]
  rw[jl]at this;rw[<- this,CH 2 (i/2),Nat.mul_assoc]
 have hgA:aw sj A (i:Int)=Fc w l n (i*n):=a3 i hiA;have hgB:aw sj B ((i/2:Nat):Int)=Fc w l (2*n) (i/2*(2*n)):=b3 _ (by omega);let⟨P,S,hP,I⟩:=apu tr (n:=n) (s:=i/2*(2*n)) (p:=i%2*n) (by omega) hmn (by rw[hsp];exact hin);rw[hsp]at I;refine bK (aS ?_);rw[hgA];refine au (aqg _ I.o k hk) λp _=>bK (aS ?_)
 let⟨g,is⟩:=p;dsimp only;refine au (ak2 _ I.o g) λfa hfa=>?_
 refine aW (λu=>u.2=g/\(u.1=aa->fa.2=J)) ?_ ?_
 .exact dc (λ_=>aj ⟨rfl,nofun⟩) λ_=>aj ⟨rfl,λh=>by simpa using h⟩
 rintro⟨u,g'⟩ ⟨e,hu⟩;dsimp only at e hu;subst e;refine aR (λ_=>aU hawake (aj rfl)) λhu0=>?_
 have hfound:=hu hu0;have hg:=(hfa.2.1 hfound).1;have gi:=hg.gin;have hn8:=I.o.ln;generalize hp:i%2*n=p at*
 refine aW (λu=>u=OL p g') ?_ ?_
 .obtain⟨g1,gA,gB,gC,gD,gE⟩:=g';unfold OL;have gc:=gi.c;have gab:=gi.ab;have gcd:=gi.cd;dsimp only at gc gab gcd ⊢;refine aG (λq2=>?_) λq2=>aG (λq4=>aj ?_) λq4=>aj ?_
  .have gc:=gc q2;have hE:l! gE<=1000:=hg.ns;refine bC (l! gE) (λj y=>y=((j:Int),(g1,gA,gB,gC,gD,gE),(g1,0,0,0,0),Lx p (gE.take j))) ?_ ?_ rfl
   .rintro j y hj rfl;have hz:=gc _ (ba (T:=aP) (xs:=gE) (j:=(j:Int)) (by omega) (by omega));refine cE (bK (aS ?_));obtain⟨z,hzz⟩:∃z:Int,z=aw aP gE (j:Int):=⟨_,rfl⟩
    dsimp only;rw[<- hzz]at hz ⊢;refine bu (by simp only[a_,Lx,bj,bl];omega) (by decide) (aj ?_);rw[fH,fh,kA (T:=aP) hj,<-hzz];unfold Lx;rw[b7];rfl
   .rintro y rfl;refine cz (aj ?_);rw[aK q2,cH]
  .have gab:=gab q2;have gcd:=gcd q4;rw[ay q2,aK q4,aK q4,fh,fh,fh,fh]
  .have gab:=gab q2;rw[ay q2,ay q4,ay q4,fh,fh]
 rintro h rfl;refine bK (aS ?_);rw[hgB];refine au (ak2 _ I.o' _) λfb hfb=>?_
 rw[<- hP]at hfb;let⟨v1,v2,v3⟩:=I.wide hfa hfb hfound;rw[hP]at v1 v3;refine aW (λr=>r=J) ?_ λr N=>aj N
 refine bK (aS ?_);refine au (Oo _ I.o' _) λr N=>mL (N.2 v1) (mL v2 ?_)
 have hfl:=hfa.1;rw[fh];exact dB (λ_=>aU hawake (aj rfl)) λg=>bc g (by omega)
def TU (h:(Lit.int .u8 a).wf=J):0<=a/\a<=255:=⟨aZ (ma.1 h).1,aZ (ma.1 h).2⟩
def akj (h:(Lit.int .u16 a).wf=J):0<=a/\a<=65535:=⟨aZ (ma.1 h).1,aZ (ma.1 h).2⟩
def SearchWider_lawT (x:η×η×Int×f?) (w:ZT (.pr (.sl (.int .u8)) (.pr (.sl (.int .u8)) (.pr (.int .u8) (.pr (.int .u8) (.int .u16))))) x):fU x=Z J:=by
 let⟨a,b,s,h,k⟩:=x;let⟨⟨I,w0⟩,_,q,D,A⟩:=w;exact KU a b s h k I (λz N=>TU (w0 z N)) (TU q) (TU D) (akj A)
def ŷ (n:Nat)(k l:Y Nat)(a:Y PV)(b:Y PB):Nat×ajz:=(n,.j ⟨k,l,⟨a,b⟩,[]⟩)
def Ÿ (n:Nat)(k l:Y Nat)(a:Y PV)(b:Y PB)(z:Y Adj):Nat×ajz:=(n,.j ⟨k,l,⟨a,b⟩,z⟩)
abbrev Ź (a:Y PV)(b:Y PB)(c:Y PV)(d:Y PB)(h:PT ajz):FT:=⟨⟨a,b⟩,⟨c,d⟩,h⟩
def ź (a:Y PV)(b:Y PB)(c:Y PV)(d:Y PB)(h:PT ajz)(m:(Ź a b c d h).pre.ty.den->M (Ź a b c d h).post.ty.den):cr:=cn (Ź a b c d h) m
def V!:PV:=.d aP
def V?:PV:=.d .bool
def W!:PB:=.F 2 J aP
def W?:PB:=.C 75 [.d gm]
def X!:PV:=.H 0 0
def X?:PB:=.F 41 J (.sl aP)
def Y!:PV:=.d (.sl aP)
def Y?:PV:=.d fg
def Z!:PB:=.C 68 [.d wc]
def Z?:PB:=.C 99 [.d iK]
def À:PV:=.H 1 0
def Á:PV:=.d (.sl .str)
def Â:PV:=.d gm
def Ã:PV:=.d (.sl gU)
def Ä:PV:=.nil
def Å:PB:=.C 55 [.d sj]
def Ç:PB:=.F 4 J .bool
def É:PB:=.C 31 [.d qV]
def Ê:PB:=.F 9 J .str
def Ë:PV:=.d qV
def Ì:PB:=.C 199 [.d sx]
def Í:PV:=.H 2 0
def Î:PV:=.H 3 0
def Ï:PB:=.F 145 J gU
def Ð:PV:=.d wc
def Ñ:PB:=.F 3 J aP
def Ò:PV:=.d (.sl dy)
def Ó:PB:=.F 147 J dy
def Ô:PV:=.d sj
def Õ:PV:=.d iK
def Ö:PV:=.d .str
def Ø:PB:=.C 53 [.d qU]
def Ù:PV:=.G 1
def Ú:PV:=.G 0
def Û:PB:=.F 5 J (.int .u8)
def Ü:PB:=.C 91 [.d KX]
def Ý:PV:=.G 3
def Þ:PV:=.G 2
def ß:PV:=.d nX
def à:PB:=.qk (.ir 4 .bool) 0
def á:PV:=.H 4 0
def â:PB:=.C 43 [.d aP,.d aP,.d aP,.d aP,.d aP,.d (.sl aP)]
def ã:PV:=.d qU
def ä:PV:=.d pE
def å:PB:=.C 121 [.d Ru]
def æ:PB:=.C 186 [.d fg]
def ç:PV:=.G 4
def è:PV:=.d (.sl mb)
def é:PV:=.d (.sl sk)
def ê:PV:=.d (.sl itK)
def ë:PV:=.d (.sl J3)
def ì:PB:=.C 43 [.d Hb]
def í:PV:=.G 6
def ï:PV:=.d sx
def ð:PV:=.d (.sl pS)
def ñ:PV:=.G 7
def ò:PV:=.d KX
def ó:PB:=.C 50 [.d pE]
def ô:PB:=.mp .str .bool
def ö:PV:=.d .ex
def ø:PV:=.d xF
def ù:PV:=.G 11
def ú:PV:=.d Ru
def û:PV:=.d Hb
def þ:PB:=.C 204 [.d ZP]
def ÿ:PB:=.qg
def Ā:PB:=.C 176 [.qv 72 [(1,0)]]
def ā:PB:=.qy 9 .str
def Ă:PV:=.d (.sl uL)
def ă:PV:=.d (.sl gm)
def Ą:PV:=.qv 25 [(0,0),(1,0),(4,0),(2,0),(5,0),(3,0)]
def ą:PB:=.C 68 [.nil,.nil,.nil,.nil,.nil,.nil,.nil]
def Ć:PB:=.C 50 [.G 2,.d aP,.G 3,.G 4]
def ć:PB:=.C 3 [.d aP]
def Ĉ:PB:=.C 34 [.d Kd6]
def ĉ:PB:=.C 50 [.qf 4 2 3,.d aP,.d nX,.d (.sl gU)]
def Ċ:PV:=.G 5
def ċ:PV:=.d .sm
def Č:PB:=.qy 213 .sm
def č:PB:=.F 169 J Bn
def Ď:PB:=.C 213 [.d .sm]
def ď:PB:=.C 211 [.d .ex]
def Đ:PV:=.qv 107 [(1,0)]
def đ:PB:=.C 55 [.d qV,.d aP,.d qU,.d (.sl gm)]
def Ē:PV:=.d (.sl .sm)
def ē:PB:=.F 147 aa dy
def Ė:PV:=.H 5 0
def ė:PV:=.d (.sl iK)
def Ę:PV:=.d (.int .u8)
def Ě:PB:=.F 213 J .sm
def ě:PB:=.C 186 [.d aP,.G 3,.G 4,.d aP]
def Ĝ:PB:=.F 3 aa aP
def ĝ:PB:=.F 95 J XO
def Ğ:PV:=.G 8
def ğ:PB:=.C 139 [.d pS]
def Ġ:PB:=.C 50 [.G 4,.d aP,.G 5,.G 6]
def ġ:PV:=.qv 72 [(1,0)]
def Ĥ:PV:=.d Kd4
def ĥ:PB:=.C 85 [.d yP]
def Ħ:PV:=.d (.st (.pr qV (.sl gm)))
def ħ:PB:=.C 97 [.mp 6]
def Ĩ:PV:=.G 12
def ĩ:PV:=.d Om
def ī:PV:=.d On
def Ĭ:PV:=.G 10
def ĭ:PB:=.F 9 aa .str
def į:PV:=.d Kd6
def ı:PB:=.C 108 [.d Kd4]
def Ĳ:PB:=.F 199 J sx
def ĳ:PB:=.F 139 J pS
def Ĵ:PV:=.d (.sl Bn)
def ĵ:PB:=.mp itK .un
def Ķ:PB:=.C 128 [.d mb]
def ķ:PV:=.qv 74 [(2,0)]
def ĸ:PV:=.d Kd8
def Ĺ:PV:=.qv 70 [(0,0)]
def Ļ:PB:=.F 43 J Hb
def ļ:PB:=.C 63 [.d xF]
def ľ:PB:=.F 135 J itK
def ŀ:PB:=.C 22 [.G 2]
def ł:PB:=.C 96 [.G 8]
def Ń:PV:=.d ZP
def ń:PB:=.F 128 J mb
def Ņ:PB:=.F 132 J sk
def Ť:PB:=.C 68 [Ð]
def Ũ:PB:=.C 99 [Õ]
def Ţ:PB:=.C 75 [Â]
def ť:PB:=.C 199 [ï]
def ŋ:Y PV:=[Ò,V!,ß,Ã]
def Ō:Y PV:=[è,é,ê,Á,Á,ð]
def ŧ:PB:=.C 55 [Ô]
def ō:Y PB:=[ŧ,.C 43 [û]]
def Ŏ:Y PV:=[X!,À,Í]
def ŏ:Y PB:=[Ó,Ç,Ï,W!,W!]
def Ő:Y PV:=[V!,V!]
def ő:Y PB:=[W!,X?]
def Ŕ:Y PV:=[Ä,Ä,Ä,Ä,Ä,Ä]
def ũ:PB:=.C 53 [ã]
def ŕ:Y PB:=[ũ,Ţ]
def Ŗ:Y PV:=[V!,V!,V!,V!,V!]
def ū:PB:=.C 91 [ò]
def Ř:Y PB:=[ŧ,ū]
def ř:Y PV:=[À,V!,V!,V?,V?,V?,V?]
def ţ:PB:=.C 31 [Ë]
def Ů:PB:=.C 3 [V!]
def ŝ:Y PV:=[V!,Y?,Y?]
def Ş:Y PB:=[ţ,ğ]
def Ŭ:PB:=.C 121 [ú]
def ŵ:PB:=.C 34 [į]
def Š:Y PB:=[ŵ,ũ]
def Ŧ:PB:=.C 186 [Y?]
def Ū:PB:=.C 50 [ä]
def ŭ:PB:=.C 204 [Ń]
def ů:PB:=.C 213 [ċ]
def Ű:PB:=.C 211 [ö]
def ű:PB:=.C 50 [Þ,V!,Ý,ç]
def ų:PB:=.C 176 [ġ]
def Ŵ:PB:=.C 186 [V!,Ý,ç,V!]
def Ŷ:PB:=.C 108 [Ĥ]
abbrev Ap:Y PV:=(Ŗ++[Ä,Ä])
def Æ:PB:=.C 75 Ap
abbrev xh:Y PV:=[Ä,V!,Ä,Ä,Ä,Ä,Ä]
def È:PB:=.C 63 xh
def Į:PB:=.C 53 xh
def ŗ:Y PB:=[Ũ,È,Æ,Ţ]
abbrev aw9:Y PV:=(ř++[ç])
abbrev awd:Y PV:=[V!,V!,Ö,Ö,Ä,V!,V!,Ö,Ä,Ä,Ä]
abbrev La2:Y PB:=[.C 206 aw9,ŭ,ÿ,.C 213 awd,ā]
abbrev Rt:Y PV:=(Ŏ++[Î,á,Ė,.H 6 0,.H 7 0,V?])
abbrev La4:Y PB:=[.C 195 (Ō++Á::Þ::Ő),ÿ,Ĳ]
abbrev La5:Y PB:=[.C 195 (Ō++Á::Ù::Ő),Ĳ]
abbrev La6:Y PV:=[V!,ù,Ĩ,V!]
def õ:PB:=.C 186 La6
def œ:Y PB:=[Ũ,È,Æ,Ţ,õ,ť,W!,W!]
abbrev La7:Y PB:=[.C 121 [Ä,Ä],.C 206 [Ė,V!,V!,V?,V?,V?,V?,í],.C 121 [ë,ñ],ĭ,.C 193 [Ö,V!,Ğ,.G 9],ŭ,ā,.F 193 J uL,ĭ,Ě]
abbrev La8:Y PB:=[.C 257 [ë,Ă,V!,Ù,í,ñ],Č,ÿ,ÿ,ů,Ŭ,Ê,Ê]
abbrev La9:Y PV:=(ŋ++[Ğ,.G 9,.qf 10 4 4])
def Ľ:PB:=.C 63 La9
def ň:Y PB:=(Ť::Ľ::œ)
abbrev awa:Y PV:=(ř++[Þ])
abbrev ajv:Y PV:=[ĩ,V!]
def Ī:PB:=.C 204 ajv
abbrev ZO:Y PB:=[.C 206 awa,Ī,ā]
abbrev ao5:Y PB:=[.C 63 (ŋ++[í,ñ,.qf 8 4 4]),Ũ,È,Æ,Ţ,Ŧ,W!,W!,.C 186 [Y?,Y?,Y?,Y?]]
abbrev P1:Y PV:=(Ŏ++[Î,á,Ė,.H 6 0,.H 7 0,V!])
abbrev asm:Y PV:=(ŋ++[Ğ,.G 9,.qf 10 4 3])
def ŉ:Y PB:=(Ť::.C 63 asm::œ)
abbrev at4:Y PB:=(ŉ++.C 186 (V!::ù::Ĩ::ŝ)::ő)
abbrev at3:Y PB:=(ŉ++.C 186 [Y?,V!,ù,Ĩ,V!,Y?]::ő)
abbrev at2:Y PB:=(ŉ++.C 186 [Y?,Y?,V!,ù,Ĩ,V!]::ő)
abbrev aeu:Y PB:=[.C 257 [ë,Ă,V!,Ù,ç,Ċ],Č,ÿ,ÿ,Ê,Ê]
abbrev awc:Y PV:=(ŋ++[Ğ,.G 9,.qf 10 4 2])
def Œ:Y PB:=(Ť::.C 63 awc::œ)
abbrev at1:Y PB:=(Œ++.C 186 [V!,ù,Ĩ,V!,Y?]::ő)
abbrev at0:Y PB:=(Œ++.C 186 [Y?,V!,ù,Ĩ,V!]::ő)
abbrev P0:Y PV:=(Ŏ++[Î,á,Ė,.H 6 0,V?])
abbrev aet:Y PB:=[.C 257 [ë,Ă,V!,Ù,Þ,Ý],Č,Ê,Ê]
abbrev asz:Y PB:=(Ť::.C 63 (ŋ++[Ğ,.G 9,.qf 10 4 1])::Ũ::È::Æ::Ţ::õ::ť::W!::W!::õ::ő)
abbrev PZ:Y PV:=(Ŏ++[Î,á,Ė,.H 6 0])
abbrev asy:Y PB:=(ň++.C 186 [V!,ù,Ĩ,V!,Y?,Y?,Y?]::ő)
abbrev asx:Y PB:=(ň++.C 186 (Y?::V!::ù::Ĩ::ŝ)::ő)
abbrev asw:Y PB:=(ň++.C 186 [Y?,Y?,V!,ù,Ĩ,V!,Y?]::ő)
abbrev asv:Y PB:=(ň++.C 186 [Y?,Y?,Y?,V!,ù,Ĩ,V!]::ő)
abbrev ib:Y PV:=[X!,V?]
abbrev Ol:Y PB:=[ţ,ũ,Ţ,Į]
abbrev KW:Y PV:=(Ŏ++[Î,á,Ė])
abbrev asu:Y PB:=[.C 63 (ŋ++[í,ñ,.qf 8 4 3]),Ũ,È,Æ,Ţ,Ŧ,W!,W!,.C 186 [Y?,Y?,Y?]]
abbrev XF:Y PV:=(ŋ++[ñ,Ğ,.qf 9 4 4])
def ę:PB:=.C 63 XF
def ņ:Y PB:=(Ť::ę::ŗ)
abbrev yO:Y PV:=(Ŏ++[Î,V?])
abbrev asb:Y PV:=Ŕ
def ş:Y PB:=[Ŭ,.C 31 asb]
abbrev ast:Y PB:=(ş++[.C 31 [ç,Ċ,í,ñ,Ä,Ä],.C 260 [.d J3],ń,Ņ,ľ,Ê])
abbrev pR:Y PV:=[X!,À,V?]
abbrev KV:Y PV:=[Ú,V!,Ù,Þ]
def Ĕ:PV:=.agg KV
def ĕ:PV:=.agg [.agg KV,.G 3,.G 4,.qf 5 4 2]
def Ų:PV:=.agg [Ĕ,Ý,ç,.qf 5 4 2]
abbrev awm:Y PB:=[Ŭ,.C 68 (Ä::Ŕ),.C 68 (Ō++[Ċ]),.C 195 (Ō++Á::í::Ő),.C 85 [V!,í],.F 85 J yP,Ĳ]
abbrev Oj:Y PV:=[V!,Y!,ī,V!]
def ý:PB:=.C 186 Oj
abbrev aes:Y PV:=(ŋ++[ñ,Ğ,.qf 9 4 3])
def ģ:PB:=.C 63 aes
def Ň:Y PB:=(Ť::ģ::ŗ)
abbrev EP:Y PV:=(Ŏ++[V!])
abbrev Oi:Y PV:=[V!,Ĭ,ù,V!]
def ü:PB:=.C 186 Oi
abbrev anw:Y PV:=[V!,Ú,Ù,V!]
abbrev anv:Y PV:=[V!,Ä,Ä,V!]
def ĺ:PB:=.C 186 anv
abbrev ass:Y PB:=[W!,X?,ť,.C 186 anw,ĺ]
abbrev asr:Y PB:=[.C 257 [ë,Ă,V!,ç,Ċ,í],ÿ,ÿ,ÿ,Č,Ê,Ê]
abbrev Bl:Y PV:=(Ŏ++[V?])
abbrev Dv:Y PV:=[Ä,V!,Ä,Ä]
def î:PB:=.C 50 Dv
def Ś:Y PB:=[ţ,.C 50 [.qf 4 2 3,V!,ß,Ã],Ů,î]
abbrev asq:Y PB:=[ű,î,Ó,Ç,Ï]
abbrev Oh:Y PV:=[X!,Î,V?]
abbrev wB:Y PV:=[X!,À,V!]
abbrev rz:Y PB:=[ţ]
abbrev awl:Y PB:=[.C 63 (ŋ++[í,ñ,.qf 8 4 2]),Ũ,È,Æ,Ţ,Ŧ,W!,W!,.C 186 [Y?,Y?]]
abbrev vi:Y PV:=[X!,V!]
abbrev ao4:Y PV:=(ŋ++[ñ,Ğ,.qf 9 4 2])
def Ŀ:PB:=.C 63 ao4
def Ŋ:Y PB:=(Ť::Ŀ::ŗ)
abbrev PY:Y PV:=[ø,Â,V?]
abbrev awj:Y PB:=(ş++[.C 31 [Ý,ç,Ċ,í,Ä,Ä],ń,Ņ,ľ,Ê])
abbrev PW:Y PV:=[Ð,ø,Õ]
abbrev asp:Y PB:=[Ó,Ç,Ï,.C 50 KV,Ñ]
abbrev aw8:Y PV:=(ŋ++[Ý,ç,Ċ])
abbrev aso:Y PB:=[Ţ,Į,.C 53 aw8,W!,W!,Ñ]
abbrev asa:Y PV:=[Ý,V!,ç,Ċ]
abbrev awi:Y PB:=[ţ,.C 50 asa,î,Ó,Ç,Ï]
abbrev awh:Y PB:=[.C 206 aw9,ŭ,ÿ,Ě,ā]
abbrev awg:Y PB:=(ĥ::Ŵ::ĺ::ő)
abbrev Bk:Y PV:=Ő
abbrev asn:Y PB:=[.F 75 J gm,Ť,.C 63 [ø],È]
abbrev awf:Y PV:=(ř++[Ý])
abbrev awe:Y PB:=[Æ,Ŧ,ť,.C 75 (Ŗ++[ç,Ä]),Ñ]
abbrev T6:Y PB:=[ů]
abbrev ao3:Y PV:=[.agg [Ĕ,Ý,ç,.qf 5 4 4]]
abbrev XE:Y PB:=[Ŭ]
abbrev ao2:Y PB:=[Ŭ,.C 193 [.d uL]]
abbrev asl:Y PB:=[ţ,ĥ,ť]
abbrev ao1:Y PB:=[Ŭ,Ű]
abbrev ask:Y PB:=[ţ,Ê,Ķ]
abbrev asj:Y PB:=[Ó,Ç,Ï]
abbrev ao0:Y PB:=[ţ,ť]
abbrev anz:Y PV:=[X!,á,Ė,V?]
abbrev anx:Y PV:=(Ŏ++[Î,á,V!])
abbrev ZN:Y PB:=[ţ,Ū]
abbrev aer:Y PB:=[ţ,Ê]
abbrev XD:Y PV:=[Y!,V!]
abbrev Ao:Y PV:=[X!,Ù,V!]
abbrev aeq:Y PB:=[.C 260 [.d J3]]
abbrev asi:Y PV:=[.agg [Ĕ,Ý,ç,.qf 5 4 3]]
abbrev ash:Y PB:=ő
abbrev asf:Y PB:=[ţ,ĥ]
abbrev ase:Y PB:=[Ť,.C 63 [ø]]
abbrev asd:Y PV:=(Ŏ++[Î])
abbrev awb:Y PV:=(ŋ++[ñ,Ğ,.qf 9 4 1])
def ś:Y PB:=[Ť,.C 63 awb,Ũ,È,Æ,Ţ]
abbrev asc:Y PB:=[Ū,Ñ]
abbrev aju:Y PV:=Ŏ
abbrev aw7:Y PB:=[.C 206 awf,Ī,ÿ,ā]
def tyT:PT Ty:=dF [(2,aP),(3,aP),(4,.bool),(5,(.int .u8)),(9,.str),(41,(.sl aP)),(43,(.st (.pr aP (.pr aP (.pr aP (.pr aP (.pr aP (.sl aP)))))))),(47,nX),(50,pE),(55,(.st (.pr qV (.pr aP (.pr qU (.sl gm)))))),(75,gm),(85,yP),(95,(.st (.pr (.st (.pr pE (.pr (.sl (.st (.pr aP .bool))) (.pr (.sl (.st (.pr aP .bool))) (.pr (.sl aP) (.pr nX (.sl aP))))))) (.sl iK)))),(99,iK),(128,mb),(132,sk),(135,itK),(139,pS),(145,gU),(147,dy),(169,(.st (.pr aP .bool))),(186,fg),(193,uL),(199,sx),(211,.ex),(213,.sm),(260,J3)]
def cf (t:TypeId):M Ty:=tyT.get t
def Py:=ź [] [] [Á] [] .leaf ly
def NH:=ź [Ö] [] [V?] [] (dF [ŷ 8 [0,3] [4] [V!] []]) lT
def W2:=ź [Ę] [] [V?] [] (dF [ŷ 2 [] [2] [V?] []]) mg
def Zh:=ź [Ę] [] [V?] [] (dF [ŷ 2 [] [2] [V?] []]) sU
def Zg:=ź [Ę] [] [V?] [] (dF [ŷ 2 [] [2] [V?] []]) qQ
def W3:=ź [Ö] [] [V?] [] (dF [ŷ 3 [0] [21] [V?] [],ŷ 14 [0] [3] [V!] []]) fS
def Y_:=ź [V?] [] [V!] [] .leaf gw
def Y':=ź Bk [] [V!,V?] [] .leaf vM
def WY:=ź (V!::Ő) [] [V!,V?] [] (dF [ŷ 91 [] [6,7] [V!,V?] [],ŷ 97 [] [6,7] [V!,V?] []]) ua
def Za:=ź Bk [] [V!] [] (dF [ŷ 12 [] [5] [V!] []]) vN
def Px:=ź [V!] [] [V!] [] (dF [ŷ 4 [0] [3] [V?] [],ŷ 10 [0] [10] [V?] [],ŷ 16 [] [17] [V?] []]) m_
def qC:=Ź [ö] [] [V?] [] (dF [ŷ 2 [] [1,3] ib [Ű],ŷ 5 [] [1,50] ib [Ű],ŷ 16 [] [1,4] vi [Ű]])
def KE:cr:=cn qC j5
def Kk (n:Nat):cr:=cn qC (iO n)
def Zf:=ź [ö] [] [V?] [] (dF [ŷ 2 [] [2] [V?] []]) qP
def uI:=Ź [ċ] [] [V?] [] (dF [ŷ 3 [] [1,13] ib T6,ŷ 10 [] [1,3] ib T6,ŷ 13 [] [1,47] ib T6,ŷ 21 [] [1,66] ib T6,ŷ 29 [] [1,95] ib T6,ŷ 36 [] [1,4] ib T6,ŷ 39 [] [1,130] ib T6,ŷ 46 [] [1,5] ib T6,ŷ 49 [] [1,157] ib T6,ŷ 56 [] [2] [V?] []])
def Kj (n:Nat):cr:=cn uI (eU n)
def pe:=Ź [Ē] [] [V?] [] (dF [ŷ 6 [0] [3] [V!] []])
def Io:cr:=cn pe oV
def HP (n:Nat):cr:=cn pe (dK n)
def KC:=ź [.d J3] [] [V?] [] (dF [ŷ 3 [] [1,31] ib aeq,ŷ 11 [] [1,50] ib aeq,ŷ 18 [] [2] [V?] []]) mO
def W1:=ź [ú] [] [V?] [] (dF [ŷ 6 [] [1,3] vi XE,ŷ 27 [] [1,4] vi XE,ŷ 42 [4] [1,5,6] wB ao2,ŷ 59 [4] [1,56] ib XE]) rh
def amv:=ź [Á,Ö] [] [V!] [] (dF [ŷ 6 [0,1] [5] [V!] []]) ki
def W0:=ź [ë,Ö] [] [V!] [] (dF [ŷ 6 [0,1] [5] [V!] []]) jK
def Pw:=ź [Ă,Ö] [] [V!] [] (dF [ŷ 6 [0,1] [5] [V!] []]) jA
def WZ:=ź [ú,V!,Ö] [] [V!] [] (dF [ŷ 3 [2] [3,27] ib XE,ŷ 52 [7] [3,56] ib XE]) ub
def ae6:=ź (ú::V!::Ö::Ő) [] [V!] [] (dF [ŷ 13 [] [25] [V?] []]) iC
def Af:=Ź [ö] [] Bk [] (dF [ŷ 8 [] [1,4,5,6] (X!::V!::Ő) [Ű]])
def Zd:cr:=cn Af Eh
def Yl (n:Nat):cr:=cn Af (oB n)
def Ae:=Ź [ú,V!,ö] [] [V!] [] (dF [ŷ 7 [1] [3,5,7] wB ao1,ŷ 21 [1] [3,5,7,8] (X!::À::Ő) ao1,ŷ 23 [1,7,8] [3,5,33] pR ao1])
def Zb:cr:=cn Ae Eg
def Yk (n:Nat):cr:=cn Ae (oA n)
def ae7:=ź [ú,V!,ö] [] [V!] [] (dF [ŷ 13 [1] [3,5,22] pR ao1]) oU
def Tt:=ź [V?] [] [V!] [] .leaf di
def amu:=ź Bk [] [V!] [] .leaf jX
def In:=ź [X!,V!,V!,Ö] aet [V?] aet (dF [ŷ 6 [1,2,3] [0,9] vi aet,ŷ 17 [1,2,3,9] [0,46] ib aet]) eC
def Pu:=ź [X!,ċ] aet [V!] aeu (dF [(1,(.a [.qz 0 4,.qz 0 5])),ŷ 28 [6,7,8,9,30] [0,3,5,67] anz La8,ŷ 41 [] [4] [V!] aeu,ŷ 44 [6,7,8,9,30] [0,3,5,91] anz La8,ŷ 51 [] [4] [V!] aeu,ŷ 63 [] [4] [V!] aeu,ŷ 66 [6,7,8,9,30] [0,3,5,119] anz La8,ŷ 89 [] [4] [V!] aeu,ŷ 108 [] [0,3,187] [X!,á,V?] [.C 257 [ë,Ă,V!,Ù,Ċ,í],Č,ÿ,ÿ,ů,Ê,Ê],ŷ 131 [] [4] [V!] aeu,ŷ 137 [6] [0,3,5,14] [X!,á,Ė,V!] La8,ŷ 139 [6] [0,3,5,14] [X!,á,Ė,V!] La8,ŷ 140 [6,14] [0,3,5,253] anz La8]) m8
def tG:=Ź [X!,Ē] aet Bk asr (dF [(1,(.a [.qz 0 3,.qz 0 4,.qz 0 5])),ŷ 6 [1] [0,6] vi asr,ŷ 19 [1,6] [0,7,8] [X!,á,V!] [.C 257 [ë,Ă,V!,Ċ,í,ñ],ÿ,ÿ,ÿ,ů,Č,Ê,Ê],ŷ 37 [1,6] [0,8,9] (X!::Ő) asr])
def Pv:cr:=cn tG xr
def OW (n:Nat):cr:=cn tG (jD n)
def Ag:=Ź [Ē] [] [V!] [] (dF [ŷ 8 [0] [3,4] Bk []])
def Ze:cr:=cn Ag Ei
def Ym (n:Nat):cr:=cn Ag (oC n)
def Zc:=ź [ë] [] Bk [] (dF [ŷ 8 [0] [4,5,6,7,8] (V!::V!::V!::Ő) [],ŷ 16 [0,8] [4,5,6,7] (V!::V!::Ő) [],ŷ 38 [0,8] [4,5,6,7,9] [V!,V!,V!,V!,X!] aeq,ŷ 39 [0,4,5,6,7,8,36] [9,39] ib aeq,ŷ 47 [0,4,5,6,7,8,36] [9,47] ib aeq,ŷ 61 [0,4,5,6,7,8] [9,69] ib aeq]) sT
def Ts:=ź [ú] [] Bk [] (dF [ŷ 6 [] [1,4] vi XE,ŷ 17 [4] [1,5,37] pR ao2,ŷ 29 [] [1,6] vi XE,ŷ 51 [6] [1,7,8] wB ao2,ŷ 62 [6,8] [1,7,90] pR ao2]) oT
def Tu:=ź [ú] [] Bk [] (dF [ŷ 44 [] [1,8,9] (X!::Ő) XE,(67,(.a [.ql 10 3 213 .sm,.ql 10 4 9 .str,.ql 10 5 9 .str])),ŷ 69 [] [1,10,11] wB [Ŭ,.C 257 [ë,Ă,V!,Þ,Ý,ç],Č,Ê,Ê]]) gg
def Ad:=Ź [Ú,V!,V!,Ē] [ĳ] [Ù,V!] [ÿ,ĳ] (dF [(1,(.a [.qz 0 0])),ŷ 6 [1,3] [0,2,10] (Ù::Ő) [ÿ,ĳ],(25,(.a [.nil 8 139 pS]))])
def Y4:cr:=cn Ad LZ
def Yj (n:Nat):cr:=cn Ad (qS n)
def WS:=ź [é,Ö] [] [V!] [] (dF [ŷ 6 [0,1] [5] [V!] []]) mf
def WV:=ź [Ë,Ö] [] [V!] [] (dF [ŷ 6 [1] [2,5] vi rz]) om
def Y8:=ź [ú] [] [Ë] [] (dF [Ÿ 18 [] [1,2,3,6] EP awj [.ql 3 0 128 mb,.ql 3 1 132 sk,.ql 3 2 135 itK,.ql 3 3 9 .str],ŷ 31 [6] [1,2,3] aju awj,ŷ 32 [6,31] [1,2,3,7,39] yO ast,ŷ 42 [6] [1,2,3,7,8] (Ŏ++[Î,V!]) ast,ŷ 53 [6,31] [1,2,3,7,65] yO ast,(69,(.a [.ql 3 5 139 pS])),Ÿ 71 [] [1,2,3,9] EP (ş++[.C 31 [Ý,ç,Ċ,í,ñ,Ğ],ń,Ņ,ľ,Ê,Ê,ĳ]) [.ql 3 4 9 .str]]) vL
def Y5:=ź [Ë] [] [Á,V?] [] (dF [Ÿ 8 [] [1,4,5] Ao aer [.nil 4 9 .str],ŷ 15 [] [1,4,5] Ao aer,ŷ 37 [5] [1,4,6,51] [X!,Ù,Í,V?] ask,ŷ 48 [5] [1,4,6,7] [X!,Ù,Í,V!] ask,ŷ 59 [5,7] [1,4,6,93] [X!,Ù,Í,V?] ask,ŷ 72 [] [1,4,9] Ao aer,ŷ 87 [] [1,4,10] Ao aer]) qM
def KB:=ź [Ë] [] [V?] [] (dF [ŷ 3 [] [1,49] ib rz,ŷ 24 [3] [1,5] vi rz,ŷ 33 [3,5] [1,79] ib rz,ŷ 45 [] [1,6] vi rz,ŷ 56 [6] [1,109] ib rz,ŷ 68 [] [1,8] vi rz,ŷ 76 [8] [1] [X!] rz,ŷ 80 [8] [1,9,132] pR Ş,ŷ 87 [8] [1,9,146] pR Ş,ŷ 90 [8] [1,165] ib rz]) jZ
def NG:=ź [ï] [] [Y!] [] (dF [ŷ 6 [4] [1,5] ib [ť],ŷ 24 [4] [1,13] ib [ť],ŷ 46 [4] [1,37] ib [ť]]) kG
def WU:=ź [V!] [] [V?] [] (dF [ŷ 2 [] [2] [V?] []]) rf
def Y6:=ź [.d (.sl sx),V!] [] [V?] [] (dF [ŷ 6 [0] [1,5] Bk [],ŷ 14 [0,5] [1] [V!] [],ŷ 16 [0,1,5] [19] [V?] []]) qN
def amt:=ź Bk [] [V?] [] (dF [ŷ 2 [] [4] [V?] []]) kh
def Y7:=ź (Ë::Ő) [] [V?] [] (dF [ŷ 2 [] [6] [V?] []]) qO
def Tp:=ź [Ë,ï] [] [V?] [] (dF [ŷ 9 [] [4] [V?] [],ŷ 15 [] [4] [V?] [],ŷ 30 [6] [2,3,59] pR ao0,ŷ 37 [] [4] [V?] [],ŷ 40 [6] [2,3,78] pR ao0,ŷ 55 [] [4] [V?] [],ŷ 58 [6] [2,3,98] pR ao0,ŷ 72 [6] [2,3,108] pR ao0,ŷ 97 [] [4] [V?] [],ŷ 103 [] [4] [V?] []]) mw
def Im:=ź [Ë,V!,.d yP] [] [V?] [] (dF [ŷ 5 [1,7] [3,5,26] pR asf,ŷ 16 [1,7] [3,5,8] wB asf,ŷ 28 [1,7,8] [3,5,9,67] Bl asl,ŷ 36 [1,7,8] [3,5,9,100] Bl asl,ŷ 44 [1,7,8] [3,5,9,122] Bl asl,ŷ 56 [1,7,8,10] [3,5,11] wB asf]) iW
def Y9:=ź [Ð] [] [V?] [] (dF [ŷ 3 [] [1,17] ib [Ť],ŷ 14 [] [1,3] vi [Ť]]) kF
def Tq:=ź [X!,ï] La5 [] La4 .leaf cN
def r8:=Ź [X!,ö,V!] La5 [] La4 (dF [ŷ 2 [] [] [] La4])
def NC:cr:=cn r8 jJ
def L' (n:Nat):cr:=cn r8 (jO n)
def KA:=ź [X!,ċ] La5 [] La4 .leaf mN
def Pt:=ź [X!,Ö] La5 [V!] La5 (dF [ŷ 6 [1] [0,5] vi La5]) kq
def r9:=Ź [X!,Ē] La5 [] La4 (dF [(1,(.a [.qz 0 7])),ŷ 3 [1] [0,4] vi La4])
def NF:cr:=cn r9 vK
def Ma (n:Nat):cr:=cn r9 (dT n)
def xD:=Ź [X!,ċ] La5 [] La4 (dF [(1,(.a [.qz 0 7])),ŷ 10 [] [] [] La4,ŷ 15 [4,25] [0,3,31] [X!,Í,V?] [.C 195 (Ō++Á::Ý::Ő),ÿ,ů,Ĳ]])
def OV (n:Nat):cr:=cn xD (fc n)
def r_:=Ź [X!,ċ] La5 [] La4 .leaf
def FK (n:Nat):cr:=cn r_ (dl n)
def uH:=Ź (X!::ċ::V!::Ő) La5 [] La4 .leaf
def Ki (n:Nat):cr:=cn uH (dM n)
def Tr:=ź [ú] [] (Ð::Ő) [] (dF [Ÿ 20 [] [1,2,7,8,9] (Ŏ++Ő) [Ŭ,.C 68 (Ä::Ŕ),.C 68 (Ō++[Ý]),.F 85 J yP] [.ql 7 6 85 yP],(32,(.a [.ql 10 7 199 sx])),ŷ 45 [8,9] [1,2,7,10,11,12] anx awm,ŷ 59 [8,9,12,13] [1,2,7,10,11,14] anx awm]) rI
def ai9:=ź XD [] [V?] [] (dF [ŷ 6 [0,1] [5] [V!] []]) lS
def ai8:=ź XD [] [Y!] [] (dF [ŷ 6 [0,1] [5] [V!] [],ŷ 8 [0,1,5] [18] [V?] [],ŷ 16 [0,1,5] [32] [V?] []]) xW
def Y3:=ź [Y!,Y!] [] [Y!] [] (dF [ŷ 8 [0,1] [5,6] XD [],ŷ 23 [1] [5,7] XD []]) vJ
def Ps:=ź [V!] [] [V!] [] (dF [ŷ 3 [0] [8] [V?] []]) m7
def ae5:=ź [Y?] [] [.agg anw] ash (dF [Ÿ 8 [] [1,2,3,4] EP (Ŧ::ĺ::Ŵ::ő) [.ql 3 2 41 (.sl aP)]]) cF
def ae4:=ź [ï,.agg anw] ash [.agg anw,V?] ash (dF [ŷ 8 [6] [2,3,4,7] [Í,Î,á,V!] ass,ŷ 17 [6,7] [2,3,4,33] [Í,Î,á,V?] ass,ŷ 32 [] [2,3,4,8,9,10] [Í,Î,á,V!,V?,Y!] ass]) xV
def WR:=ź [.d yP,Y?] [] [Y?,V?] [] (dF [ŷ 3 [] [2,3,4,23] Bl [ĥ,Ŧ,ĺ],ŷ 16 [] [2,3,4,6] EP awg,ŷ 26 [6] [2,3,4,44] Bl awg]) ol
def Y1:=ź [Ë] [] [ä] [] (dF [Ÿ 8 [] [1,2,3,4] EP [ţ,î,.C 50 [Ý,V!,Ä,Ä],Ó] [.ql 3 0 147 dy],Ÿ 23 [] [1,2,3,5] EP [ţ,î,.C 50 [Ý,V!,ç,Ä],Ó,Ç] [.ql 3 2 4 .bool],Ÿ 38 [] [1,2,3,6] EP [ţ,î,.C 50 asa,Ó,Ç,Ï] [.ql 3 3 145 gU],ŷ 49 [6] [1,2,3,7] asd [ţ,î,.C 50 [ç,V!,Ċ,í],.C 145 [.d gU],Ó,Ç,Ï]]) vI
def ae2:=ź [Ë,ä] [] [V?] [] (dF [ŷ 6 [] [2,3,5] wB ZN,ŷ 15 [5] [2,3,31] pR ZN,ŷ 23 [] [4] [V?] []]) oS
def ams:=ź Bk [] [V?] [] (dF [ŷ 2 [] [4] [V?] []]) rH
def Y0:=ź (Ë::Ő) [] [V?] [] (dF [ŷ 6 [2,7] [3,8] ib rz,ŷ 36 [2,7] [3,18] ib rz,ŷ 46 [2,7] [3,26] ib rz,ŷ 53 [] [6] [V?] [],ŷ 56 [2,7] [3,43] ib rz,ŷ 71 [] [6] [V?] [],ŷ 74 [2,7] [3,61] ib rz,ŷ 92 [2,7] [3,71] ib rz,ŷ 102 [2] [3,79] ib rz]) qK
def To:=ź (Ë::ä::V!::Ő) [] [V?] [] (dF [ŷ 3 [2,3,4] [5,6,30] pR ZN,ŷ 25 [] [10] [V?] [],ŷ 50 [] [10] [V?] [],ŷ 56 [] [10] [V?] [],ŷ 59 [2,4,70] [5,6,11,119] Bl [ţ,Ū,.C 145 [.d gU]],ŷ 99 [2,4,70] [5,6,160] pR ZN,ŷ 116 [] [10] [V?] [],ŷ 122 [] [10] [V?] []]) ju
def Tn:=ź [ä,V!] [] [Y!] [] (dF [Ÿ 8 [1] [2,5,6] Ao asc [.nil 5 3 aP],ŷ 16 [1,6] [2,5] [X!,Ù] asc,ŷ 17 [1,6] [2,5,30] [X!,Ù,V?] asc]) oR
def Tl:=ź XD [] [Y!] [] (dF [Ÿ 8 [0,1] [5,6] [Ú,V!] [Ñ] [.nil 5 3 aP],ŷ 16 [0,1,6] [5] [Ú] [Ñ]]) rG
def ae3:=ź [ä] [] [Ĕ] asj (dF [Ÿ 8 [] [1,2,3,4] EP [Ū,î,.C 50 asa,Ó,Ç,Ï] [.ql 3 0 147 dy]]) iV
def nj:=Ź [Ĕ,V!] asj [Y!] asj (dF [Ÿ 8 [1] [2,5,6] [Î,ç,V!] asp [.nil 5 3 aP],ŷ 16 [1,6] [2,5] [Î,ç] asp,ŷ 17 [1,6] [2,5,30] [Î,ç,V?] asp])
def Pr:cr:=cn nj m6
def NA:cr:=⟨nj.pre,⟨nj.post.vs,[]⟩,lR⟩
def Y2:=ź (Ë::ä::V!::V!::Ő) [] [ä,V!,V?] [] (dF [ŷ 17 [] [7,12,15] wB asq,ŷ 26 [2,4,5,15,30] [6,7,12,45] Bl awi,ŷ 34 [2,4,5,15,30] [6,7,12,54] Bl awi,ŷ 90 [] [7,12,17] wB asq,ŷ 109 [18] [7,12,19] wB asq]) qL
def YZ:=ź [Ð] [] [ø] [] (dF [Ÿ 16 [] [1,2,3,4] EP [Ť,È,.C 63 (ŋ++[Ý,Ä,Ä]),W!] [.ql 3 4 2 aP],Ÿ 31 [] [1,2,3,5] EP [Ť,È,.C 63 (ŋ++[Ý,ç,Ä]),W!,W!] [.ql 3 5 2 aP],Ÿ 46 [] [1,2,3,6] EP [Ť,È,.C 63 aw8,W!,W!,.F 186 J fg] [.ql 3 6 186 fg]]) vH
def ae0:=ź [Ð,ø] [] [V?] [] (dF [ŷ 3 [] [2,3,46] pR ase,ŷ 14 [] [2,3,5] wB ase,ŷ 25 [5] [2,3,97] pR ase]) xU
def ady:=ź [V!] [] [V!] [] (dF [ŷ 5 [0] [3,10] [Ú,V?] [Ĝ]]) CQ
def Ws:=ź [ï,Y?] [] [V!] [] (dF [ŷ 6 [6] [2,3,7] pR [ť,Ŧ],ŷ 28 [] [2,40] ib [ť]]) wN
def Tk:=ź [Ð,ø,V!] [] [Â,V?] [] (dF [ŷ 3 [2] [3,4,6,25] Bl [Ť,.C 63 [ø],Æ],Ÿ 54 [] [6,8,9,10] asd awe [.ql 10 5 3 aP],ŷ 59 [] [6,8,9,10,98] yO [Æ,Ŧ,ť,Æ],Ÿ 68 [] [6,10] [X!,À] [Æ,.C 75 (Ŗ++[Þ,Ý]),Ñ,Ñ] [.ql 10 6 3 aP],ŷ 69 [] [6,8,9,10,123] yO awe]) oP
def adx:=ź [Ë,ã] [] [V?] [] (dF [ŷ 2 [] [4] [V?] []]) vo
def amr:=ź Bk [] [V?] [] (dF [ŷ 2 [] [4] [V?] []]) FC
def Tj:=ź XD [] [V?] [] (dF [ŷ 6 [0,1] [5] [V!] [],ŷ 15 [0,1,5] [40] [V?] []]) oO
def YY:=ź [ã,Â] [] [V?] [] (dF [ŷ 21 [] [4] [V?] [],ŷ 24 [7] [2,3,40] pR ŕ,ŷ 47 [] [4] [V?] []]) vG
def adw:=ź [Ë,ã,Â] [] [ã,V?] [] (dF [ŷ 3 [] [3,4,5,6,46] yO Ol,ŷ 10 [] [3,4,5,6] asd Ol,ŷ 11 [] [3,4,5,6,55] yO Ol,ŷ 21 [] [3,4,5,6,78] yO Ol,ŷ 28 [] [3,4,5,6,8] yO Ol,ŷ 31 [] [3,4,5,6,110] yO Ol,ŷ 39 [] [3,4,5,6,125] yO Ol,ŷ 47 [] [3,4,5,6,154] yO Ol,ŷ 58 [] [3,4,5,6,9,10] anx [ţ,ũ,Ţ,Į,.C 53 [Ä,V!,Ä,Ä,Ċ,í,ñ],W!,W!,Ñ],ŷ 66 [] [5,6,9] aju aso,ŷ 72 [] [5,6,9] aju aso]) qZ
def WP:=ź [ø] [] [.agg [Ĕ,Ý,ç,.qf 5 4 1]] (ŏ++.C 186 [V!,í,ñ,V!]::ő) (dF [(8,(.u 2))]) t_
def WD:=ź PW [] PY [] (dF [(27,(.s 5 0 0 1)),ŷ 37 [] [3,4,5,6,7,9,14,15,16] P1 asz,ŷ 38 [16,77] [3,4,5,6,7,9,14,15,78] Rt asz,ŷ 83 [16] [3,4,5,6,7,9,14] PZ (ś++ü::W!::W!::ü::ő),ŷ 84 [16] [3,4,5,6,7,9,14,15,154] Rt asz,ŷ 95 [] [4,5,6,7,9,14] KW [.C 63 (ŋ++[í,ñ,.qf 8 4 1]),Ũ,È,Æ,Ţ,Ŧ,W!,W!,Ŧ],ŷ 96 [] [3,4,5,6,7,9,14,183] P0 (ś++[ý,W!,W!,ý]),(102,(.s 5 0 0 1)),(104,(.a [.pk 4 6 fg]))]) gZ
def WO:=ź [ø] [] [Ų] (ŏ++.C 186 [V!,í,ñ,V!,Y?]::ő) (dF [(8,(.u 3))]) t8
def WC:=ź PW [] PY [] (dF [(27,(.s 5 0 0 1)),ŷ 37 [] [3,4,5,6,7,9,14,15,16] P1 at1,ŷ 38 [16,77] [3,4,5,6,7,9,14,15,78] Rt at1,ŷ 83 [16] [3,4,5,6,7,9,14] PZ (Ŋ++ü::W!::W!::.C 186 [V!,Ĭ,ù,V!,Y?]::ő),ŷ 84 [16] [3,4,5,6,7,9,14,15,154] Rt at1,ŷ 95 [] [4,5,6,7,9,14] KW awl,ŷ 96 [] [3,4,5,6,7,9,14,183] P0 (Ŋ++[ý,W!,W!,.C 186 [V!,Y!,ī,V!,Y?]]),(102,(.s 5 0 0 1)),(104,(.a [.pk 4 6 fg]))]) iN
def WM:=ź [ø] [] [Ų] (ŏ++.C 186 [Y?,V!,í,ñ,V!]::ő) (dF [(8,(.u 3))]) t7
def WA:=ź PW [] PY [] (dF [(27,(.s 5 0 1 1)),ŷ 37 [] [3,4,5,6,7,9,14,15,16] P1 at0,ŷ 38 [16,77] [3,4,5,6,7,9,14,15,78] Rt at0,ŷ 83 [16] [3,4,5,6,7,9,14] PZ (Ŋ++ü::W!::W!::.C 186 [Y?,V!,Ĭ,ù,V!]::ő),ŷ 84 [16] [3,4,5,6,7,9,14,15,154] Rt at0,ŷ 95 [] [4,5,6,7,9,14] KW awl,ŷ 96 [] [3,4,5,6,7,9,14,183] P0 (Ŋ++[ý,W!,W!,.C 186 [Y?,V!,Y!,ī,V!]]),(102,(.s 5 0 1 1)),(104,(.a [.pk 4 6 fg]))]) gY
def WL:=ź [ø] [] asi (ŏ++.C 186 (V!::í::ñ::ŝ)::ő) (dF [(8,(.u 4))]) tZ
def Wz:=ź PW [] PY [] (dF [(27,(.s 5 0 0 1)),ŷ 37 [] [3,4,5,6,7,9,14,15,16] P1 at4,ŷ 38 [16,77] [3,4,5,6,7,9,14,15,78] Rt at4,ŷ 83 [16] [3,4,5,6,7,9,14] PZ (Ň++ü::W!::W!::.C 186 (V!::Ĭ::ù::ŝ)::ő),ŷ 84 [16] [3,4,5,6,7,9,14,15,154] Rt at4,ŷ 95 [] [4,5,6,7,9,14] KW asu,ŷ 96 [] [3,4,5,6,7,9,14,183] P0 (Ň++[ý,W!,W!,.C 186 (V!::Y!::ī::ŝ)]),(102,(.s 5 0 0 1)),(104,(.a [.pk 4 6 fg]))]) lm
def WJ:=ź [ø] [] asi (ŏ++.C 186 [Y?,V!,í,ñ,V!,Y?]::ő) (dF [(8,(.u 4))]) tY
def Wy:=ź PW [] PY [] (dF [(27,(.s 5 0 1 1)),ŷ 37 [] [3,4,5,6,7,9,14,15,16] P1 at3,ŷ 38 [16,77] [3,4,5,6,7,9,14,15,78] Rt at3,ŷ 83 [16] [3,4,5,6,7,9,14] PZ (Ň++ü::W!::W!::.C 186 [Y?,V!,Ĭ,ù,V!,Y?]::ő),ŷ 84 [16] [3,4,5,6,7,9,14,15,154] Rt at3,ŷ 95 [] [4,5,6,7,9,14] KW asu,ŷ 96 [] [3,4,5,6,7,9,14,183] P0 (Ň++[ý,W!,W!,.C 186 [Y?,V!,Y!,ī,V!,Y?]]),(102,(.s 5 0 1 1)),(104,(.a [.pk 4 6 fg]))]) ko
def WI:=ź [ø] [] asi (ŏ++.C 186 [Y?,Y?,V!,í,ñ,V!]::ő) (dF [(8,(.u 4))]) tX
def Wx:=ź PW [] PY [] (dF [(27,(.s 5 0 2 1)),ŷ 37 [] [3,4,5,6,7,9,14,15,16] P1 at2,ŷ 38 [16,77] [3,4,5,6,7,9,14,15,78] Rt at2,ŷ 83 [16] [3,4,5,6,7,9,14] PZ (Ň++ü::W!::W!::.C 186 [Y?,Y?,V!,Ĭ,ù,V!]::ő),ŷ 84 [16] [3,4,5,6,7,9,14,15,154] Rt at2,ŷ 95 [] [4,5,6,7,9,14] KW asu,ŷ 96 [] [3,4,5,6,7,9,14,183] P0 (Ň++[ý,W!,W!,.C 186 [Y?,Y?,V!,Y!,ī,V!]]),(102,(.s 5 0 2 1)),(104,(.a [.pk 4 6 fg]))]) jI
def WH:=ź [ø] [] ao3 (ŏ++.C 186 [V!,í,ñ,V!,Y?,Y?,Y?]::ő) (dF [(8,(.u 5))]) tW
def dH:=Ź PW [] PY [] (dF [(27,(.s 5 0 0 1)),ŷ 37 [] [3,4,5,6,7,9,14,15,16] P1 asy,ŷ 38 [16,77] [3,4,5,6,7,9,14,15,78] Rt asy,ŷ 83 [16] [3,4,5,6,7,9,14] PZ (ņ++ü::W!::W!::.C 186 [V!,Ĭ,ù,V!,Y?,Y?,Y?]::ő),ŷ 84 [16] [3,4,5,6,7,9,14,15,154] Rt asy,ŷ 95 [] [4,5,6,7,9,14] KW ao5,ŷ 96 [] [3,4,5,6,7,9,14,183] P0 (ņ++[ý,W!,W!,.C 186 [V!,Y!,ī,V!,Y?,Y?,Y?]]),(102,(.s 5 0 0 1)),(104,(.a [.pk 4 6 fg]))])
def Ww:cr:=cn dH re
def WG:=ź [ø] [] ao3 (ŏ++.C 186 (Y?::V!::í::ñ::ŝ)::ő) (dF [(8,(.u 5))]) tV
def Wv:=ź PW [] PY [] (dF [(27,(.s 5 0 1 1)),ŷ 37 [] [3,4,5,6,7,9,14,15,16] P1 asx,ŷ 38 [16,77] [3,4,5,6,7,9,14,15,78] Rt asx,ŷ 83 [16] [3,4,5,6,7,9,14] PZ (ņ++ü::W!::W!::.C 186 (Y?::V!::Ĭ::ù::ŝ)::ő),ŷ 84 [16] [3,4,5,6,7,9,14,15,154] Rt asx,ŷ 95 [] [4,5,6,7,9,14] KW ao5,ŷ 96 [] [3,4,5,6,7,9,14,183] P0 (ņ++[ý,W!,W!,.C 186 (Y?::V!::Y!::ī::ŝ)]),(102,(.s 5 0 1 1)),(104,(.a [.pk 4 6 fg]))]) q_
def WF:=ź [ø] [] ao3 (ŏ++.C 186 [Y?,Y?,V!,í,ñ,V!,Y?]::ő) (dF [(8,(.u 5))]) tU
def Wu:=ź PW [] PY [] (dF [(27,(.s 5 0 2 1)),ŷ 37 [] [3,4,5,6,7,9,14,15,16] P1 asw,ŷ 38 [16,77] [3,4,5,6,7,9,14,15,78] Rt asw,ŷ 83 [16] [3,4,5,6,7,9,14] PZ (ņ++ü::W!::W!::.C 186 [Y?,Y?,V!,Ĭ,ù,V!,Y?]::ő),ŷ 84 [16] [3,4,5,6,7,9,14,15,154] Rt asw,ŷ 95 [] [4,5,6,7,9,14] KW ao5,ŷ 96 [] [3,4,5,6,7,9,14,183] P0 (ņ++[ý,W!,W!,.C 186 [Y?,Y?,V!,Y!,ī,V!,Y?]]),(102,(.s 5 0 2 1)),(104,(.a [.pk 4 6 fg]))]) oh
def WE:=ź [ø] [] ao3 (ŏ++.C 186 [Y?,Y?,Y?,V!,í,ñ,V!]::ő) (dF [(8,(.u 5))]) tS
def Wt:=ź PW [] PY [] (dF [(27,(.s 5 0 3 1)),ŷ 37 [] [3,4,5,6,7,9,14,15,16] P1 asv,ŷ 38 [16,77] [3,4,5,6,7,9,14,15,78] Rt asv,ŷ 83 [16] [3,4,5,6,7,9,14] PZ (ņ++ü::W!::W!::.C 186 [Y?,Y?,Y?,V!,Ĭ,ù,V!]::ő),ŷ 84 [16] [3,4,5,6,7,9,14,15,154] Rt asv,ŷ 95 [] [4,5,6,7,9,14] KW ao5,ŷ 96 [] [3,4,5,6,7,9,14,183] P0 (ņ++[ý,W!,W!,.C 186 [Y?,Y?,Y?,V!,Y!,ī,V!]]),(102,(.s 5 0 3 1)),(104,(.a [.pk 4 6 fg]))]) me
def ae1:cr:=cn dH CR
def adz:=ź [Ð,ø,Ä,ė] [] [ă,ø] [] (dF [(1,(.a [.nil 2 75 gm])),ŷ 6 [3] [2,4,5,9,10] [Ú,À,Í,Î,V!] asn,ŷ 8 [3,10] [2,4,5,9,22] [Ú,À,Í,Î,V?] asn,ŷ 14 [3,10] [2,4,5,9] [Ú,À,Í,Î] asn]) xT
def ai7:=ź [Ð,ė] [] [Ħ,ø] [] .leaf By
def KK:=ź vi [Ī] [V!] [Ī] (dF [ŷ 3 [1] [0,18] ib [ŭ]]) c_
def ae9:=ź [V!] [] [ö] [] .leaf sX
def Zn:=ź [Ö] [] [ö] [] .leaf qR
def TD:=ź [V!,ö,ö] [] [ö] [] .leaf oY
def TE:=ź [Ö,ö] [] [ċ] [] .leaf kj
def Xa:=ź [] [] [ë] [] .leaf ue
def PK:=ź [ĩ] [] [ė] [] (dF [Ÿ 8 [0] [3,4] [Ú,V!] [.F 99 J iK] [.nil 3 99 iK]]) tu
def pg:=Ź vi ZO [ö] ZO (dF [ŷ 8 [1,6] [0,4,5,14] [X!,Î,ç,V?] [.C 206 awa,ŭ,ā,.C 211 [V!,V!,Ö,Ä],ĭ]])
def Ir:cr:=cn pg fG
def HR (n:Nat):cr:=cn pg (iZ n)
def G2:=ź [X!,Ö] ZO [V?] ZO .leaf e9
def nK:=Ź (X!::Ő) ZO [ç] [.C 206 awf,Ī,ÿ,ā,Ě] (dF [(1,(.a [.qz 0 7])),Ÿ 8 [1,2] [0,7,8] [X!,Ý,V!] awh [.nil 7 213 .sm],ŷ 10 [1,2,8] [0,7,22] [X!,Ý,V?] awh,(21,(.a [.nil 6 213 .sm]))])
def G0:cr:=cn nK rL
def FL (n:Nat):cr:=cn nK (dN n)
def s9:=Ź vi ZO [ċ] aw7 (dF [(1,(.a [.qz 0 7])),ŷ 6 [1,5] [0,4,6] Oh La2,ŷ 28 [1,5,6] [0,4,74] Oh La2,Ÿ 33 [] [4,7] [Î,á] [.C 206 (ř++[Ċ]),ŭ,ÿ,.C 213 awd,.C 213 [V!,V!,Ö,Ö,Ä,V!,V!,Ö,.d (.sl .ex),í,ñ],ā,Ě,Ě] [.ql 7 10 213 .sm],ŷ 42 [1,5,6] [0,4,100] Oh La2,ŷ 56 [1,5,6] [0,4,133] Oh La2,ŷ 64 [1,5,6] [0,4,165] Oh La2,ŷ 70 [1,5,6] [0,4,188] Oh La2,ŷ 82 [1,5,6] [0,4,210] Oh La2,ŷ 94 [5,6] [0,4,235] Oh La2,ŷ 100 [5] [0,4,258] Oh La2,ŷ 106 [5] [0,4,278] Oh La2,ŷ 114 [] [0,4,308] Oh La2])
def HQ (n:Nat):cr:=cn s9 (eW n)
def sg:=Ź [X!,Ö,V!] ZO [Ē] aw7 .leaf
def FM (n:Nat):cr:=cn sg (eE n)
def PI:=ź [ĩ] [] [ú] [] (dF [(5,(.a [.ql 3 7 9 .str])),Ÿ 14 [5] [2,3,4,6,7] (Ŏ++[Ý,V!]) [.C 121 [Ä,Ä],.C 206 [á,V!,V!,V?,V?,V?,V?,Ċ],.C 121 [ë,í],ĭ,ŭ,ā,.F 193 J uL] [.ql 4 1 193 uL],Ÿ 27 [5,7] [2,3,4,6,8] (Ŏ++[Ý,á]) La7 [.ql 8 3 213 .sm],Ÿ 34 [5,7] [2,3,4,6,8,9] (Ŏ++[Ý,á,V!]) La7 [.ql 8 3 213 .sm],ŷ 48 [5,7] [2,3,4,6,8] (Ŏ++[Ý,á]) La7,ŷ 49 [5,7] [2,3,4,6,8,79] (Ŏ++[Ý,á,V?]) La7]) pL
def Zo:=ź [ĩ] [] [Ð] [] .leaf zF
def Xb:=ź [ĩ,ĩ] [] [Ħ] [] .leaf wO
def O7:aM Pg 251 Py:=mk _ _ an cf
def Ms:aM Pg 178 NH:=mk _ _ (ac O7 an) cf
def I6:aM Pg 177 W2:=mk _ _ an cf
def YI:aM Pg 252 Zh:=mk _ _ an cf
def YH:aM Pg 179 Zg:=mk _ _ (ac I6 (ac YI an)) cf
def ug:aM Pg 128 W3:=mk _ _ (ac I6 (ac Ms (ac YH an))) cf
def Mr:aM Pg 294 Y_:=mk _ _ an cf
def YA:aM Pg 258 Y':=mk _ _ (ac Mr an) cf
def Vq:aM Pg 260 WY:=mk _ _ (ac Mr an) cf
def YB:aM Pg 254 Za:=mk _ _ an cf
def O6:aM Pg 326 Px:=mk _ _ an cf
def ye:∀n:Nat,aM Pg 295 (Kk n)
 |0=>OR qC
 |n+1=>mk qC (qo (iO n)) (ac ug (ac (ye n) (ac O6 an))) cf
def Av:aM Pg 295 KE:=(ye fZ)
def YG:aM Pg 296 Zf:=mk _ _ an cf
def s6:∀n:Nat,aM Pg 261 (Kj n)/\aM Pg 193 (HP n)
 |0=>⟨OR uI,OR pe⟩
 |n+1=>⟨mk uI (kX (eU n) (dK n)) (ac ug (ac (s6 n).2 (ac Av (ac YG an)))) cf,mk pe (lY (eU n) (dK n)) (ac (s6 n).1 an) cf⟩
def H4:aM Pg 193 Io:=(s6 fZ).2
def Ko:aM Pg 192 KC:=mk _ _ (ac ug an) cf
def Vs:aM Pg 137 W1:=mk _ _ (ac ug (ac Ko (ac H4 an))) cf
def wV:aM Pg 129 amv:=mk _ _ an cf
def wU:aM Pg 194 W0:=mk _ _ an cf
def xx:aM Pg 195 Pw:=mk _ _ an cf
def Vr:aM Pg 297 WZ:=mk _ _ (ac wV (ac wU (ac xx an))) cf
def Qz:aM Pg 264 ae6:=mk _ _ (ac Vr an) cf
def I9:∀n:Nat,aM Pg 298 (Yl n)
 |0=>OR Af
 |n+1=>mk Af (zU (oB n)) (ac (I9 n) an) cf
def YE:aM Pg 298 Zd:=(I9 fZ)
def I8:∀n:Nat,aM Pg 299 (Yk n)
 |0=>OR Ae
 |n+1=>mk Ae (vW (oA n)) (ac Qz (ac (I8 n) an)) cf
def YC:aM Pg 299 Zb:=(I8 fZ)
def ad2:aM Pg 265 ae7:=mk _ _ (ac Av (ac YE (ac YC an))) cf
def SA:aM Pg 266 Tt:=mk _ _ an cf
def aly:aM Pg 263 amu:=mk _ _ an cf
def H3:aM Pg 262 In:=mk _ _ an cf
def O4:aM Pg 196 Pu:=mk _ _ (ac wV (ac wU (ac xx (ac H3 (ac aly (ac Qz (ac ad2 (ac SA an)))))))) cf
def BK:∀n:Nat,aM Pg 141 (OW n)
 |0=>OR tG
 |n+1=>mk tG (nh (jD n)) (ac (BK n) (ac O4 an)) cf
def O5:aM Pg 141 Pv:=(BK fZ)
def I_:∀n:Nat,aM Pg 140 (Ym n)
 |0=>OR Ag
 |n+1=>mk Ag (zV (oC n)) (ac (I_ n) an) cf
def YF:aM Pg 140 Ze:=(I_ fZ)
def YD:aM Pg 138 Zc:=mk _ _ (ac wU an) cf
def Sz:aM Pg 139 Ts:=mk _ _ (ac wV (ac wU (ac xx an))) cf
def zR:aM Pg 85 Tu:=mk _ _ (ac Vs (ac YD (ac Sz (ac YF (ac O5 an))))) cf
def I7:∀n:Nat,aM Pg 143 (Yj n)
 |0=>OR Ad
 |n+1=>mk Ad (zS (qS n)) (ac (I7 n) an) cf
def Yv:aM Pg 143 Y4:=(I7 fZ)
def I3:aM Pg 142 WS:=mk _ _ an cf
def I5:aM Pg 267 WV:=mk _ _ an cf
def Yz:aM Pg 86 Y8:=mk _ _ (ac zR (ac I3 (ac Yv an))) cf
def Yw:aM Pg 127 Y5:=mk _ _ an cf
def Kn:aM Pg 81 KB:=mk _ _ (ac Yw (ac ug (ac wV an))) cf
def vS:aM Pg 89 NG:=mk _ _ an cf
def I4:aM Pg 181 WU:=mk _ _ an cf
def Yx:aM Pg 131 Y6:=mk _ _ (ac I4 an) cf
def Sw:aM Pg 132 amt:=mk _ _ an cf
def Yy:aM Pg 180 Y7:=mk _ _ (ac Sw an) cf
def Sv:aM Pg 130 Tp:=mk _ _ (ac Sw (ac Yy an)) cf
def H0:aM Pg 82 Im:=mk _ _ (ac vS (ac Sv (ac Yx (ac Sw an)))) cf
def Ep:aM Pg 32 Y9:=mk _ _ (ac Kn (ac H0 an)) cf
def o9:aM Pg 88 Tq:=mk _ _ an cf
def Ax:∀n:Nat,aM Pg 201 (L' n)
 |0=>OR r8
 |n+1=>mk r8 (rU (jO n)) (ac o9 (ac wV (ac (Ax n) (ac I5 an)))) cf
def vR:aM Pg 201 NC:=(Ax fZ)
def Km:aM Pg 197 KA:=mk _ _ (ac o9 (ac wV (ac vR (ac I5 an)))) cf
def O3:aM Pg 200 Pt:=mk _ _ an cf
def kW:∀n:Nat,aM Pg 87 (Ma n)/\aM Pg 144 (OV n)/\aM Pg 198 (FK n)/\aM Pg 199 (Ki n)
 |0=>⟨OR r9,OR xD,OR r_,OR uH⟩
 |n+1=>⟨mk r9 (vV (dT n) (fc n) (dl n) (dM n)) (ac (kW n).2.1 an) cf,mk xD (tC (dT n) (fc n) (dl n) (dM n)) (ac o9 (ac wV (ac I3 (ac Km (ac (kW n).2.2.1 (ac (kW n).2.2.2 (ac O3 (ac vR an)))))))) cf,mk r_ (nF (dT n) (fc n) (dl n) (dM n)) (ac (kW n).1 (ac o9 (ac vR an))) cf,mk uH (uE (dT n) (fc n) (dl n) (dM n)) (ac (kW n).1 (ac o9 an)) cf⟩
def Mq:aM Pg 87 NF:=(kW fZ).1
def Sy:aM Pg 35 Tr:=mk _ _ (ac zR (ac Yz (ac Mq (ac o9 (ac vS an))))) cf
def yd:aM Pg 119 ai9:=mk _ _ an cf
def ahc:aM Pg 257 ai8:=mk _ _ an cf
def Mp:aM Pg 187 Y3:=mk _ _ (ac ahc an) cf
def O2:aM Pg 259 Ps:=mk _ _ an cf
def lX:aM Pg 190 ae5:=mk _ _ an cf
def ad1:aM Pg 191 ae4:=mk _ _ (ac vS (ac Mp (ac YA (ac O2 (ac Vq an))))) cf
def kr:aM Pg 136 WR:=mk _ _ (ac I4 (ac lX (ac ad1 an))) cf
def Yu:aM Pg 84 Y1:=mk _ _ an cf
def HZ:aM Pg 253 ae2:=mk _ _ an cf
def aau:aM Pg 255 ams:=mk _ _ an cf
def Yt:aM Pg 256 Y0:=mk _ _ (ac aau an) cf
def F0:aM Pg 185 To:=mk _ _ (ac yd (ac HZ (ac aau (ac Yt an)))) cf
def Su:aM Pg 189 Tn:=mk _ _ an cf
def St:aM Pg 188 Tl:=mk _ _ an cf
def lW:aM Pg 186 ae3:=mk _ _ an cf
def O1:aM Pg 189 Pr:=mk nj m6 an cf
def Mo:aM Pg 189 NA:= @aM.ro Pg 189 nj.pre nj.post.vs m6 lR (O1.holds rfl) rfl (λx _ h=>by rw[show lR x=av (m6 x) λy=>same y.2 x.2 (Z y.1) from rfl]at h;exact h)
def kJ:aM Pg 134 Y2:=mk _ _ (ac yd (ac F0 (ac lW (ac Mp (ac St (ac Mo an)))))) cf
def Ys:aM Pg 34 YZ:=mk _ _ (ac Ep (ac Yu an)) cf
def acz:aM Pg 182 ae0:=mk _ _ (ac Ep (ac HZ an)) cf
def acx:aM Pg 183 ady:=mk _ _ an cf
def U7:aM Pg 184 Ws:=mk _ _ (ac YB an) cf
def jC:aM Pg 133 Tk:=mk _ _ (ac acz (ac acx (ac U7 an))) cf
def acw:aM Pg 286 adx:=mk _ _ (ac HZ an) cf
def alx:aM Pg 287 amr:=mk _ _ an cf
def Ss:aM Pg 288 Tj:=mk _ _ an cf
def Yr:aM Pg 289 YY:=mk _ _ (ac yd (ac Su an)) cf
def acv:aM Pg 246 adw:=mk _ _ (ac kJ (ac F0 (ac acw (ac alx (ac Ss (ac Yr an)))))) cf
def Qb (t:TypeId):M Ty:=if aB t 186 then Z (.pr .un fg) else cf t
def Vp:aM Pg 135 WP:=mk _ _ (ac lW (ac lX an)) Qb
def Vf:aM Pg 83 WD:=mk _ _ (ac jC (ac kJ (ac Vp (ac kr an)))) Qb
def Vo:aM Pg 135 WO:=mk _ _ (ac lW (ac lX an)) Qb
def Ve:aM Pg 83 WC:=mk _ _ (ac jC (ac kJ (ac Vo (ac kr an)))) Qb
def Vn:aM Pg 135 WM:=mk _ _ (ac lW (ac lX an)) Qb
def Vd:aM Pg 83 WA:=mk _ _ (ac jC (ac kJ (ac Vn (ac kr an)))) Qb
def Vm:aM Pg 135 WL:=mk _ _ (ac lW (ac lX an)) Qb
def Vc:aM Pg 83 Wz:=mk _ _ (ac jC (ac kJ (ac Vm (ac kr an)))) Qb
def Vl:aM Pg 135 WJ:=mk _ _ (ac lW (ac lX an)) Qb
def Vb:aM Pg 83 Wy:=mk _ _ (ac jC (ac kJ (ac Vl (ac kr an)))) Qb
def Vk:aM Pg 135 WI:=mk _ _ (ac lW (ac lX an)) Qb
def Va:aM Pg 83 Wx:=mk _ _ (ac jC (ac kJ (ac Vk (ac kr an)))) Qb
def Vj:aM Pg 135 WH:=mk _ _ (ac lW (ac lX an)) Qb
def U':aM Pg 83 Ww:=mk dH re (ac jC (ac kJ (ac Vj (ac kr an)))) Qb
def Vi:aM Pg 135 WG:=mk _ _ (ac lW (ac lX an)) Qb
def U_:aM Pg 83 Wv:=mk _ _ (ac jC (ac kJ (ac Vi (ac kr an)))) Qb
def Vh:aM Pg 135 WF:=mk _ _ (ac lW (ac lX an)) Qb
def U9:aM Pg 83 Wu:=mk _ _ (ac jC (ac kJ (ac Vh (ac kr an)))) Qb
def Vg:aM Pg 135 WE:=mk _ _ (ac lW (ac lX an)) Qb
def U8:aM Pg 83 Wt:=mk _ _ (ac jC (ac kJ (ac Vg (ac kr an)))) Qb
def ad0:aM Pg 83 ae1:=(aM.orE (pre:=dH.pre) (post:=dH.post) (m:=re) (m':=(λx=>orE (q_ x) ((λx=>orE (oh x) ((λx=>orE (me x) ((λx=>orE (lm x) ((λx=>orE (ko x) ((λx=>orE (jI x) ((λx=>orE (iN x) ((λx=>orE (gY x) (gZ x)) x)) x)) x)) x)) x)) x)) x))) rfl U' (aM.orE (pre:=dH.pre) (post:=dH.post) (m:=q_) (m':=(λx=>orE (oh x) ((λx=>orE (me x) ((λx=>orE (lm x) ((λx=>orE (ko x) ((λx=>orE (jI x) ((λx=>orE (iN x) ((λx=>orE (gY x) (gZ x)) x)) x)) x)) x)) x)) x))) rfl U_ (aM.orE (pre:=dH.pre) (post:=dH.post) (m:=oh) (m':=(λx=>orE (me x) ((λx=>orE (lm x) ((λx=>orE (ko x) ((λx=>orE (jI x) ((λx=>orE (iN x) ((λx=>orE (gY x) (gZ x)) x)) x)) x)) x)) x))) rfl U9 (aM.orE (pre:=dH.pre) (post:=dH.post) (m:=me) (m':=(λx=>orE (lm x) ((λx=>orE (ko x) ((λx=>orE (jI x) ((λx=>orE (iN x) ((λx=>orE (gY x) (gZ x)) x)) x)) x)) x))) rfl U8 (aM.orE (pre:=dH.pre) (post:=dH.post) (m:=lm) (m':=(λx=>orE (ko x) ((λx=>orE (jI x) ((λx=>orE (iN x) ((λx=>orE (gY x) (gZ x)) x)) x)) x))) rfl Vc (aM.orE (pre:=dH.pre) (post:=dH.post) (m:=ko) (m':=(λx=>orE (jI x) ((λx=>orE (iN x) ((λx=>orE (gY x) (gZ x)) x)) x))) rfl Vb (aM.orE (pre:=dH.pre) (post:=dH.post) (m:=jI) (m':=(λx=>orE (iN x) ((λx=>orE (gY x) (gZ x)) x))) rfl Va (aM.orE (pre:=dH.pre) (post:=dH.post) (m:=iN) (m':=(λx=>orE (gY x) (gZ x))) rfl Ve (aM.orE (pre:=dH.pre) (post:=dH.post) (m:=gY) (m':=gZ) rfl Vd Vf)))))))))
def acy:aM Pg 33 adz:=mk _ _ (ac ad0 an) cf
def ahb:aM Pg 11 ai7:=mk _ _ (ac Ep (ac acy (ac Ys an))) cf
def qi:aM Pg 91 KK:=mk _ _ an cf
def H6:aM Pg 94 ae9:=mk _ _ an cf
def My:aM Pg 204 Zn:=mk _ _ an cf
def F9:aM Pg 203 TD:=mk _ _ an cf
def F_:aM Pg 93 TE:=mk _ _ an cf
def Vw:aM Pg 90 Xa:=mk _ _ an cf
def Pb:aM Pg 13 PK:=mk _ _ an cf
def wX:∀n:Nat,aM Pg 202 (HR n)
 |0=>OR pg
 |n+1=>mk pg (pa (iZ n)) (ac qi (ac H6 (ac (wX n) (ac F9 (ac My an))))) cf
def H7:aM Pg 202 Ir:=(wX fZ)
def F8:aM Pg 205 G2:=mk _ _ (ac wV an) cf
def kK:∀n:Nat,aM Pg 92 (FL n)/\aM Pg 145 (HQ n)/\aM Pg 206 (FM n)
 |0=>⟨OR nK,OR s9,OR sg⟩
 |n+1=>⟨mk nK (nH (dN n) (eW n) (eE n)) (ac (kK n).2.1 an) cf,mk s9 (o_ (dN n) (eW n) (eE n)) (ac qi (ac (kK n).1 (ac F_ (ac H6 (ac H7 (ac F9 (ac My (ac F8 (ac (kK n).2.2 an))))))))) cf,mk sg (nI (dN n) (eW n) (eE n)) (ac qi (ac (kK n).1 an)) cf⟩
def F7:aM Pg 92 G0:=(kK fZ).1
def Pa:aM Pg 36 PI:=mk _ _ (ac zR (ac Vw (ac qi (ac F7 (ac F_ (ac H6 an)))))) cf
def YK:aM Pg 12 Zo:=mk _ _ (ac Sy (ac Pa an)) cf
def Vx:aM Pg 5 Xb:=mk _ _ (ac ahb (ac YK (ac Pb an))) cf
end
end Go.Proofs.YtmmgdigihgnnnaaGreatDoor.AI
