/-
  Texts of the proof, part 2 of 6: what is used to prove the statement. No condition.
-/
import Derived.Test.YtloaobgmjdjhhaaGreatDoorEpochShadowsQ0
namespace Go.Proofs.YtloaobgmjdjhhaaGreatDoor.AI
open Go.RowKit
set_option maxRecDepth 100000
set_option maxHeartbeats 4000000
set_option linter.unusedVariables false
set_option linter.unusedSimpArgs false
open _root_.Bool renaming true→J,false→af
open _root_.Int renaming ofNat_eq_natCast→ak,ofNat→aM,toNat→aQ,reduceEq→aU,reduceNeg→bp,toNat_natCast→bY
open _root_.List renaming length→ai,replicate→aA,range→bS,length_cons→cf,length_singleton→dc,take→dR,length_nil→fO,cons_append→gE,take_succ_cons→wL,foldl_cons→xO
open _root_.Nat renaming beq→aB,blt→gC
open _root_.Option renaming some→M,none→D,map_some→ct,getD_some→vM
open _root_.Prod renaming p2→aY,p3→bi,p4→bu,q3→bO,p5→cF,q5→cY,q4→dG,p6→dZ,q6→fH,q7→ky,p7→kY,q8→qJ,p8→AG,p9→C7,p10→EW
open _root_.Sum renaming inr→bQ,inl→pn
noncomputable section
abbrev Kd0:Ty:=(.st (.pr vK (.pr vK (.pr vK (.pr vK (.pr vK (.pr vK (.pr (.sl aL) (.pr vK (.sl aL))))))))))
abbrev Kd1:Ty:=(.st (.pr .bool .bool))
abbrev Yd0:=((Y η)×(Y η)×(Y η)×(Y η)×(Y η)×(Y η)×(η)×(Y η)×η)
abbrev Yd1:=(η×(Y η)×(Y η)×(Y η)×(Y η)×(Y η)×(Y η)×(Y η)×(η)×η)
abbrev Yd2:=(Int×jA×(θ)×Y eB)
abbrev Yd3:=(Int×oJ×m7×(Y j9)×dC×dC×Y π)
abbrev Yd4:=(fD×Int×Int×Int×Int×Int×(η)×η)
abbrev Yd6:=(Int×(θ)×Y eB)
def Nz {α R:Type} [DecidableEq α] (a b:α) (r:I R):I R:=if a=b then r else D
theorem Rx {α R:Type} [DecidableEq α] (a b:α) (r:I R):Nz a b r=same a b r:=by unfold Nz same;by_cases h:a=b<;>simp[h]
theorem Rw {α R:Type} [DecidableEq α] {a b:α} (h:a=b) (r:I R):Nz a b r=r:=by unfold Nz;rw[aC h]
def gu (x:η×Int):I (Int):=
 (jn (bx x.2 0 (aD J) (aD (c9 (aX x.1) x.2))) λa=>(aF a (M 0) (wQ x.2 x.1 (M (aI (T:=aL) x.1 x.2)))))
def v7 (it:zw) (x:η×η):I η:=
 (bC (c9 0 (fM (aX x.1) (aX x.2))&&c9 (fM (aX x.1) (aX x.2)) (fM (aX x.1) (aX x.2))&&a8 (aQ (fM (aX x.1) (aX x.2))) 8) (it (Int×η) _ (λa=>(bx a.1 (aM (ai (aA (aQ (fM (aX x.1) (aX x.2))) (0:Int)))) (au (gu (x.1,a.1)) λz=>(au (gu (x.2,a.1)) λs=>(ck (eX a.1 (ai a.2)) (cR ((cL a.1),(cK a.2 a.1 (fM z s))))))) (aD a.2))) (0,(aA (aQ (fM (aX x.1) (aX x.2))) (0:Int)))))
def zO (x:η×η):I η:=v7 @iter x
def kF (x:η×η):I η:=v7 @gx x
def sI (x:η×Int):I (Int):=
 (jn (bx x.2 0 (aD J) (aD (c9 (aX x.1) x.2))) λa=>(aF a (M 0) (wQ x.2 x.1 (M (aI (T:=aL) x.1 x.2)))))
def FD (it:zw) (x:η×η):I η:=
 (bC (c9 0 (fM (aX x.1) (aX x.2))&&c9 (fM (aX x.1) (aX x.2)) (fM (aX x.1) (aX x.2))&&a8 (aQ (fM (aX x.1) (aX x.2))) 8) (it (Int×η) _ (λa=>(bx a.1 (aM (ai (aA (aQ (fM (aX x.1) (aX x.2))) (0:Int)))) (au (sI (x.1,a.1)) λz=>(au (sI (x.2,a.1)) λs=>(ck (eX a.1 (ai a.2)) (cR ((cL a.1),(cK a.2 a.1 (fM z s))))))) (aD a.2))) (0,(aA (aQ (fM (aX x.1) (aX x.2))) (0:Int)))))
def Ff (x:η×η):I η:=FD @iter x
def qn (x:η×η):I η:=FD @gx x
def Py (x:η):I η:=
 (aF (aB (ai x) 0) (F8 (M ([]:η)) (bC (a8 (ai ([]:η)+ai x) 8) (M (([]:η)++x)))) (bC (a8 (ai ([]:η)+ai x) 8) (M (([]:η)++x))))
def CA (x:η):I η:=chk (a8 (ai x) 8) λ_=>M x
def ye (it:zw) (x:Y η):I (Y η):=
 (bC (c9 0 (aX x)&&c9 (aX x) (aX x)&&a8 (aQ (aX x)) 24) (it (Int×Y η) _ (λa=>(bx a.1 (aX x) (wQ a.1 x (au (CA (aI (T:=(.sl aL)) x a.1)) λs=>(ck (eX a.1 (ai a.2)) (cR ((cL a.1),(cK a.2 a.1 s)))))) (aD a.2))) (0,(aA (aQ (aX x)) ([]:η)))))
def Cr (x:Y η):I (Y η):=ye @iter x
def iE (x:Y η):I (Y η):=ye @gx x
def JB (x:η):I η:=
 (aF (aB (ai x) 0) (F8 (M ([]:η)) (bC (a8 (ai ([]:η)+ai x) 8) (M (([]:η)++x)))) (bC (a8 (ai ([]:η)+ai x) 8) (M (([]:η)++x))))
def pA (x:η):I η:=chk (a8 (ai x) 8) λ_=>M x
def uW (x:(Y η)×(Y η)×(Y η)×(Y η)×(Y η)×(Y η)×(η)×(Y η)×η):I (η×(Y η)×(Y η)×(Y η)×(Y η)×(Y η)×(Y η)×(Y η)×η):=
 (au (iE x.1) λy1=>(au (iE x.2.1) λy2=>(au (iE x.p2) λZ=>(au (iE x.p3) λU=>(au (iE x.p4) λL=>(au (iE x.p5) λA=>(au (pA x.p6) λz=>(au (iE x.p7) λs=>(au (pA x.q8) λa=>(M (z,y1,y2,Z,U,L,A,s,a)))))))))))
def uz (x:Int×Y η):I (η×Y η):=
 (jn (bx x.1 0 (aD (J,x.2)) (aD ((c9 (aX x.2) x.1),x.2))) λa=>(aF a.1 (M (([]:η),a.2)) (ck (eX x.1 (ai a.2)) (M ((aI (T:=(.sl aL)) a.2 x.1),a.2)))))
def uX (x:jM×(η)×fD×(Y η)×(Y η)×(Y η)×(Y η)×(Y η)×(Y η)×(Y η)×η):I ((Y η)×jM×(η)×fD×(Y η)×(Y η)×(Y η)×(Y η)×(Y η)×(Y η)×(Y η)×η):=
 (be x.1.2.1 1 (ck (eX x.1.1 (ai x.p4)) (M ([(aI (T:=(.sl aL)) x.p4 x.1.1)],(x.1.1,x.1.2.1,x.1.p2,x.1.p3,x.1.p4,x.1.p5,x.1.q6),x.2.1,(x.p2.1,x.p2.2.1,x.p2.p2,x.p2.p3,x.p2.p4,x.p2.q5),x.p3,x.p4,x.p5,x.p6,x.p7,x.p8,x.p9,x.q10))) (be x.1.2.1 21 (ck (eX x.1.p2 (ai x.p3)) (M ([(aI (T:=(.sl aL)) x.p3 x.1.p2)],(x.1.1,x.1.2.1,x.1.p2,x.1.p3,x.1.p4,x.1.p5,x.1.q6),x.2.1,(x.p2.1,x.p2.2.1,x.p2.p2,x.p2.p3,x.p2.p4,x.p2.q5),x.p3,x.p4,x.p5,x.p6,x.p7,x.p8,x.p9,x.q10))) (jn (be x.1.2.1 6 (aD ((decide ((x.1.2.1:Int)=6)),(x.1.1,x.1.2.1,x.1.p2,x.1.p3,x.1.p4,x.1.p5,x.1.q6),x.2.1,(x.p2.1,x.p2.2.1,x.p2.p2,x.p2.p3,x.p2.p4,x.p2.q5),x.p3,x.p4,x.p5,x.p6,x.p7,x.p8,x.p9,x.q10)) (aD ((decide ((x.1.2.1:Int)=10)),(x.1.1,x.1.2.1,x.1.p2,x.1.p3,x.1.p4,x.1.p5,x.1.q6),x.2.1,(x.p2.1,x.p2.2.1,x.p2.p2,x.p2.p3,x.p2.p4,x.p2.q5),x.p3,x.p4,x.p5,x.p6,x.p7,x.p8,x.p9,x.q10))) λa=>(aF a.1 (ck (eX a.2.1.p2 (ai a.p6)) (ck (eX a.2.1.p2 (ai a.p7)) (M ([(aI (T:=(.sl aL)) a.p6 a.2.1.p2),(aI (T:=(.sl aL)) a.p7 a.2.1.p2)],(a.2.1.1,a.2.1.2.1,a.2.1.p2,a.2.1.p3,a.2.1.p4,a.2.1.p5,a.2.1.q6),a.p2,(a.p3.1,a.p3.2.1,a.p3.p2,a.p3.p3,a.p3.p4,a.p3.q5),a.p4,a.p5,a.p6,a.p7,a.p8,a.p9,a.p10,a.q11)))) (be x.1.2.1 8 (ck (eX a.2.1.p2 (ai a.p6)) (M ([(aI (T:=(.sl aL)) a.p6 a.2.1.p2)],(a.2.1.1,a.2.1.2.1,a.2.1.p2,a.2.1.p3,a.2.1.p4,a.2.1.p5,a.2.1.q6),a.p2,(a.p3.1,a.p3.2.1,a.p3.p2,a.p3.p3,a.p3.p4,a.p3.q5),a.p4,a.p5,a.p6,a.p7,a.p8,a.p9,a.p10,a.q11))) (be x.1.2.1 17 (wQ a.2.1.p2 a.p3.p2 (au (uz ((aI (T:=mn) a.p3.p2 a.2.1.p2).2,a.p6)) λz=>(bC (aB (ai a.p6) (ai z.2)&&J) (au (uz ((aI (T:=mn) a.p3.p2 a.2.1.p2).2,a.p7)) λs=>(bC (aB (ai a.p7) (ai s.2)&&J) (ck (eX a.2.1.1 (ai a.p10)) (M ([z.1,s.1,(aI (T:=(.sl aL)) a.p10 a.2.1.1)],(a.2.1.1,a.2.1.2.1,a.2.1.p2,a.2.1.p3,a.2.1.p4,a.2.1.p5,a.2.1.q6),a.p2,(a.p3.1,a.p3.2.1,a.p3.p2,a.p3.p3,a.p3.p4,a.p3.q5),a.p4,a.p5,z.2,s.2,a.p8,a.p9,a.p10,a.q11)))))))) (be x.1.2.1 3 (ck (eX a.2.1.p2 (ai a.p8)) (M ([(aI (T:=(.sl aL)) a.p8 a.2.1.p2)],(a.2.1.1,a.2.1.2.1,a.2.1.p2,a.2.1.p3,a.2.1.p4,a.2.1.p5,a.2.1.q6),a.p2,(a.p3.1,a.p3.2.1,a.p3.p2,a.p3.p3,a.p3.p4,a.p3.q5),a.p4,a.p5,a.p6,a.p7,a.p8,a.p9,a.p10,a.q11))) (be x.1.2.1 23 (ck (eX a.2.1.p2 (ai a.p9)) (M ([(aI (T:=(.sl aL)) a.p9 a.2.1.p2)],(a.2.1.1,a.2.1.2.1,a.2.1.p2,a.2.1.p3,a.2.1.p4,a.2.1.p5,a.2.1.q6),a.p2,(a.p3.1,a.p3.2.1,a.p3.p2,a.p3.p3,a.p3.p4,a.p3.q5),a.p4,a.p5,a.p6,a.p7,a.p8,a.p9,a.p10,a.q11))) (be x.1.2.1 12 (M ([a.p2],(a.2.1.1,a.2.1.2.1,a.2.1.p2,a.2.1.p3,a.2.1.p4,a.2.1.p5,a.2.1.q6),a.p2,(a.p3.1,a.p3.2.1,a.p3.p2,a.p3.p3,a.p3.p4,a.p3.q5),a.p4,a.p5,a.p6,a.p7,a.p8,a.p9,a.p10,a.q11)) (M (([]:Y η),(a.2.1.1,a.2.1.2.1,a.2.1.p2,a.2.1.p3,a.2.1.p4,a.2.1.p5,a.2.1.q6),a.p2,(a.p3.1,a.p3.2.1,a.p3.p2,a.p3.p3,a.p3.p4,a.p3.q5),a.p4,a.p5,a.p6,a.p7,a.p8,a.p9,a.p10,a.q11)))))))))))
def AX (it:zw) (x:oJ×m7×(Y j9)×dC×dC×Y π):I Yd0:=
 (ck (c9 0 (aX x.p4)&&c9 (aX x.p4) (aX x.p4)&&a8 (aQ (aX x.p4)) 24) (ck (c9 0 (aX x.2.1)&&c9 (aX x.2.1) (aX x.2.1)&&a8 (aQ (aX x.2.1)) 24) (bC (c9 0 (aX x.1)&&c9 (aX x.1) (aX x.1)&&a8 (aQ (aX x.1)) 24) (bC (c9 0 (aX x.p3)&&c9 (aX x.p3) (aX x.p3)&&a8 (aQ (aX x.p3)) 24) (bC (c9 0 (aX x.p4)&&c9 (aX x.p4) (aX x.p4)&&a8 (aQ (aX x.p4)) 24) (bC (c9 0 (aX x.p4)&&c9 (aX x.p4) (aX x.p4)&&a8 (aQ (aX x.p4)) 8) (it (Int×(Y η)×(Y η)×(Y η)×(Y η)×(Y η)×(Y η)×(Y η)×η) _ (λa=>(bx a.1 (aM (ai (aA (aQ (aX x.p4)) (0:Int)))) (ck (eX a.1 (ai a.q8)) (cR ((cL a.1),a.2.1,a.p2,a.p3,a.p4,a.p5,a.p6,a.p7,(cK a.q8 a.1 (-1))))) (aD (a.2.1,a.p2,a.p3,a.p4,a.p5,a.p6,([]:η),a.p7,a.q8)))) (0,(aA (aQ (aX x.p4)) ([]:η)),(aA (aQ (aX x.p4)) ([]:η)),(aA (aQ (aX x.2.1)) ([]:η)),(aA (aQ (aX x.2.1)) ([]:η)),(aA (aQ (aX x.1)) ([]:η)),(aA (aQ (aX x.p3)) ([]:η)),(aA (aQ (aX x.p4)) ([]:η)),(aA (aQ (aX x.p4)) (0:Int))))))))))
def Fi (x:oJ×m7×(Y j9)×dC×dC×Y π):I Yd0:=AX @iter x
def qw (x:oJ×m7×(Y j9)×dC×dC×Y π):I Yd0:=AX @gx x
def s9 (x:η×Int):I η:=
 (jn (iR 0 x.2 (aD (fR x.2 4)) (aD af)) λz=>(jn (aF z (aD (fM (aX x.1) (cL x.2))) (aD (aX x.1))) λa=>(bC (c9 0 a&&c9 a a&&a8 (aQ a) 8) (jn (jn (aF z (ck (eX x.2 (ai (OJ (aA (aQ a) (0:Int)) x.1))) (aD ((fR (aI (T:=aL) (OJ (aA (aQ a) (0:Int)) x.1) x.2) 9223372036854775807),(OJ (aA (aQ a) (0:Int)) x.1)))) (aD (af,(OJ (aA (aQ a) (0:Int)) x.1)))) λs=>(aF s.1 (ck (eX x.2 (ai s.2)) (ck (eX x.2 (ai s.2)) (aD (cK s.2 x.2 (bm .i64 ((aI (T:=aL) s.2 x.2)+1)))))) (aD s.2))) λA=>(M A)))))
def xh (x:η):I (η×η):=
 (bC (a8 (ai ([]:η)+ai x) 8) (M ((([]:η)++x),x)))
def vT (x:η):I η:=au (xh x) λy=>Nz y.2 x (M y.1)
def IQ (it:zw) (x:η×η):I (η×η):=
 (bC (c9 0 (fM (aX x.1) (aX x.2))&&c9 (fM (aX x.1) (aX x.2)) (fM (aX x.1) (aX x.2))&&a8 (aQ (fM (aX x.1) (aX x.2))) 8) (it (Int×(η)×η) _ (λa=>(bx a.1 (aM (ai (aA (aQ (fM (aX x.1) (aX x.2))) (0:Int)))) (au (gu (x.1,a.1)) λz=>(au (gu (a.2.1,a.1)) λs=>(ck (eX a.1 (ai a.2.2)) (cR ((cL a.1),a.2.1,(cK a.2.2 a.1 (fM z s))))))) (aD (a.2.2,a.2.1)))) (0,x.2,(aA (aQ (fM (aX x.1) (aX x.2))) (0:Int)))))
def Pt (x:η×η):I (η×η):=IQ @iter x
def ul (x:η×η):I (η×η):=IQ @gx x
def Cz (x:η×η):I η:=au (ul x) λy=>Nz y.2 x.2 (M y.1)
def mg (x:Int×(Y η)×η):I ((Y η)×η):=
 (jn (iR 0 x.1 (aD ((fR x.1 (aX x.2.1)),x.2.1,x.2.2)) (aD (af,x.2.1,x.2.2))) λa=>(aF a.1 (ck (eX x.1 (ai a.2.1)) (au (Cz ((aI (T:=(.sl aL)) a.2.1 x.1),a.2.2)) λs=>(ck (eX x.1 (ai a.2.1)) (M ((cK a.2.1 x.1 s),a.2.2))))) (M (a.2.1,a.2.2))))
def xd (x:Int×(η)×(Y η)×(Y η)×(Y η)×(Y η)×(Y η)×(Y η)×(Y η)×(η)×η):I Yd1:=
 (au (vT x.q10) λa=>(ck (eX x.1 (ai x.p8)) (ck (eX x.1 (ai x.p9)) (M (x.2.1,x.p2,x.p3,x.p4,x.p5,x.p6,x.p7,(cK x.p8 x.1 a),(cK x.p9 x.1 (-1)),x.q10)))))
def AW (it:zw) (x:Yd4×(η)×(Y η)×(Y η)×(Y η)×(Y η)×(Y η)×(Y η)×(Y η)×(η)×η):I Yd1:=
 (au (vT x.q10) λy1=>(ck (eX x.1.2.1 (ai x.p2)) (jn (α:=(η)×(Y η)×(Y η)×(Y η)×(Y η)×(Y η)×(Y η)×(Y η)×(η)×η) (be x.1.p2 20 (au (vT x.q10) λy3=>(ck (eX x.1.p3 (ai x.p3)) (aD (x.2.1,(cK x.p2 x.1.2.1 y1),(cK x.p3 x.1.p3 y3),x.p4,x.p5,x.p6,x.p7,x.p8,x.p9,x.q10)))) (jn (be x.1.p2 7 (aD ((decide ((x.1.p2:Int)=7)),x.2.1,(cK x.p2 x.1.2.1 y1),x.p3,x.p4,x.p5,x.p6,x.p7,x.p8,x.p9,x.q10,(x.1.1.1,x.1.1.2.1,x.1.1.p2,x.1.1.p3,x.1.1.p4,x.1.1.q5),x.1.2.1,x.1.p2,x.1.p3,x.1.p4,x.1.p5,x.1.p6,x.1.q7)) (aD ((decide ((x.1.p2:Int)=11)),x.2.1,(cK x.p2 x.1.2.1 y1),x.p3,x.p4,x.p5,x.p6,x.p7,x.p8,x.p9,x.q10,(x.1.1.1,x.1.1.2.1,x.1.1.p2,x.1.1.p3,x.1.1.p4,x.1.1.q5),x.1.2.1,x.1.p2,x.1.p3,x.1.p4,x.1.p5,x.1.p6,x.1.q7))) λa=>(aF a.1 (au (mg (a.p14,a.p4,a.p10)) λy5=>(bC (aB (ai a.p10) (ai y5.2)&&(aB (ai a.p4) (ai y5.1)&&J)) (aD (a.2.1,a.p2,a.p3,y5.1,a.p5,a.p6,a.p7,a.p8,a.p9,y5.2)))) (be x.1.p2 9 (au (mg (a.p14,a.p5,a.p10)) λy6=>(bC (aB (ai a.p10) (ai y6.2)&&(aB (ai a.p5) (ai y6.1)&&J)) (aD (a.2.1,a.p2,a.p3,a.p4,y6.1,a.p6,a.p7,a.p8,a.p9,y6.2)))) (be x.1.p2 16 (ck (eX a.p12 (ai a.p9)) (wQ a.p14 a.p11.p2 (au (mg ((aI (T:=mn) a.p11.p2 a.p14).2,a.p4,a.p10)) λy7=>(bC (aB (ai a.p10) (ai y7.2)&&(aB (ai a.p4) (ai y7.1)&&J)) (aD (a.2.1,a.p2,a.p3,y7.1,a.p5,a.p6,a.p7,a.p8,(cK a.p9 a.p12 a.p14),y7.2)))))) (be x.1.p2 4 (wQ a.p14 a.p11.1 (aF (((((aI (T:=kX) a.p11.1 a.p14).2).2).2).1) (au (mg (a.p14,a.p6,a.p10)) λy8=>(bC (aB (ai a.p10) (ai y8.2)&&(aB (ai a.p6) (ai y8.1)&&J)) (aD (a.2.1,a.p2,a.p3,a.p4,a.p5,y8.1,a.p7,a.p8,a.p9,y8.2)))) (aD (a.2.1,a.p2,a.p3,a.p4,a.p5,a.p6,a.p7,a.p8,a.p9,a.p10)))) (be x.1.p2 22 (au (mg (a.p14,a.p7,a.p10)) λy9=>(bC (aB (ai a.p10) (ai y9.2)&&(aB (ai a.p7) (ai y9.1)&&J)) (aD (a.2.1,a.p2,a.p3,a.p4,a.p5,a.p6,y9.1,a.p8,a.p9,y9.2)))) (be x.1.p2 13 (au (Cz (a.2.1,a.p10)) λy10=>(aD (y10,a.p2,a.p3,a.p4,a.p5,a.p6,a.p7,a.p8,a.p9,a.p10))) (be x.1.p2 18 (jn (iR 0 a.p15 (aD ((fR a.p15 (aX a.p8)),a.2.1,a.p2,a.p3,a.p4,a.p5,a.p6,a.p7,a.p8,a.p9,a.p10,a.p12,a.p13,a.p14,a.p15,a.p16,a.p17,a.q18)) (aD (af,a.2.1,a.p2,a.p3,a.p4,a.p5,a.p6,a.p7,a.p8,a.p9,a.p10,a.p12,a.p13,a.p14,a.p15,a.p16,a.p17,a.q18))) λz=>(aF z.1 (au (xd (z.p14,z.2.1,z.p2,z.p3,z.p4,z.p5,z.p6,z.p7,z.p8,z.p9,z.p10)) λL=>(bC (aB (ai z.p10) (ai L.q9)&&(aB (ai z.p9) (ai L.p8)&&(aB (ai z.p8) (ai L.p7)&&(aB (ai z.p7) (ai L.p6)&&(aB (ai z.p6) (ai L.p5)&&(aB (ai z.p5) (ai L.p4)&&(aB (ai z.p4) (ai L.p3)&&(aB (ai z.p3) (ai L.p2)&&(aB (ai z.p2) (ai L.2.1)&&J))))))))) (aD (L.1,L.2.1,L.p2,L.p3,L.p4,L.p5,L.p6,L.p7,L.p8,L.q9)))) (aD (z.2.1,z.p2,z.p3,z.p4,z.p5,z.p6,z.p7,z.p8,z.p9,z.p10)))) (be x.1.p2 19 (it (Int×(η)×(Y η)×(Y η)×(Y η)×(Y η)×(Y η)×(Y η)×(Y η)×(η)×(η)×Int×Int×Int×Int×Int×(η)×η) _ (λs=>(bx s.1 (aX a.p9) (jn (ck (eX s.1 (ai s.p9)) (be (aI (T:=aL) s.p9 s.1) s.p13 (au (xd (s.1,s.2.1,s.p2,s.p3,s.p4,s.p5,s.p6,s.p7,s.p8,s.p9,s.p10)) λA=>(bC (aB (ai s.p10) (ai A.q9)&&(aB (ai s.p9) (ai A.p8)&&(aB (ai s.p8) (ai A.p7)&&(aB (ai s.p7) (ai A.p6)&&(aB (ai s.p6) (ai A.p5)&&(aB (ai s.p5) (ai A.p4)&&(aB (ai s.p4) (ai A.p3)&&(aB (ai s.p3) (ai A.p2)&&(aB (ai s.p2) (ai A.2.1)&&J))))))))) (aD (A.1,A.2.1,A.p2,A.p3,A.p4,A.p5,A.p6,A.p7,A.p8,A.q9,s.p11,s.p12,s.p13,s.p14,s.p15,s.p16,s.q17)))) (aD (s.2.1,s.p2,s.p3,s.p4,s.p5,s.p6,s.p7,s.p8,s.p9,s.p10,s.p11,s.p12,s.p13,s.p14,s.p15,s.p16,s.q17)))) λU=>(cR ((cL s.1),U.1,U.2.1,U.p2,U.p3,U.p4,U.p5,U.p6,U.p7,U.p8,U.p9,U.p10,U.p11,U.p12,U.p13,U.p14,U.p15,U.q16))) (aD (bQ (s.2.1,s.p2,s.p3,s.p4,s.p5,s.p6,s.p7,s.p8,s.p9,s.p10))))) (0,a.2.1,a.p2,a.p3,a.p4,a.p5,a.p6,a.p7,a.p8,a.p9,a.p10,a.p12,a.p13,a.p14,a.p15,a.p16,a.p17,a.q18)) (aD (a.2.1,a.p2,a.p3,a.p4,a.p5,a.p6,a.p7,a.p8,a.p9,a.p10)))))))))))) λZ=>(M (Z.1,Z.2.1,Z.p2,Z.p3,Z.p4,Z.p5,Z.p6,Z.p7,Z.p8,Z.q9)))))
def Fh (x:Yd4×(η)×(Y η)×(Y η)×(Y η)×(Y η)×(Y η)×(Y η)×(Y η)×(η)×η):I Yd1:=AW @iter x
def r9 (x:Yd4×(η)×(Y η)×(Y η)×(Y η)×(Y η)×(Y η)×(Y η)×(Y η)×(η)×η):I Yd1:=AW @gx x
def DR (it:zw) (x:fD×Yd0×Int×Int×Int×Int×Int×(η)×η):I (Yd0×η):=
 (au (uW (x.2.1.1,x.2.1.2.1,x.2.1.p2,x.2.1.p3,x.2.1.p4,x.2.1.p5,x.2.1.p6,x.2.1.p7,x.2.1.q8)) λA=>(ck (eX x.p2 (ai A.2.1)) (au (uX ((x.p2,x.p3,x.p4,x.p5,x.p6,x.p7,x.q8),A.1,(x.1.1,x.1.2.1,x.1.p2,x.1.p3,x.1.p4,x.1.q5),A.2.1,A.p2,A.p3,A.p4,A.p5,A.p6,A.p7,A.q8)) λs=>(bC (aB (ai A.q8) (ai s.q11)&&(aB (ai A.p7) (ai s.p10)&&(aB (ai A.p6) (ai s.p9)&&(aB (ai A.p5) (ai s.p8)&&(aB (ai A.p4) (ai s.p7)&&(aB (ai A.p3) (ai s.p6)&&(aB (ai A.p2) (ai s.p5)&&(aB (ai A.2.1) (ai s.p4)&&J)))))))) (it (Int×fD×jM×(η)×(η)×(Y η)×(Y η)×(Y η)×(Y η)×(Y η)×(Y η)×(Y η)×η) _ (λa=>(bx a.1 (aX s.1) (wQ a.1 s.1 (au (kF (a.p4,(aI (T:=(.sl aL)) s.1 a.1))) λU=>(cR ((cL a.1),(a.2.1.1,a.2.1.2.1,a.2.1.p2,a.2.1.p3,a.2.1.p4,a.2.1.q5),(a.p2.1,a.p2.2.1,a.p2.p2,a.p2.p3,a.p2.p4,a.p2.p5,a.p2.q6),a.p3,U,a.p5,a.p6,a.p7,a.p8,a.p9,a.p10,a.p11,a.q12)))) (au (au (s9 (a.p4,a.p2.1)) λL=>(au (r9 (((a.2.1.1,a.2.1.2.1,a.2.1.p2,a.2.1.p3,a.2.1.p4,a.2.1.q5),a.p2.1,a.p2.2.1,a.p2.p2,a.p2.p3,a.p2.p4,a.p2.p5,a.p2.q6),a.p3,a.p5,a.p6,a.p7,a.p8,a.p9,a.p10,a.p11,a.q12,L)) λz=>(bC (aB (ai L) (ai z.q9)&&(aB (ai a.q12) (ai z.p8)&&(aB (ai a.p11) (ai z.p7)&&(aB (ai a.p10) (ai z.p6)&&(aB (ai a.p9) (ai z.p5)&&(aB (ai a.p8) (ai z.p4)&&(aB (ai a.p7) (ai z.p3)&&(aB (ai a.p6) (ai z.p2)&&(aB (ai a.p5) (ai z.2.1)&&J))))))))) (M ((z.2.1,z.p2,z.p3,z.p4,z.p5,z.p6,z.1,z.p7,z.p8),z.q9))))) λr=>M (bQ r)))) (0,(s.p3.1,s.p3.2.1,s.p3.p2,s.p3.p3,s.p3.p4,s.p3.q5),(s.2.1.1,s.2.1.2.1,s.2.1.p2,s.2.1.p3,s.2.1.p4,s.2.1.p5,s.2.1.q6),s.p2,(aI (T:=(.sl aL)) A.2.1 x.p2),s.p4,s.p5,s.p6,s.p7,s.p8,s.p9,s.p10,s.q11))))))
def Jw (x:fD×Yd0×Int×Int×Int×Int×Int×(η)×η):I (Yd0×η):=DR @iter x
def s8 (x:fD×Yd0×Int×Int×Int×Int×Int×(η)×η):I (Yd0×η):=DR @gx x
def AQ (x:η):I η:=
 (bC (a8 (ai (x:η)) 8) (M x))
def rR (x:η):I η:=
 (bC (a8 (ai (x:η)) 8) (M x))
def AU (it:zw) (x:η×Int):I η:=
 (au (rR x.1) λz=>(jn (bx x.2 0 (aD (J,z)) (aD ((c9 4 x.2),z))) λs=>(aF s.1 (M s.2) (it η _ (λa=>(iR (aX a) x.2 (bC (a8 (ai a+ai ([0])) 8) (cR (a++([0])))) (au (jn (ck (eX x.2 (ai a)) (bx (aI (T:=aL) a x.2) 9223372036854775807 (ck (eX x.2 (ai a)) (ck (eX x.2 (ai a)) (aD (cK a x.2 (bm .i64 ((aI (T:=aL) a x.2)+1)))))) (aD a))) λA=>(M A)) λr=>M (bQ r)))) s.2))))
def Fe (x:η×Int):I η:=AU @iter x
def qm (x:η×Int):I η:=AU @gx x
def DQ (it:zw) (x:η×η):I (Bool):=
 (it (Int) _ (λa=>(bx a (fM (aX x.1) (aX x.2)) (au (sI (x.1,a)) λz=>(au (sI (x.2,a)) λs=>(bx s z (aD af) (cR (cL a))))) (aD J))) 0)
def Jv (x:η×η):I (Bool):=DQ @iter x
def o_ (x:η×η):I (Bool):=DQ @gx x
def rP (x:η×η):I (Bool):=
 (jn (au (o_ (x.1,x.2)) λs=>(aF s (au (o_ (x.2,x.1)) λa=>(aD a)) (aD af))) λz=>(M z))
def rQ (x:fD×Int):I (Int):=
 (jn (bx x.2 0 (aD (J,x.1.1,x.1.2.1,x.1.p2,x.1.p3,x.1.p4,x.1.q5)) (aD ((c9 (aX x.1.p2) x.2),x.1.1,x.1.2.1,x.1.p2,x.1.p3,x.1.p4,x.1.q5))) λa=>(aF a.1 (M (-1)) (wQ x.2 a.p3 (M ((aI (T:=mn) a.p3 x.2).2)))))
def pa (x:fD×Int×Int×Int×Int×Int×(η)×η):I (Int×Bool):=
 (jn (be x.p2 6 (aD ((decide ((x.p2:Int)=6)),(x.1.1,x.1.2.1,x.1.p2,x.1.p3,x.1.p4,x.1.q5),x.2.1,x.p2,x.p3,x.p4,x.p5,x.p6,x.q7)) (aD ((decide ((x.p2:Int)=10)),(x.1.1,x.1.2.1,x.1.p2,x.1.p3,x.1.p4,x.1.q5),x.2.1,x.p2,x.p3,x.p4,x.p5,x.p6,x.q7))) λa=>(aF a.1 (M (a.p4,af)) (be x.p2 8 (M (a.p4,J)) (be x.p2 17 (au (rQ ((a.2.1.1,a.2.1.2.1,a.2.1.p2,a.2.1.p3,a.2.1.p4,a.2.1.q5),a.p4)) λs=>(M (s,af))) (M ((-1),af))))))
def o9 (x:fD×Int×Int×Int×Int×Int×(η)×η):I (Int×Bool):=
 (jn (be x.p2 7 (aD ((decide ((x.p2:Int)=7)),(x.1.1,x.1.2.1,x.1.p2,x.1.p3,x.1.p4,x.1.q5),x.2.1,x.p2,x.p3,x.p4,x.p5,x.p6,x.q7)) (aD ((decide ((x.p2:Int)=11)),(x.1.1,x.1.2.1,x.1.p2,x.1.p3,x.1.p4,x.1.q5),x.2.1,x.p2,x.p3,x.p4,x.p5,x.p6,x.q7))) λa=>(aF a.1 (M (a.p4,af)) (be x.p2 9 (M (a.p4,J)) (be x.p2 16 (au (rQ ((a.2.1.1,a.2.1.2.1,a.2.1.p2,a.2.1.p3,a.2.1.p4,a.2.1.q5),a.p4)) λs=>(M (s,af))) (M ((-1),af))))))
def sj (it:zw) (x:ζ):I (Bool):=
 (lt (aI (T:=(.st (.pr .str (.pr .str (.pr .str (.pr .str (.pr .str (.pr .str (.pr .str (.pr .str (.pr .str (.pr .str (.pr .str (.pr .str (.pr .str (.pr .str (.pr .str (.pr .str (.pr .str (.pr .str (.pr .str (.pr .str (.pr .str .str))))))))))))))))))))))) ([kwV]) 0) λa=>(it (Int) _ (λs=>(bx s 22 (bC (c9 0 s&&fR s 22) (lt (aI (T:=.str) [a.1,a.2.1,a.p2,a.p3,a.p4,a.p5,a.p6,a.p7,a.p8,a.p9,a.p10,a.p11,a.p12,a.p13,a.p14,a.p15,a.p16,a.p17,a.p18,a.p19,a.p20,a.q21] s) λz=>(aF (decide ((x:ζ)=z)) (aD J) (cR (cL s))))) (aD af))) 0))
def rO (x:ζ):I (Bool):=sj @iter x
def lx (x:ζ):I (Bool):=sj @gx x
def wD (it:zw) (x:ζ):I (Bool):=
 (jn (bx (aX x) 1 (aD J) (bx 12 (aX x) (aD J) (au (lx x) λA=>(aD A)))) λU=>(aF U (M af) (it (Y (j9×Unit)) _ (λa=>(aF (gC (PD a) (ai (Rd a))) (bC (fR (Be (Rd a) (aM (PD a))) 128) (jn (α:=Y (j9×Unit)) (jn (α:=Bool×Y (j9×Unit)) (iR 97 (Be (Rd a) (aM (PD a))) (iR (Be (Rd a) (aM (PD a))) 122 (aD (J,[(((Rd a),(aM ((PD a)+1))),())])) (iR 65 (Be (Rd a) (aM (PD a))) (aD ((c9 (Be (Rd a) (aM (PD a))) 90),[(((Rd a),(aM ((PD a)+1))),())])) (aD (af,[(((Rd a),(aM ((PD a)+1))),())])))) (iR 65 (Be (Rd a) (aM (PD a))) (aD ((c9 (Be (Rd a) (aM (PD a))) 90),[(((Rd a),(aM ((PD a)+1))),())])) (aD (af,[(((Rd a),(aM ((PD a)+1))),())])))) λs=>(aF s.1 (aD s.2) (jn (bx 0 (aM (PD a)) (be (Be (Rd a) (aM (PD a))) 95 (aD (J,s.2)) (iR 48 (Be (Rd a) (aM (PD a))) (aD ((c9 (Be (Rd a) (aM (PD a))) 57),s.2)) (aD (af,s.2)))) (aD (af,s.2))) λz=>(aF z.1 (aD z.2) (cR (bQ af)))))) λL=>(cR L))) (aD J))) ([((x,0),())]))))
def wv (x:ζ):I (Bool):=wD @iter x
def o7 (x:ζ):I (Bool):=wD @gx x
def yl (it:zw) (x:η×Int):I (Int):=
 (it (Int) _ (λa=>(bx a (aX x.1) (bD aL x.1 a λs=>(be x.2 s (aD a) (cR (cL a)))) (aD (-1)))) 0)
def Cv (x:η×Int):I (Int):=yl @iter x
def r_ (x:η×Int):I (Int):=yl @gx x
def kS (x:η×Int):I (Bool):=
 (au (r_ x) λa=>(M (c9 0 a)))
def eU (x:η×Int×Int):I (Bool):=
 (au (gu (x.1,x.2.2)) λa=>(M (c9 x.2.1 a)))
def tJ (x:ν):I (Bool):=
 (jn (iR 0 x.1 (aD (fR x.1 x.2)) (aD af)) λa=>(M a))
def tK (x:fD×Int×Bool):I (Bool):=
 (jn (au (tJ (x.2.1,(aX x.1.2.1))) λs=>(aF s (bD sA x.1.2.1 x.2.1 λa=>(aD ((a.2==x.2.2) !=af))) (aD af))) λz=>(M z))
def oX (it:zw) (x:Y Uw):I (dC×Bool):=
 (it (Int×Y ζ) _ (λz=>(bx z.1 (aX x) (jn (α:=Int×Y ζ) (bD kX x z.1 λa=>(bC (a8 (ai z.2+ai ([a.1])) 16) (be a.p2 0 (jw a.2.1 0 (cR (bQ (([]:Y ζ),af))) (aD ((cL z.1),(z.2++([a.1]))))) (jn (α:=Bool×dC×(ζ)×Int×Int×Bool×Int) (bx a.p2 1 (aD (J,(z.2++([a.1])),a)) (bx 4 a.p2 (aD (J,(z.2++([a.1])),a)) (aF a.p3 (aD (J,(z.2++([a.1])),a)) (aD ((fR (bm .i64 ((aX x)-z.1)) a.p2),(z.2++([a.1])),a))))) λL=>(aF L.1 (cR (bQ (([]:Y ζ),af))) (it (Int×dC×(ζ)×Int×Int×Bool×Int) _ (λs=>(bx s.1 L.p4 (bD kX x (bm .i64 (z.1+s.1)) λA=>(aF (L9 (.pr .str (.pr aL (.pr aL (.pr .bool (.pr aL .un))))) (A.1,A.2.1,A.p2,A.p3,A.q4,()) (s.p2,s.1,s.p4,s.p5,s.q6,()) !=J) (aD (pn (bQ (([]:Y ζ),af)))) (cR ((cL s.1),s.2.1,s.p2,s.1,s.q4)))) (aD (bQ ((bm .i64 (z.1+s.p4)),s.2.1))))) (0,L.2))))))) λU=>(cR U)) (aD (z.2,J)))) (0,([]:Y ζ)))
def oS (x:Y Uw):I (dC×Bool):=oX @iter x
def ie (x:Y Uw):I (dC×Bool):=oX @gx x
def oW (it:zw) (x:fD×Y ζ):I (Bool):=
 (bC (a8 (ai (x.2:Y ζ)) 16) (it (Int×fD×Y ζ) _ (λs=>(bx s.1 (aX x.1.2.1) (bD sA x.1.2.1 s.1 λZ=>(bC (a8 (ai s.2.2+ai ([Z.1])) 16) (cR ((cL s.1),s.2.1,(s.2.2++([Z.1])))))) (au (it (Int×fD×Y ζ) _ (λa=>(bx a.1 (aX s.2.1.p2) (bD mn s.2.1.p2 a.1 λU=>(bC (a8 (ai a.2.2+ai ([U.1])) 16) (cR ((cL a.1),a.2.1,(a.2.2++([U.1])))))) (au (bC (a8 (ai a.2.2+ai a.2.1.p3) 16) (bC (a8 (ai (a.2.2++a.2.1.p3)+ai a.2.1.p4) 16) (it (Int×m7×Y ζ) _ (λz=>(bx z.1 (aM (ai ((a.2.2++a.2.1.p3)++a.2.1.p4))) (kO (.str) z.2.2 z.1 λA=>(jn (au (o7 A) λy8=>(aF (!y8) (aD (J,z.2)) (aD ((RU (K:=.str) (V:=.bool) A z.2.1 af),z.2)))) λL=>(aF L.1 (aD af) (cR ((cL z.1),(Vz (K:=.str) (V:=.bool) A J L.2.1),L.2.2))))) (aD J))) (0,([]:Y (ζ×Bool)),((a.2.2++a.2.1.p3)++a.2.1.p4))))) λr=>M (bQ r)))) (0,s.2)) λr=>M (bQ r)))) (0,x)))
def oR (x:fD×Y ζ):I (Bool):=oW @iter x
def dW (x:fD×Y ζ):I (Bool):=oW @gx x
def li (it:zw) (x:oJ×m7×(Y j9)×dC×dC×Y π):I (Bool):=
 (it (π×oJ×m7×(Y j9)×dC×dC×Y π) _ (λa=>(bx a.1.2.2 (aX x.q5) (bD qe x.q5 a.1.2.2 λA=>(jn (bx A.1 a.1.1 (aD (J,a.2,A)) (aD ((c9 (aX a.p5) A.1),a.2,A))) λz=>(aF z.1 (aD af) (jn (α:=(ν)×fD×Int×Int×Int) (bx a.1.1 z.p2 (aD ((z.p2,0),z.2)) (aD ((a.1.1,a.1.2.1),z.2))) λs=>(jw s.p3 s.1.2 (aD af) (cR ((s.1.1,(cL s.1.2),(cL a.1.2.2)),s.2.1))))))) (aD J))) ((0,0,0),x))
def oP (x:oJ×m7×(Y j9)×dC×dC×Y π):I (Bool):=li @iter x
def gi (x:oJ×m7×(Y j9)×dC×dC×Y π):I (Bool):=li @gx x
def lj (it:zw) (x:oJ×m7×(Y j9)×dC×dC×Y π):I (Bool):=
 (jn (bx 12 (aX x.1) (aD (J,x)) (bx 4 (aX x.2.1) (aD (J,x)) (bx 2 (aX x.p2) (aD (J,x)) (bx 2 (aX x.p3) (aD (J,x)) (aD ((fR 60 (aX x.q5)),x)))))) λz=>(aF z.1 (M af) (jn (bx (aX z.p5) 1 (aD (J,z.2)) (aD ((fR 4 (aX z.p5)),z.2))) λs=>(aF s.1 (M af) (au (ie s.2.1) λL=>(jn (aF (!L.2) (aD (J,s.2)) (au (dW (s.2,L.1)) λy5=>(aD ((!y5),s.2)))) λA=>(aF A.1 (M af) (it Yd3 _ (λa=>(bx a.1 (aX A.p3) (bD mn A.p3 a.1 λU=>(au (tK (a.2,U.2,af)) λy8=>(aF (!y8) (aD af) (cR ((cL a.1),a.2))))) (au (au (gi a.2) λZ=>(M Z)) λr=>M (bQ r)))) (0,A.2)))))))))
def oU (x:oJ×m7×(Y j9)×dC×dC×Y π):I (Bool):=lj @iter x
def dX (x:oJ×m7×(Y j9)×dC×dC×Y π):I (Bool):=lj @gx x
def wE (it:zw) (x:oJ×m7×(Y j9)×dC×dC×Y π):I tF:=
 (bC (c9 0 (aX x.2.1)&&c9 (aX x.2.1) (aX x.2.1)&&a8 (aQ (aX x.2.1)) 32) (bC (c9 0 (aX x.p3)&&c9 (aX x.p3) (aX x.p3)&&a8 (aQ (aX x.p3)) 1) (bC (c9 0 (aX x.p4)&&c9 (aX x.p4) (aX x.p4)&&a8 (aQ (aX x.p4)) 24) (it (Int×Int×Int×jA×(θ)×Y eB) _ (λa=>(bx a.1 (aM (ai (aA (aQ (aX x.2.1)) ((0,[]):Int×η)))) (ck (eX a.1 (ai a.p3)) (cR ((cL a.1),a.2.1,a.p2,(cK a.p3 a.1 ((-1),(aI (T:=eC) a.p3 a.1).2)),a.q4))) (au (jn (α:=Int×Int×jA×(θ)×Y eB) (bx 0 (aX a.q5) (ck (eX 0 (ai a.q5)) (aD (a.2.1,a.p2,a.p3,a.p4,(cK a.q5 0 (1,(aI (T:=ip) a.q5 0).2))))) (aD a.2)) λs=>(M (s.p2,s.2.1,s.q3))) λr=>M (bQ r)))) (0,0,(-1),(aA (aQ (aX x.2.1)) ((0,[]):Int×η)),(aA (aQ (aX x.p3)) (af:Bool)),(aA (aQ (aX x.p4)) ((0,(0,af)):Int×Int×Bool)))))))
def wy (x:oJ×m7×(Y j9)×dC×dC×Y π):I tF:=wE @iter x
def pe (x:oJ×m7×(Y j9)×dC×dC×Y π):I tF:=wE @gx x
def rh (it:zw) (x:oJ×m7×(Y j9)×dC×dC×Y π):I gr:=
 (au (pe x) λz=>(bC (c9 0 0&&c9 0 (aX x.1)&&a8 (aQ (aX x.1)) 8) (bC (c9 0 (aX x.p3)&&c9 (aX x.p3) (aX x.p3)&&a8 (aQ (aX x.p3)) 8) (bC (c9 0 (aX x.p4)&&c9 (aX x.p4) (aX x.p4)&&a8 (aQ (aX x.p4)) 8) (it (Int×Int×tF×(η)×(η)×η) _ (λa=>(bx a.1 (aX x.1) (bD kX x.1 a.1 λs=>(bC (a8 (ai a.p3+ai ([s.q4])) 8) (cR ((cL a.1),a.2.1,a.p2,(a.p3++([s.q4])),a.q4)))) (aD a.2.2))) (0,0,z,(aA (aQ 0) (0:Int)),(aA (aQ (aX x.p3)) (0:Int)),(aA (aQ (aX x.p4)) (0:Int))))))))
def qO (x:oJ×m7×(Y j9)×dC×dC×Y π):I gr:=rh @iter x
def dD (x:oJ×m7×(Y j9)×dC×dC×Y π):I gr:=rh @gx x
def kJ (it:zw) (x:θ×Int×Int×Int×Int×Int×(η)×η):I (Bool):=
 (it (Int) _ (λa=>(bx a 2 (bC (c9 0 a&&fR a 2) (lt (aI (T:=(.sl aL)) [x.p6,x.q7] a) λA=>(it (Int) _ (λz=>(bx z (aX A) (bD aL A z λs=>(jn (bx s 0 (aD J) (iR (aX x.1) s (aD J) (bD (.bool) x.1 s λL=>(aD (!L))))) λU=>(aF U (aD (bQ af)) (cR (cL z))))) (aD (pn (cL a))))) 0))) (aD J))) 0)
def nz (x:θ×Int×Int×Int×Int×Int×(η)×η):I (Bool):=kJ @iter x
def cu (x:θ×Int×Int×Int×Int×Int×(η)×η):I (Bool):=kJ @gx x
def fm (x:ν):I (Bool):=
 (jn (iR 0 x.1 (aD (fR x.1 x.2)) (aD af)) λa=>(M a))
def my (x:fD×Int×Int):I (Bool):=
 (jn (be x.2.1 1 (aD ((decide ((x.2.1:Int)=1)),x.1)) (be x.2.1 2 (aD ((decide ((x.2.1:Int)=2)),x.1)) (be x.2.1 5 (aD ((decide ((x.2.1:Int)=5)),x.1)) (be x.2.1 12 (aD ((decide ((x.2.1:Int)=12)),x.1)) (be x.2.1 13 (aD ((decide ((x.2.1:Int)=13)),x.1)) (be x.2.1 14 (aD ((decide ((x.2.1:Int)=14)),x.1)) (aD ((decide ((x.2.1:Int)=15)),x.1)))))))) λx1=>(aF x1.1 (M (decide ((x.2.2:Int)=(-1)))) (jn (be x.2.1 3 (aD ((decide ((x.2.1:Int)=3)),x1.2)) (aD ((decide ((x.2.1:Int)=4)),x1.2))) λU=>(aF U.1 (au (fm (x.2.2,(aX U.2.1))) λy3=>(M y3)) (jn (be x.2.1 6 (aD ((decide ((x.2.1:Int)=6)),U.2)) (aD ((decide ((x.2.1:Int)=7)),U.2))) λA=>(aF A.1 (jn (au (fm (x.2.2,(aX A.p2))) λy6=>(aF y6 (bD sA A.p2 x.2.2 λz7=>(aD (!z7.2))) (aD af))) λx5=>(M x5)) (jn (be x.2.1 8 (aD ((decide ((x.2.1:Int)=8)),A.2)) (be x.2.1 9 (aD ((decide ((x.2.1:Int)=9)),A.2)) (be x.2.1 10 (aD ((decide ((x.2.1:Int)=10)),A.2)) (aD ((decide ((x.2.1:Int)=11)),A.2))))) λz=>(aF z.1 (jn (au (fm (x.2.2,(aX z.p2))) λy10=>(aF y10 (bD sA z.p2 x.2.2 λZ=>(aD Z.2)) (aD af))) λx9=>(M x9)) (jn (be x.2.1 16 (aD ((decide ((x.2.1:Int)=16)),z.2)) (be x.2.1 17 (aD ((decide ((x.2.1:Int)=17)),z.2)) (be x.2.1 18 (aD ((decide ((x.2.1:Int)=18)),z.2)) (aD ((decide ((x.2.1:Int)=19)),z.2))))) λs=>(aF s.1 (au (fm (x.2.2,(aX s.p3))) λy13=>(M y13)) (jn (be x.2.1 20 (aD ((decide ((x.2.1:Int)=20)),s.2)) (aD ((decide ((x.2.1:Int)=21)),s.2))) λa=>(aF a.1 (au (fm (x.2.2,(aX a.p5))) λy15=>(M y15)) (jn (be x.2.1 22 (aD ((decide ((x.2.1:Int)=22)),a.2)) (aD ((decide ((x.2.1:Int)=23)),a.2))) λL=>(aF L.1 (au (fm (x.2.2,(aX L.p4))) λy17=>(M y17)) (M af)))))))))))))))
def uo (it:zw) (x:fD×jA×Int×(θ)×Y eB):I (Bool):=
 (jn (jw (aX x.2.1) (aX x.1.2.1) (aD (J,x.1)) (jw (aX x.p3) (aX x.1.p3) (aD (J,x.1)) (aD ((!decide (((aX x.q4):Int)=(aX x.1.p4))),x.1)))) λs=>(aF s.1 (M af) (it Yd3 _ (λa=>(bx a.1 (aX s.p3) (bD mn s.p3 a.1 λz=>(au (fm (z.2,(aX a.p2))) λA=>(aF (!A) (aD af) (cR ((cL a.1),a.2))))) (aD J))) (0,s.2))))
def xX (x:fD×jA×Int×(θ)×Y eB):I (Bool):=uo @iter x
def kD (x:fD×jA×Int×(θ)×Y eB):I (Bool):=uo @gx x
def pd (x:fD×tF×Int×Int×Int):I (Bool):=
 (be x.p3 6 (bD eC x.2.1.1 x.q4 λz1=>(M (decide ((z1.1:Int)=(-1))))) (be x.p3 10 (jn (α:=Bool) (bD eC x.2.1.1 x.q4 λz3=>(be z3.1 (-1) (bD eC x.2.1.1 x.q4 λz4=>(aD (decide (((aX z4.2):Int)=0)))) (aD af))) λx2=>(M x2)) (be x.p3 8 (jn (α:=Bool) (bD eC x.2.1.1 x.q4 λz6=>(be z6.1 (-1) (bD eC x.2.1.1 x.q4 λz7=>(au (kS (z7.2,x.p2)) λy8=>(aD (!y8)))) (aD af))) λx5=>(M x5)) (jn (be x.p3 7 (aD ((decide ((x.p3:Int)=7)),x.1,x.2.1)) (aD ((decide ((x.p3:Int)=11)),x.1,x.2.1))) λs=>(aF s.1 (bD eC s.p2 x.q4 λz10=>(M (decide ((z10.1:Int)=x.p2)))) (be x.p3 9 (bD eC s.p2 x.q4 λz11=>(au (kS (z11.2,x.p2)) λy12=>(M y12))) (be x.p3 12 (M (decide ((s.p3:Int)=(-1)))) (be x.p3 13 (M (decide ((s.p3:Int)=x.p2))) (be x.p3 14 (bD ip s.q5 x.p2 λz13=>(M (!z13.2.2))) (be x.p3 15 (bD ip s.q5 x.p2 λz14=>(M z14.2.2)) (jn (be x.p3 16 (aD ((decide ((x.p3:Int)=16)),s.2)) (be x.p3 18 (aD ((decide ((x.p3:Int)=18)),s.2)) (aD ((decide ((x.p3:Int)=19)),s.2)))) λa=>(aF a.1 (bD mn a.2.1.p2 x.q4 λz16=>(bD eC a.p2 z16.2 λZ=>(M (decide ((Z.1:Int)=x.p2))))) (be x.p3 20 (jn (jw x.q4 x.p2 (bD ip a.q5 x.q4 λU=>(aD (decide ((U.1:Int)=0)))) (aD af)) λx18=>(M x18)) (be x.p3 21 (jn (jw x.q4 x.p2 (bD ip a.q5 x.q4 λL=>(aD (decide ((L.1:Int)=5)))) (aD af)) λx20=>(M x20)) (be x.p3 22 (bD (.bool) a.p4 x.q4 λA=>(M (!A))) (be x.p3 23 (bD (.bool) a.p4 x.q4 λz=>(M z)) (M J)))))))))))))))))
def jr (x:fD×tF×Int×Int×Int):I (Bool):=
 (jn (au (kD (x.1,x.2.1)) λy2=>(aF (!y2) (aD (J,x.1,x.2.1)) (au (fm (x.p2,(aX x.1.p4))) λZ=>(aF (!Z) (aD (J,x.1,x.2.1)) (au (my (x.1,x.q3)) λU=>(aD ((!U),x.1,x.2.1))))))) λa=>(aF a.1 (M af) (bD ip a.q5 x.p2 λs=>(be x.p3 1 (M (decide ((s.1:Int)=1))) (be x.p3 17 (jn (α:=Bool) (be s.1 4 (be s.2.1 x.q4 (bD mn a.2.1.p2 x.q4 λL=>(bD eC a.p2 L.2 λA=>(aD (decide ((A.1:Int)=(-1)))))) (aD af)) (aD af)) λx6=>(M x6)) (jn (be s.1 2 (au (pd (a.2.1,a.2.2,x.2.2)) λz=>(aD z)) (aD af)) λx9=>(M x9)))))))
def lw (x:fD×tF×(η)×(η)×η):I (Bool):=
 (jn (au (kD (x.1,x.2.1)) λa=>(aF a (be (aX x.p2) (aX x.1.1) (be (aX x.p3) (aX x.1.p3) (aD (decide (((aX x.q4):Int)=(aX x.1.p4)))) (aD af)) (aD af)) (aD af))) λs=>(M s))
def jQ (x:fD×Int×Int×Int×Int×Int×(η)×η):I (Bool):=
 (jn (be x.p2 1 (aD (J,x)) (aD ((decide ((x.p2:Int)=2)),x))) λa=>(aF a.1 (M (decide ((a.p6:Int)=(-1)))) (jn (iR 0 a.p6 (bx a.p6 (aX a.2.1.q5) (bD qe a.2.1.q5 a.p6 λs=>(aD (decide ((s.1:Int)=a.p2)))) (aD af)) (aD af)) λz=>(M z))))
def jG (it:zw) (x:fD×gr×Int×Int×Int×Int×Int×(η)×η):I (Bool):=
 (jn (be x.p3 3 (bD kX x.1.1 x.p4 λz2=>(aD ((!decide ((z2.2.2.1:Int)=0)),x.2))) (be x.p3 4 (bD kX x.1.1 x.p4 λz3=>(aD ((!decide ((z3.2.2.1:Int)=0)),x.2))) (aD (af,x.2)))) λa=>(jn (be a.p3 5 (be a.p3 4 (aD (a.2.1,a.2.2,J,J)) (aD (a.2.1,a.2.2,J,(decide ((a.p3:Int)=22))))) (be a.p3 4 (aD (a.2.1,a.2.2,a.1,J)) (aD (a.2.1,a.2.2,a.1,(decide ((a.p3:Int)=22)))))) λx4=>(it (Int×gr×jM×Bool×Bool) _ (λs=>(bx s.1 2 (bC (c9 0 s.1&&fR s.1 2) (lt (aI (T:=(.sl aL)) [x4.2.1.p5,x4.2.1.q6] s.1) λU=>(jn (α:=Bool×gr×jM×Bool×Bool) (bx 0 (aX U) (bC (c9 0 s.1&&fR s.1 2) (bC (eX s.1 2) (lt (aI (T:=.bool) [s.p3,s.q4] s.1) λz8=>(aD ((!z8),s.2))))) (aD (af,s.2))) λx7=>(aF x7.1 (aD af) (it (ν×gr×jM×Bool×Bool) _ (λz=>(bx z.1.2 (aX U) (bD aL U z.1.2 λA=>(jn (iR A z.1.1 (aD (J,z.2)) (bD aL z.2.1.q3 z.p2.1 λZ=>(aD ((c9 Z A),z.2)))) λL=>(aF L.1 (aD (bQ af)) (cR ((A,(cL z.1.2)),L.2))))) (aD (pn ((cL s.1),z.2))))) ((0,0),x7.2)))))) (aD J))) (0,x4))))
def md (x:fD×gr×Int×Int×Int×Int×Int×(η)×η):I (Bool):=jG @iter x
def fe (x:fD×gr×Int×Int×Int×Int×Int×(η)×η):I (Bool):=jG @gx x
def mi (it:zw) (x:gr×Int×Int×Int×Int×Int×(η)×η):I (Bool):=
 (be x.p2 3 (bD aL x.1.2.1 x.p3 λz1=>(M (decide ((x.p4:Int)=z1)))) (be x.p2 23 (bD aL x.1.p2 x.p3 λz2=>(M (decide ((x.p4:Int)=z2)))) (be x.p2 5 (jn (be x.p4 0 (aD J) (aD (decide ((x.p4:Int)=1)))) λx3=>(M x3)) (jn (be x.p2 4 (aD ((decide ((x.p2:Int)=4)),x)) (aD ((decide ((x.p2:Int)=22)),x))) λz=>(aF z.1 (M J) (be x.p2 18 (it ((Int×Bool×Int)×Int×Int×Int×Int×Int×(η)×η) _ (λs=>(bx s.1.2.2 (aX z.2.1.1.q3) (jn (bD ip z.2.1.1.q3 s.1.2.2 λz7=>(jn (be z7.1 3 (aD ((decide ((z7.2.1:Int)=s.p3)),s.2)) (aD (af,s.2))) λU=>(aF U.1 (aF s.1.2.1 (aD (((cL s.1.1),J),U.2)) (aD (((cL s.1.1),(decide ((U.p4:Int)=s.1.2.2))),U.2))) (aD ((s.1.1,s.1.2.1),U.2))))) λx6=>(cR ((x6.1.1,x6.1.2,(cL s.1.2.2)),x6.2))) (au (jn (α:=Bool) (aF s.1.2.1 (aD J) (be s.1.1 0 (aD (decide ((s.p4:Int)=(-1)))) (aD af))) λx9=>(M x9)) λr=>M (bQ r)))) ((0,af,0),z.2.2)) (be x.p2 19 (it (ν×Int×Int×Int×Int×Int×(η)×η) _ (λa=>(bx a.1.2 (aX z.2.1.1.q3) (jn (bD ip z.2.1.1.q3 a.1.2 λL=>(jn (be L.1 3 (aD ((decide ((L.2.1:Int)=a.p3)),a.2)) (aD (af,a.2))) λA=>(aF A.1 (aD ((cL a.1.1),A.2)) (aD (a.1.1,A.2))))) λZ=>(cR ((Z.1,(cL a.1.2)),Z.2))) (aD (decide ((a.p4:Int)=a.1.1))))) ((0,0),z.2.2)) (M (decide ((z.p5:Int)=0))))))))))
def pK (x:gr×Int×Int×Int×Int×Int×(η)×η):I (Bool):=mi @iter x
def gI (x:gr×Int×Int×Int×Int×Int×(η)×η):I (Bool):=mi @gx x
def mM (x:eB×Int):I (Bool):=
 (jn (be x.1.1 3 (aD (decide ((x.1.2.1:Int)=x.2))) (aD af)) λa=>(M a))
def JE (x:θ):I θ:=
 (aF (aB (ai x) 0) (F8 (M ([]:θ)) (bC (a8 (ai ([]:θ)+ai x) 1) (M (([]:θ)++x)))) (bC (a8 (ai ([]:θ)+ai x) 1) (M (([]:θ)++x))))
def Px (x:θ):I θ:=chk (a8 (ai x) 1) λ_=>M x
def Fm (x:θ):I θ:=
 (aF (aB (ai x) 0) (F8 (M ([]:θ)) (bC (a8 (ai ([]:θ)+ai x) 1) (M (([]:θ)++x)))) (bC (a8 (ai ([]:θ)+ai x) 1) (M (([]:θ)++x))))
def JD (x:θ):I θ:=chk (a8 (ai x) 1) λ_=>M x
def JA (x:Y eB):I (Y eB):=
 (aF (aB (ai x) 0) (F8 (M ([]:Y eB)) (bC (a8 (ai ([]:Y eB)+ai x) 24) (M (([]:Y eB)++x)))) (bC (a8 (ai ([]:Y eB)+ai x) 24) (M (([]:Y eB)++x))))
def Pw (x:Y eB):I (Y eB):=chk (a8 (ai x) 24) λ_=>M x
def Fk (x:Y eB):I (Y eB):=
 (aF (aB (ai x) 0) (F8 (M ([]:Y eB)) (bC (a8 (ai ([]:Y eB)+ai x) 24) (M (([]:Y eB)++x)))) (bC (a8 (ai ([]:Y eB)+ai x) 24) (M (([]:Y eB)++x))))
def Jz (x:Y eB):I (Y eB):=chk (a8 (ai x) 24) λ_=>M x
def Fl (x:η):I η:=
 (aF (aB (ai x) 0) (F8 (M ([]:η)) (bC (a8 (ai ([]:η)+ai x) 8) (M (([]:η)++x)))) (bC (a8 (ai ([]:η)+ai x) 8) (M (([]:η)++x))))
def zS (x:η):I η:=chk (a8 (ai x) 8) λ_=>M x
def sQ (it:zw) (x:jA×Int×(θ)×Y eB):I Yd2:=
 (bC (c9 0 (aX x.1)&&c9 (aX x.1) (aX x.1)&&a8 (aQ (aX x.1)) 32) (it (Int×tF×Int×Y (Int×η)) _ (λa=>(bx a.1 (aX x.1) (bD eC x.1 a.1 λs=>(au (CA s.2) λL=>(ck (eX a.1 (ai a.q3)) (cR ((cL a.1),a.2.1,a.p2,(cK a.q3 a.1 (s.1,L))))))) (au (au (JD a.2.1.p2) λA=>(au (Jz a.2.1.q3) λz=>(M (a.2.1.2.1,a.q3,A,z)))) λr=>M (bQ r)))) (0,x,0,(aA (aQ (aX x.1)) ((0,[]):Int×η)))))
def ww (x:jA×Int×(θ)×Y eB):I Yd2:=sQ @iter x
def kR (x:jA×Int×(θ)×Y eB):I Yd2:=sQ @gx x
def rk (it:zw) (x:π×jA×(θ)×Y eB):I Yd2:=
 (it (ν×jA×(θ)×(Y eB)×Int) _ (λa=>(bx a.1.2 (aX x.q3) (jn (kO ip a.p3 a.1.2 λA=>(jn (au (mM (A,x.1.2.1)) λL=>(aF L (bx a.1.1 0 (aD (J,a.2)) (aD ((decide ((a.1.2:Int)=x.1.2.2)),a.2))) (aD (af,a.2)))) λs=>(aF s.1 (aD (a.1.2,s.2)) (aD (a.1.1,s.2))))) λz=>(cR ((z.1,(cL a.1.2)),z.2))) (au (jn (α:=jA×(θ)×Y eB) (iR 0 a.1.1 (ck (eX a.1.1 (ai a.p3)) (aD (a.2.1,a.p2,(cK a.p3 a.1.1 (4,(aI (T:=ip) a.p3 a.1.1).2))))) (aD (a.2.1,a.p2,a.p3))) λU=>(M (a.1.1,U))) λr=>M (bQ r)))) (((-1),0),x.2.1,x.p2,x.q3,x.1.1))
def uJ (x:π×jA×(θ)×Y eB):I Yd2:=rk @iter x
def jV (x:π×jA×(θ)×Y eB):I Yd2:=rk @gx x
def mW (it:zw) (x:ν×jA×(θ)×Y eB):I Yd2:=
 (it (ν×jA×(θ)×(Y eB)×Int) _ (λa=>(bx a.1.2 (aX x.q3) (jn (α:=Int×jA×(θ)×(Y eB)×Int) (kO ip a.p3 a.1.2 λz=>(au (mM (z,x.1.2)) λA=>(aF A (ck (eX a.1.2 (ai a.p3)) (aD ((cL a.1.1),a.2.1,a.p2,(cK a.p3 a.1.2 (4,(aI (T:=ip) a.p3 a.1.2).2)),a.q4))) (aD (a.1.1,a.2))))) λs=>(cR ((s.1,(cL a.1.2)),s.2))) (aD (a.1.1,a.2.1,a.p2,a.p3)))) ((0,0),x.2.1,x.p2,x.q3,x.1.1))
def qP (x:ν×jA×(θ)×Y eB):I Yd2:=mW @iter x
def h_ (x:ν×jA×(θ)×Y eB):I Yd2:=mW @gx x
def qZ (x:Int):I (Bool):=
 (M (!decide ((x:Int)=x)))
def wA (x:ν):I (Bool):=
 (jn (au (qZ x.1) λs=>(aF s (au (qZ x.2) λa=>(aF (!a) (aD J) (aD (fR x.1 x.2)))) (aD (fR x.1 x.2)))) λz=>(M z))
def r7 (x:Int):I (Int):=
 (iR 4294967296 x D (iR 65536 x D (iR 256 x D (wQ (bm .u8 x) ([0,1,2,2,3,3,3,3,4,4,4,4,4,4,4,4,5,5,5,5,5,5,5,5,5,5,5,5,5,5,5,5,6,6,6,6,6,6,6,6,6,6,6,6,6,6,6,6,6,6,6,6,6,6,6,6,6,6,6,6,6,6,6,6,7,7,7,7,7,7,7,7,7,7,7,7,7,7,7,7,7,7,7,7,7,7,7,7,7,7,7,7,7,7,7,7,7,7,7,7,7,7,7,7,7,7,7,7,7,7,7,7,7,7,7,7,7,7,7,7,7,7,7,7,7,7,7,7,8,8,8,8,8,8,8,8,8,8,8,8,8,8,8,8,8,8,8,8,8,8,8,8,8,8,8,8,8,8,8,8,8,8,8,8,8,8,8,8,8,8,8,8,8,8,8,8,8,8,8,8,8,8,8,8,8,8,8,8,8,8,8,8,8,8,8,8,8,8,8,8,8,8,8,8,8,8,8,8,8,8,8,8,8,8,8,8,8,8,8,8,8,8,8,8,8,8,8,8,8,8,8,8,8,8,8,8,8,8,8,8,8,8,8,8,8,8,8,8,8,8,8,8,8,8,8,8]) (M (bm .i64 (0+(bm .i64 (Be ([0,1,2,2,3,3,3,3,4,4,4,4,4,4,4,4,5,5,5,5,5,5,5,5,5,5,5,5,5,5,5,5,6,6,6,6,6,6,6,6,6,6,6,6,6,6,6,6,6,6,6,6,6,6,6,6,6,6,6,6,6,6,6,6,7,7,7,7,7,7,7,7,7,7,7,7,7,7,7,7,7,7,7,7,7,7,7,7,7,7,7,7,7,7,7,7,7,7,7,7,7,7,7,7,7,7,7,7,7,7,7,7,7,7,7,7,7,7,7,7,7,7,7,7,7,7,7,7,8,8,8,8,8,8,8,8,8,8,8,8,8,8,8,8,8,8,8,8,8,8,8,8,8,8,8,8,8,8,8,8,8,8,8,8,8,8,8,8,8,8,8,8,8,8,8,8,8,8,8,8,8,8,8,8,8,8,8,8,8,8,8,8,8,8,8,8,8,8,8,8,8,8,8,8,8,8,8,8,8,8,8,8,8,8,8,8,8,8,8,8,8,8,8,8,8,8,8,8,8,8,8,8,8,8,8,8,8,8,8,8,8,8,8,8,8,8,8,8,8,8,8,8,8,8,8,8]) (bm .u8 x))))))))))
def uV (x:Int):I (Int):=
 (au (r7 x) λa=>(M a))
def ko (it:zw) (x:ν×η):I η:=
 (it (Int×η) _ (λz=>(bx z.1 x.1.2 (it (Int×η) _ (λa=>(jn (bx x.1.1 a.1 (kO aL a.2 a.1 λZ=>(kO aL a.2 (bm .i64 (a.1-1)) λU=>(au (wA (Z,U)) λy6=>(aD (y6,a.2))))) (aD (af,a.2))) λs=>(aF s.1 (kO aL s.2 (bm .i64 (a.1-1)) λA=>(kO aL s.2 a.1 λL=>(ck (eX a.1 (ai s.2)) (ck (eX (bm .i64 (a.1-1)) (ai (cK s.2 a.1 A))) (cR ((bm .i64 (a.1-1)),(cK (cK s.2 a.1 A) (bm .i64 (a.1-1)) L))))))) (aD (pn ((cL z.1),s.2)))))) z) (aD z.2))) ((cL x.1.1),x.2))
def kn (x:ν×η):I η:=ko @iter x
def gf (x:ν×η):I η:=ko @gx x
def oV (it:zw) (x:π×η):I η:=
 (it ((Int×Int×Int×Bool×Bool)×η) _ (λa=>(iR (bm .i64 (a.1.2.1-a.1.1)) 12 (au (gf ((a.1.1,a.1.2.1),a.2)) λs=>(bC (aB (ai a.2) (ai s)&&J) (aD s))) (be a.1.p2 0 D (aF (!a.1.p3) D D)))) ((x.1.1,x.1.2.1,x.1.2.2,J,J),x.2))
def oO (x:π×η):I η:=oV @iter x
def jy (x:π×η):I η:=oV @gx x
def xg (x:η):I η:=
 (au (uV (bm .u64 (aX x))) λs=>(au (jy ((0,(aX x),s),x)) λa=>(bC (aB (ai x) (ai a)&&J) (M a))))
def ym (it:zw) (x:η):I η:=
 (bx (aX x) 2 (M x) (it (Int×η) _ (λa=>(bx a.1 (aX a.2) (kO aL a.2 a.1 λz=>(kO aL a.2 (bm .i64 (a.1-1)) λs=>(be z s (bC (c9 0 a.1&&fR a.1 (ai a.2)) D) (cR ((cL a.1),a.2))))) (aD a.2))) (1,x)))
def xY (x:η):I η:=ym @iter x
def mh (x:η):I η:=ym @gx x
def py (x:ν):I (Bool×Int):=
 (M ((decide ((x.1:Int)=x.2)),x.2))
def vn (it:zw) (x:η×Int):I (Int×(η)×Int):=
 (it (Int×(η)×Int) _ (λa=>(bx a.1 (aX x.1) (kO aL a.2.1 a.1 λz=>(au (py (z,a.2.2)) λs=>(aF s.1 (aD (a.1,a.2.1,s.2)) (cR ((cL a.1),a.2.1,s.2))))) (aD ((-1),a.2)))) (0,x))
def uK (x:η×Int):I (Int×(η)×Int):=vn @iter x
def nW (x:η×Int):I (Int×(η)×Int):=vn @gx x
def tN (it:zw) (x:η×Int):I (Int×η):=
 (au (nW x) λs=>(bC (aB (ai x.1) (ai s.2.1)&&J) (be s.1 (-1) D (it (ν×(η)×Int) _ (λa=>(bx a.1.2 (aX a.2.1) (jn (kO aL a.2.1 a.1.2 λA=>(au (py (A,a.2.2)) λz=>(aF (!z.1) (ck (eX a.1.1 (ai a.2.1)) (aD ((cL a.1.1),(cK a.2.1 a.1.1 A),z.2))) (aD (a.1.1,a.2.1,z.2))))) λL=>(cR ((L.1,(cL a.1.2)),L.2))) (au (ck (c9 0 a.1.1&&fR a.1.1 (ai a.2.1)) (bC (c9 0 a.1.1&&fR a.1.1 (ai (dR (aQ a.1.1) a.2.1++aA (ai a.2.1-aQ a.1.1) (0:Int)))) (M (a.2.2,(dR (aQ a.1.1) (dR (aQ a.1.1) a.2.1++aA (ai a.2.1-aQ a.1.1) (0:Int))))))) λr=>M (bQ r)))) ((s.1,(cL s.1)),s.2)))))
def tI (x:η×Int):I (Int×η):=tN @iter x
def js (x:η×Int):I (Int×η):=tN @gx x
def ia (x:fD×tF×Int×Int×Int×Int):I (tF×Int×Bool):=
 (au (jr (x.1,x.2.1,x.p2,x.p3,x.p4)) λy1=>(aF (!y1) (M ((([]:Y (Int×η)),0,([]:θ),([]:Y eB)),0,af)) (au (kR x.2.1) λs=>(jn (α:=Int×Int×Int×jA×(θ)×Y eB) (be x.p3 1 (ck (eX x.p2 (ai s.q3)) (aD (0,s.1,0,s.2.1,s.p2,(cK s.q3 x.p2 (2,(aI (T:=ip) s.q3 x.p2).2))))) (be x.p3 2 (ck (eX x.p2 (ai s.q3)) (aD (0,s.1,0,s.2.1,s.p2,(cK s.q3 x.p2 (5,(aI (T:=ip) s.q3 x.p2).2))))) (jn (α:=Bool×fD×Int×Int×Int×jA×(θ)×Y eB) (be x.p3 6 (aD ((decide ((x.p3:Int)=6)),x.1,s.1,x.p2,0,s.2)) (aD ((decide ((x.p3:Int)=10)),x.1,s.1,x.p2,0,s.2))) λL=>(aF L.1 (ck (eX x.p4 (ai L.p5)) (aD (0,L.p2,L.p4,(cK L.p5 x.p4 (L.p3,(aI (T:=eC) L.p5 x.p4).2)),L.q6))) (jn (be x.p3 7 (aD ((decide ((x.p3:Int)=7)),L.2)) (aD ((decide ((x.p3:Int)=11)),L.2))) λa=>(aF a.1 (ck (eX x.p4 (ai a.p5)) (aD (0,a.p2,a.p4,(cK a.p5 x.p4 ((-1),(aI (T:=eC) a.p5 x.p4).2)),a.q6))) (be x.p3 8 (kO eC a.p5 x.p4 λz6=>D) (be x.p3 9 (kO eC a.p5 x.p4 λz7=>D) (be x.p3 12 (aD (0,a.q3)) (be x.p3 13 (aD (0,(-1),a.q4)) (be x.p3 14 (ck (eX a.p3 (ai a.q7)) (aD (0,a.p2,a.p4,a.p5,a.p6,(cK a.q7 a.p3 ((aI (T:=ip) a.q7 a.p3).1,((aI (T:=ip) a.q7 a.p3).2).1,J))))) (be x.p3 15 (ck (eX a.p3 (ai a.q7)) (aD (0,a.p2,a.p4,a.p5,a.p6,(cK a.q7 a.p3 ((aI (T:=ip) a.q7 a.p3).1,((aI (T:=ip) a.q7 a.p3).2).1,af))))) (be x.p3 16 (bD mn a.2.1.p2 x.p4 λz8=>(ck (eX z8.2 (ai a.p5)) (ck (eX a.p3 (ai a.q7)) (ck (eX a.p3 (ai (cK a.q7 a.p3 (3,(aI (T:=ip) a.q7 a.p3).2)))) (aD (0,a.p2,a.p4,(cK a.p5 z8.2 ((-1),(aI (T:=eC) a.p5 z8.2).2)),a.p6,(cK (cK a.q7 a.p3 (3,(aI (T:=ip) a.q7 a.p3).2)) a.p3 ((aI (T:=ip) (cK a.q7 a.p3 (3,(aI (T:=ip) a.q7 a.p3).2)) a.p3).1,x.p4,((aI (T:=ip) (cK a.q7 a.p3 (3,(aI (T:=ip) a.q7 a.p3).2)) a.p3).2).2)))))))) (be x.p3 17 (bD mn a.2.1.p2 x.p4 λZ=>(ck (eX Z.2 (ai a.p5)) (ck (eX a.p3 (ai a.q7)) (ck (eX a.p3 (ai (cK a.q7 a.p3 (2,(aI (T:=ip) a.q7 a.p3).2)))) (aD (0,a.p2,a.p4,(cK a.p5 Z.2 (a.p3,(aI (T:=eC) a.p5 Z.2).2)),a.p6,(cK (cK a.q7 a.p3 (2,(aI (T:=ip) a.q7 a.p3).2)) a.p3 ((aI (T:=ip) (cK a.q7 a.p3 (2,(aI (T:=ip) a.q7 a.p3).2)) a.p3).1,0,((aI (T:=ip) (cK a.q7 a.p3 (2,(aI (T:=ip) a.q7 a.p3).2)) a.p3).2).2)))))))) (be x.p3 18 (au (jV ((a.p2,x.q4),a.q5)) λA=>(bC (aB (ai a.q7) (ai A.q3)&&(aB (ai a.p6) (ai A.p2)&&(aB (ai a.p5) (ai A.2.1)&&J))) (aD (A.1,a.p2,a.p4,A.2)))) (be x.p3 19 (au (h_ ((a.p2,x.p4),a.q5)) λz=>(bC (aB (ai a.q7) (ai z.q3)&&(aB (ai a.p6) (ai z.p2)&&(aB (ai a.p5) (ai z.2.1)&&J))) (aD (z.1,a.p2,a.p4,z.2)))) (be x.p3 20 (ck (eX x.p4 (ai a.q7)) (aD (0,a.p2,a.p4,a.p5,a.p6,(cK a.q7 x.p4 (1,(aI (T:=ip) a.q7 x.p4).2))))) (be x.p3 22 (ck (eX x.p4 (ai a.p6)) (aD (0,a.p2,a.p4,a.p5,(cK a.p6 x.p4 J),a.q7))) (aD (0,a.p2,a.q4)))))))))))))))))))) λU=>(M ((U.p3,U.2.1,U.q4),U.1,J))))))
def nS (x:jA×Int×(θ)×Y eB):I (Yd6×(π)×(η)×(η)×η):=
 (bC (c9 0 (aX x.1)&&c9 (aX x.1) (aX x.1)&&a8 (aQ (aX x.1)) 32&&decide (((aX x.1):Int)=3)) (jn (α:=tF×Int×(π)×(η)×(η)×η) (bx 0 (aX x.1) (bD eC x.1 0 λa=>(au (pA a.2) λA=>(bx 1 (aX x.1) (bD eC x.1 1 λz=>(au (pA z.2) λy5=>(bx 2 (aX x.1) (bD eC x.1 2 λZ=>(au (pA Z.2) λy7=>(bx 3 (aX x.1) (bD eC x.1 3 λz8=>(au (pA z8.2) λy9=>D)) (aD (x,0,(a.1,z.1,Z.1),A,y5,y7))))) (aD (x,0,(a.1,z.1,0),A,y5,([]:η)))))) (aD (x,0,(a.1,0,0),A,([]:η),([]:η)))))) (aD (x,0,(0,0,0),([]:η),([]:η),([]:η)))) λs=>(au (Px s.1.p2) λU=>(au (Pw s.1.q3) λL=>(M ((s.1.2.1,U,L),s.2.2))))))
def lA (x:fD×tF×Int×Int×Int×Int):I (tF×Int×Bool):=
 (au (jr (x.1,x.2.1,x.p2,x.p3,x.p4)) λy1=>(aF (!y1) (M ((([]:Y (Int×η)),0,([]:θ),([]:Y eB)),0,af)) (au (nS x.2.1) λz=>(jn (α:=Int×Yd6×Int×((Int×η)×(Int×η)×Int)×Bool×η) (be x.p3 1 (wQ x.p2 z.1.2.2 D) (be x.p3 2 (wQ x.p2 z.1.2.2 D) (jn (α:=Bool×fD×Yd6×Int×Int×(π)×(η)×(η)×η) (be x.p3 6 (aD ((decide ((x.p3:Int)=6)),x.1,z.1,x.p2,0,z.2)) (aD ((decide ((x.p3:Int)=10)),x.1,z.1,x.p2,0,z.2))) λs=>(aF s.1 D (jn (be x.p3 7 (aD ((decide ((x.p3:Int)=7)),s.2.1,s.p2,s.p3,s.p4,(s.p5.1,s.p6,s.p5.2.1,s.p7,s.p5.2.2),s.q8)) (aD ((decide ((x.p3:Int)=11)),s.2.1,s.p2,s.p3,s.p4,(s.p5.1,s.p6,s.p5.2.1,s.p7,s.p5.2.2),s.q8))) λa=>(aF a.1 D (be x.p3 8 (be x.p4 0 D (be x.p4 1 D (be x.p4 2 (bC (a8 (ai a.q6+ai ([a.p3])) 8) (au (xg (a.q6++([a.p3]))) λL=>(bC (aB (ai (a.q6++([a.p3]))) (ai L)&&J) (au (mh L) λU=>(bC (aB (ai L) (ai U)&&J) (aD (0,a.p2,a.p4,((a.p5.1,a.p5.2.1),(a.p5.p2,a.p5.p3),a.p5.q4),J,U))))))) D))) (be x.p3 9 (be x.p4 0 D (be x.p4 1 D (be x.p4 2 (au (js (a.q6,a.p3)) λZ=>(bC (aB (ai a.q6) (ai a.q6)&&J) (aD (0,a.p2,a.p4,((a.p5.1,a.p5.2.1),(a.p5.p2,a.p5.p3),a.p5.q4),af,Z.2)))) D))) (be x.p3 12 (aD (0,(a.p3,a.p2.2),a.p4,((a.p5.1,a.p5.2.1),(a.p5.p2,a.p5.p3),a.p5.q4),J,a.q6)) (be x.p3 13 (aD (0,((-1),a.p2.2),a.p4,((a.p5.1,a.p5.2.1),(a.p5.p2,a.p5.p3),a.p5.q4),J,a.q6)) (be x.p3 14 (wQ a.p3 a.p2.2.2 D) (be x.p3 15 (wQ a.p3 a.p2.2.2 D) (be x.p3 16 D (be x.p3 17 D (be x.p3 18 D (be x.p3 19 D (be x.p3 20 (wQ x.p4 a.p2.2.2 D) (be x.p3 22 (wQ x.p4 a.p2.2.1 D) (aD (0,a.p2,a.p4,((a.p5.1,a.p5.2.1),(a.p5.p2,a.p5.p3),a.p5.q4),J,a.q6)))))))))))))))))))) λA=>(M (([A.p3.1,A.p3.2.1,(A.p3.2.2,A.q5)],A.2.1),A.1,J))))))
def sJ (x:fD×tF×Int×Int×Int×Int):I (tF×Int×Bool):=orE (ia x) (lA x)
def f_ (x:fD×gr×Int×Int×Int×Int×Int×(η)×η):I (gr×Bool):=
 (jn (α:=Bool×fD×gr×jM×Int) (au (lw (x.1,x.2.1)) λy2=>(aF (!y2) (aD (J,x.1,x.2.1,x.2.2,0)) (bx x.p2 0 (aD (J,x.1,x.2.1,x.2.2,0)) (iR (aX x.1.p4) x.p2 (aD (J,x.1,x.2.1,x.2.2,0)) (bx x.p3 1 (aD (J,x.1,x.2.1,x.2.2,0)) (aD ((fR 23 x.p3),x.1,x.2.1,x.2.2,0))))))) λz=>(aF z.1 (M (((([]:Y (Int×η)),0,([]:θ),([]:Y eB)),([]:η),([]:η),([]:η)),af)) (jn (au (jr (z.2.1,z.p2.1,z.p3.1,z.p3.2.1,z.p3.p2)) λy4=>(aF (!y4) (aD (J,z.2)) (au (jQ (z.2.1,z.p3)) λy5=>(aF (!y5) (aD (J,z.2)) (au (fe (z.2.1,z.p2,z.p3)) λy6=>(aF (!y6) (aD (J,z.2)) (au (gI (z.p2,z.p3)) λy7=>(aD ((!y7),z.2))))))))) λZ=>(aF Z.1 (M (((([]:Y (Int×η)),0,([]:θ),([]:Y eB)),([]:η),([]:η),([]:η)),af)) (jn (α:=Int×fD×gr×jM×Int) (be Z.p3.2.1 18 (aD (Z.p3.p3,Z.2)) (aD ((-1),Z.2))) λa=>(au (sJ (a.2.1,a.p2.1,a.p3.1,a.p3.2.1,a.p3.p2,a.1)) λy9=>(aF (!y9.2.2) (M (((([]:Y (Int×η)),0,([]:θ),([]:Y eB)),([]:η),([]:η),([]:η)),af)) (au (zS a.p2.2.1) λL=>(au (zS a.p2.p2) λA=>(au (pA a.p2.q3) λU=>(jn (be a.p3.2.1 4 (ck (eX a.p3.p2 (ai L)) (aD (a.p3,a.q4,y9.1,(cK L a.p3.p2 a.p3.p3),A,U))) (be a.p3.2.1 22 (ck (eX a.p3.p2 (ai A)) (aD (a.p3,a.q4,y9.1,L,(cK A a.p3.p2 a.p3.p3),U))) (aD (a.p3,a.q4,y9.1,L,A,U)))) λs=>(kO aL s.q5 s.1.1 λz14=>(ck (eX s.1.1 (ai s.q5)) (M ((s.p2,s.p3,s.p4,(cK s.q5 s.1.1 (cL z14))),J)))))))))))))))
def mj (it:zw) (x:fD×Y jM):I ν:=
 (bx 400 (aX x.2) (M (0,2)) (au (dX x.1) λy1=>(aF (!y1) (M (0,1)) (au (dD x.1) λZ=>(bC (c9 0 (aX x.1.p4)&&c9 (aX x.1.p4) (aX x.1.p4)&&a8 (aQ (aX x.1.p4)) 24&&decide (((aX x.1.p4):Int)=1)) (it (Int×(fD×Y jM)×gr×θ) _ (λs=>(bx s.1 (aX x.2) (bD gX x.2 s.1 λz=>(au (f_ (s.2.1.1,s.p2,z)) λA=>(jn (α:=Bool×(fD×Y jM)×gr×jM×gr×θ) (be z.1 0 (aF (!A.2) (aD (J,s.2.1,s.p2,(0,z.2),A.1,s.q3)) (au (cu (s.q3,0,z.2)) λU=>(aD ((!U),s.2.1,s.p2,(0,z.2),A.1,s.q3)))) D) λa=>(aF a.1 (aD (s.1,12)) (jn (α:=(fD×Y jM)×gr×gr×θ) (be a.p3.1 0 (be a.p3.2.1 3 (bC (a8 (ai a.q5+ai ([J])) 1) (aD (a.2.1,a.p2,a.p4,(a.q5++([J]))))) (bC (a8 (ai a.q5+ai ([(decide ((a.p3.2.1:Int)=23))])) 1) (aD (a.2.1,a.p2,a.p4,(a.q5++([(decide ((a.p3.2.1:Int)=23))])))))) D) λL=>(cR ((cL s.1),L.1,L.2.2))))))) (aD (0,0)))) (0,x,Z,([]:θ))))))))
def pP (x:fD×Y jM):I ν:=mj @iter x
def eJ (x:fD×Y jM):I ν:=mj @gx x
def j6 (it:zw) (x:fD×Y jM):I ν:=
 (bx 400 (aX x.2) (M (0,2)) (au (dX x.1) λy1=>(aF (!y1) (M (0,1)) (au (dD x.1) λy2=>(bC (c9 0 (aX x.1.p4)&&c9 (aX x.1.p4) (aX x.1.p4)&&a8 (aQ (aX x.1.p4)) 24&&decide (((aX x.1.p4):Int)=2)) (it (Int×(fD×Y jM)×gr×(θ)×θ) _ (λs=>(bx s.1 (aX x.2) (bD gX x.2 s.1 λz=>(au (f_ (s.2.1.1,s.p2,z)) λA=>(jn (α:=Bool×(fD×Y jM)×gr×jM×gr×(θ)×θ) (be z.1 0 (aF (!A.2) (aD (J,s.2.1,s.p2,(0,z.2),A.1,s.q3)) (au (cu (s.p3,0,z.2)) λZ=>(aD ((!Z),s.2.1,s.p2,(0,z.2),A.1,s.q3)))) (be z.1 1 (aF (!A.2) (aD (J,s.2.1,s.p2,(1,z.2),A.1,s.q3)) (au (cu (s.q4,1,z.2)) λU=>(aD ((!U),s.2.1,s.p2,(1,z.2),A.1,s.q3)))) D)) λa=>(aF a.1 (aD (s.1,12)) (jn (α:=(fD×Y jM)×gr×gr×(θ)×θ) (be a.p3.1 0 (be a.p3.2.1 3 (bC (a8 (ai a.p5+ai ([J])) 1) (aD (a.2.1,a.p2,a.p4,(a.p5++([J])),a.q6))) (bC (a8 (ai a.p5+ai ([(decide ((a.p3.2.1:Int)=23))])) 1) (aD (a.2.1,a.p2,a.p4,(a.p5++([(decide ((a.p3.2.1:Int)=23))])),a.q6)))) (be a.p3.1 1 (be a.p3.2.1 3 (bC (a8 (ai a.q6+ai ([J])) 1) (aD (a.2.1,a.p2,a.p4,a.p5,(a.q6++([J]))))) (bC (a8 (ai a.q6+ai ([(decide ((a.p3.2.1:Int)=23))])) 1) (aD (a.2.1,a.p2,a.p4,a.p5,(a.q6++([(decide ((a.p3.2.1:Int)=23))])))))) D)) λL=>(cR ((cL s.1),L.1,L.2.2))))))) (aD (0,0)))) (0,x,y2,([]:θ),([]:θ))))))))
def pO (x:fD×Y jM):I ν:=j6 @iter x
def dE (x:fD×Y jM):I ν:=j6 @gx x
def jZ (it:zw) (x:fD×Y jM):I ν:=
 (bx 400 (aX x.2) (M (0,2)) (au (dX x.1) λy1=>(aF (!y1) (M (0,1)) (au (dD x.1) λy2=>(bC (c9 0 (aX x.1.p4)&&c9 (aX x.1.p4) (aX x.1.p4)&&a8 (aQ (aX x.1.p4)) 24&&decide (((aX x.1.p4):Int)=3)) (it (Int×(fD×Y jM)×gr×(θ)×(θ)×θ) _ (λs=>(bx s.1 (aX x.2) (bD gX x.2 s.1 λz=>(au (f_ (s.2.1.1,s.p2,z)) λA=>(jn (α:=Bool×(fD×Y jM)×gr×jM×gr×(θ)×(θ)×θ) (be z.1 0 (aF (!A.2) (aD (J,s.2.1,s.p2,(0,z.2),A.1,s.q3)) (au (cu (s.p3,0,z.2)) λy7=>(aD ((!y7),s.2.1,s.p2,(0,z.2),A.1,s.q3)))) (be z.1 1 (aF (!A.2) (aD (J,s.2.1,s.p2,(1,z.2),A.1,s.q3)) (au (cu (s.p4,1,z.2)) λZ=>(aD ((!Z),s.2.1,s.p2,(1,z.2),A.1,s.q3)))) (be z.1 2 (aF (!A.2) (aD (J,s.2.1,s.p2,(2,z.2),A.1,s.q3)) (au (cu (s.q5,2,z.2)) λU=>(aD ((!U),s.2.1,s.p2,(2,z.2),A.1,s.q3)))) D))) λa=>(aF a.1 (aD (s.1,12)) (jn (α:=(fD×Y jM)×gr×gr×(θ)×(θ)×θ) (be a.p3.1 0 (be a.p3.2.1 3 (bC (a8 (ai a.p5+ai ([J])) 1) (aD (a.2.1,a.p2,a.p4,(a.p5++([J])),a.q6))) (bC (a8 (ai a.p5+ai ([(decide ((a.p3.2.1:Int)=23))])) 1) (aD (a.2.1,a.p2,a.p4,(a.p5++([(decide ((a.p3.2.1:Int)=23))])),a.q6)))) (be a.p3.1 1 (be a.p3.2.1 3 (bC (a8 (ai a.p6+ai ([J])) 1) (aD (a.2.1,a.p2,a.p4,a.p5,(a.p6++([J])),a.q7))) (bC (a8 (ai a.p6+ai ([(decide ((a.p3.2.1:Int)=23))])) 1) (aD (a.2.1,a.p2,a.p4,a.p5,(a.p6++([(decide ((a.p3.2.1:Int)=23))])),a.q7)))) (be a.p3.1 2 (be a.p3.2.1 3 (bC (a8 (ai a.q7+ai ([J])) 1) (aD (a.2.1,a.p2,a.p4,a.p5,a.p6,(a.q7++([J]))))) (bC (a8 (ai a.q7+ai ([(decide ((a.p3.2.1:Int)=23))])) 1) (aD (a.2.1,a.p2,a.p4,a.p5,a.p6,(a.q7++([(decide ((a.p3.2.1:Int)=23))])))))) D))) λL=>(cR ((cL s.1),L.1,L.2.2))))))) (aD (0,0)))) (0,x,y2,([]:θ),([]:θ),([]:θ))))))))
def pN (x:fD×Y jM):I ν:=jZ @iter x
def dU (x:fD×Y jM):I ν:=jZ @gx x
def jY (it:zw) (x:fD×Y jM):I ν:=
 (bx 400 (aX x.2) (M (0,2)) (au (dX x.1) λy1=>(aF (!y1) (M (0,1)) (au (dD x.1) λy2=>(bC (c9 0 (aX x.1.p4)&&c9 (aX x.1.p4) (aX x.1.p4)&&a8 (aQ (aX x.1.p4)) 24&&decide (((aX x.1.p4):Int)=4)) (it (Int×(fD×Y jM)×gr×(θ)×(θ)×(θ)×θ) _ (λs=>(bx s.1 (aX x.2) (bD gX x.2 s.1 λz=>(au (f_ (s.2.1.1,s.p2,z)) λA=>(jn (α:=Bool×(fD×Y jM)×gr×jM×gr×(θ)×(θ)×(θ)×θ) (be z.1 0 (aF (!A.2) (aD (J,s.2.1,s.p2,(0,z.2),A.1,s.q3)) (au (cu (s.p3,0,z.2)) λy7=>(aD ((!y7),s.2.1,s.p2,(0,z.2),A.1,s.q3)))) (be z.1 1 (aF (!A.2) (aD (J,s.2.1,s.p2,(1,z.2),A.1,s.q3)) (au (cu (s.p4,1,z.2)) λy8=>(aD ((!y8),s.2.1,s.p2,(1,z.2),A.1,s.q3)))) (be z.1 2 (aF (!A.2) (aD (J,s.2.1,s.p2,(2,z.2),A.1,s.q3)) (au (cu (s.p5,2,z.2)) λZ=>(aD ((!Z),s.2.1,s.p2,(2,z.2),A.1,s.q3)))) (be z.1 3 (aF (!A.2) (aD (J,s.2.1,s.p2,(3,z.2),A.1,s.q3)) (au (cu (s.q6,3,z.2)) λU=>(aD ((!U),s.2.1,s.p2,(3,z.2),A.1,s.q3)))) D)))) λa=>(aF a.1 (aD (s.1,12)) (jn (α:=(fD×Y jM)×gr×gr×(θ)×(θ)×(θ)×θ) (be a.p3.1 0 (be a.p3.2.1 3 (bC (a8 (ai a.p5+ai ([J])) 1) (aD (a.2.1,a.p2,a.p4,(a.p5++([J])),a.q6))) (bC (a8 (ai a.p5+ai ([(decide ((a.p3.2.1:Int)=23))])) 1) (aD (a.2.1,a.p2,a.p4,(a.p5++([(decide ((a.p3.2.1:Int)=23))])),a.q6)))) (be a.p3.1 1 (be a.p3.2.1 3 (bC (a8 (ai a.p6+ai ([J])) 1) (aD (a.2.1,a.p2,a.p4,a.p5,(a.p6++([J])),a.q7))) (bC (a8 (ai a.p6+ai ([(decide ((a.p3.2.1:Int)=23))])) 1) (aD (a.2.1,a.p2,a.p4,a.p5,(a.p6++([(decide ((a.p3.2.1:Int)=23))])),a.q7)))) (be a.p3.1 2 (be a.p3.2.1 3 (bC (a8 (ai a.p7+ai ([J])) 1) (aD (a.2.1,a.p2,a.p4,a.p5,a.p6,(a.p7++([J])),a.q8))) (bC (a8 (ai a.p7+ai ([(decide ((a.p3.2.1:Int)=23))])) 1) (aD (a.2.1,a.p2,a.p4,a.p5,a.p6,(a.p7++([(decide ((a.p3.2.1:Int)=23))])),a.q8)))) (be a.p3.1 3 (be a.p3.2.1 3 (bC (a8 (ai a.q8+ai ([J])) 1) (aD (a.2.1,a.p2,a.p4,a.p5,a.p6,a.p7,(a.q8++([J]))))) (bC (a8 (ai a.q8+ai ([(decide ((a.p3.2.1:Int)=23))])) 1) (aD (a.2.1,a.p2,a.p4,a.p5,a.p6,a.p7,(a.q8++([(decide ((a.p3.2.1:Int)=23))])))))) D)))) λL=>(cR ((cL s.1),L.1,L.2.2))))))) (aD (0,0)))) (0,x,y2,([]:θ),([]:θ),([]:θ),([]:θ))))))))
def pM (x:fD×Y jM):I ν:=jY @iter x
def eH (x:fD×Y jM):I ν:=jY @gx x
def mT (x:fD×Y jM):I ν:=orE (eH x) (orE (dU x) (orE (dE x) (eJ x)))
def yf (it:zw) (x:fD×Y jM):I ((Y η)×Int):=
 (au (mT x) λL=>(jw L.2 0 (M (([]:Y η),12)) (au (qw x.1) λA=>(bC (c9 0 (aX x.2)&&c9 (aX x.2) (aX x.2)&&a8 (aQ (aX x.2)) 24) (it (Int×(fD×Y jM)×Yd0×Y η) _ (λa=>(bx a.1 (aX x.2) (bD gX x.2 a.1 λz=>(au (s8 (a.2.1.1,a.p2,z)) λs=>(ck (eX a.1 (ai a.q3)) (cR ((cL a.1),a.2.1,s.1,(cK a.q3 a.1 s.2)))))) (aD (a.q3,0)))) (0,x,A,(aA (aQ (aX x.2)) ([]:η))))))))
def Ct (x:fD×Y jM):I ((Y η)×Int):=yf @iter x
def qa (x:fD×Y jM):I ((Y η)×Int):=yf @gx x
def ua:Nat:=1000000000
def jl (a b:η):η:=(bS (max a.length b.length)).map λi=>fM (a.getD i 0) (b.getD i 0)
theorem qy (a b:η):(jl a b).length=max a.length b.length:=by simp[jl]
theorem wB (a b:η) (i:Nat):(jl a b).getD i 0=fM (a.getD i 0) (b.getD i 0):=by
 unfold jl;simp only[av,bc];by_cases h:i<max a.length b.length
 .rw[wN h];rfl
 .rw[bG (by simp only[c_];omega),bG (l:=a) (by omega),bG (l:=b) (by omega)];rfl
theorem sB (c:η) (i:Nat):gu (c,(i:Int))=M (c.getD i 0):=by
 unfold gu bx wQ aX aD;simp only[];rw[u_ (by omega)];simp only[c4,ju];by_cases h:i<c.length
 .rw[N0 (by simp;omega)];simp only[c4];rw[cE (c5 h),tf];rfl
 .rw[re (by simp;omega)];simp only[cZ];rw[av,bG (by omega)];rfl
theorem acl:sI=gu:=rfl
theorem agw:qn=kF:=rfl
theorem Y6 (a b:η) (L:a.length<=ua) (hb:b.length<=ua):kF (a,b)=M (jl a b):=by
 unfold ua at L hb;unfold kF v7 ck bx bC aX cR aD cL;have hm:max a.length b.length<=1000000000:=by omega
 rw[cE (by simp only[nX];rw[re (by omega),re (by omega),uf (by simp;omega) (by simp;omega)];rfl)];simp only[nX,bY,bU];have:=uY (σ:=Int×η) (R:=η) (max a.length b.length) (by omega) (λi=>((i:Int),(bS (max a.length b.length)).map λk=>if k<i then fM (a.getD k 0) (b.getD k 0) else 0)) (f:=(λs=>(aF (fR s.1 (aM (max a.length b.length))) (au (gu (a,s.1)) λA=>(au (gu (b,s.1)) λz=>(chk (eX s.1 (ai s.2)) λ_=>(chk (eX s.1 (ai s.2)) λ_=>(M (pn ((bm .i64 (s.1+1)),(cK s.2 s.1 (fM A z))))))))) (M (bQ s.2))))) (r:=jl a b) ?_ ?_
 .refine Eq.trans ?_ this;congr 1;simp only[Int.natCast_zero,xM,eh,aE,Cc];apply dj<;>simp
 .intro i hi;simp only[];rw[uZ (by simp;omega),cZ,sB,sB,cV,cV,cE (c5 (by simpa using hi)),cE (c5 (by simpa using hi)),qi hi (by omega),dM];congr 3;apply dj
  .simp
  .intro k h1 h2;simp only[bw,c_]at h2;simp only[ne,kU,jv];by_cases e:i=k
   .subst e;simp
   .by_cases h:k<i
    .rw[ax e,aC h,aC (by omega)]
    .rw[ax e,ax h,ax (by omega)]
 .simp only[];rw[u_ (by simp),c4];congr 2;unfold jl;apply iI;intro k hk;rw[aC (lK.1 hk)]
theorem ab9 (a b:η) (L:a.length<=ua) (hb:b.length<=ua):ul (a,b)=M (jl a b,b):=by
 unfold ua at L hb;unfold ul IQ ck bx bC aX cR aD cL;have hm:max a.length b.length<=1000000000:=by omega
 rw[cE (by simp only[nX];rw[re (by omega),re (by omega),uf (by simp;omega) (by simp;omega)];rfl)];simp only[nX,bY,bU];have:=uY (σ:=Int×η×η) (R:=η×η) (max a.length b.length) (by omega) (λi=>((i:Int),b,(bS (max a.length b.length)).map λk=>if k<i then fM (a.getD k 0) (b.getD k 0) else 0)) (f:=(λs=>(aF (fR s.1 (aM (max a.length b.length))) (au (gu (a,s.1)) λA=>(au (gu (s.2.1,s.1)) λz=>(chk (eX s.1 (ai s.2.2)) λ_=>(chk (eX s.1 (ai s.2.2)) λ_=>(M (pn ((bm .i64 (s.1+1)),s.2.1,(cK s.2.2 s.1 (fM A z))))))))) (M (bQ (s.2.2,s.2.1)))))) (r:=(jl a b,b)) ?_ ?_
 .refine Eq.trans ?_ this;congr 1;simp only[Int.natCast_zero,xM,eh,aE,Cc];apply dj<;>simp
 .intro i hi;simp only[];rw[uZ (by simp;omega),cZ,sB,sB,cV,cV,cE (c5 (by simpa using hi)),cE (c5 (by simpa using hi)),qi hi (by omega),dM];congr 4;apply dj
  .simp
  .intro k h1 h2;simp only[bw,c_]at h2;simp only[ne,kU,jv];by_cases e:i=k
   .subst e;simp
   .by_cases h:k<i
    .rw[ax e,aC h,aC (by omega)]
    .rw[ax e,ax h,ax (by omega)]
 .simp only[];rw[u_ (by simp),c4];congr 3;unfold jl;apply iI;intro k hk;rw[aC (lK.1 hk)]
theorem UJ (a b:η) (s:a.length<=ua) (hb:b.length<=ua):Cz (a,b)=M (jl a b):=by
 unfold Cz;rw[ab9 a b s hb,cV];exact Rw rfl _
def tk (c:η) (t:Nat):η:=(c++aA (t+1-c.length) 0).set t (c.getD t 0+1)
theorem Nu (c:η) (t:Nat):(tk c t).length=max c.length (t+1):=by simp[tk];omega
theorem alm (c:η) (n i:Nat):(c++aA n 0).getD i 0=c.getD i 0:=by
 simp only[av];by_cases h:i<c.length
 .rw[bR h]
 .rw[cj (by omega),bG (l:=c) (by omega),jC];split<;>rfl
theorem I9 (c:η) (t i:Nat):(tk c t).getD i 0=if i=t then c.getD t 0+1 else c.getD i 0:=by
 unfold tk;rw[av,ka];by_cases h:t=i
 .subst h;rw[aC rfl,aC (by simp;omega),aC rfl];rfl
 .rw[ax h,ax (λe=>h e.symm),<-av,alm]
theorem Lo (c:η) (n:Nat) (h:c.length<=n):OJ (aA n 0) c=c++aA (n-c.length) 0:=by
 unfold OJ;rw[bU,gj h,List.drop_replicate]
theorem aiu (c:η) (t:Nat) (hc:c.length<=ua) (ht:t<4) (h0:0<=c.getD t 0) (h1:c.getD t 0<9223372036854775807):s9 (c,(t:Int))=M (tk c t):=by
 unfold ua at hc;unfold s9 ck iR bC aX aD cL;simp only[];rw[re (by omega),cZ,ju,uZ (by omega)];simp only[cZ,ju];have e1:fM (aM c.length) (bm .i64 ((t:Int)+1))=((max c.length (t+1):Nat):Int):=by
  rw[qi ht (by omega)];exact nX _ _
 rw[e1];rw[cE (by rw[re (by omega),re (by omega),uf (by simp;omega) (by simp;omega)];rfl)];rw[bY];have e2:OJ (aA (max c.length (t+1)) (0:Int)) c=c++aA (t+1-c.length) 0:=by
  rw[Lo c _ (by omega)];rw[show max c.length (t+1)-c.length=t+1-c.length from by omega]
 rw[e2];have hl:t<(c++aA (t+1-c.length) (0:Int)).length:=by simp;omega
 rw[cE (c5 hl),cE (c5 hl),ju];have e3:aI (T:=.int .i64) (c++aA (t+1-c.length) (0:Int)) (t:Int)=c.getD t 0:=by
  rw[tf];exact alm c _ t
 simp only[];rw[e3,uZ h1,cZ,cE (c5 hl),cE (c5 hl),cE (c5 hl),cE (c5 hl),ju,abw (by omega) (by omega),dM];rfl
theorem UN (c:η) (hc:c.length<=ua):rR c=M c:=by
 unfold ua at hc;unfold rR bC;rw[cE (uf (by omega) (by omega))]
theorem UZ (c:η) (hc:c.length<=ua):CA c=M c:=by
 unfold ua at hc;unfold CA;rw[cE (uf (by omega) (by omega))]
theorem OY (c:η) (hc:c.length<=ua):vT c=M c:=by
 unfold ua at hc;unfold vT xh bC;rw[cE (uf (by simp;omega) (by simp;omega)),cV];exact Rw rfl _
theorem OZ (c:η) (hc:c.length<=ua):pA c=M c:=UZ c hc
theorem Vp (c:η) (t:Nat) (hc:c.length<=ua) (ht:t<4) (h0:0<=c.getD t 0) (h1:c.getD t 0<9223372036854775807):qm (c,(t:Int))=M (tk c t):=by
 unfold ua at hc;unfold qm AU ck bx iR bC aX cR aD;simp only[];rw[UN c (by unfold ua;omega),cV,u_ (by omega),c4,ju,N0 (by omega)];simp only[c4];have:=uY (σ:=η) (R:=η) (t+1-c.length) (by omega) (λi=>c++aA i 0) (f:=(λa=>(aF (c9 (aM (ai a)) (t:Int)) (chk (a8 (ai a+ai ([(0:Int)])) 8) λ_=>(M (pn (a++([0]))))) (au (jn (α:=η) (chk (eX (t:Int) (ai a)) λ_=>(chk (eX (t:Int) (ai a)) λ_=>(aF (fR (aI (T:=(.int .i64)) a (t:Int)) 9223372036854775807) (chk (eX (t:Int) (ai a)) λ_=>(chk (eX (t:Int) (ai a)) λ_=>(chk (eX (t:Int) (ai a)) λ_=>(chk (eX (t:Int) (ai a)) λ_=>(M (bQ (cK a (t:Int) (bm .i64 ((aI (T:=(.int .i64)) a (t:Int))+1))))))))) (M (bQ a))))) λs=>(M s)) λr=>M (bQ r))))) (r:=tk c t) ?_ ?_
 .simpa using this
 .intro i hi;rw[re (by simp;omega),cZ,cE (uf (by simp;omega) (by simp;omega)),gR,<-pt]
 .have hl:t<(c++aA (t+1-c.length) (0:Int)).length:=by simp;omega
  have e3:aI (T:=.int .i64) (c++aA (t+1-c.length) (0:Int)) (t:Int)=c.getD t 0:=by
   rw[tf];exact alm c _ t
  rw[N0 (by simp;omega),c4,cE (c5 hl),cE (c5 hl),e3,uZ h1,cZ,cE (c5 hl),cE (c5 hl),cE (c5 hl),cE (c5 hl),ju,cV,abw (by omega) (by omega),dM];rfl
def GL (l:Y η):Prop:=l.length<=ua/\∀c∈l,c.length<=ua
abbrev HTp:Type:=Y η×Y η×Y η×Y η×Y η×Y η×η×Y η×η
def GH (h:HTp):Prop:=GL h.1/\GL h.2.1/\GL h.2.2.1/\GL h.2.2.2.1/\GL h.2.2.2.2.1/\GL h.2.2.2.2.2.1/\h.2.2.2.2.2.2.1.length<=ua/\GL h.2.2.2.2.2.2.2.1/\h.2.2.2.2.2.2.2.2.length<=ua
theorem Ke {l:Y η} {i:Nat} (h:i<l.length):l.getD i []∈l:=by
 rw[av,ay h];exact vO h
theorem GL.at {l:Y η} (h:GL l) (i:Nat):(l.getD i []).length<=ua:=by
 by_cases hi:i<l.length
 .exact h.2 _ (Ke hi)
 .rw[av,bG (by omega)];simp
theorem aa5 (g:η->I η) (l:Y η) (hl:l.length<=ua) (hg:∀c∈l,g c=M c):
 gx (σ:=Int×Y η) (λa=>(aF (fR a.1 (aM (ai l))) (chk (eX a.1 (ai l)) λ_=>(au (g (aI (T:=(.sl (.int .i64))) l a.1)) λs=>(chk (eX a.1 (ai a.2)) λ_=>(chk (eX a.1 (ai a.2)) λ_=>(M (pn ((bm .i64 (a.1+1)),(cK a.2 a.1 s)))))))) (M (bQ a.2)))) (0,(aA (aQ (aM (ai l))) ([]:η)))=M l:=by
 unfold ua at hl;have:=uY (σ:=Int×Y η) (R:=Y η) l.length (by omega) (λi=>((i:Int),(bS l.length).map λk=>if k<i then l.getD k [] else [])) (f:=(λa=>(aF (fR a.1 (aM (ai l))) (chk (eX a.1 (ai l)) λ_=>(au (g (aI (T:=(.sl (.int .i64))) l a.1)) λs=>(chk (eX a.1 (ai a.2)) λ_=>(chk (eX a.1 (ai a.2)) λ_=>(M (pn ((bm .i64 (a.1+1)),(cK a.2 a.1 s)))))))) (M (bQ a.2))))) (r:=l) ?_ ?_
 .refine Eq.trans ?_ this;congr 1;simp only[Int.natCast_zero,xM,eh,aE,Cc,ak,bY];apply dj<;>simp
 .intro i hi;simp only[];rw[uZ (by simp;omega),cZ,cE (c5 hi),tf,show (l.getD i (Ty.zero (.sl (.int .i64))))=l.getD i [] from rfl,hg _ (Ke hi),cV,cE (c5 (by simpa using hi)),cE (c5 (by simpa using hi)),qi hi (by omega),dM];congr 3;apply dj
  .simp
  .intro k h1 h2;simp only[bw,c_]at h2;simp only[ne,kU,jv];by_cases e:i=k
   .subst e;simp
   .by_cases h:k<i
    .rw[ax e,aC h,aC (by omega)]
    .rw[ax e,ax h,ax (by omega)]
 .simp only[];rw[u_ (by simp),c4];congr 2;apply dj
  .simp
  .intro k h1 h2;simp only[kU,jv];rw[aC h2,av,ay h2];rfl
theorem sw (l:Y η) (h:GL l):iE l=M l:=by
 have hl:=h.1;unfold ua at hl;unfold iE ye ck bx wQ bC aX cR aD cL;rw[cE (by rw[re (by simp),re (by omega),uf (by simp;omega) (by simp;omega)];rfl)];exact aa5 CA l h.1 λc hc=>UZ c (h.2 c hc)
theorem aa6 (h:HTp) (g:GH h):uW h=M (h.2.2.2.2.2.2.1,h.1,h.2.1,h.2.2.1,h.2.2.2.1,h.2.2.2.2.1,h.2.2.2.2.2.1,h.2.2.2.2.2.2.2.1,h.2.2.2.2.2.2.2.2):=by
 obtain⟨g1,g2,Z,U,L,A,z,s,a⟩:=g;unfold uW aY bi bu cF dZ kY qJ;rw[sw _ g1,cV,sw _ g2,cV,sw _ Z,cV,sw _ U,cV,sw _ L,cV,sw _ A,cV,OZ _ z,cV,sw _ s,cV,OZ _ a,cV]
theorem afk (a b:η) (s:a.length<=ua) (hb:b.length<=ua) (h:∀i,a.getD i 0<=b.getD i 0):o_ (a,b)=M J:=by
 unfold ua at s hb;unfold o_ DQ bx aX cR aD cL;refine uY (σ:=Int) (max a.length b.length) (by omega) (λi=>(i:Int)) (λi hi=>?_) ?_
 .simp only[nX];rw[uZ (by omega),cZ,acl,sB,sB,cV,cV,u_ (h i),c4,qi hi (by omega)]
 .simp only[nX];rw[u_ (by omega),c4]
theorem aj0 (a b:η) (s:a.length<=ua) (hb:b.length<=ua) (h:∀i,a.getD i 0=b.getD i 0):rP (a,b)=M J:=by
 unfold rP aD;rw[afk a b s hb λi=>Int.le_of_eq (h i),cV,cZ,afk b a hb s λi=>Int.le_of_eq (h i).symm,cV,ju]
theorem aax (a:η) (h:a.length<=ua):rP (a,a)=M J:=aj0 a a h h λ_=>rfl
abbrev vH:Type:=Y (ζ×Int×Int×Bool×Int)×Y (ζ×Bool)×Y (ζ×Int)×Y ζ×Y ζ×Y π
def h0 (w:vH):HTp:=(aA w.2.2.2.2.1.length [],aA w.2.2.2.2.1.length [],aA w.2.1.length [],aA w.2.1.length [],aA w.1.length [],aA w.2.2.2.1.length [],[],aA w.2.2.2.2.1.length [],aA w.2.2.2.2.1.length (-1))
theorem aff (w:vH) (h1:w.1.length<=ua) (h2:w.2.1.length<=ua) (z:w.2.2.2.1.length<=ua) (s:w.2.2.2.2.1.length<=ua):qw w=M (h0 w):=by
 unfold ua at h1 h2 z s;have c:∀n b:Nat,n<=1000000000->b<=24->(c9 0 (aM n)&&c9 (aM n) (aM n)&&a8 (aQ (aM n)) b)=J:=λn b hn hb=>by
  have:n*b<=n*24:=Nat.mul_le_mul_left n hb;rw[re (by simp),re (by omega),uf (by simp;omega) (by simp;omega)];rfl
 unfold qw AX aY bi bu cF dZ kY qJ ck bx bC aX cR aD cL;rw[cE (c _ 24 s (by omega)),cE (c _ 24 s (by omega)),cE (c _ 24 h2 (by omega)),cE (c _ 24 h2 (by omega)),cE (c _ 24 h1 (by omega)),cE (c _ 24 z (by omega)),cE (c _ 24 s (by omega)),cE (c _ 8 s (by omega))];simp only[ak,bY,bU];have:=uY (σ:=Int×(Y η)×(Y η)×(Y η)×(Y η)×(Y η)×(Y η)×(Y η)×η) (R:=HTp) w.2.2.2.2.1.length (by omega) (λi=>((i:Int),aA w.2.2.2.2.1.length [],aA w.2.2.2.2.1.length [],aA w.2.1.length [],aA w.2.1.length [],aA w.1.length [],aA w.2.2.2.1.length [],aA w.2.2.2.2.1.length [],(bS w.2.2.2.2.1.length).map λk=>if k<i then -1 else 0)) (f:=(λa=>(aF (fR a.1 (w.2.2.2.2.1.length:Int)) (chk (eX a.1 (ai a.2.2.2.2.2.2.2.2)) λ_=>(chk (eX a.1 (ai a.2.2.2.2.2.2.2.2)) λ_=>(M (pn ((bm .i64 (a.1+1)),a.2.1,a.2.2.1,a.2.2.2.1,a.2.2.2.2.1,a.2.2.2.2.2.1,a.2.2.2.2.2.2.1,a.2.2.2.2.2.2.2.1,(cK a.2.2.2.2.2.2.2.2 a.1 (-1))))))) (M (bQ (a.2.1,a.2.2.1,a.2.2.2.1,a.2.2.2.2.1,a.2.2.2.2.2.1,a.2.2.2.2.2.2.1,([]:η),a.2.2.2.2.2.2.2.1,a.2.2.2.2.2.2.2.2)))))) (r:=h0 w) ?_ ?_
 .refine Eq.trans ?_ this;congr 1;simp only[Int.natCast_zero,xM,eh,aE,Cc];apply dj<;>simp
 .intro i hi;simp only[];rw[uZ (by omega),cZ,cE (c5 (by simpa using hi)),cE (c5 (by simpa using hi)),qi hi (by omega),dM];congr 3;simp only[aE,Cc];apply dj
  .simp
  .intro k h1 h2;simp only[bw,c_]at h2;simp only[ne,kU,jv];by_cases e:i=k
   .subst e;simp
   .by_cases h:k<i
    .rw[ax e,aC h,aC (by omega)]
    .rw[ax e,ax h,ax (by omega)]
 .simp only[];rw[u_ (by omega),c4];unfold h0;congr 3;simp only[aE,Cc];apply dj
  .simp
  .intro k h1 h2;simp only[bU]at h2;simp only[kU,jv,List.getElem_replicate];rw[aC h2]
theorem rc (x y:Int):fM x y=max x y:=by
 unfold fM;by_cases h:x<y
 .rw[uZ h,aC rfl];omega
 .rw[u_ (by omega)];simp;omega
theorem VQ (a b c:Int):fM (fM a b) c=fM a (fM b c):=by
 simp only[rc];omega
theorem xj {a b:η} (hl:a.length=b.length) (h:∀i,a.getD i 0=b.getD i 0):a=b:=by
 apply dj hl;intro i h1 h2;have:=h i;simpa[av,ay h1,ay h2] using this
theorem q_ (a b c:η):jl (jl a b) c=jl a (jl b c):=
 xj (by simp only[qy];omega) λi=>by simp only[wB,VQ]
def En (n:Int) (c:η):Prop:=c.length<=4/\∀i,0<=c.getD i 0/\c.getD i 0<=n
theorem En.nil {n:Int} (h:0<=n):En n []:=⟨by simp,λi=>by simp;exact h⟩
theorem En.mono {n m:Int} {c:η} (h:En n c) (hm:n<=m):En m c:=⟨h.1,λi=>⟨(h.2 i).1,Int.le_trans (h.2 i).2 hm⟩⟩
theorem En.jl {n:Int} {a b:η} (s:En n a) (hb:En n b):En n (jl a b):=⟨by rw[qy];have:=s.1;have:=hb.1;omega,λi=>by
 rw[wB];obtain⟨h1,h2⟩:=s.2 i;obtain⟨A,z⟩:=hb.2 i;unfold fM;split<;>exact⟨by assumption,by assumption⟩⟩
theorem En.tk {n:Int} {c:η} {t:Nat} (h:En n c) (ht:t<4):En (n+1) (tk c t):=⟨by rw[Nu];have:=h.1;omega,λi=>by
 rw[I9];obtain⟨h1,h2⟩:=h.2 i;obtain⟨s,a⟩:=h.2 t;split<;>omega⟩
theorem mQ {n:Int} {c:η} (h:En n c):jl c []=c:=xj (by simp[qy]) λi=>by
 rw[wB,rc];have:=(h.2 i).1;simp only[List.getD_nil];omega
theorem alo {n:Int} {c:η} (h:En n c):jl [] c=c:=xj (by simp[qy]) λi=>by
 rw[wB,rc];have:=(h.2 i).1;simp only[List.getD_nil];omega
def B_ (n:Int) (l:Y η):Prop:=∀i,En n (l.getD i [])
theorem B_.mono {n m:Int} {l:Y η} (h:B_ n l) (hm:n<=m):B_ m l:=λi=>(h i).mono hm
theorem B_.set {n:Int} {l:Y η} (h:B_ n l) {c:η} (hc:En n c) (j:Nat):B_ n (l.set j c):=λi=>by
 rw[av,ka];by_cases e:j=i
 .subst e;rw[aC rfl];split
  .exact hc
  .have:=h j;simp only[av]at this;rename_i hj;rw[bG (by omega)]at this;exact this
 .rw[ax e,<-av];exact h i
theorem B_.repl {n:Int} (h:0<=n) (k:Nat):B_ n (aA k []):=λi=>by
 rw[av,jC];split<;>exact En.nil h
structure HS where
 T:List η
 S:List η
 L:List η
 R:List η
 C:List η
 F:List η
 X:η
 N:List η
 W:η
def HS.t (h:HS):HTp:=(h.T,h.S,h.L,h.R,h.C,h.F,h.X,h.N,h.W)
structure EV where
 th:Nat
 k:Nat
 ob:Nat
 va:Int
abbrev WTc:=Y (ζ×Int)
def Pu (a:WTc) (o:Nat):Nat:=((a.getD o ([],0)).2).toNat
def tH (a:Y (ζ×Int×Int×Bool×Int)) (o:Nat):Bool:=(a.getD o ([],0,0,af,0)).2.2.2.1
def uc (w:vH) (h:HS) (e:EV):Y η:=
 if e.k=1 then [h.S.getD e.th []]
 else if e.k=21 then [h.T.getD e.ob []]
 else if e.k=6\/e.k=10 then [h.L.getD e.ob [],h.R.getD e.ob []]
 else if e.k=8 then [h.L.getD e.ob []]
 else if e.k=17 then [h.L.getD (Pu w.2.2.1 e.ob) [],h.R.getD (Pu w.2.2.1 e.ob) [],h.N.getD e.th []]
 else if e.k=3 then [h.C.getD e.ob []]
 else if e.k=23 then [h.F.getD e.ob []]
 else if e.k=12 then [h.X]
 else []
def F4 (w:vH) (h:HS) (e:EV):η:=tk ((uc w h e).foldl jl (h.T.getD e.th [])) e.th
def jat (l:Y η) (i:Nat) (c:η):Y η:=l.set i (jl (l.getD i []) c)
def C' (p:Nat->Bool) (c:η) (h:HS):HS:={h with N:=h.N.mapIdx λu x=>if p u then c else x,W:=h.W.mapIdx λu x=>if p u then -1 else x}
def j8 (w:vH) (h:HS) (e:EV) (c:η):HS:=
 let h:={h with T:=h.T.set e.th c}
 if e.k=20 then {h with S:=h.S.set e.ob c}
 else if e.k=7\/e.k=11 then {h with L:=jat h.L e.ob c}
 else if e.k=9 then {h with R:=jat h.R e.ob c}
 else if e.k=16 then {h with L:=jat h.L (Pu w.2.2.1 e.ob) c,W:=h.W.set e.th e.ob}
 else if e.k=4 then (if tH w.1 e.ob then {h with C:=jat h.C e.ob c} else h)
 else if e.k=22 then {h with F:=jat h.F e.ob c}
 else if e.k=13 then {h with X:=jl h.X c}
 else if e.k=18 then (if 0<=e.va/\e.va<h.N.length then {h with N:=h.N.set e.va.toNat c,W:=h.W.set e.va.toNat (-1)} else h)
 else if e.k=19 then C' (λu=>decide (h.W.getD u 0=(e.ob:Int))) c h
 else h
def Rn (w:vH) (h:HS) (e:EV):HS×η:=(j8 w h e (F4 w h e),F4 w h e)
structure EOK (w:vH) (h:HS) (e:EV):Prop where
 th4:e.th<4
 th:e.th<h.T.length
 k1:1<=e.k
 k2:e.k<=23
 sp:e.k=20\/e.k=21->e.ob<h.T.length
 lk:6<=e.k/\e.k<=11->e.ob<h.L.length
 cd:e.k=16\/e.k=17->e.ob<w.2.2.1.length/\0<=(w.2.2.1.getD e.ob ([],0)).2/\Pu w.2.2.1 e.ob<h.L.length
 ce:e.k=3\/e.k=4->e.ob<h.C.length/\e.ob<w.1.length
 fu:e.k=22\/e.k=23->e.ob<h.F.length
structure U6 (n:Int) (h:HS):Prop where
 n0:0<=n
 n1:n<=1000000
 T:B_ n h.T
 S:B_ n h.S
 L:B_ n h.L
 R:B_ n h.R
 C:B_ n h.C
 F:B_ n h.F
 X:En n h.X
 N:B_ n h.N
 lT:h.T.length<=1000
 lS:h.S.length=h.T.length
 lN:h.N.length=h.T.length
 lW:h.W.length=h.T.length
 lL:h.L.length<=1000
 lR:h.R.length=h.L.length
 lC:h.C.length<=1000
 lF:h.F.length<=1000
theorem En.lb {n:Int} {c:η} (h:En n c):c.length<=ua:=by have:=h.1;unfold ua;omega
theorem B_.GL {n:Int} {l:Y η} (h:B_ n l) (hl:l.length<=1000):GL l:=⟨by unfold ua;omega,λc hc=>by
 obtain⟨i,hi⟩:=fw hc;have:=(h i).lb
 rwa [av,hi]at this⟩
theorem U6.GH {n:Int} {h:HS} (o:U6 n h):GH h.t:=
 ⟨o.T.GL o.lT,o.S.GL (by rw[o.lS];exact o.lT),o.L.GL o.lL,o.R.GL (by rw[o.lR];exact o.lL),o.C.GL o.lC,o.F.GL o.lF,o.X.lb,o.N.GL (by rw[o.lN];exact o.lT),by show h.W.length<=ua;have:=o.lT;rw[o.lW];unfold ua;omega⟩
theorem En.join {n:Int} {a b:η} (s:En n a) (hb:En n b):kF (a,b)=M (AI.jl a b):=Y6 a b s.lb hb.lb
theorem Vf {n:Int} {w:vH} {h:HS} (o:U6 n h) (e:EV):∀c∈uc w h e,En n c:=by
 intro c hc;unfold uc at hc;repeat' (split at hc)
 all_goals simp only[bl,cG,gq]at hc
 .subst hc;exact o.S _
 .subst hc;exact o.T _
 .rcases hc with rfl|rfl
  .exact o.L _
  .exact o.R _
 .subst hc;exact o.L _
 .rcases hc with rfl|rfl|rfl
  .exact o.L _
  .exact o.R _
  .exact o.N _
 .subst hc;exact o.C _
 .subst hc;exact o.F _
 .subst hc;exact o.X
theorem DV {n:Int}:∀(l:Y η) (c:η),En n c->(∀x∈l,En n x)->En n (l.foldl jl c)
 |[],_,hc,_=>hc
 |x::r,c,hc,h=>DV r _ (hc.jl (h x (c8 ..))) λy a=>h y (cC _ a)
theorem QI {n:Int} {w:vH} {h:HS} (o:U6 n h) {e:EV} (he:e.th<4):En (n+1) (F4 w h e):=(DV _ _ (o.T _) (Vf o e)).tk he
theorem B_.jat {n:Int} {l:Y η} {c:η} (h:B_ n l) (hc:En n c) (i:Nat):B_ n (jat l i c):=h.set ((h i).jl hc) i
theorem B_.mapIdx {n:Int} {l:Y η} {c:η} (h:B_ n l) (hc:En n c) (p:Nat->Bool):B_ n (l.mapIdx λu x=>if p u then c else x):=λi=>by
 rw[av,EX];have:=h i;rw[av]at this;cases a:l[i]? with
 |none=>rw[a]at this;exact this
 |some x=>
  rw[a]at this;simp only[ct,vM];split
  .exact hc
  .exact this
theorem ahw {n:Int} {w:vH} {h:HS} (o:U6 n h) (hn:n+1<=1000000) {e:EV} {c:η} (hc:En (n+1) c):U6 (n+1) (j8 w h e c):=by
 have m:n<=n+1:=by omega
 have oT:B_ (n+1) (h.T.set e.th c):=(o.T.mono m).set hc _;have b:U6 (n+1) {h with T:=h.T.set e.th c}:=⟨by have:=o.n0;omega,hn,oT,o.S.mono m,o.L.mono m,o.R.mono m,o.C.mono m,o.F.mono m,o.X.mono m,o.N.mono m,by simpa using o.lT,by simpa using o.lS,by simpa using o.lN,by simpa using o.lW,o.lL,o.lR,o.lC,o.lF⟩
 unfold j8;simp only[];repeat' split
 .exact {b with S:=(o.S.mono m).set hc _,lS:=by simpa using b.lS}
 .exact {b with L:=(o.L.mono m).jat hc _,lL:=by simpa[jat] using b.lL,lR:=by simpa[jat] using b.lR}
 .exact {b with R:=(o.R.mono m).jat hc _,lR:=by simpa[jat] using b.lR}
 .exact {b with L:=(o.L.mono m).jat hc _,lL:=by simpa[jat] using b.lL,lR:=by simpa[jat] using b.lR,lW:=by simpa using b.lW}
 .exact {b with C:=(o.C.mono m).jat hc _,lC:=by simpa[jat] using b.lC}
 .exact b
 .exact {b with F:=(o.F.mono m).jat hc _,lF:=by simpa[jat] using b.lF}
 .exact {b with X:=(o.X.mono m).jl hc}
 .exact {b with N:=(o.N.mono m).set hc _,lN:=by simpa using b.lN,lW:=by simpa using b.lW}
 .exact b
 .exact {b with N:=(o.N.mono m).mapIdx hc _,lN:=by simpa[C'] using b.lN,lW:=by simpa[C'] using b.lW}
 .exact b
theorem ac9 {n:Int} {w:vH} {h:HS} (o:U6 n h) (hn:n+1<=1000000) {e:EV} (he:e.th<4):U6 (n+1) (Rn w h e).1:=ahw o hn (QI o he)
theorem aew {a b:Nat} (h:a=b):aB a b=J:=by subst h;exact sD a
theorem S_ (l:Y η) (i:Nat) (h:i<l.length):uz ((i:Int),l)=M (l.getD i [],l):=by
 unfold uz ck bx aX aD;simp only[];rw[u_ (by omega)];simp only[c4,ju];rw[N0 (by simp;omega)];simp only[c4];rw[cE (c5 h),cE (c5 h),rm]
theorem uB {n:Int} (l:Y η) (i:Nat) (c:η) (h:i<l.length) (hl:B_ n l) (hc:En n c):mg ((i:Int),l,c)=M (jat l i c,c):=by
 unfold mg ck iR aX aD;simp only[];rw[re (by omega)];simp only[cZ,ju];rw[uZ (by simp;omega)];simp only[cZ];rw[cE (c5 h),cE (c5 h),rm,UJ _ _ (hl i).lb hc.lb,cV,cE (c5 h),cE (c5 h),dM];rfl
theorem sd (l:Y η) (i:Nat) (c:η):(jat l i c).length=l.length:=by simp[jat]
theorem XS {n:Int} (h:HS) (u:Nat) (c:η) (h1:u<h.N.length) (h2:u<h.W.length) (hc:En n c):xd ((u:Int),h.X,h.T,h.S,h.L,h.R,h.C,h.F,h.N,h.W,c)=M (h.X,h.T,h.S,h.L,h.R,h.C,h.F,h.N.set u c,h.W.set u (-1),c):=by
 unfold xd aY bi bu cF dZ kY AG C7 Prod.q10 ck;simp only[];rw[OY c hc.lb,cV,cE (c5 h1),cE (c5 h1),cE (c5 h2),cE (c5 h2),dM,dM]
theorem P_ (a:WTc) (i:Nat):aI (T:=.st (.pr .str (.int .i64))) a (i:Int)=a.getD i ([],0):=tf (T:=.st (.pr .str (.int .i64))) a i
theorem P9 (a:Y (ζ×Int×Int×Bool×Int)) (i:Nat):aI (T:=.st (.pr .str (.pr (.int .i64) (.pr (.int .i64) (.pr .bool (.int .i64)))))) a (i:Int)=a.getD i ([],0,0,af,0):=tf (T:=.st (.pr .str (.pr (.int .i64) (.pr (.int .i64) (.pr .bool (.int .i64)))))) a i
abbrev ETp:Type:=Int×Int×Int×Int×Int×η×η
structure EvT (e:EV) (x:ETp):Prop where
 th:x.1=(e.th:Int)
 k:x.2.1=(e.k:Int)
 ob:e.k∈[3,4,6,7,8,9,10,11,16,17,18,19,20,21,22,23]->x.2.2.1=(e.ob:Int)
 va:x.2.2.2.1=e.va
theorem IF {k:Nat} {z:Int} (a:z=(k:Int)) (h1:1<=k) (h2:k<=23):(k=1/\z=1)\/(k=2/\z=2)\/(k=3/\z=3)\/(k=4/\z=4)\/(k=5/\z=5)\/(k=6/\z=6)\/(k=7/\z=7)\/(k=8/\z=8)\/(k=9/\z=9)\/(k=10/\z=10)\/(k=11/\z=11)\/(k=12/\z=12)\/(k=13/\z=13)\/(k=14/\z=14)\/(k=15/\z=15)\/(k=16/\z=16)\/(k=17/\z=17)\/(k=18/\z=18)\/(k=19/\z=19)\/(k=20/\z=20)\/(k=21/\z=21)\/(k=22/\z=22)\/(k=23/\z=23):=by
 have h:k=1\/k=2\/k=3\/k=4\/k=5\/k=6\/k=7\/k=8\/k=9\/k=10\/k=11\/k=12\/k=13\/k=14\/k=15\/k=16\/k=17\/k=18\/k=19\/k=20\/k=21\/k=22\/k=23:=by omega
 subst a;rcases h with rfl|rfl|rfl|rfl|rfl|rfl|rfl|rfl|rfl|rfl|rfl|rfl|rfl|rfl|rfl|rfl|rfl|rfl|rfl|rfl|rfl|rfl|rfl<;>simp
theorem Xo (a:Nat):(aB a a&&J)=J:=by rw[aew rfl];rfl
theorem afe {n:Int} {w:vH} {h:HS} (o:U6 n h) {e:EV} (ok:EOK w h e) {x:ETp} (hx:EvT e x):uX (x,h.X,w,h.T,h.S,h.L,h.R,h.C,h.F,h.N,h.W)=M (uc w h e,x,h.X,w,h.T,h.S,h.L,h.R,h.C,h.F,h.N,h.W):=by
 obtain⟨x1,x2,z,x4,x5,x6,x7⟩:=x;obtain⟨w1,w2,A,w4,w5,w6⟩:=w;obtain⟨th,k,ob,va⟩:=e;obtain⟨q1,U,q3,q4⟩:=hx;simp only at q1 U q3 q4;subst q1 q4;have t1:=ok.th;simp only at t1;have fS:eX (th:Int) h.S.length=J:=c5 (by rw[o.lS];exact t1);have fN:eX (th:Int) h.N.length=J:=c5 (by rw[o.lN];exact t1);have fT:k=21->eX (ob:Int) h.T.length=J/\z=(ob:Int):=λe=>by
  subst e;have:=ok.sp (.inr rfl);exact⟨c5 this,q3 (by decide)⟩
 have fL:(k=6\/k=10\/k=8)->eX (ob:Int) h.L.length=J/\eX (ob:Int) h.R.length=J/\z=(ob:Int):=λe=>by
  have h1:ob<h.L.length:=ok.lk (by rcases e with rfl|rfl|rfl<;>(simp only[];omega));exact⟨c5 h1,c5 (by rw[o.lR];exact h1),q3 (by rcases e with rfl|rfl|rfl<;>decide)⟩
 have fC:k=3->eX (ob:Int) h.C.length=J/\z=(ob:Int):=λe=>by
  subst e;have:=(ok.ce (.inl rfl)).1;exact⟨c5 this,q3 (by decide)⟩
 have fF:k=23->eX (ob:Int) h.F.length=J/\z=(ob:Int):=λe=>by
  subst e;have:=ok.fu (.inr rfl);exact⟨c5 this,q3 (by decide)⟩
 unfold uX uc EW aY bi bu cF dZ kY AG C7 Prod.q10 Prod.q11 cY fH ck be wQ bC aD;rcases IF U ok.k1 ok.k2 with ⟨e,e'⟩|⟨e,e'⟩|⟨e,e'⟩|⟨e,e'⟩|⟨e,e'⟩|⟨e,e'⟩|⟨e,e'⟩|⟨e,e'⟩|⟨e,e'⟩|⟨e,e'⟩|⟨e,e'⟩|⟨e,e'⟩|⟨e,e'⟩|⟨e,e'⟩|⟨e,e'⟩|⟨e,e'⟩|⟨e,e'⟩|⟨e,e'⟩|⟨e,e'⟩|⟨e,e'⟩|⟨e,e'⟩|⟨e,e'⟩|⟨e,e'⟩<;>clear U<;>subst e<;>subst e'
 case inr.inr.inr.inr.inr.inr.inr.inr.inr.inr.inr.inr.inr.inr.inr.inr.inl=>
  have q3:=q3 (by decide);subst q3;obtain⟨d1,d2,Z⟩:=ok.cd (.inr rfl);simp only at d1 d2 Z;have d4:Pu A ob<h.R.length:=by rw[o.lR];exact Z
  have e1:(A.getD ob ([],0)).2=((Pu A ob:Nat):Int):=by unfold Pu;omega
  simp only[aU,cJ,cW,cZ,c4,ju,cE,c5 d1,P_,e1,S_ _ _ Z,S_ _ _ d4,cV,Xo,fN,rm];rfl
 case inr.inr.inl=>
  obtain⟨a,rfl⟩:=fC rfl;simp only[aU,cJ,cW,cZ,c4,ju,cE,a,rm];rfl
 case inr.inr.inr.inr.inr.inr.inr.inr.inr.inr.inr.inr.inr.inr.inr.inr.inr.inr.inr.inr.inr.inr=>
  obtain⟨a,rfl⟩:=fF rfl;simp only[aU,cJ,cW,cZ,c4,ju,cE,a,rm];rfl
 case inr.inr.inr.inr.inr.inr.inr.inr.inr.inr.inr.inr.inr.inr.inr.inr.inr.inr.inr.inr.inl=>
  obtain⟨a,rfl⟩:=fT rfl;simp only[aU,cJ,cW,cZ,c4,ju,cE,a,rm];rfl
 case inl=>
  simp only[aU,cJ,cW,cZ,c4,ju,cE,fS,rm];rfl
 case inr.inr.inr.inr.inr.inl=>
  obtain⟨a,s,rfl⟩:=fL (by decide);simp only[aU,cJ,cW,cZ,c4,ju,cE,a,s,rm];rfl
 case inr.inr.inr.inr.inr.inr.inr.inr.inr.inl=>
  obtain⟨a,s,rfl⟩:=fL (by decide);simp only[aU,cJ,cW,cZ,c4,ju,cE,a,s,rm];rfl
 case inr.inr.inr.inr.inr.inr.inr.inl=>
  obtain⟨a,s,rfl⟩:=fL (by decide);simp only[aU,cJ,cW,cZ,c4,ju,cE,a,s,rm];rfl
 all_goals
  simp only[aU,cJ,cW,cZ,c4,ju];rfl
theorem NY {σ R:Type} {f:σ->I (σ⊕R)} {x0:σ} {r:R} (n:Nat) (hn:n<18446744073709551616) (st:Nat->σ) (a:x0=st 0) (h0:∀i,i<n->f (st i)=M (.inl (st (i+1)))) (h1:f (st n)=M (.inr r)):gx f x0=M r:=by
 subst a;exact uY n hn st h0 h1
def L6 {α:Type} (p:Nat->Bool) (c:α) (u:Nat) (l:Y α):Y α:=l.mapIdx λk x=>if decide (k<u)&&p k then c else x
theorem aby {α:Type} (p:Nat->Bool) (c:α) (l:Y α):L6 p c 0 l=l:=by
 unfold L6;apply dj
 .simp
 .intro i h1 h2;simp
theorem I6 {α:Type} (p:Nat->Bool) (c:α) (u:Nat) (l:Y α):(L6 p c u l).length=l.length:=by simp[L6]
theorem Ri {α:Type} (p:Nat->Bool) (c:α) (u:Nat) (l:Y α) (h:l.length<=u):L6 p c u l=l.mapIdx λk x=>if p k then c else x:=by
 unfold L6;apply dj
 .simp
 .intro i h1 h2;simp only[List.length_mapIdx]at h1;simp only[List.getElem_mapIdx];rw[show decide (i<u)=J from aS (by omega)];rfl
theorem XM {α:Type} (p:Nat->Bool) (c:α) (u:Nat) (l:Y α) (hp:p u=J):(L6 p c u l).set u c=L6 p c (u+1) l:=by
 unfold L6;apply dj
 .simp
 .intro i h1 h2;simp only[ne,List.getElem_mapIdx];by_cases e:u=i
  .subst e;simp[hp]
  .rw[ax e];by_cases h:i<u
   .rw[aS h,aS (show i<u+1 by omega)]
   .rw[bB h,bB (show ¬i<u+1 by omega)]
theorem Rh {α:Type} (p:Nat->Bool) (c:α) (u:Nat) (l:Y α) (hp:p u=af):L6 p c u l=L6 p c (u+1) l:=by
 unfold L6;apply dj
 .simp
 .intro i h1 h2;simp only[List.getElem_mapIdx];by_cases e:u=i
  .subst e;simp[hp]
  .by_cases h:i<u
   .rw[aS h,aS (show i<u+1 by omega)]
   .rw[bB h,bB (show ¬i<u+1 by omega)]
theorem al8 (p:Nat->Bool) (c:Int) (u:Nat) (l:η):(L6 p c u l).getD u 0=l.getD u 0:=by
 unfold L6;rw[av,EX,av];cases l[u]? with
 |none=>rfl
 |some x=>simp
def HS.e (h:HS) (c:η):η×Y η×Y η×Y η×Y η×Y η×Y η×Y η×η×η:=(h.X,h.T,h.S,h.L,h.R,h.C,h.F,h.N,h.W,c)
theorem ae9 {n:Int} {w:vH} {h:HS} (o:U6 n h) (hn:n+1<=1000000) {e:EV} (ok:EOK w h e) {x:ETp} (hx:EvT e x) {c:η} (hc:En (n+1) c):r9 ((w,x),h.e c)=M ((j8 w h e c).e c):=by
 obtain⟨x1,x2,x3,a,x5,x6,x7⟩:=x;obtain⟨z,w2,A,w4,w5,w6⟩:=w;obtain⟨th,k,ob,va⟩:=e;obtain⟨q1,q2,q3,q4⟩:=hx;simp only at q1 q2 q3 q4;subst q1 q4;have t1:=ok.th;simp only at t1;have m:n<=n+1:=by omega
 have fT:eX (th:Int) h.T.length=J:=c5 t1;have fW:eX (th:Int) h.W.length=J:=c5 (by rw[o.lW];exact t1);have s:=OY c hc.lb;unfold r9 AW HS.e EW Prod.p11 Prod.p12 Prod.p13 Prod.p14 Prod.p15 Prod.p16 Prod.p17 aY bi bu cF dZ kY AG C7 Prod.q10 Prod.q16 Prod.q17 Prod.q18 cY ky Prod.q9 ck be bx iR wQ bC aX cR aD cL;rcases IF q2 ok.k1 ok.k2 with ⟨e,e'⟩|⟨e,e'⟩|⟨e,e'⟩|⟨e,e'⟩|⟨e,e'⟩|⟨e,e'⟩|⟨e,e'⟩|⟨e,e'⟩|⟨e,e'⟩|⟨e,e'⟩|⟨e,e'⟩|⟨e,e'⟩|⟨e,e'⟩|⟨e,e'⟩|⟨e,e'⟩|⟨e,e'⟩|⟨e,e'⟩|⟨e,e'⟩|⟨e,e'⟩|⟨e,e'⟩|⟨e,e'⟩|⟨e,e'⟩|⟨e,e'⟩<;>clear q2<;>subst e<;>subst e'
 case inr.inr.inr.inr.inr.inr.inr.inr.inr.inr.inr.inr.inr.inr.inr.inr.inr.inr.inr.inl=>
  obtain rfl:=q3 (by decide);have f:eX (ob:Int) h.S.length=J:=c5 (by rw[o.lS];exact ok.sp (.inl rfl));simp only[aU,cJ,cW,cZ,c4,ju,cV,cE,s,fT,f,dM];rfl
 case inr.inr.inr.inr.inr.inr.inl=>
  obtain rfl:=q3 (by decide);have f:ob<h.L.length:=ok.lk (by simp only[];omega);simp only[aU,cJ,cW,cZ,c4,ju,cV,cE,s,fT,dM,uB _ _ _ f (o.L.mono m) hc,sd,Xo];rfl
 case inr.inr.inr.inr.inr.inr.inr.inr.inr.inr.inl=>
  obtain rfl:=q3 (by decide);have f:ob<h.L.length:=ok.lk (by simp only[];omega);simp only[aU,cJ,cW,cZ,c4,ju,cV,cE,s,fT,dM,uB _ _ _ f (o.L.mono m) hc,sd,Xo];rfl
 case inr.inr.inr.inr.inr.inr.inr.inr.inl=>
  obtain rfl:=q3 (by decide);have f:ob<h.R.length:=by rw[o.lR];exact ok.lk (by simp only[];omega)
  simp only[aU,cJ,cW,cZ,c4,ju,cV,cE,s,fT,dM,uB _ _ _ f (o.R.mono m) hc,sd,Xo];rfl
 case inr.inr.inr.inr.inr.inr.inr.inr.inr.inr.inr.inr.inr.inr.inr.inl=>
  obtain rfl:=q3 (by decide);obtain⟨Z,d2,d3⟩:=ok.cd (.inl rfl);simp only at Z d2 d3;have e1:(A.getD ob ([],0)).2=((Pu A ob:Nat):Int):=by unfold Pu;omega
  simp only[aU,cJ,cW,cZ,c4,ju,cV,cE,s,fT,fW,dM,c5 Z,P_,e1,uB _ _ _ d3 (o.L.mono m) hc,sd,Xo];rfl
 case inr.inr.inr.inl=>
  obtain rfl:=q3 (by decide);obtain⟨Z,d2⟩:=ok.ce (.inr rfl);simp only at Z d2;simp only[aU,cJ,cW,cZ,c4,ju,cV,cE,s,fT,dM,c5 d2,P9];cases hv:(z.getD ob ([],0,0,af,0)).2.2.2.1 with
  |true=>
   simp only[cZ,cV,cE,uB _ _ _ Z (o.C.mono m) hc,sd,Xo,ju];have U:j8 (z,w2,A,w4,w5,w6) h ⟨th,4,ob,a⟩ c=if tH z ob then {h with T:=h.T.set th c,C:=jat h.C ob c} else {h with T:=h.T.set th c}:=rfl
   rw[U,show tH z ob=J from hv];rfl
  |false=>
   simp only[c4,ju];have U:j8 (z,w2,A,w4,w5,w6) h ⟨th,4,ob,a⟩ c=if tH z ob then {h with T:=h.T.set th c,C:=jat h.C ob c} else {h with T:=h.T.set th c}:=rfl
   rw[U,show tH z ob=af from hv];rfl
 case inr.inr.inr.inr.inr.inr.inr.inr.inr.inr.inr.inr.inr.inr.inr.inr.inr.inr.inr.inr.inr.inl=>
  obtain rfl:=q3 (by decide);have f:ob<h.F.length:=ok.fu (.inl rfl);simp only[aU,cJ,cW,cZ,c4,ju,cV,cE,s,fT,dM,uB _ _ _ f (o.F.mono m) hc,sd,Xo];rfl
 case inr.inr.inr.inr.inr.inr.inr.inr.inr.inr.inr.inr.inl=>
  simp only[aU,cJ,cW,cZ,c4,ju,cV,cE,s,fT,dM,UJ _ _ (o.X.mono m).lb hc.lb];rfl
 case inr.inr.inr.inr.inr.inr.inr.inr.inr.inr.inr.inr.inr.inr.inr.inr.inr.inl=>
  simp only[aU,cJ,cW,cZ,c4,ju,cV,cE,s,fT,dM];have U:j8 (z,w2,A,w4,w5,w6) h ⟨th,18,ob,a⟩ c=if 0<=a/\a<h.N.length then {h with T:=h.T.set th c,N:=h.N.set a.toNat c,W:=h.W.set a.toNat (-1)} else {h with T:=h.T.set th c}:=rfl
  rw[U];by_cases h0:0<=a
  .by_cases h1:a<h.N.length
   .rw[re h0];simp only[cZ,ju];rw[uZ (show a<aM h.N.length from h1)];obtain⟨v,rfl⟩:∃v:Nat,a=(v:Int):=⟨a.toNat,by omega⟩
    have v1:v<h.N.length:=by omega
    have v2:v<h.W.length:=by rw[o.lW,<-o.lN];exact v1
    have:=XS {h with T:=h.T.set th c} v c v1 v2 hc;simp only[]at this;simp only[cZ,this,cV,ig,cE,aew rfl,jO,ju];rw[aC ⟨h0,h1⟩];rfl
   .rw[re h0];simp only[cZ,ju];rw[u_ (show aM h.N.length<=a from C3.1 h1)];simp only[c4,ju];rw[ax (λq=>h1 q.2)]
  .rw[N0 (by omega)];simp only[c4,ju];rw[ax (λq=>h0 q.1)]
 case inr.inr.inr.inr.inr.inr.inr.inr.inr.inr.inr.inr.inr.inr.inr.inr.inr.inr.inl=>
  obtain rfl:=q3 (by decide);simp only[aU,cJ,cW,cZ,c4,ju,cV,cE,s,fT,dM];rw[NY (r:=bQ (h.X,h.T.set th c,h.S,h.L,h.R,h.C,h.F,L6 (λu=>decide (h.W.getD u 0=(ob:Int))) c h.W.length h.N,L6 (λu=>decide (h.W.getD u 0=(ob:Int))) (-1) h.W.length h.W,c)) h.W.length (by have:=o.lW;have:=o.lT;omega)
   (λi=>((i:Int),h.X,h.T.set th c,h.S,h.L,h.R,h.C,h.F,L6 (λu=>decide (h.W.getD u 0=(ob:Int))) c i h.N,L6 (λu=>decide (h.W.getD u 0=(ob:Int))) (-1) i h.W,c,(th:Int),(19:Int),(ob:Int),a,x5,x6,x7)) ?_ ?_ ?_]
  .simp only[ju];rw[Ri _ _ _ h.W (bX _),Ri _ _ _ h.N (by rw[o.lN,o.lW];exact bX _)];rfl
  .simp only[aby];rfl
  .intro i hi;simp only[];have hN:i<(L6 (λu=>decide (h.W.getD u 0=(ob:Int))) c i h.N).length:=by rw[I6,o.lN,<-o.lW];exact hi
   have hW:i<(L6 (λu=>decide (h.W.getD u 0=(ob:Int))) (-1) i h.W).length:=by rw[I6];exact hi
   rw[uZ (by simp;omega),cZ,cE (c5 hW),cE (c5 hW),alt,al8];have ws:=qi hi (show h.W.length<=1099511627776 by have:=o.lW;have:=o.lT;omega);by_cases hp:h.W.getD i 0=(ob:Int)
   .rw[aS hp,cZ];have:=XS {h with T:=h.T.set th c,N:=L6 (λu=>decide (h.W.getD u 0=(ob:Int))) c i h.N,W:=L6 (λu=>decide (h.W.getD u 0=(ob:Int))) (-1) i h.W} i c hN hW hc;simp only[]at this;rw[this,cV,cE (by simp only[ig,aew rfl,jO]),ju,ws,XM _ _ _ _ (aS hp),XM _ _ _ _ (aS hp)]
   .rw[bB hp,c4,ju,ws,<-Rh _ _ _ _ (bB hp),<-Rh _ _ _ _ (bB hp)]
  .simp only[];rw[u_ (by simp),c4]
 all_goals
  simp only[aU,cJ,cW,cZ,c4,ju,cV,cE,s,fT,dM];rfl
theorem Wo (l:Y η) (c:η) (i:Nat) (hi:i<l.length):(l.take (i+1)).foldl jl c=jl ((l.take i).foldl jl c) (l.getD i []):=by
 rw[List.take_add_one,dA,ay hi,av,ay hi];rfl
theorem Rq (w:vH) (h:HS) (e:EV):(uc w h e).length<=3:=by
 unfold uc;repeat' split
 all_goals simp
theorem am3 {n:Int} {w:vH} {h:HS} (o:U6 n h) (e:EV) (i:Nat):0<=((uc w h e).foldl jl (h.T.getD e.th [])).getD i 0/\((uc w h e).foldl jl (h.T.getD e.th [])).getD i 0<9223372036854775807:=by
 have:=(DV _ _ (o.T e.th) (Vf (w:=w) o e)).2 i;have:=o.n1;omega
theorem GV (w:vH) (h:HS) (e:EV) (c:η):(j8 w h e c).T.length=h.T.length/\(j8 w h e c).S.length=h.S.length/\(j8 w h e c).L.length=h.L.length/\(j8 w h e c).R.length=h.R.length/\(j8 w h e c).C.length=h.C.length/\(j8 w h e c).F.length=h.F.length/\(j8 w h e c).N.length=h.N.length/\(j8 w h e c).W.length=h.W.length:=by
 unfold j8;simp only[];repeat' split
 all_goals simp[jat,C']
theorem aiy {n:Int} {w:vH} {h:HS} (o:U6 n h) (hn:n+1<=1000000) {e:EV} (ok:EOK w h e) {x:ETp} (hx:EvT e x):s8 (w,h.t,x)=M ((Rn w h e).1.t,(Rn w h e).2):=by
 have s2:=afe o ok hx;have hce:En (n+1) (F4 w h e):=QI o ok.th4;have en:=ae9 o hn ok hx hce;have cp:=aa6 h.t o.GH;have sl:=Rq w h e;have sE:=Vf (w:=w) o e;have hlen:=GV w h e (F4 w h e);obtain⟨x1,x2,x3,x4,x5,x6,x7⟩:=x;obtain⟨Z,U,A,z,s,a⟩:=w;have t1:=hx.th;simp only at t1;subst t1;unfold HS.t at cp;simp only[]at cp;have fT:eX (e.th:Int) h.T.length=J:=c5 ok.th;unfold s8 DR HS.t EW Prod.p11 aY bi bu cF dZ kY AG C7 Prod.q11 Prod.q12 cY fH qJ Prod.q9 ck bx wQ bC aX cR cL;simp only[];rw[cp,cV];simp only[];rw[cE fT,cE fT,s2,cV];simp only[];rw[cE (by simp only[aew rfl,jO])];refine NY (uc (Z,U,A,z,s,a) h e).length (by omega) (λi=>((i:Int),(Z,U,A,z,s,a),((e.th:Int),x2,x3,x4,x5,x6,x7),h.X,((uc (Z,U,A,z,s,a) h e).take i).foldl jl (h.T.getD e.th []),h.T,h.S,h.L,h.R,h.C,h.F,h.N,h.W)) ?_ ?_ ?_
 .simp only[rm,List.take_zero,List.foldl_nil];rfl
 .intro i hi;simp only[];rw[uZ (by simp;omega),cZ,cE (c5 hi),rm,(DV _ _ (o.T e.th) (λy hy=>sE y (gg hy))).join (sE _ (Ke hi)),cV,qi hi (by omega),Wo _ _ _ hi]
 .simp only[];rw[u_ (by simp),c4,gj (bX _)];have hl:=am3 (w:=(Z,U,A,z,s,a)) o e e.th;rw[aiu _ e.th (DV _ _ (o.T e.th) sE).lb ok.th4 hl.1 hl.2,cV];unfold HS.e at en;unfold F4 at en hlen;rw[en,cV];simp only[];rw[cE (by rw[hlen.1,hlen.2.1,hlen.2.2.1,hlen.2.2.2.1,hlen.2.2.2.2.1,hlen.2.2.2.2.2.1,hlen.2.2.2.2.2.2.1,hlen.2.2.2.2.2.2.2];simp only[aew rfl,jO])];rfl
abbrev wP:Ty:=(.st (.pr (.int .i64) (.sl (.st (.pr (.int .i64) (.pr (.int .i64) (.pr (.int .i64) (.pr (.int .i64) (.pr (.int .i64) (.int .i64))))))))))
abbrev Cg:Ty:=(.st (.pr (.int .i64) (.pr (.int .i64) (.pr (.int .i64) (.pr (.int .i64) (.pr (.int .i64) (.int .i64)))))))
abbrev vC:Ty:=(.st (.pr (.int .i64) (.pr (.sl (.int .i64)) (.pr (.sl (.sl (.int .i64))) (.int .i64)))))
abbrev zC:Ty:=(.st (.pr .str (.pr (.int .i64) (.pr (.sl .str) (.sl .sm)))))
abbrev tDc:Ty:=(.st (.pr (.int .i64) (.pr (.int .i64) (.pr .str (.pr (.int .i64) (.pr (.int .i64) .str))))))
abbrev tE:Ty:=(.st (.pr (.int .i64) (.pr (.int .i64) (.pr (.int .i64) (.pr (.int .i64) (.pr (.int .i64) (.pr (.sl (.int .i64)) (.sl (.int .i64)))))))))
abbrev Vc:Ty:=(.st (.pr .str .bool))
abbrev O_:Ty:=(.st (.pr .str (.pr (.int .i64) (.pr (.int .i64) (.pr .bool (.int .i64))))))
abbrev yJ:Ty:=(.st (.pr (.int .i64) (.pr (.int .i64) (.int .i64))))
abbrev U4:Ty:=(.st (.pr .str (.int .i64)))
abbrev Bd:Ty:=(.st (.pr (.int .i64) (.sl (.int .i64))))
abbrev jP:Ty:=(.st (.pr (.int .i64) (.pr (.int .i64) .bool)))
def Ok {R:Type} (o:I R) (Q:R->Prop):Prop:=∃y,o=M y/\Q y
theorem Ok.mono {R:Type} {o:I R} {Q Q':R->Prop} (h:Ok o Q) (hq:∀y,Q y->Q' y):Ok o Q':=by obtain⟨y,h1,h2⟩:=h;exact⟨y,h1,hq y h2⟩
theorem aj {R:Type} {y:R} {Q:R->Prop} (h:Q y):Ok (M y) Q:=⟨y,rfl,h⟩
theorem ak1 {R:Type} {o:I R} {y:R} {Q:R->Prop} (e:o=M y) (h:Q y):Ok o Q:=⟨y,e,h⟩
theorem bh {R:Type} {b:Bool} {k:I R} {Q:R->Prop} (h:b=J) (hk:Ok k Q):Ok (chk b λ_=>k) Q:=by subst h;exact hk
theorem aO {R:Type} {b:Bool} {t f:I R} {Q:R->Prop} (ht:b=J->Ok t Q) (hf:b=af->Ok f Q):Ok (aF b t f) Q:=by
 cases b with
 |true=>exact ht rfl
 |false=>exact hf rfl
theorem fK {R:Type} {b:Bool} {t f:I R} {Q:R->Prop} (h:b=J) (ht:Ok t Q):Ok (aF b t f) Q:=by subst h;exact ht
theorem gd {R:Type} {b:Bool} {t f:I R} {Q:R->Prop} (h:b=af) (hf:Ok f Q):Ok (aF b t f) Q:=by subst h;exact hf
theorem aw {α R:Type} {o:I α} {k:α->I R} {P:α->Prop} {Q:R->Prop} (h:Ok o P) (hk:∀x,P x->Ok (k x) Q):Ok (au o k) Q:=by
 obtain⟨x,rfl,a⟩:=h;exact hk x a
theorem aR {α R:Type} {o:I α} {k:α->I R} {x:α} {Q:R->Prop} (h:o=M x) (hk:Ok (k x) Q):Ok (au o k) Q:=by subst h;exact hk
theorem aT {α R:Type} {x:α} {k:α->I R} {Q:R->Prop} (h:Ok (k x) Q):Ok (lt x k) Q:=h
theorem aV {α R:Type} {o:I (R⊕α)} {k:α->I R} {Q:R->Prop} (P:α->Prop) (h:Ok o λr=>match r with|.inl r=>Q r|.inr x=>P x) (hk:∀x,P x->Ok (k x) Q):Ok (jn o k) Q:=by
 obtain⟨r,rfl,hr⟩:=h;cases r with
 |inl r=>exact⟨r,rfl,hr⟩
 |inr x=>exact hk x hr
theorem gL {α R:Type} {o:I (R⊕α)} {k:α->I R} {Q:R->Prop} (h:Ok o λr=>match r with|.inl r=>Q r|.inr x=>Ok (k x) Q):Ok (jn o k) Q:=aV (λx=>Ok (k x) Q) h λ_ h=>h
theorem ah4 {α R:Type} {a b:α} {r:I R} {Q:R->Prop} (e:a=b) (h:Ok r Q):Ok (same a b r) Q:=by unfold same;rw[aC e];exact h
theorem qM {σ R:Type} {f:σ->I (σ⊕R)} {Q:R->Prop} (μ:σ->Nat) (z:σ->Prop) (h:∀x,z x->Ok (f x) λr=>match r with|.inl y=>z y/\μ y<μ x|.inr r=>Q r) {x:σ} (a:z x):Ok (iter f x) Q:=by
 have key:∀n x,μ x<n->z x->∃m r,iterN f m x=M r/\Q r:=by
  intro n;induction n with
  |zero=>intro x hm;omega
  |succ n s=>
   intro x hm a;obtain⟨r,h1,h2⟩:=h x a;cases r with
   |inl y=>
    obtain⟨m,r,L,A⟩:=s y (by have:=h2.2;omega) h2.1;exact⟨m+1,r,by rw[iterN,h1];exact L,A⟩
   |inr r=>exact⟨1,r,by rw[iterN,h1],h2⟩
 obtain⟨m,r,h1,h2⟩:=key (μ x+1) x (rE _) a;exact⟨r,zV h1,h2⟩
theorem b7 {σ R:Type} {f:σ->I (σ⊕R)} {Q:R->Prop} (n:Nat) (z:Nat->σ->Prop) (h0:∀i x,i<n->z i x->Ok (f x) λr=>match r with|.inl y=>z (i+1) y|.inr r=>Q r) (h1:∀x,z n x->Ok (f x) λr=>match r with|.inl _=>False|.inr r=>Q r) {x:σ} (A:z 0 x):Ok (iter f x) Q:=by
 have key:∀m i x,i+m=n->z i x->∃k r,iterN f k x=M r/\Q r:=by
  intro m;induction m with
  |zero=>
   intro i x hi A;have:i=n:=by omega
   subst this;obtain⟨r,s,a⟩:=h1 x A;cases r with
   |inl y=>exact a.elim
   |inr r=>exact⟨1,r,by rw[iterN,s],a⟩
  |succ m L=>
   intro i x hi A;obtain⟨r,s,a⟩:=h0 i x (by omega) A;cases r with
   |inl y=>
    obtain⟨k,r,Z,U⟩:=L (i+1) y (by omega) a;exact⟨k+1,r,by rw[iterN,s];exact Z,U⟩
   |inr r=>exact⟨1,r,by rw[iterN,s],a⟩
 obtain⟨m,r,s,a⟩:=key n 0 x (by omega) A;exact⟨r,zV s,a⟩
def itQ {σ R:Type} (f:σ->I (σ⊕R)) (Q:R->Prop):σ⊕R->Prop
 |.inl y=>Ok (iter f y) Q
 |.inr r=>Q r
def jnQ {α R:Type} (k:α->I R) (Q:R->Prop):R⊕α->Prop
 |.inl r=>Q r
 |.inr x=>Ok (k x) Q
theorem ah3 {σ R:Type} {f:σ->I (σ⊕R)} {x:σ} {Q:R->Prop} (h:Ok (f x) (itQ f Q)):Ok (iter f x) Q:=by
 obtain⟨r,h1,h2⟩:=h;cases r with
 |inr r=>exact⟨r,zV (n:=1) (by rw[iterN,h1]),h2⟩
 |inl y=>
  obtain⟨z,a,s⟩:=h2;unfold iter at a;split at a
  .exact⟨z,zV (n:=_+1) (by rw[iterN,h1];exact a),s⟩
  .cases a
theorem Yf {σ R:Type} {f:σ->I (σ⊕R)} {y:σ} {Q:R->Prop} (h:Ok (iter f y) Q):Ok (M (.inl y)) (itQ f Q):=⟨_,rfl,h⟩
theorem Ye {σ R:Type} {f:σ->I (σ⊕R)} {r:R} {Q:R->Prop} (h:Ok (M r) Q):Ok (M (.inr r)) (itQ f Q):=by
 obtain⟨_,h1,h2⟩:=h;cases h1;exact⟨_,rfl,h2⟩
theorem Yc {α R:Type} {o:I (R⊕α)} {k:α->I R} {Q:R->Prop} (h:Ok o (jnQ k Q)):Ok (jn o k) Q:=by
 obtain⟨r,rfl,hr⟩:=h;cases r with
 |inl r=>exact⟨r,rfl,hr⟩
 |inr x=>exact hr
theorem Yd {α R:Type} {r:R} {k:α->I R} {Q:R->Prop} (h:Ok (M r) Q):Ok (M (.inl r)) (jnQ k Q):=by
 obtain⟨_,h1,h2⟩:=h;cases h1;exact⟨_,rfl,h2⟩
theorem Yb {α R:Type} {x:α} {k:α->I R} {Q:R->Prop} (h:Ok (k x) Q):Ok (M (.inr x)) (jnQ k Q):=⟨_,rfl,h⟩
def oQ {α R:Type} (k:α->I R) (Q:R->Prop) (x:α):Prop:=Ok (k x) Q
theorem RM {α R:Type} {o:I α} {k:α->I R} {Q:R->Prop} (h:Ok o (oQ k Q)):Ok (au o k) Q:=aw h λ_ h=>h
theorem RL {α R:Type} {x:α} {k:α->I R} {Q:R->Prop} (h:Ok (k x) Q):Ok (M x) (oQ k Q):=⟨_,rfl,h⟩
theorem ahh {j:Int} {n:Nat}:eX j n=J↔0<=j/\j<n:=by simp[eX,c9,fR]
theorem PH {a b:Int}:c9 a b=J↔a<=b:=by simp[c9]
theorem sO {a b:Int}:fR a b=J↔a<b:=by simp[fR]
theorem gy {a b:Int}:fR a b=af↔b<=a:=by simp[fR]
theorem mB {a b:Int}:c9 a b=af↔b<a:=by simp[c9]
theorem Zd {n b:Nat}:a8 n b=J↔n<=1099511627776/\n*b<=1099511627776:=by simp[a8]
theorem b_ {R:Type} {o:I R} {v:R} (h:Ok o (·=v)):o=M v:=by obtain⟨y,h1,h2⟩:=h;rw[h1,h2]
section steps
variable {R:Type} {k t f:I R} {Q:R->Prop}
theorem aP {j:Int} {n:Nat} (h0:0<=j) (h1:j<n) (hk:Ok k Q):Ok (chk (eX j n) λ_=>k) Q:=bh (ahh.2 ⟨h0,h1⟩) hk
theorem bd {n b:Nat} (h0:n<=1073741824) (h1:b<=1024) (hk:Ok k Q):Ok (chk (a8 n b) λ_=>k) Q:=
 bh (Zd.2 ⟨by omega,dz (Nat.mul_le_mul h0 h1) (by omega)⟩) hk
theorem db {a b:Bool} (h:Ok (chk a λ_=>chk b λ_=>k) Q):Ok (chk (a&&b) λ_=>k) Q:=by
 cases a with
 |true=>exact h
 |false=>obtain⟨y,h,_⟩:=h;cases h
theorem dI {a b:Int} (h:a<=b) (hk:Ok k Q):Ok (chk (c9 a b) λ_=>k) Q:=bh (PH.2 h) hk
theorem AO {a b:Int} (h:a<b) (hk:Ok k Q):Ok (chk (fR a b) λ_=>k) Q:=bh (sO.2 h) hk
theorem Yg {p:Prop} {i:Decidable p} (h:p) (hk:Ok k Q):Ok (chk (decide p) λ_=>k) Q:=bh (aS h) hk
theorem zM {p:Prop} {i:Decidable p} (h:¬p) (hk:Ok k Q):Ok (chk (!decide p) λ_=>k) Q:=bh (by simp[h]) hk
theorem mc {a b:Nat} (h:a=b) (hk:Ok k Q):Ok (chk (aB a b) λ_=>k) Q:=bh (by subst h;exact sD a) hk
theorem By (hk:Ok k Q):Ok (chk J λ_=>k) Q:=hk
theorem bL {a b:Int} (ht:a<b->Ok t Q) (hf:b<=a->Ok f Q):Ok (aF (fR a b) t f) Q:=aO (λh=>ht (sO.1 h)) (λh=>hf (gy.1 h))
theorem eO {a b:Int} (ht:a<=b->Ok t Q) (hf:b<a->Ok f Q):Ok (aF (c9 a b) t f) Q:=aO (λh=>ht (PH.1 h)) (λh=>hf (mB.1 h))
theorem aK {p:Prop} {i:Decidable p} (ht:p->Ok t Q) (hf:¬p->Ok f Q):Ok (aF (decide p) t f) Q:=aO (λh=>ht (bf h)) (λh=>hf (Cd h))
theorem cq {p:Prop} {i:Decidable p} (ht:¬p->Ok t Q) (hf:p->Ok f Q):Ok (aF (!decide p) t f) Q:=aO (λh=>ht (by simpa using h)) (λh=>hf (by simpa using h))
theorem dS {b:Bool} (ht:b=af->Ok t Q) (hf:b=J->Ok f Q):Ok (aF (!b) t f) Q:=aO (λh=>ht (by simpa using h)) (λh=>hf (by simpa using h))
theorem vS (ht:Ok t Q):Ok (aF J t f) Q:=ht
theorem dy (hf:Ok f Q):Ok (aF af t f) Q:=hf
theorem cg {j:Int} {n:Nat} (hk:Ok k Q) (h0:0<=j:=by first|omega|(dsimp only;omega)) (h1:j<n:=by first|omega|(dsimp only;omega)):Ok (chk (eX j n) λ_=>k) Q:=aP h0 h1 hk
theorem du {a b:Int} (ht:Ok t Q) (h:a<b:=by first|omega|(dsimp only[ak];omega)):Ok (aF (fR a b) t f) Q:=bL (λ_=>ht) λg=>ca h (C3.2 g)
theorem dv {a b:Int} (hf:Ok f Q) (h:b<=a:=by first|omega|(dsimp only[ak];omega)):Ok (aF (fR a b) t f) Q:=bL (λg=>ca g (C3.2 h)) λ_=>hf
end steps
theorem rG:(∀(p:Prop) [Decidable p],(decide p=J)=p)/\(∀p:Prop,(True\/p)=True)/\(∀p:Prop,(p\/True)=True)/\(∀p:Prop,(True->p)=p)/\(∀p:Prop,(True/\p)=p)/\∀p:Prop,(p/\True)=p:=⟨λ_=>ba,true_or,or_true,λ_=>true_implies _,Cc,and_true⟩
theorem tW:(∀i:Decidable True,@decide True i=J)/\(∀i:Decidable False,@decide False i=af)/\(∀{R:Type} (t f:I R),aF J t f=t)/\(∀{R:Type} (t f:I R),aF af t f=f)/\(∀{α R:Type} (x:α) (k:α->I R),jn (M (.inr x)) k=k x)/\(∀{α R:Type} (r:R) (k:α->I R),jn (M (.inl r)) k=M r)/\(∀{α R:Type} (x:α) (k:α->I R),au (M x) k=k x)/\(∀{α R:Type} (x:α) (k:α->I R),lt x k=k x)/\(!J)=af/\(!af)=J:=⟨cW,cJ,λ_ _=>rfl,λ_ _=>rfl,λ_ _=>rfl,λ_ _=>rfl,λ_ _=>rfl,λ_ _=>rfl,rfl,rfl⟩
structure IM (p q:Prop):Prop where
 h:p->q
inductive OS {R:Type}:Option R->(R->Prop)->Prop where
 |cand {a b:Bool} {k:Option R} {Q:R->Prop} (h:Ok (chk a λ_=>chk b λ_=>k) Q):OS (chk (a&&b) λ_=>k) Q
 |eX {j:Int} {n:Nat} {k:Option R} {Q:R->Prop} (h0:0<=j) (h1:j<n) (hk:Ok k Q):OS (chk (eX j n) λ_=>k) Q
 |room {n b:Nat} {k:Option R} {Q:R->Prop} (h0:n<=1073741824) (h1:b<=1024) (hk:Ok k Q):OS (chk (a8 n b) λ_=>k) Q
 |cile {a b:Int} {k:Option R} {Q:R->Prop} (h:a<=b) (hk:Ok k Q):OS (chk (c9 a b) λ_=>k) Q
 |cilt {a b:Int} {k:Option R} {Q:R->Prop} (h:a<b) (hk:Ok k Q):OS (chk (fR a b) λ_=>k) Q
 |cdec {p:Prop} {i:Decidable p} {k:Option R} {Q:R->Prop} (h:p) (hk:Ok k Q):OS (chk (decide p) λ_=>k) Q
 |cndec {p:Prop} {i:Decidable p} {k:Option R} {Q:R->Prop} (h:¬p) (hk:Ok k Q):OS (chk (!decide p) λ_=>k) Q
 |cbeq {a b:Nat} {k:Option R} {Q:R->Prop} (h:a=b) (hk:Ok k Q):OS (chk (aB a b) λ_=>k) Q
 |cT {k:Option R} {Q:R->Prop} (hk:Ok k Q):OS (chk J λ_=>k) Q
 |lt {α:Type} {x:α} {k:α->Option R} {Q:R->Prop} (h:Ok (k x) Q):OS (lt x k) Q
 |b1 {t f:Option R} {Q:R->Prop} (h:Ok t Q):OS (aF J t f) Q
 |b0 {t f:Option R} {Q:R->Prop} (h:Ok f Q):OS (aF af t f) Q
 |fR {a b:Int} {t f:Option R} {Q:R->Prop} (ht:IM (a<b) (Ok t Q)) (hf:IM (b<=a) (Ok f Q)):OS (aF (fR a b) t f) Q
 |c9 {a b:Int} {t f:Option R} {Q:R->Prop} (ht:IM (a<=b) (Ok t Q)) (hf:IM (b<a) (Ok f Q)):OS (aF (c9 a b) t f) Q
 |dec {p:Prop} {i:Decidable p} {t f:Option R} {Q:R->Prop} (ht:IM p (Ok t Q)) (hf:IM (¬p) (Ok f Q)):OS (aF (decide p) t f) Q
 |ndec {p:Prop} {i:Decidable p} {t f:Option R} {Q:R->Prop} (ht:IM (¬p) (Ok t Q)) (hf:IM p (Ok f Q)):OS (aF (!decide p) t f) Q
 |not {b:Bool} {t f:Option R} {Q:R->Prop} (ht:IM (b=af) (Ok t Q)) (hf:IM (b=J) (Ok f Q)):OS (aF (!b) t f) Q
 |aF {b:Bool} {t f:Option R} {Q:R->Prop} (ht:IM (b=J) (Ok t Q)) (hf:IM (b=af) (Ok f Q)):OS (aF b t f) Q
 |jc {α:Type} {o:Option (R⊕α)} {k:α->Option R} {Q:R->Prop} (h:Ok o λr=>match r with|.inl r=>Q r|.inr x=>Ok (k x) Q):OS (jn o k) Q
 |some {y:R} {Q:R->Prop} (h:Q y):OS (M y) Q
theorem OS.ok {R:Type} {o:I R} {Q:R->Prop} (h:OS o Q):Ok o Q:=by
 cases h with
 |cand h=>exact db h
 |eX a b h=>exact aP a b h
 |room a b h=>exact bd a b h
 |cile a h=>exact dI a h
 |cilt a h=>exact AO a h
 |cdec a h=>exact Yg a h
 |cndec a h=>exact zM a h
 |cbeq a h=>exact mc a h
 |cT h=>exact h
 |lt h=>exact h
 |b1 h=>exact h
 |b0 h=>exact h
 |fR a b=>exact bL a.h b.h
 |c9 a b=>exact eO a.h b.h
 |dec a b=>exact aK a.h b.h
 |ndec a b=>exact cq a.h b.h
 |not a b=>exact dS a.h b.h
 |aF a b=>exact aO a.h b.h
 |jc h=>
  obtain⟨r,e,h⟩:=h;exact gL ⟨r,e,by cases r<;>exact h⟩
 |some h=>exact aj h
theorem bcT {R:Type} (t f:I R):aF J t f=t:=rfl
theorem bcF {R:Type} (t f:I R):aF af t f=f:=rfl
theorem jnr {α R:Type} (x:α) (k:α->I R):jn (M (.inr x)) k=k x:=rfl
theorem Yh {α R:Type} (x:α) (k:α->I R):au (M x) k=k x:=rfl
theorem JJ {k:Int}:k=1\/k=2\/k=3\/k=4\/k=5\/k=6\/k=7\/k=8\/k=9\/k=10\/k=11\/k=12\/k=13\/k=14\/k=15\/k=16\/k=17\/k=18\/k=19\/k=20\/k=21\/k=22\/k=23\/((∀j:Int,1<=j->j<=23->(k=j)=False)/\(k<1\/23<k)):=by
 by_cases h:1<=k/\k<=23
 .omega
 .have:(∀j:Int,1<=j->j<=23->(k=j)=False)/\(k<1\/23<k):=⟨λj h1 h2=>eq_false (by omega),by omega⟩
  repeat (first|exact this|refine Or.inr ?_)
theorem iz {n:Int} (h0: -9223372036854775808<=n) (h1:n<=9223372036854775807):bm .i64 n=n:=by
 rw[Iw];unfold Nr;simp[c9,h0,h1]
theorem gH {i:Nat} (h:i<9223372036854775807):bm .i64 ((i:Int)+1)=((i+1:Nat):Int):=by rw[iz (by omega) (by omega)];omega
theorem Ab {T:Ty} (xs:Y T.den) (i:Nat):aI xs (i:Int)=xs.getD i T.zero:=by unfold aI;simp
theorem P' (xs:η) (i:Nat):aI (T:=.int .i64) xs (i:Int)=xs.getD i 0:=Ab (T:=.int .i64) xs i
theorem bN {T:Ty} {xs:Y T.den} {j:Int} (h0:0<=j) (h1:j<xs.length):aI xs j∈xs:=by
 unfold aI;rw[av,ay (by omega)];exact vO _
theorem bW {α:Type} (xs:Y α) (j:Int) (x:α):(cK xs j x).length=xs.length:=by unfold cK;simp
theorem Dg {α:Type} {xs:Y α} {j:Int} {x y:α} (h:y∈cK xs j x):y∈xs\/y=x:=List.mem_or_eq_of_mem_set h
abbrev WT:Type:=Y (ζ×Int×Int×Bool×Int)×Y (ζ×Bool)×Y (ζ×Int)×Y ζ×Y ζ×Y π
abbrev SY:Type:=Y (Int×η)×Int×θ×Y (Int×Int×Bool)
theorem adk (a b:Int):qV (a,b)=M (decide (0<=a/\a<b)):=by
 refine b_ ?_;unfold qV iR aD;with_reducible repeat' first|(refine OS.ok ?_;constructor)|refine IM.mk λ_=>?_
 .by_cases h:a<b<;>simp[*,fR]
 .simp;omega
theorem XJ (l:η) (n:Int) (hl:l.length<=1000000):qW (l,n)=M (l.contains n):=by
 refine b_ ?_;unfold qW be bx bD aX cR aD cL;refine b7 l.length (λi x=>x=(i:Int)/\∀k,k<i->l.getD k 0≠n) ?_ ?_ ⟨rfl,λk hk=>by omega⟩
 .rintro i x hi ⟨rfl,a⟩;with_reducible repeat' first|(refine OS.ok ?_;constructor)|refine IM.mk λ_=>?_
  all_goals try simp only[ak,rG] at*
  .omega
  .omega
  .rename_i h;rw[P']at h;show J=_
   symm
   rw[tS,<-h,av,ay hi];exact vO _
  .rename_i h;rw[P']at h;refine ⟨gH (by omega),λk hk=>?_⟩;rcases ci k i with h1|h1
   .exact a k h1
   .rw[show k=i by omega];exact h
  .omega
 .rintro x ⟨rfl,a⟩;with_reducible repeat' first|(refine OS.ok ?_;constructor)|refine IM.mk λ_=>?_
  all_goals try simp only[ak,rG] at*
  .omega
  .omega
  .omega
  .omega
  .symm
   rw[O4];intro hc;rw[tS]at hc;obtain⟨k,hk,he⟩:=List.getElem_of_mem hc;exact a k hk (by rw[av,ay hk];exact he)
theorem iG {T:Ty} {xs:Y T.den} {p:T.den->Prop} (h:∀k:Nat,k<ai xs->p (aI xs (k:Int))):∀c∈xs,p c:=λc hc=>by
 obtain⟨k,hk,he⟩:=List.getElem_of_mem hc;have:=h k hk;rw[Ab,av,ay hk,vM,he]at this;exact this
theorem Q_ (w:WT) (s:SY) (hw:w.2.2.1.length<=1000000):Ok (rV (w,s)) λb=>b=J->(∀c∈w.2.2.1,0<=c.2/\c.2<w.2.1.length)/\s.1.length=w.2.1.length/\s.2.2.1.length=w.2.2.2.1.length/\s.2.2.2.length=w.2.2.2.2.1.length:=by
 unfold rV aY bi bu cY be bx bD aX cR aD cL;refine b7 w.2.2.1.length (λi x=>x.1=(i:Int)/\x.2=(w,s)/\∀k:Nat,k<i->0<=(aI (T:=U4) w.2.2.1 (k:Int)).2/\(aI (T:=U4) w.2.2.1 (k:Int)).2<w.2.1.length) ?_ ?_ ⟨rfl,rfl,λk hk=>by omega⟩
 .rintro i ⟨U,L⟩ hi ⟨z,a,A⟩;dsimp only at z a;subst z;subst a;with_reducible repeat' first|(refine OS.ok ?_;constructor)|refine IM.mk λ_=>?_
  all_goals try simp only[ak,rG] at*
  all_goals first|omega|skip
  .intro h;cases h
  .intro h;cases h
  .refine ⟨gH (by omega),λk hk=>?_⟩;rcases ci k i with h1|h1
   .exact A k h1
   .rename_i h2 Z;rw[show k=i by omega];exact⟨h2,Z⟩
 .rintro⟨U,L⟩ ⟨z,a,A⟩;dsimp only at z a;subst z;subst a;with_reducible repeat' first|(refine OS.ok ?_;constructor)|refine IM.mk λ_=>?_
  all_goals try simp only[ak,rG] at*
  all_goals first|omega|skip
  refine aw (P:=λb=>b=J->s.1.length=w.2.1.length/\s.2.2.1.length=w.2.2.2.1.length/\s.2.2.2.length=w.2.2.2.2.1.length) ?_ ?_
  .with_reducible repeat' first|(refine OS.ok ?_;constructor)|refine IM.mk λ_=>?_
   all_goals try simp only[ak,rG] at*
   .intro h;omega
   .intro h;cases h
   .intro h;cases h
  .intro b hb;with_reducible repeat' first|(refine OS.ok ?_;constructor)|refine IM.mk λ_=>?_
   exact λh=>⟨iG (T:=U4) A,hb h⟩
structure NM (w:WT) (k o:Int):Prop where
 k1:1<=k
 k2:k<=23
 ce:k=3\/k=4->0<=o/\o<w.1.length
 lk:6<=k/\k<=11->0<=o/\o<w.2.1.length
 cd:16<=k/\k<=19->0<=o/\o<w.2.2.1.length
 th:k=20\/k=21->0<=o/\o<w.2.2.2.2.1.length
 fu:k=22\/k=23->0<=o/\o<w.2.2.2.1.length
 no:k=1\/k=2\/k=5\/(12<=k/\k<=15)->o= -1
 mu:k=6\/k=7->(aI (T:=Vc) w.2.1 o).2=af
 rw:8<=k/\k<=11->(aI (T:=Vc) w.2.1 o).2=J
theorem ad2 (w:WT) (k o:Int):Ok (uR (w,k,o)) λb=>b=J->NM w k o:=by
 unfold uR aY bi bu cF be bD aX aD;rcases @JJ k with rfl|rfl|rfl|rfl|rfl|rfl|rfl|rfl|rfl|rfl|rfl|rfl|rfl|rfl|rfl|rfl|rfl|rfl|rfl|rfl|rfl|rfl|rfl|⟨hk,a⟩
 case inr.inr.inr.inr.inr.inr.inr.inr.inr.inr.inr.inr.inr.inr.inr.inr.inr.inr.inr.inr.inr.inr.inr=>
  simp only[hk 1 (by decide) (by decide),hk 2 (by decide) (by decide),hk 3 (by decide) (by decide),hk 4 (by decide) (by decide),hk 5 (by decide) (by decide),hk 6 (by decide) (by decide),hk 7 (by decide) (by decide),hk 8 (by decide) (by decide),hk 9 (by decide) (by decide),hk 10 (by decide) (by decide),hk 11 (by decide) (by decide),hk 12 (by decide) (by decide),hk 13 (by decide) (by decide),hk 14 (by decide) (by decide),hk 15 (by decide) (by decide),hk 16 (by decide) (by decide),hk 17 (by decide) (by decide),hk 18 (by decide) (by decide),hk 19 (by decide) (by decide),hk 20 (by decide) (by decide),hk 21 (by decide) (by decide),hk 22 (by decide) (by decide),hk 23 (by decide) (by decide),aU,bp,tW];exact aj λh=>by cases h
 all_goals simp only[aU,bp,tW,adk]
 all_goals with_reducible repeat' first|(refine OS.ok ?_;constructor)|refine IM.mk λ_=>?_
 all_goals try simp only[ak,rG] at*
 all_goals first|omega|(intro h;cases h;done)|(intro h;constructor<;>first|omega|(intro h2;first|omega|(simpa using h)))
structure SB (n:Nat) (s:SY):Prop where
 n1:n<=100000
 lk:s.1.length<=1000
 rd:∀l∈s.1,l.2.length<=n
 dn:s.2.2.1.length<=1000
 th:s.2.2.2.length<=1000
structure EN (w:WT) (s:SY) (t k o:Int):Prop where
 nm:NM w k o
 t0:0<=t
 t1:t<w.2.2.2.2.1.length
 cd:∀c∈w.2.2.1,0<=c.2/\c.2<w.2.1.length
 e1:s.1.length=w.2.1.length
 e2:s.2.2.1.length=w.2.2.2.1.length
 e3:s.2.2.2.length=w.2.2.2.2.1.length
structure XE (w:WT) (s:SY) (t k o:Int):Prop where
 b:k=1->(aI (T:=jP) s.2.2.2 t).1=1
 wk:k=17->(aI (T:=jP) s.2.2.2 t).1=4/\(aI (T:=jP) s.2.2.2 t).2.1=o/\(aI (T:=Bd) s.1 (aI (T:=U4) w.2.2.1 o).2).1= -1
 r:k≠1->k≠17->(aI (T:=jP) s.2.2.2 t).1=2
 aq:k=6\/k=8\/k=10->(aI (T:=Bd) s.1 o).1= -1
 wr:k=10->(aI (T:=Bd) s.1 o).2.length=0
 ra:k=8->(aI (T:=Bd) s.1 o).2.contains t=af
 rl:k=7\/k=11->(aI (T:=Bd) s.1 o).1=t
 rr:k=9->(aI (T:=Bd) s.1 o).2.contains t=J
 xb:k=12->s.2.1= -1
 xe:k=13->s.2.1=t
 ab:k=14->(aI (T:=jP) s.2.2.2 t).2.2=af
 ae:k=15->(aI (T:=jP) s.2.2.2 t).2.2=J
 nt:k=16\/k=18\/k=19->(aI (T:=Bd) s.1 (aI (T:=U4) w.2.2.1 o).2).1=t
 sp:k=20->¬o=t/\(aI (T:=jP) s.2.2.2 o).1=0
 jo:k=21->¬o=t/\(aI (T:=jP) s.2.2.2 o).1=5
 se:k=22->aI (T:=.bool) s.2.2.1 o=af
 ge:k=23->aI (T:=.bool) s.2.2.1 o=J
theorem LY {n:Nat} (w:WT) (s:SY) (hs:SB n s) (hw:w.2.2.1.length<=1000) (t k o:Int):Ok (kB (w,s,t,k,o)) λb=>b=J->EN w s t k o/\XE w s t k o:=by
 unfold kB aY bi bu bO dG cY be jw bD aX aD;refine aV (λx=>x.2=(w,s)/\(x.1=af->EN w s t k o)) ?_ ?_
 .refine aw (Q_ w s (by omega)) λb hb=>?_
  with_reducible repeat' first|(refine OS.ok ?_;constructor)|refine IM.mk λ_=>?_
  .exact⟨rfl,λh=>by cases h⟩
  .simp only[adk,Yh];with_reducible repeat' first|(refine OS.ok ?_;constructor)|refine IM.mk λ_=>?_
   .exact⟨rfl,λh=>by cases h⟩
   .refine aw (ad2 w k o) λc hc=>?_
    with_reducible repeat' first|(refine OS.ok ?_;constructor)|refine IM.mk λ_=>?_
    all_goals try simp only[ak,rG] at*
    rename_i h1 h2;obtain⟨f1,Z,U,f4⟩:=hb h1;exact λh=>⟨hc (by simpa using h),by omega,by omega,f1,Z,U,f4⟩
 .rintro⟨x1,x2⟩ ⟨a,z⟩;dsimp only at a z;subst a;refine aO (λh=>aj λh=>by cases h) (λh=>?_);have he:=z h;obtain⟨nm,t0,t1,cd,e1,e2,e3⟩:=id he;obtain⟨_,_,ce,lk,cn,th,fu⟩:=nm;have hm:16<=k/\k<=19->0<=(aI (T:=U4) w.2.2.1 o).2/\(aI (T:=U4) w.2.2.1 o).2<w.2.1.length:=λh=>cd _ (bN (cn h).1 (cn h).2)
  have L:6<=k/\k<=11->qW ((aI (T:=Bd) s.1 o).2,t)=M ((aI (T:=Bd) s.1 o).2.contains t):=λh=>XJ _ _ (by
   have:=hs.rd _ (bN (T:=Bd) (lk h).1 (by have:=(lk h).2;omega));have:=hs.n1;omega)
  rcases @JJ k with rfl|rfl|rfl|rfl|rfl|rfl|rfl|rfl|rfl|rfl|rfl|rfl|rfl|rfl|rfl|rfl|rfl|rfl|rfl|rfl|rfl|rfl|rfl|⟨hk,A⟩
  case inr.inr.inr.inr.inr.inr.inr.inr.inr.inr.inr.inr.inr.inr.inr.inr.inr.inr.inr.inr.inr.inr.inr=>omega
  all_goals simp only[aU,bp,tW]
  all_goals with_reducible repeat' first|(refine OS.ok ?_;constructor)|refine IM.mk λ_=>?_
  all_goals try simp only[L (by omega),Yh]
  all_goals with_reducible repeat' first|(refine OS.ok ?_;constructor)|refine IM.mk λ_=>?_
  all_goals try simp only[ak,rG] at*
  all_goals first|omega|(intro h;cases h;done)|exact (hm ⟨by decide,by decide⟩).1|(rw [e1];exact (hm ⟨by decide,by decide⟩).2)|(intro h;refine ⟨he,?_⟩;constructor<;>first|omega|(intros;first|omega|assumption|(simpa using h)|exact⟨by assumption,by first|assumption|exact⟨by assumption,by assumption⟩⟩))|(refine ⟨he,?_⟩;constructor<;>first|omega|(intros;first|omega|assumption))
def mq:η->Int->η
 |[],n=>[n]
 |x::r,n=>if x<n then x::mq r n else if x=n then x::r else n::x::r
theorem Fb (n:Int):∀(i:Nat) (l:η),i<=l.length->(∀k,k<i->l.getD k 0<n)->mq l n=l.take i++mq (l.drop i) n
 |0,l,_,_=>by simp
 |i+1,[],h,_=>by simp at h
 |i+1,x::r,h,hk=>by
  have h0:=hk 0 (by omega);simp at h0;have:=Fb n i r (by simpa using h) (λk a=>by have:=hk (k+1) (by omega);simpa using this);rw[mq,aC h0,this,wL,wO,gE]
theorem Gp (n:Int):∀l:η,(mq l n).length<=l.length+1
 |[]=>by simp[mq]
 |x::r=>by
  have:=Gp n r;rw[mq];split
  .simp;omega
  .split<;>simp
theorem Jk {n y:Int}:∀{l:η},y∈mq l n↔y=n\/y∈l
 |[]=>by simp[mq]
 |x::r=>by
  have:=Jk (n:=n) (y:=y) (l:=r);rw[mq];split
  .simp[this];constructor
   .rintro (h|h|h)<;>simp[h]
   .rintro (h|h|h)<;>simp[h]
  .split
   .rename_i h;subst h;simp
   .simp
def Ip:η->Prop
 |[]=>True
 |x::r=>(∀y∈r,x<y)/\Ip r
theorem RI {n:Int}:∀{l:η},Ip l->Ip (mq l n)
 |[],_=>by simp[mq,Ip]
 |x::r,h=>by
  rw[mq];split
  .rename_i s;refine ⟨λy a=>?_,RI h.2⟩;rcases Jk.1 a with rfl|a
   .exact s
   .exact h.1 y a
  .split
   .exact h
   .rename_i h1 h2;refine ⟨λy a=>?_,h⟩;rcases bl.1 a with rfl|a
    .omega
    .have:=h.1 y a;omega
theorem afi (l:η) (n:Int) (hl:l.length<=1000000):xc (l,n)=M (mq l n):=by
 refine b_ ?_;unfold xc bx bC bD aX cR aD cL;have fin:∀i:Nat,i<=l.length->(∀k,k<i->l.getD k 0<n)->(i<l.length->¬l.getD i 0<n/\l.getD i 0≠n)->l.take i++[n]++l.drop i=mq l n:=λi hi hk hn=>by
  rw[Fb n i l hi hk];cases hd:l.drop i with
  |nil=>simp[mq]
  |cons y r=>
   have hlt:i<l.length:=by
    rcases ci i l.length with h|h
    .exact h
    .rw[List.drop_eq_nil_of_le h]at hd;cases hd
   have s:l.getD i 0=y:=by
    rw[av,<-List.head?_drop,hd];rfl
   obtain⟨h1,h2⟩:=hn hlt;rw[s]at h1 h2;rw[mq,ax h1,ax h2];simp
 refine b7 l.length (λi x=>x=(i:Int)/\∀k,k<i->l.getD k 0<n) ?_ ?_ ⟨rfl,λk hk=>by omega⟩
 .rintro i x hi ⟨rfl,a⟩;by_cases hlt:l.getD i 0<n
  .with_reducible repeat' first|(refine OS.ok ?_;constructor)|refine IM.mk λ_=>?_
   all_goals try simp only[ak,rG] at*
   all_goals first|omega|skip
   .refine ⟨gH (by omega),λk hk=>?_⟩;rcases ci k i with h1|h1
    .exact a k h1
    .rw[show k=i by omega];exact hlt
   .rename_i h;exact ca hlt (C3.2 h)
  .have key:l.getD i 0=n->mq l n=l:=λhe=>by
    rw[Fb n i l (by omega) a];cases hd:l.drop i with
    |nil=>have:=gZ ai hd;simp at this;omega
    |cons y r=>
     have s:l.getD i 0=y:=by rw[av,<-List.head?_drop,hd];rfl
     rw[s]at he;rw[mq,ax (by omega),aC he,<-hd,Ca]
   with_reducible repeat' first|(refine OS.ok ?_;constructor)|refine IM.mk λ_=>?_
   all_goals try simp only[ak,rG] at*
   all_goals first|omega|skip
   .rename_i h;exact ca h hlt
   .refine aw (P:=λr=>r=mq l n) ?_ λr hr=>aj hr
    with_reducible repeat' first|(refine OS.ok ?_;constructor)|refine IM.mk λ_=>?_
    all_goals try simp only[ak,rG] at*
    all_goals first|omega|skip
    .rename_i h;exact (key h).symm
    .simp;omega
    .simp;omega
    .simp;omega
    .rename_i h;simpa using fin i (by omega) a (λ_=>⟨hlt,h⟩)
 .rintro x ⟨rfl,a⟩;with_reducible repeat' first|(refine OS.ok ?_;constructor)|refine IM.mk λ_=>?_
  all_goals try simp only[ak,rG] at*
  all_goals first|omega|skip
  refine aw (P:=λr=>r=mq l n) ?_ λr hr=>aj hr
  with_reducible repeat' first|(refine OS.ok ?_;constructor)|refine IM.mk λ_=>?_
  all_goals try simp only[ak,rG] at*
  all_goals first|omega|skip
  .simp;omega
  .simp;omega
  .simp;omega
  .simpa using fin l.length (by omega) a (λh=>by omega)
def xQ (a b:η):η:=b.foldl mq (a.foldl mq [])
theorem xn:∀(b acc:η),(b.foldl mq acc).length<=acc.length+b.length
 |[],acc=>by simp
 |x::r,acc=>by
  have:=xn r (mq acc x);have:=Gp x acc;rw[xO,cf];omega
theorem Kj:∀{b acc:η},Ip acc->Ip (b.foldl mq acc)
 |[],_,h=>h
 |x::r,acc,h=>by rw[xO];exact Kj (RI h)
theorem Ki {y:Int}:∀{b acc:η},y∈b.foldl mq acc↔y∈acc\/y∈b
 |[],acc=>by simp
 |x::r,acc=>by
  rw[xO,Ki,Jk];simp;constructor
  .rintro ((h|h)|h)<;>simp[h]
  .rintro (h|h|h)<;>simp[h]
theorem Rk (a b:η):Ip (xQ a b):=Kj (Kj trivial)
theorem I8 {a b:η} {y:Int}:y∈xQ a b↔y∈a\/y∈b:=by unfold xQ;rw[Ki,Ki];simp
theorem ac2 (a b:η):(xQ a b).length<=a.length+b.length:=by
 have:=xn b (a.foldl mq []);have:=xn a [];unfold xQ;simp at *;omega
theorem N7 {b acc:η} {i:Nat} (hi:i<b.length):(b.take (i+1)).foldl mq acc=mq ((b.take i).foldl mq acc) (b.getD i 0):=by
 rw[pq hi,dA,av,ay hi];rfl
theorem UB (a b:η) (A:a.length<=400000) (hb:b.length<=400000):rW (a,b)=M (xQ a b):=by
 refine b_ ?_;unfold rW bx bD aX cR aD cL;refine b7 a.length (λi x=>x.2=(i:Int)/\x.1=(a.take i).foldl mq []) ?_ ?_ ⟨rfl,rfl⟩
 .rintro i ⟨z,s⟩ hi ⟨h1,h2⟩;dsimp only at h1 h2;subst h1;subst h2;have hl:((a.take i).foldl mq []).length<=1000000:=by have:=xn (a.take i) [];have:=qK i a;simp at *;omega
  with_reducible repeat' first|(refine OS.ok ?_;constructor)|refine IM.mk λ_=>?_
  all_goals try simp only[ak,rG] at*
  all_goals first|omega|skip
  refine aR (afi _ _ hl) (aj ?_);dsimp only;refine ⟨gH (by omega),?_⟩;rw[P',N7 hi]
 .rintro⟨z,s⟩ ⟨h1,h2⟩;dsimp only at h1 h2;subst h1;subst h2;rw[cP];have hla:=xn a [];with_reducible repeat' first|(refine OS.ok ?_;constructor)|refine IM.mk λ_=>?_
  all_goals try simp only[ak,rG] at*
  all_goals first|omega|skip
  refine aw (P:=λr=>r=xQ a b) ?_ λr hr=>aj hr
  refine b7 b.length (λi x=>x.2=(i:Int)/\x.1=(b.take i).foldl mq (a.foldl mq [])) ?_ ?_ ⟨rfl,rfl⟩
  .rintro i ⟨z,s⟩ hi ⟨h1,h2⟩;dsimp only at h1 h2;subst h1;subst h2;have hl:((b.take i).foldl mq (a.foldl mq [])).length<=1000000:=by have:=xn (b.take i) (a.foldl mq []);have:=qK i b;simp at *;omega
   with_reducible repeat' first|(refine OS.ok ?_;constructor)|refine IM.mk λ_=>?_
   all_goals try simp only[ak,rG] at*
   all_goals first|omega|skip
   refine aR (afi _ _ hl) (aj ?_);dsimp only;refine ⟨gH (by omega),?_⟩;rw[P',N7 hi]
  .rintro⟨z,s⟩ ⟨h1,h2⟩;dsimp only at h1 h2;subst h1;subst h2;rw[cP];with_reducible repeat' first|(refine OS.ok ?_;constructor)|refine IM.mk λ_=>?_
   all_goals try simp only[ak,rG] at*
   all_goals first|omega|rfl
def I4 (c:Int) (x:Int×Int×Bool):Bool:=decide (x.1=3)&&decide (x.2.1=c)
def wl (th:Y (Int×Int×Bool)) (c:Int):Nat->η
 |0=>[]
 |i+1=>if I4 c (aI (T:=jP) th (i:Int)) then wl th c i++[(i:Int)] else wl th c i
theorem wu (th:Y (Int×Int×Bool)) (c:Int):∀i,(wl th c i).length<=i
 |0=>bX _
 |i+1=>by have:=wu th c i;rw[wl];split<;>simp<;>omega
theorem rM {th:Y (Int×Int×Bool)} {c u:Int}:∀{i:Nat},u∈wl th c i↔0<=u/\u<i/\I4 c (aI (T:=jP) th u)=J
 |0=>by simp[wl];omega
 |i+1=>by
  have a:= @rM th c u i;rw[wl];by_cases hu:u=(i:Int)
  .subst hu;split
   .rename_i h;simp[h];omega
   .rename_i h;rw[a];simp[h]
  .split
   .rw[bP,a,aJ];constructor
    .rintro (h|h)
     .exact⟨h.1,by omega,h.2.2⟩
     .exact ca h hu
    .intro h;exact .inl ⟨h.1,by omega,h.2.2⟩
   .rw[a];constructor
    .intro h;exact⟨h.1,by omega,h.2.2⟩
    .intro h;exact⟨h.1,by omega,h.2.2⟩
theorem aoy {th:Y (Int×Int×Bool)} {c:Int} {i:Nat} (h1:(aI (T:=jP) th (i:Int)).1=3) (h2:(aI (T:=jP) th (i:Int)).2.1=c):wl th c (i+1)=wl th c i++[(i:Int)]:=by
 rw[wl,aC];unfold I4;rw[h1,h2];simp
theorem ajq {th:Y (Int×Int×Bool)} {c:Int} {i:Nat} (h1:¬(aI (T:=jP) th (i:Int)).1=3):wl th c (i+1)=wl th c i:=by
 rw[wl,ax];unfold I4;rw[bB h1];simp
theorem ajp {th:Y (Int×Int×Bool)} {c:Int} {i:Nat} (h1:¬(aI (T:=jP) th (i:Int)).2.1=c):wl th c (i+1)=wl th c i:=by
 rw[wl,ax];unfold I4;rw[bB h1];simp
theorem Xx (s:SY) (c:Int) (hs:s.2.2.2.length<=1000):oq (s,c)=M (wl s.2.2.2 c s.2.2.2.length):=by
 refine b_ ?_;unfold oq bO be bx bC bD aX cR aD cL;refine b7 s.2.2.2.length (λi x=>x=((i:Int),s,wl s.2.2.2 c i)) ?_ ?_ rfl
 .rintro i x hi rfl;have hl:=wu s.2.2.2 c i;with_reducible repeat' first|(refine OS.ok ?_;constructor)|refine IM.mk λ_=>?_
  all_goals try simp only[ak,rG] at*
  all_goals first|omega|skip
  all_goals first|(simp;omega)|skip
  .rename_i h1 h2;rw[aoy h1 h2,gH (by omega)]
  .rename_i h1 h2;rw[ajp h2,gH (by omega)]
  .rename_i h1;rw[ajq h1,gH (by omega)]
 .rintro x rfl;with_reducible repeat' first|(refine OS.ok ?_;constructor)|refine IM.mk λ_=>?_
  all_goals try simp only[ak,rG] at*
  all_goals first|omega|rfl
def wo (l:η) (n:Int):η:=l.filter λx=> !decide (x=n)
theorem U8 (l:η) (n:Int) (hl:l.length<=1000000):qU (l,n)=M (wo l n):=by
 refine b_ ?_;unfold qU bx jw bC bD aX cR aD cL;refine b7 l.length (λi x=>x=((i:Int),wo (l.take i) n)) ?_ ?_ rfl
 .rintro i x hi rfl;have hq:(wo (l.take i) n).length<=i:=dz (Cb ..) (qK ..);have ht:wo (l.take (i+1)) n=if aI (T:=.int .i64) l (i:Int)=n then wo (l.take i) n else wo (l.take i) n++[aI (T:=.int .i64) l (i:Int)]:=by
   unfold wo;rw[pq hi,yI,P',av,ay hi];by_cases h:l[i]=n<;>simp[h]
  with_reducible repeat' first|(refine OS.ok ?_;constructor)|refine IM.mk λ_=>?_
  all_goals try simp only[ak,rG] at*
  all_goals first|omega|skip
  .simp;omega
  .rename_i h;rw[ht,ax h,gH (by omega)]
  .rename_i h;rw[ht,aC h,gH (by omega)]
 .rintro x rfl;with_reducible repeat' first|(refine OS.ok ?_;constructor)|refine IM.mk λ_=>?_
  all_goals try simp only[ak,rG] at*
  all_goals first|omega|(rw [cP])
theorem nh {T:Ty} {xs:Y T.den} {i:Nat} (hi:i<ai xs):dR (i+1) xs=dR i xs++[aI xs (i:Int)]:=by
 rw[pq hi,Ab,av,ay hi];rfl
theorem rC {n:Nat} (s:SY) (hs:SB n s):iC s=M (s.2.1,s.1,s.2.2.1,s.2.2.2):=by
 refine b_ ?_;obtain⟨s1,s2,z,a⟩:=s;have hn:=hs.n1;have U:=hs.lk;have L:=hs.dn;have A:=hs.th;dsimp only at U L A;unfold iC aY bi bu bO cY bx bC bD aX cR aD cL;with_reducible repeat' first|(refine OS.ok ?_;constructor)|refine IM.mk λ_=>?_
 all_goals try simp only[ak,rG] at*
 .simp;omega
 .omega
 .simp;omega
 .omega
 refine b7 s1.length (λi x=>x=((i:Int),(s1,s2,z,a),0,s2,s1.take i,z,a)) ?_ ?_ ?_
 .rintro i x hi rfl;have hg:=hs.rd _ (bN (T:=Bd) (xs:=s1) (j:=(i:Int)) (by omega) (by omega));with_reducible repeat' first|(refine OS.ok ?_;constructor)|refine IM.mk λ_=>?_
  all_goals try simp only[ak,rG] at*
  all_goals first|omega|skip
  .simp;omega
  .simp;omega
  .rw[gH (by omega),nh (T:=Bd) hi];rfl
 .rintro x rfl;with_reducible repeat' first|(refine OS.ok ?_;constructor)|refine IM.mk λ_=>?_
  all_goals try simp only[ak,rG] at*
  all_goals first|omega|skip
  simp
 .simp
theorem HG (s:SY) (c:Int) (hs:s.2.2.2.length<=1000):jR ((s.2.1,c),s.1,s.2.2.1,s.2.2.2)=M (wl s.2.2.2 c s.2.2.2.length):=by
 refine b_ ?_;unfold jR;refine aw (P:=λy=>y=(wl s.2.2.2 c s.2.2.2.length,s.1,s.2.2.1,s.2.2.2)) ?_ λy a=>by subst a;exact ah4 rfl (aj rfl)
 unfold mH aY bi bu bO cY be bx bC kO aX cR aD cL;refine b7 s.2.2.2.length (λi x=>x=((i:Int),s.1,s.2.2.1,s.2.2.2,s.2.1,wl s.2.2.2 c i)) ?_ ?_ rfl
 .rintro i x hi rfl;have hl:=wu s.2.2.2 c i;with_reducible repeat' first|(refine OS.ok ?_;constructor)|refine IM.mk λ_=>?_
  all_goals try simp only[ak,rG] at*
  all_goals first|omega|skip
  all_goals first|(simp;omega)|skip
  .rename_i h1 h2;rw[aoy h1 h2,gH (by omega)]
  .rename_i h1 h2;rw[ajp h2,gH (by omega)]
  .rename_i h1;rw[ajq h1,gH (by omega)]
 .rintro x rfl;with_reducible repeat' first|(refine OS.ok ?_;constructor)|refine IM.mk λ_=>?_
  all_goals try simp only[ak,rG] at*
  all_goals first|omega|rfl
structure AP (n:Nat) (s y:SY):Prop where
 a1:y.1.length=s.1.length
 a2:y.2.2.1.length=s.2.2.1.length
 a3:y.2.2.2.length=s.2.2.2.length
 rd:∀l∈y.1,l.2.length<=n+1
theorem AP.toSB {n:Nat} {s y:SY} (h:AP n s y) (hs:SB n s) (hn:n+1<=100000):SB (n+1) y:=
 ⟨hn,by rw[h.a1];exact hs.lk,h.rd,by rw[h.a2];exact hs.dn,by rw[h.a3];exact hs.th⟩
theorem AP.same {n:Nat} {s:SY} (hs:SB n s) (x:Int) (d:θ) (t:Y (Int×Int×Bool)) (hd:d.length=s.2.2.1.length) (ht:t.length=s.2.2.2.length):AP n s (s.1,x,d,t):=
 ⟨rfl,hd,ht,λl hl=>iL (hs.rd l hl)⟩
theorem AP.set {n:Nat} {s:SY} (hs:SB n s) (j a:Int) (r:η) (hr:r.length<=n+1) (x:Int) (d:θ) (t:Y (Int×Int×Bool)) (hd:d.length=s.2.2.1.length) (ht:t.length=s.2.2.2.length):AP n s (cK s.1 j (a,r),x,d,t):=
 ⟨bW _ _ _,hd,ht,λl hl=>by
   rcases Dg hl with h|rfl
   .exact iL (hs.rd l h)
   .exact hr⟩
def yK (th:Y (Int×Int×Bool)) (t st:Int):Y (Int×Int×Bool):=cK th t (st,(aI (T:=jP) th t).2)
def owP (lk:Y (Int×η)) (o t:Int):Y (Int×η):=cK lk o (t,(aI (T:=Bd) lk o).2)
def rdP (lk:Y (Int×η)) (o:Int) (l:η):Y (Int×η):=cK lk o ((aI (T:=Bd) lk o).1,l)
def cdP (th:Y (Int×Int×Bool)) (t c:Int):Y (Int×Int×Bool):=cK th t ((aI (T:=jP) th t).1,c,(aI (T:=jP) th t).2.2)
def atP (th:Y (Int×Int×Bool)) (t:Int) (b:Bool):Y (Int×Int×Bool):=cK th t ((aI (T:=jP) th t).1,(aI (T:=jP) th t).2.1,b)
def Ds (th:Y (Int×Int×Bool)) (l:η):Y (Int×Int×Bool):=l.foldl (λx u=>yK x u 4) th
def B6 (l:η) (u:Int):Int:=if l.length=0 then -1 else if l.contains u then u else aI (T:=.int .i64) l 0
def muP (w:WT) (o:Int):Int:=(aI (T:=U4) w.2.2.1 o).2
def rJ (w:WT) (s:SY) (t k o u:Int):SY×Int:=
 if k=1 then ((s.1,s.2.1,s.2.2.1,yK s.2.2.2 t 2),0)
 else if k=2 then ((s.1,s.2.1,s.2.2.1,yK s.2.2.2 t 5),0)
 else if k=6\/k=10 then ((owP s.1 o t,s.2),0)
 else if k=7\/k=11 then ((owP s.1 o (-1),s.2),0)
 else if k=8 then ((rdP s.1 o (xQ (aI (T:=Bd) s.1 o).2 [t]),s.2),0)
 else if k=9 then ((rdP s.1 o (wo (aI (T:=Bd) s.1 o).2 t),s.2),0)
 else if k=12 then ((s.1,t,s.2.2),0)
 else if k=13 then ((s.1,-1,s.2.2),0)
 else if k=14 then ((s.1,s.2.1,s.2.2.1,atP s.2.2.2 t J),0)
 else if k=15 then ((s.1,s.2.1,s.2.2.1,atP s.2.2.2 t af),0)
 else if k=16 then ((owP s.1 (muP w o) (-1),s.2.1,s.2.2.1,cdP (yK s.2.2.2 t 3) t o),0)
 else if k=17 then ((owP s.1 (muP w o) t,s.2.1,s.2.2.1,cdP (yK s.2.2.2 t 2) t 0),0)
 else if k=18 then (if (wl s.2.2.2 o s.2.2.2.length).length=0 then (s,-1) else ((s.1,s.2.1,s.2.2.1,yK s.2.2.2 (B6 (wl s.2.2.2 o s.2.2.2.length) u) 4),B6 (wl s.2.2.2 o s.2.2.2.length) u))
 else if k=19 then ((s.1,s.2.1,s.2.2.1,Ds s.2.2.2 (wl s.2.2.2 o s.2.2.2.length)),((wl s.2.2.2 o s.2.2.2.length).length:Int))
 else if k=20 then ((s.1,s.2.1,s.2.2.1,yK s.2.2.2 o 1),0)
 else if k=22 then ((s.1,s.2.1,cK s.2.2.1 o J,s.2.2.2),0)
 else (s,0)
theorem IE (l:η):∀th,(Ds th l).length=th.length:=by
 induction l with
 |nil=>intro th;rfl
 |cons x r a=>intro th;unfold Ds;rw[xO];exact (a _).trans (bW ..)
theorem ad3 {th:Y (Int×Int×Bool)} {l:η} {i:Nat} (hi:i<l.length):Ds th (l.take (i+1))=yK (Ds th (l.take i)) (aI (T:=.int .i64) l (i:Int)) 4:=by
 unfold Ds;rw[pq hi,dA,P',av,ay hi];rfl
theorem U1 {n:Nat} (w:WT) (s:SY) (hs:SB n s) (L:w.2.2.1.length<=1000) (t k o u:Int):Ok (pR (w,s,t,k,o,u)) λy=>(y.2.2=J->EN w s t k o/\XE w s t k o/\AP n s y.1/\(y.1,y.2.1)=rJ w s t k o u)/\(y.2.2=af->y.1=([],0,[],[]))/\(kB (w,s,t,k,o)=M J->y.2.2=J):=by
 unfold pR aY bi bu cF bO dG cY fH ck be bx bD kO aX cR aD cL;obtain⟨b,z,hb⟩:=LY w s hs L t k o;refine aR z ?_;refine dS (λh=>aj ⟨λh=>(by cases h),λ_=>rfl,λh2=>(by rw[z,h]at h2;cases h2)⟩) (λh=>?_);obtain⟨he,hry⟩:=hb h;refine aR (rC s hs) ?_;suffices hmain:Ok _ _ from aV (λx=>AP n s (x.2.2.2.1,x.2.1,x.2.2.2.2)/\((x.2.2.2.1,x.2.1,x.2.2.2.2),x.1)=rJ w s t k o u) hmain λx A=>aj ⟨λ_=>⟨he,hry,A⟩,λh=>(by cases h),λ_=>rfl⟩
 obtain⟨nm,t0,t1,cd,e1,e2,e3⟩:=id he;obtain⟨_,_,ce,lk,cn,th,fu⟩:=nm;have hn:=hs.n1;have hlk:=hs.lk;have hm:16<=k/\k<=19->0<=(aI (T:=U4) w.2.2.1 o).2/\(aI (T:=U4) w.2.2.1 o).2<w.2.1.length:=λh=>cd _ (bN (cn h).1 (cn h).2)
 have hr:∀j:Int,0<=j->j<s.1.length->(aI (T:=Bd) s.1 j).2.length<=n:=λj h0 h1=>hs.rd _ (bN (T:=Bd) h0 h1)
 rcases @JJ k with rfl|rfl|rfl|rfl|rfl|rfl|rfl|rfl|rfl|rfl|rfl|rfl|rfl|rfl|rfl|rfl|rfl|rfl|rfl|rfl|rfl|rfl|rfl|⟨hk,U⟩
 case inr.inr.inr.inr.inr.inr.inr.inr.inr.inr.inr.inr.inr.inr.inr.inr.inr.inr.inr.inr.inr.inr.inr=>omega
 all_goals simp only[aU,bp,tW]
 all_goals with_reducible repeat' first|(refine OS.ok ?_;constructor)|refine IM.mk λ_=>?_
 all_goals try simp only[ak,rG] at*
 all_goals try rw[bW]
 all_goals first|omega|exact (hm ⟨by decide,by decide⟩).1|exact e1▸(hm ⟨by decide,by decide⟩).2|exact⟨AP.same hs _ _ _ rfl rfl,rfl⟩|exact⟨AP.same hs _ _ _ rfl (bW _ _ _),rfl⟩|exact⟨AP.same hs _ _ _ (bW _ _ _) rfl,rfl⟩|skip
 all_goals try exact⟨AP.set hs _ _ _ (iL (hr o (by omega) (by omega))) _ _ _ rfl rfl,rfl⟩
 .have:=hr o (by omega) (by omega);refine aR (UB _ _ (dz this (by have:=hs.n1;omega)) (by simp)) ?_;with_reducible repeat' first|(refine OS.ok ?_;constructor)|refine IM.mk λ_=>?_
  all_goals try simp only[ak,rG] at*
  all_goals first|omega|skip
  exact⟨AP.set hs _ _ _ (by have:=ac2 (aI (T:=Bd) s.1 o).2 [t];simp at this;omega) _ _ _ rfl rfl,rfl⟩
 .have:=hr o (by omega) (by omega);have hl:(wo (aI (T:=Bd) s.1 o).2 t).length<=(aI (T:=Bd) s.1 o).2.length:=Cb ..;refine aR (U8 _ _ (by omega)) ?_;with_reducible repeat' first|(refine OS.ok ?_;constructor)|refine IM.mk λ_=>?_
  all_goals try simp only[ak,rG] at*
  all_goals first|omega|skip
  exact⟨AP.set hs _ _ _ (dz hl (by omega)) _ _ _ rfl rfl,rfl⟩
 .exact⟨AP.set hs _ _ _ (iL (hr _ (hm ⟨by decide,by decide⟩).1 (by rw[e1];exact (hm ⟨by decide,by decide⟩).2))) _ _ _ rfl (by rw[bW,bW]),rfl⟩
 .exact⟨AP.set hs _ _ _ (iL (hr _ (hm ⟨by decide,by decide⟩).1 (by rw[e1];exact (hm ⟨by decide,by decide⟩).2))) _ _ _ rfl (by rw[bW,bW]),rfl⟩
 .refine aR (HG s o hs.th) ?_;have hth:=hs.th;have hll:=wu s.2.2.2 o s.2.2.2.length;have hml:∀u∈wl s.2.2.2 o s.2.2.2.length,0<=u/\u<s.2.2.2.length:=λu hu=>⟨(rM.1 hu).1,(rM.1 hu).2.1⟩
  have hap:rJ w s t 18 o u=if (wl s.2.2.2 o s.2.2.2.length).length=0 then (s,-1) else ((s.1,s.2.1,s.2.2.1,yK s.2.2.2 (B6 (wl s.2.2.2 o s.2.2.2.length) u) 4),B6 (wl s.2.2.2 o s.2.2.2.length) u):=rfl
  unfold B6 at hap;revert hll hml hap;generalize wl s.2.2.2 o s.2.2.2.length=l;intro hll hml hap;with_reducible repeat' first|(refine OS.ok ?_;constructor)|refine IM.mk λ_=>?_
  all_goals try simp only[ak,rG] at*
  all_goals first|omega|skip
  .have a:=hml _ (bN (T:=.int .i64) (xs:=l) (j:=0) (by omega) (by omega));rw[ax (by omega),ax (by omega)]at hap;simp only[XJ l u (by omega),Yh];refine aO (λhc=>?_) λhc=>?_
   .have hu:=hml u (tS.1 hc);rw[hc,aC rfl]at hap;refine aj (aP hu.1 hu.2 (aP hu.1 hu.2 (aj ⟨AP.same hs _ _ _ rfl (bW ..),?_⟩)));rw[hap];rfl
   .rw[hc,ax (by decide)]at hap;refine aj (aP a.1 a.2 (aP a.1 a.2 (aj ⟨AP.same hs _ _ _ rfl (bW ..),?_⟩)));rw[hap];rfl
  .rw[aC (by omega)]at hap;exact⟨AP.same hs _ _ _ rfl rfl,hap.symm⟩
 .refine aR (HG s o hs.th) ?_;have hth:=hs.th;have hll:=wu s.2.2.2 o s.2.2.2.length;have hml:∀u∈wl s.2.2.2 o s.2.2.2.length,0<=u/\u<s.2.2.2.length:=λu hu=>⟨(rM.1 hu).1,(rM.1 hu).2.1⟩
  have hap:rJ w s t 19 o u=((s.1,s.2.1,s.2.2.1,Ds s.2.2.2 (wl s.2.2.2 o s.2.2.2.length)),((wl s.2.2.2 o s.2.2.2.length).length:Int)):=rfl;rw[hap];clear hap;generalize wl s.2.2.2 o s.2.2.2.length=l at hll hml ⊢;refine b7 l.length (λi x=>x=((i:Int),s.2.1,0,s.1,s.2.2.1,Ds s.2.2.2 (l.take i))) ?_ ?_ rfl
  .rintro i x hi rfl;have a:=hml _ (bN (T:=.int .i64) (xs:=l) (j:=(i:Int)) (by omega) (by omega));have hq:=IE (l.take i) s.2.2.2;with_reducible repeat' first|(refine OS.ok ?_;constructor)|refine IM.mk λ_=>?_
   all_goals try simp only[ak,rG] at*
   all_goals first|omega|skip
   rw[gH (by omega),ad3 hi];rfl
  .rintro x rfl;rw[cP];with_reducible repeat' first|(refine OS.ok ?_;constructor)|refine IM.mk λ_=>?_
   all_goals try simp only[ak,rG] at*
   all_goals first|omega|skip
   exact AP.same hs _ _ _ rfl (IE ..)
abbrev SN:Type:=SY×η×η×η
abbrev ET:Type:=Int×Int×Int×Int×Int×η×η
theorem apc (a b:Int):Dt (a,b)=M (decide (0<=a/\a<b)):=adk a b
structure NB (n:Nat) (s:SN):Prop where
 sb:SB n s.1
 c:s.2.1.length<=1000
 f:s.2.2.1.length<=1000
 k:s.2.2.2.length<=1000
structure SP (n:Nat) (s y:SN):Prop where
 ap:AP n s.1 y.1
 c:y.2.1.length=s.2.1.length
 f:y.2.2.1.length=s.2.2.1.length
 k:y.2.2.2.length=s.2.2.2.length
theorem SP.NB {n:Nat} {s y:SN} (h:SP n s y) (hs:NB n s) (hn:n+1<=100000):NB (n+1) y:=
 ⟨h.ap.toSB hs.sb hn,by rw[h.c];exact hs.c,by rw[h.f];exact hs.f,by rw[h.k];exact hs.k⟩
def sn0:SN:=(([],0,[],[]),[],[],[])
structure F16 (w:WT) (s:SN):Prop where
 c:s.2.1.length=w.1.length
 f:s.2.2.1.length=w.2.2.2.1.length
 k:s.2.2.2.length=w.2.2.2.2.1.length
theorem aba (w:WT) (s:SN) (a:w.2.2.1.length<=1000):Ok (wZ (w,s)) λb=>b=J->F16 w s:=by
 unfold wZ aY bi bu dG be aX aD;refine gL (aw (Q_ w s.1 (by omega)) λb hb=>?_);with_reducible repeat' first|(refine OS.ok ?_;constructor)|refine IM.mk λ_=>?_
 all_goals try simp only[ak,rG] at*
 all_goals first|(intro h;constructor<;>omega)|(intro h;cases h;done)
theorem YR:∀(l:η),(∀k:Nat,k+1<l.length->l.getD k 0<l.getD (k+1) 0)->Ip l
 |[],_=>trivial
 |[x],_=>⟨λy A=>(by cases A),trivial⟩
 |x::y::r,h=>by
  have s:=YR (y::r) λk hk=>by have:=h (k+1) (by simpa using hk);simpa using this
  have h0:=h 0 (by simp);simp at h0;refine ⟨λz a=>?_,s⟩;rcases bl.1 a with rfl|a
  .exact h0
  .have:=s.1 z a;omega
structure AN (c:Int) (l:η):Prop where
 a:Ip l
 m:∀x:Int,x∈l->1<=x/\x<c
theorem Ju (l:η) (c:Int) (hl:l.length<=1000000000):Ok (om (l,c)) λb=>b=J->AN c l:=by
 unfold om bx iR bD aX cR aD cL;refine b7 l.length (λi x=>x=(i:Int)/\(∀k:Nat,k<i->1<=aI (T:=.int .i64) l (k:Int)/\aI (T:=.int .i64) l (k:Int)<c)/\∀k:Nat,k+1<i->l.getD k 0<l.getD (k+1) 0) ?_ ?_ ⟨rfl,λk hk=>by omega,λk hk=>by omega⟩
 .rintro i x hi ⟨rfl,a,s⟩;have z:0<(i:Int)->bm .i64 ((i:Int)-1)=((i-1:Nat):Int):=λh=>by rw[iz (by omega) (by omega)];omega
  have hq:(0<i->l.getD (i-1) 0<l.getD i 0)->1<=aI (T:=.int .i64) l (i:Int)/\aI (T:=.int .i64) l (i:Int)<c->bm .i64 ((i:Int)+1)=((i+1:Nat):Int)/\(∀k:Nat,k<i+1->1<=aI (T:=.int .i64) l (k:Int)/\aI (T:=.int .i64) l (k:Int)<c)/\∀k:Nat,k+1<i+1->l.getD k 0<l.getD (k+1) 0:=λZ U=>by
   refine ⟨gH (by omega),λk hk=>?_,λk hk=>?_⟩
   .rcases ci k i with h1|h1
    .exact a k h1
    .rw[show k=i by omega];exact U
   .rcases ci (k+1) i with h1|h1
    .exact s k h1
    .have:=Z (by omega);rw[show k=i-1 by omega,show i-1+1=i by omega];exact this
  with_reducible repeat' first|(refine OS.ok ?_;constructor)|refine IM.mk λ_=>?_
  all_goals try simp only[ak,rG] at*
  all_goals first|omega|(intro h;cases h;done)|(rw [z (by omega)];omega)|skip
  .rename_i h1 h2 L A;rw[z L,P',P']at A;exact hq (λ_=>A) ⟨by omega,by omega⟩
  .exact hq (λh=>by omega) ⟨by omega,by omega⟩
 .rintro x ⟨rfl,a,s⟩;with_reducible repeat' first|(refine OS.ok ?_;constructor)|refine IM.mk λ_=>?_
  all_goals try simp only[ak,rG] at*
  all_goals first|omega|skip
  exact⟨YR l λk hk=>s k hk,iG (T:=.int .i64) a⟩
structure VA (w:WT) (sy:SY) (ce fu:η) (t k o v:Int):Prop where
 ld:k=3->v=aI (T:=.int .i64) ce o
 gt:k=23->v=aI (T:=.int .i64) fu o
 br:k=5->v=0\/v=1
 el:¬k=3->¬k=23->¬k=5->¬k=4->¬k=22->v=(rJ w sy t k o v).2
theorem ite2 {c:Prop} [Decidable c] {a b:SY×Int} (s:a.2=0) (hb:b.2=0):(if c then a else b).2=0:=by by_cases h:c<;>simp[h,s,hb]
theorem akm (w:WT) (sy:SY) (t k o u:Int) (h1:¬k=18) (h2:¬k=19):(rJ w sy t k o u).2=0:=by
 unfold rJ;rw[ax h1,ax h2];repeat (first|exact rfl|refine ite2 rfl ?_)
theorem YV (w:WT) (sy:SY) (t k o u a:Int) (h1:¬k=18):rJ w sy t k o u=rJ w sy t k o a:=by
 unfold rJ;rw[ax h1,ax h1]
theorem F' (w:WT) (sy:SY) (t o u:Int):rJ w sy t 18 o u=if (wl sy.2.2.2 o sy.2.2.2.length).length=0 then (sy,-1) else ((sy.1,sy.2.1,sy.2.2.1,yK sy.2.2.2 (B6 (wl sy.2.2.2 o sy.2.2.2.length) u) 4),B6 (wl sy.2.2.2 o sy.2.2.2.length) u):=rfl
theorem amc (w:WT) (sy:SY) (t o u:Int):(rJ w sy t 19 o u).2=((wl sy.2.2.2 o sy.2.2.2.length).length:Int):=rfl
theorem ac1 {n:Nat} (w:WT) (s:SN) (hs:NB n s) (hf:F16 w s) (e:ET) (he:EN w s.1 e.1 e.2.1 e.2.2.1):Ok (uO (s,e)) λb=>b=J->VA w s.1 s.2.1 s.2.2.1 e.1 e.2.1 e.2.2.1 e.2.2.2.1:=by
 obtain⟨t,k,o,v,si,de,fr⟩:=e;obtain⟨s1,s2,s3,s4⟩:=s;obtain⟨nm,t0,t1,cd,e1,e2,e3⟩:=he;obtain⟨_,_,ce,lk,cn,th,fu,_,_,_⟩:=nm;obtain⟨f1,f2,f3⟩:=hf;have hth:=hs.sb.th;dsimp only at*
 unfold uO aY bi bu cF bO be bx iR bD aX aD;have hW:=Xx s1 o hth;have hWl:=wu s1.2.2.2 o s1.2.2.2.length;refine aK (λh=>?_) λn3=>?_
 .have h:k=3:=h;obtain⟨Z,U⟩:=ce (.inl h);exact aP Z (by rw[f1];exact U) (aT (aj λh2=>⟨λ_=>bf h2,λa=>by omega,λa=>by omega,λa=>(a h).elim⟩))
 refine aK (λh=>?_) λz=>?_
 .have h:k=23:=h;obtain⟨Z,U⟩:=fu (.inr h);exact aP Z (by rw[f2];exact U) (aT (aj λh2=>⟨λa=>by omega,λ_=>bf h2,λa=>by omega,λ_ a=>(a h).elim⟩))
 refine aK (λh=>?_) λn5=>?_
 .have h:k=5:=h;exact gL (aK (λh2=>aj (aj λ_=>⟨λa=>by omega,λa=>by omega,λ_=>.inl h2,λ_ _ a=>(a h).elim⟩)) λ_=>aj (aj λh2=>⟨λa=>by omega,λa=>by omega,λ_=>.inr (bf h2),λ_ _ a=>(a h).elim⟩))
 refine aV (λx=>x.2=((s1,s2,s3,s4),t,k,o,v,si,de,fr)/\(x.1=J->k=4\/k=22)) (aK (λh=>aj ⟨rfl,λ_=>.inl h⟩) λ_=>aj ⟨rfl,λh=>.inr (bf h)⟩) ?_;rintro⟨b,x⟩ ⟨e,hb⟩;dsimp only at e hb;subst e;refine aO (λh=>aj λ_=>⟨λa=>(n3 a).elim,λa=>(z a).elim,λa=>(n5 a).elim,λ_ _ _ h4 h5=>(hb h).elim (λh=>(h4 h).elim) λh=>(h5 h).elim⟩) λ_=>?_
 have fin:v=(rJ w s1 t k o v).2->VA w s1 s2 s3 t k o v:=λh=>⟨λa=>(n3 a).elim,λa=>(z a).elim,λa=>(n5 a).elim,λ_ _ _ _ _=>h⟩
 refine aK (λh=>?_) λL=>?_
 .have h:k=18:=h;subst h;rw[F']at fin;refine aR hW ?_;revert fin hWl;generalize wl s1.2.2.2 o s1.2.2.2.length=l;intro hWl fin;refine aK (λh=>aj λh2=>fin ?_) λh=>?_
  .dsimp only[ak]at h;rw[aC (by omega)];exact bf h2
  .dsimp only[ak]at h;have hne:¬l.length=0:=by omega
   refine gL (eO (λ_=>bL (λ_=>?_) λ_=>aj (aj λh=>(by cases h))) λ_=>aj (aj λh=>(by cases h)));refine aR (XJ _ _ (by omega)) (aj (aj λh2=>fin ?_));rw[ax hne];unfold B6;rw[ax hne,aC h2]
 refine aK (λh=>?_) λA=>?_
 .have h:k=19:=h;subst h;exact aR hW (aj λh2=>fin (bf h2))
 exact aj λh2=>fin (by rw[akm _ _ _ _ _ _ L A];exact bf h2)
structure S16 (w:WT) (s:SN) (e:ET):Prop where
 rd:XE w s.1 e.1 e.2.1 e.2.2.1
 s1:e.2.1=1\/e.2.1=2->e.2.2.2.2.1= -1
 s2:¬(e.2.1=1\/e.2.1=2)->0<=e.2.2.2.2.1/\e.2.2.2.2.1<w.2.2.2.2.2.length/\(aI (T:=yJ) w.2.2.2.2.2 e.2.2.2.2.1).1=e.1
 de:0<e.2.2.2.2.2.1.length->e.2.1=5\/(e.2.1=3\/e.2.1=4)/\¬(aI (T:=O_) w.1 e.2.2.1).2.2.1=0
 fr:0<e.2.2.2.2.2.2.length->e.2.1=4\/e.2.1=22
 nd:AN (aI (T:=.int .i64) s.2.2.2 e.1) e.2.2.2.2.2.1
 nf:AN (aI (T:=.int .i64) s.2.2.2 e.1) e.2.2.2.2.2.2
 va:VA w s.1 s.2.1 s.2.2.1 e.1 e.2.1 e.2.2.1 e.2.2.2.1
def ceP (ce:η) (e:ET):η:=if e.2.1=4 then cK ce e.2.2.1 e.2.2.2.1 else ce
def fuP (fu:η) (e:ET):η:=if e.2.1=22 then cK fu e.2.2.1 e.2.2.2.1 else fu
def nxP (w:WT) (s:SN) (e:ET):SN:=((rJ w s.1 e.1 e.2.1 e.2.2.1 e.2.2.2.1).1,ceP s.2.1 e,fuP s.2.2.1 e,cK s.2.2.2 e.1 (bm .i64 (aI (T:=.int .i64) s.2.2.2 e.1+1)))
theorem Ge {n:Nat} (w:WT) (s:SN) (hs:NB n s) (hw:w.2.2.1.length<=1000) (e:ET) (hd:e.2.2.2.2.2.1.length<=1000000000) (hf:e.2.2.2.2.2.2.length<=1000000000):Ok (rT (w,s,e)) λy=>(y.2=J->EN w s.1 e.1 e.2.1 e.2.2.1/\SP n s y.1/\S16 w s e/\y.1=nxP w s e)/\(y.2=af->y.1=sn0):=by
 have Z:∀{Q:SN×Bool->Prop},Q (sn0,af)->Ok (M (sn0,af)) Q:=λh=>aj h
 have z0:((sn0,af).2=J->EN w s.1 e.1 e.2.1 e.2.2.1/\SP n s (sn0,af).1/\S16 w s e/\(sn0,af).1=nxP w s e)/\((sn0,af).2=af->(sn0,af).1=sn0):=⟨λh=>(by cases h),λ_=>rfl⟩
 unfold rT aY bi bu cF dZ bO dG cY fH ky ck be bx jw bC bD kO aX cR aD cL;refine aV (λx=>x.2=(w,s,e,0)/\(x.1=af->F16 w s/\(EN w s.1 e.1 e.2.1 e.2.2.1/\XE w s.1 e.1 e.2.1 e.2.2.1)/\kB (w,s.1,e.1,e.2.1,e.2.2.1)=M J)) ?_ ?_
 .refine aw (aba w s hw) λb hb=>?_
  with_reducible repeat' first|(refine OS.ok ?_;constructor)|refine IM.mk λ_=>?_
  .exact⟨rfl,λh=>(by cases h)⟩
  simp only[apc,Yh];with_reducible repeat' first|(refine OS.ok ?_;constructor)|refine IM.mk λ_=>?_
  .exact⟨rfl,λh=>(by cases h)⟩
  .exact⟨rfl,λh=>(by cases h)⟩
  .exact⟨rfl,λh=>(by cases h)⟩
  obtain⟨c,hc0,hc⟩:=LY w s.1 hs.sb hw e.1 e.2.1 e.2.2.1;refine aR hc0 (aj ⟨rfl,λh=>?_⟩);have h:c=J:=by simpa using h
  exact⟨hb (by assumption),hc h,h▸hc0⟩
 rintro⟨z,A⟩ ⟨a,hx⟩;dsimp only at a hx;subst a;refine aO (λ_=>Z z0) λh1=>?_
 obtain⟨hF,⟨hE,hR⟩,hEn⟩:=hx h1;clear hx h1;refine aV (λx=>x=(w,s,e,0)/\(e.2.1=1\/e.2.1=2->e.2.2.2.2.1= -1)/\(¬(e.2.1=1\/e.2.1=2)->0<=e.2.2.2.2.1/\e.2.2.2.2.1<w.2.2.2.2.2.length/\(aI (T:=yJ) w.2.2.2.2.2 e.2.2.2.2.1).1=e.1)) ?_ ?_
 .refine aV (λx=>x.2=(w,s,e,0)/\(x.1=J->e.2.1=1\/e.2.1=2)/\(x.1=af->¬(e.2.1=1\/e.2.1=2))) ?_ ?_
  .refine aK (λh=>aj ⟨rfl,λ_=>.inl h,λh=>(by cases h)⟩) λh=>aj ⟨rfl,λh2=>.inr (bf h2),λh2=>?_⟩
   have:=Cd h2;exact λU=>U.elim h this
  rintro⟨z,A⟩ ⟨a,hy1,hy2⟩;dsimp only at a hy1 hy2;subst a;refine aO (λhk=>?_) λhk=>?_
  .exact cq (λ_=>aj z0) λh=>aj ⟨rfl,λ_=>h,λU=>(U (hy1 hk)).elim⟩
  .refine aV (λx=>x.2=(w,s,e,0)/\(x.1=af->0<=e.2.2.2.2.1/\e.2.2.2.2.1<w.2.2.2.2.2.length/\(aI (T:=yJ) w.2.2.2.2.2 e.2.2.2.2.1).1=e.1)) ?_ ?_
   .simp only[apc,Yh];refine cq (λ_=>aj ⟨rfl,λh=>(by cases h)⟩) λh=>aP h.1 h.2 (aT (aj ⟨rfl,λh2=>⟨h.1,h.2,?_⟩⟩))
    simpa using h2
   rintro⟨z,A⟩ ⟨a,Z⟩;dsimp only at a Z;subst a;exact aO (λ_=>aj z0) λh=>aj ⟨rfl,λU=>((hy2 hk) U).elim,λ_=>Z h⟩
 rintro x ⟨rfl,hS1,hS2⟩;obtain⟨nm,t0,t1,cd,e1,e2,e3⟩:=id hE;obtain⟨_,_,ce,lk,cn,th,fu,_,_,_⟩:=nm;obtain⟨f1,f2,f3⟩:=id hF;refine aV (λx=>x.2=(w,s,e,0)/\(x.1=J->e.2.1=3\/e.2.1=4)) ?_ ?_
 .with_reducible repeat' first|(refine OS.ok ?_;constructor)|refine IM.mk λ_=>?_
  .exact⟨rfl,λ_=>.inl (by assumption)⟩
  .exact⟨rfl,λh=>.inr (bf h)⟩
 rintro⟨z,A⟩ ⟨a,L⟩;dsimp only at a L;subst a;refine aV (λx=>x.2=(w,s,e,0)/\(x.1=af->0<e.2.2.2.2.2.1.length->e.2.1=5\/(e.2.1=3\/e.2.1=4)/\¬(aI (T:=O_) w.1 e.2.2.1).2.2.1=0)) ?_ ?_
 .refine bL (λ_=>cq (λ_=>aO (λh=>?_) λ_=>aj ⟨rfl,λh=>(by cases h)⟩) λh5=>aj ⟨rfl,λ_ _=>.inl h5⟩) λh=>aj ⟨rfl,λ_ h2=>?_⟩
  .refine aP (ce (L h)).1 (ce (L h)).2 (aT (aj ⟨rfl,λh2 _=>.inr ⟨L h,?_⟩⟩));simpa using h2
  .dsimp only[ak]at h;omega
 rintro⟨z,A⟩ ⟨a,hDe⟩;dsimp only at a hDe;subst a;refine aO (λ_=>Z z0) λhde=>?_
 refine aV (λx=>x.2=(w,s,e,0)/\(x.1=af->0<e.2.2.2.2.2.2.length->e.2.1=4\/e.2.1=22)) ?_ ?_
 .refine bL (λ_=>cq (λ_=>aj ⟨rfl,λh _=>.inr (by simpa using h)⟩) λh4=>aj ⟨rfl,λ_ _=>.inl h4⟩) λh=>aj ⟨rfl,λ_ h2=>?_⟩
  dsimp only[ak]at h;omega
 rintro⟨z,A⟩ ⟨a,hFr⟩;dsimp only at a hFr;subst a;refine aO (λ_=>Z z0) λhfr=>?_
 have hk:=hs.k;have hc:=hs.c;have hfu:=hs.f;refine aV (λx=>x.2=(w,s,e,0)/\(x.1=af->AN (aI (T:=.int .i64) s.2.2.2 e.1) e.2.2.2.2.2.1/\AN (aI (T:=.int .i64) s.2.2.2 e.1) e.2.2.2.2.2.2/\VA w s.1 s.2.1 s.2.2.1 e.1 e.2.1 e.2.2.1 e.2.2.2.1)) ?_ ?_
 .have hv:=ac1 w s hs hF e hE;refine aP t0 (by rw[f3];exact t1) (aT (aw (Ju _ _ hd) λb hb=>?_));refine dS (λ_=>aj ⟨rfl,λh=>(by cases h)⟩) λb1=>?_
  refine aP t0 (by rw[f3];exact t1) (aT (aw (Ju _ _ hf) λb hb2=>?_));refine dS (λ_=>aj ⟨rfl,λh=>(by cases h)⟩) λb2=>?_
  exact aw hv λb hb3=>aj ⟨rfl,λh=>⟨hb b1,hb2 b2,hb3 (by simpa using h)⟩⟩
 rintro⟨z,A⟩ ⟨a,hNum⟩;dsimp only at a hNum;subst a;refine aO (λ_=>Z z0) λhnu=>?_
 obtain⟨hN1,hN2,hVA⟩:=hNum hnu;have hS:S16 w s e:=⟨hR,hS1,hS2,hDe hde,hFr hfr,hN1,hN2,hVA⟩
 refine bd (by simp;omega) (by omega) (bd (by simp;omega) (by omega) (bd (by simp;omega) (by omega) ?_));refine aV (λx=>x.2=(w,s,e,0,0,s.2.1,s.2.2.1,s.2.2.2)/\rJ w s.1 e.1 e.2.1 e.2.2.1 x.1=rJ w s.1 e.1 e.2.1 e.2.2.1 e.2.2.2.1) ?_ ?_
 .exact aK (λ_=>aj ⟨rfl,rfl⟩) λh=>aj ⟨rfl,YV _ _ _ _ _ _ _ h⟩
 rintro⟨z,A⟩ ⟨a,hxu⟩;dsimp only at a hxu;subst a;refine aw (U1 w s.1 hs.sb hw e.1 e.2.1 e.2.2.1 z) λy hy=>?_
 obtain⟨_,_,hap,hyq⟩:=hy.1 (hy.2.2 hEn);rw[hxu]at hyq;refine aV (λx=>x.1=e/\x.2.2.1=y.1/\x.2.2.2.1=ceP s.2.1 e/\x.2.2.2.2=(s.2.2.1,s.2.2.2)) ?_ ?_
 .unfold ceP;refine aK (λh=>?_) λh=>aj ⟨rfl,rfl,(ax h).symm,rfl⟩
  have hc4:=ce (.inr h);with_reducible repeat' first|(refine OS.ok ?_;constructor)|refine IM.mk λ_=>?_
  all_goals try simp only[ak,rG] at*
  all_goals first|omega|exact (aC h).symm
 rintro⟨z,A,x3,x4,x5,x6⟩ ⟨h1,h2,U,h4⟩;simp only[aE]at h1 h2 U h4;obtain⟨rfl,rfl⟩:=h4;subst h1;subst h2;subst U;refine aV (λx=>x.1=z/\x.2.2.1=y.1/\x.2.2.2.1=ceP s.2.1 z/\x.2.2.2.2.1=fuP s.2.2.1 z/\x.2.2.2.2.2=s.2.2.2) ?_ ?_
 .unfold fuP;refine aK (λh=>?_) λh=>aj ⟨rfl,rfl,rfl,(ax h).symm,rfl⟩
  have hc4:=fu (.inl h);with_reducible repeat' first|(refine OS.ok ?_;constructor)|refine IM.mk λ_=>?_
  all_goals try simp only[ak,rG] at*
  all_goals first|omega|exact (aC h).symm
 rintro⟨z,A,x3,x4,x5,x6⟩ ⟨h1,h2,h4,h5,h6⟩;simp only at h1 h2 h4 h5 h6;subst h1;subst h2;subst h4;subst h5;subst h6;have l1:(ceP s.2.1 z).length=s.2.1.length:=by unfold ceP;split<;>simp[bW]
 have l2:(fuP s.2.2.1 z).length=s.2.2.1.length:=by unfold fuP;split<;>simp[bW]
 with_reducible repeat' first|(refine OS.ok ?_;constructor)|refine IM.mk λ_=>?_
 all_goals try simp only[ak,rG] at*
 all_goals first|omega|skip
 exact⟨⟨hE,⟨hap,l1,l2,by rw[bW]⟩,hS,by unfold nxP;rw[<- hyq]⟩,λh=>(by cases h)⟩
theorem UI:Ok (kQ ()) λl=>l.length=22:=by
 unfold kQ;with_reducible repeat' first|(refine OS.ok ?_;constructor)|refine IM.mk λ_=>?_
 all_goals rfl
theorem Q9 (s:ζ):Ok (jU s) λ_=>True:=by
 unfold jU bx bD aX cR aD cL;refine aw UI λl hl=>?_
 refine b7 l.length (λi x=>x=(i:Int)) ?_ ?_ rfl
 .rintro i x hi rfl;with_reducible repeat' first|(refine OS.ok ?_;constructor)|refine IM.mk λ_=>?_
  all_goals try simp only[ak,rG] at*
  all_goals first|omega|exact gH (by omega)
 .rintro x rfl;with_reducible repeat' first|(refine OS.ok ?_;constructor)|refine IM.mk λ_=>?_
  all_goals try simp only[ak,rG] at*
  all_goals omega
theorem OQ (c:Int):Ok (lV c) λ_=>True:=by
 unfold lV iR aD;with_reducible repeat' first|(refine OS.ok ?_;constructor)|refine IM.mk λ_=>?_
 all_goals exact trivial
theorem adh (c:Int):Ok (pY c) λ_=>True:=by
 unfold pY rZ iR aD;refine gL (aw (OQ c) λ_ _=>?_);with_reducible repeat' first|(refine OS.ok ?_;constructor)|refine IM.mk λ_=>?_
 all_goals try exact trivial
 refine aw (P:=λ_=>True) ?_ λ_ _=>?_
 .with_reducible repeat' first|(refine OS.ok ?_;constructor)|refine IM.mk λ_=>?_
  all_goals exact trivial
 .with_reducible repeat' first|(refine OS.ok ?_;constructor)|refine IM.mk λ_=>?_
  all_goals exact trivial
theorem iH (s:ζ):Ok (fA s) λ_=>True:=by
 unfold fA bx wQ aX cR aD cL;refine aV (λb=>b=af->s.length<=12) ?_ ?_
 .with_reducible repeat' first|(refine OS.ok ?_;constructor)|refine IM.mk λ_=>?_
  .exact λh=>(by cases h)
  .exact λh=>(by cases h)
  .omega
  .simp only[ak]at *;omega
  refine aw (OQ _) λ_ _=>?_
  with_reducible repeat' first|(refine OS.ok ?_;constructor)|refine IM.mk λ_=>?_
  .exact λh=>(by cases h)
  refine aw (Q9 _) λ_ _=>aj λ_=>?_
  simp only[ak]at *;omega
 .rintro b hb;refine aO (λ_=>aj trivial) λh=>?_
  have hb:=hb h;refine b7 s.length (λi x=>x=(i:Int)) ?_ ?_ rfl
  .rintro i x hi rfl;with_reducible repeat' first|(refine OS.ok ?_;constructor)|refine IM.mk λ_=>?_
   all_goals try simp only[ak,rG] at*
   all_goals first|omega|skip
   refine aw (adh _) λ_ _=>?_
   with_reducible repeat' first|(refine OS.ok ?_;constructor)|refine IM.mk λ_=>?_
   .exact trivial
   .exact gH (by omega)
  .rintro x rfl;with_reducible repeat' first|(refine OS.ok ?_;constructor)|refine IM.mk λ_=>?_
   all_goals try simp only[ak,rG] at*
   all_goals first|omega|exact trivial
theorem zj (l:Y ζ) (s:ζ) (hl:l.length<=1000000000):Ok (ji (l,s)) λr=> -1<=r/\r<l.length/\(0<=r->aI (T:=.str) l r=s)/\(r<0->s∉l):=by
 unfold ji bx bD aX cR aD cL;refine b7 l.length (λi x=>x=(i:Int)/\∀k:Nat,k<i->aI (T:=.str) l (k:Int)≠s) ?_ ?_ ⟨rfl,λk hk=>by omega⟩
 .rintro i x hi ⟨rfl,a⟩;with_reducible repeat' first|(refine OS.ok ?_;constructor)|refine IM.mk λ_=>?_
  all_goals try simp only[ak,rG] at*
  all_goals first|omega|skip
  .exact⟨by omega,by omega,λ_=>by assumption,λh=>by omega⟩
  .refine ⟨gH (by omega),λk hk=>?_⟩;rcases ci k i with h1|h1
   .exact a k h1
   .rw[show k=i by omega];assumption
 .rintro x ⟨rfl,a⟩;with_reducible repeat' first|(refine OS.ok ?_;constructor)|refine IM.mk λ_=>?_
  all_goals try simp only[ak,rG] at*
  all_goals first|omega|skip
  exact⟨by omega,by omega,λh=>by omega,λ_ h=>iG (T:=.str) (p:=λc=>c≠s) a s h rfl⟩
structure VL (w:WT):Prop where
 c:w.1.length<=12
 l:w.2.1.length<=4
 d:w.2.2.1.length<=2
 f:w.2.2.2.1.length<=2
 t0:1<=w.2.2.2.2.1.length
 t:w.2.2.2.2.1.length<=4
 s:w.2.2.2.2.2.length<=60
theorem ad0 (w:WT) (h:VL w):Ok (pU w) λy=>y.1.length<=100:=by
 obtain⟨s,U,L,w4,w5,Z⟩:=w;obtain⟨h1,h2,h3,h4,_,h5,h6⟩:=h;dsimp only at*
 unfold pU aY bi bu cF dG ky be bx jw bC bD aX cR aD cL;refine qM (λx=>((s.length:Int)-x.1).toNat) (λx=>x.2.1=(s,U,L,w4,w5,Z)/\0<=x.1/\x.1<=(s.length:Int)/\(x.2.2.length:Int)<=x.1) ?_ ⟨rfl,by simp,by simp,by simp⟩;rintro⟨x1,x2,x3⟩ ⟨e,g1,g2,g3⟩;dsimp only at e g1 g2 g3;subst e;refine bL (λg4=>?_) λg4=>?_
 .dsimp only[ak]at g4;refine aV (λx=>x.2.1=(s,U,L,w4,w5,Z)/\x1<x.1/\x.1<=(s.length:Int)/\(x.2.2.length:Int)<=x.1) ?_ ?_
  .refine cg (aT (bd (by simp;omega) (by omega) ?_));refine aK (λ_=>?_) λ_=>?_
   .with_reducible repeat' first|(refine OS.ok ?_;constructor)|refine IM.mk λ_=>?_
    .exact iK _
    .rw[iz (by omega) (by omega)];exact⟨rfl,by dsimp only;omega,by dsimp only;omega,by simp;omega⟩
   .generalize hz:aI _ x1=z;obtain⟨z1,(z2:Int),(A:Int),z4,z5⟩:=z;dsimp only;refine aV (λx=>x.2=((s,U,L,w4,w5,Z),x3++[z1],z1,z2,A,z4,z5)/\(x.1=af->1<=A/\A<=4/\x1+A<=s.length)) ?_ ?_
    .with_reducible repeat' first|(refine OS.ok ?_;constructor)|refine IM.mk λ_=>?_
     .exact⟨rfl,λh=>(by cases h)⟩
     .exact⟨rfl,λh=>(by cases h)⟩
     .refine ⟨rfl,λh=>?_⟩;dsimp only[ak] at*
      rw[iz (by omega) (by omega),gy]at h;omega
    .rintro⟨b,y⟩ ⟨e,hb⟩;dsimp only at e hb;subst e;refine aO (λ_=>aj (iK _)) λh=>?_
     obtain⟨q1,q2,q3⟩:=hb h;refine qM (λx=>(A-x.1).toNat) (λx=>x.2=((s,U,L,w4,w5,Z),x3++[z1],z1,z2,A,z4,z5)/\0<=x.1/\x.1<=A) ?_ ⟨rfl,by simp,by dsimp only;omega⟩;rintro⟨k,y⟩ ⟨e,k0,k1⟩;dsimp only at e k0 k1;subst e;refine bL (λk2=>?_) λk2=>?_
     .dsimp only at k2;have e1:bm .i64 (x1+k)=x1+k:=iz (by omega) (by omega);refine aP (by dsimp only;rw[e1];omega) (by dsimp only;rw[e1];omega) (aT ?_);refine aV (λx=>x.2=((s,U,L,w4,w5,Z),x3++[z1],z1,z2,A,z4,z5)) ?_ ?_
      .with_reducible repeat' first|(refine OS.ok ?_;constructor)|refine IM.mk λ_=>?_
       all_goals rfl
      .rintro⟨b,y⟩ e;dsimp only at e;subst e;refine aO (λ_=>aj (iK _)) λ_=>aj ?_
       dsimp only;rw[iz (by omega) (by omega)];exact⟨⟨rfl,by omega,by omega⟩,by omega⟩
     .dsimp only at k2;refine aj ?_;dsimp only;rw[iz (by omega) (by omega)];exact⟨rfl,by omega,by omega,by simp;omega⟩
  .rintro⟨y1,y2,y3⟩ ⟨e,g5,g6,g7⟩;dsimp only at e g5 g6 g7;subst e;refine aj ⟨⟨rfl,by dsimp only;omega,g6,g7⟩,?_⟩;dsimp only;omega
 .dsimp only[ak]at g4;refine aw (P:=λy=>y.1.length<=100) ?_ λy hy=>aj hy
  refine b7 U.length (λi x=>x.1=(i:Int)/\x.2.1=(s,U,L,w4,w5,Z)/\x.2.2.length<=12+i) ?_ ?_ ⟨rfl,rfl,by dsimp only;omega⟩
  .rintro i ⟨a,b,c⟩ hi ⟨e1,e2,e3⟩;dsimp only at e1 e2 e3;subst e1;subst e2;with_reducible repeat' first|(refine OS.ok ?_;constructor)|refine IM.mk λ_=>?_
   all_goals try simp only[ak,rG] at*
   all_goals first|omega|(simp;omega)|skip
   exact⟨gH (by omega),by simp;omega⟩
  .rintro⟨a,b,c⟩ ⟨e1,e2,e3⟩;dsimp only at e1 e2 e3;subst e1;subst e2;refine bL (λg4=>(by dsimp only[ak]at g4;omega)) λ_=>?_
   refine aw (P:=λy=>y.1.length<=100) ?_ λy hy=>aj hy
   refine b7 L.length (λi x=>x.1=(i:Int)/\x.2.1=(s,U,L,w4,w5,Z)/\x.2.2.length<=16+i) ?_ ?_ ⟨rfl,rfl,by dsimp only;omega⟩
   .rintro i ⟨a,b,c⟩ hi ⟨e1,e2,e3⟩;dsimp only at e1 e2 e3;subst e1;subst e2;with_reducible repeat' first|(refine OS.ok ?_;constructor)|refine IM.mk λ_=>?_
    all_goals try simp only[ak,rG] at*
    all_goals first|omega|(simp;omega)|skip
    exact⟨gH (by omega),by simp;omega⟩
   .rintro⟨a,b,c⟩ ⟨e1,e2,e3⟩;dsimp only at e1 e2 e3;subst e1;subst e2;refine bL (λg4=>(by dsimp only[ak]at g4;omega)) λ_=>?_
    refine aw (P:=λy=>y.1.length<=100) ?_ λy hy=>aj hy
    with_reducible repeat' first|(refine OS.ok ?_;constructor)|refine IM.mk λ_=>?_
    all_goals try simp only[ak,rG] at*
    all_goals first|omega|(simp;omega)
def U5 (T:Int) (o:I ν) (s:π):I ν:=
 match o with
 |none=>D
 |some (t,n)=>if s.1=t/\s.2.1=n then M (t,n+1) else if t<s.1/\s.1<T/\s.2.1=0 then M (s.1,1) else D
def L8 (T:Int) (l:Y π):I ν:=l.foldl (U5 T) (M (0,0))
def SV0 (w:WT):Prop:=L8 w.2.2.2.2.1.length w.2.2.2.2.2≠D
theorem Jc {T:Int} {l:Y π} {i:Nat} (hi:i<l.length):L8 T (l.take (i+1))=U5 T (L8 T (l.take i)) (aI (T:=yJ) l (i:Int)):=by
 rw[nh (T:=yJ) hi];unfold L8;rw[dA];rfl
theorem B7 (w:WT):Ok (il w) λb=>b=J->VL w/\SV0 w:=by
 unfold il aY bi bu cF cY fH be bx iR jw bC bD aX cR aD cL;refine aV (λx=>x.2=w/\(x.1=af->VL w)) ?_ ?_
 .with_reducible repeat' first|(refine OS.ok ?_;constructor)|refine IM.mk λ_=>?_
  all_goals first|exact⟨rfl,λh=>(by cases h)⟩|skip
  dsimp only[ak] at*
  refine ⟨rfl,λh=>?_⟩;rw[gy]at h;constructor<;>omega
 rintro⟨b,x⟩ ⟨e,hb⟩;dsimp only at e hb;subst e;refine aO (λ_=>aj λh=>(by cases h)) λh=>?_
 have hv:=hb h;refine aw (ad0 _ hv) λy hy=>?_
 refine dS (λ_=>aj λh=>(by cases h)) λ_=>?_
 obtain⟨w1,w2,Z,w4,L,A⟩:=x;have h6:=hv.s;have h3:=hv.d;dsimp only at h6 h3;refine b7 y.1.length (λi x=>x.1=(i:Int)/\x.2=(w1,w2,Z,w4,L,A)) ?_ ?_ ⟨rfl,rfl⟩
 .rintro i ⟨a,b⟩ hi ⟨e1,e2⟩;dsimp only at e1 e2;subst e1;subst e2;refine bL (λg4=>?_) λg4=>(by dsimp only[ak]at g4;omega)
  refine aV (λx=>x.2=(w1,w2,Z,w4,L,A)) ?_ ?_
  .refine cg (aT (aw (iH _) λ_ _=>?_));refine dS (λ_=>aj rfl) λ_=>?_
   with_reducible repeat' first|(refine OS.ok ?_;constructor)|refine IM.mk λ_=>?_
   all_goals try simp only[ak,rG] at*
   all_goals first|omega|skip
   refine aw (zj _ _ (by simp;omega)) λ_ _=>aj rfl
  .rintro⟨a,b⟩ e;dsimp only at e;subst e;with_reducible repeat' first|(refine OS.ok ?_;constructor)|refine IM.mk λ_=>?_
   .exact λh=>(by cases h)
   .dsimp only;exact⟨gH (by omega),rfl⟩
 rintro⟨a,b⟩ ⟨e1,e2⟩;dsimp only at e1 e2;subst e1;subst e2;refine bL (λg4=>(by dsimp only[ak]at g4;omega)) λ_=>?_
 refine aw (P:=λb=>b=J->VL (w1,w2,Z,w4,L,A)/\SV0 (w1,w2,Z,w4,L,A)) ?_ λy hy=>aj hy
 refine b7 Z.length (λi x=>x.1=(i:Int)/\x.2=(w1,w2,Z,w4,L,A)) ?_ ?_ ⟨rfl,rfl⟩
 .rintro i ⟨a,b⟩ hi ⟨e1,e2⟩;dsimp only at e1 e2;subst e1;subst e2;refine bL (λg4=>?_) λg4=>(by dsimp only[ak]at g4;omega)
  refine cg (aT ?_);refine aV (λx=>x.2=(w1,w2,Z,w4,L,A)) ?_ ?_
  .with_reducible repeat' first|(refine OS.ok ?_;constructor)|refine IM.mk λ_=>?_
   all_goals try simp only[ak,rG] at*
   all_goals first|omega|rfl
  .rintro⟨a,b⟩ e;dsimp only at e;subst e;with_reducible repeat' first|(refine OS.ok ?_;constructor)|refine IM.mk λ_=>?_
   .exact λh=>(by cases h)
   .dsimp only;exact⟨gH (by omega),rfl⟩
 rintro⟨a,b⟩ ⟨e1,e2⟩;dsimp only at e1 e2;subst e1;subst e2;refine bL (λg4=>(by dsimp only[ak]at g4;omega)) λ_=>?_
 refine aw (P:=λb=>b=J->VL (w1,w2,Z,w4,L,A)/\SV0 (w1,w2,Z,w4,L,A)) ?_ λy hy=>aj hy
 refine b7 A.length (λi x=>x.1=(i:Int)/\x.2=(w1,w2,Z,w4,L,A)/\L8 L.length (A.take i)=M (if i=0 then (0,0) else ((aI (T:=yJ) A ((i-1:Nat):Int)).1,(aI (T:=yJ) A ((i-1:Nat):Int)).2.1+1))/\(¬i=0->(0:Int)<=(aI (T:=yJ) A ((i-1:Nat):Int)).2.1/\(i:Int)>(aI (T:=yJ) A ((i-1:Nat):Int)).2.1)) ?_ ?_ ⟨rfl,rfl,rfl,λh=>(h rfl).elim⟩
 .rintro i ⟨a,b⟩ hi ⟨e1,e2,e3,hpb⟩;dsimp only at e1 e2;subst e1;subst e2;have hw:¬(i:Int)=0->bm .i64 ((i:Int)-1)=((i-1:Nat):Int):=λh=>by rw[iz (by omega) (by omega)];omega
  have hnx:=Jc (T:=L.length) hi;rw[e3]at hnx;clear e3;refine bL (λg4=>?_) λg4=>(by dsimp only[ak]at g4;omega)
  refine aV (λx=>x=(w1,w2,Z,w4,L,A)/\L8 L.length (A.take (i+1))=M (((aI (T:=yJ) A (i:Int)).1,(aI (T:=yJ) A (i:Int)).2.1+1))/\(0:Int)<=(aI (T:=yJ) A (i:Int)).2.1/\((i+1:Nat):Int)>(aI (T:=yJ) A (i:Int)).2.1) ?_ ?_
  .refine cg (aT ?_);rw[hnx];generalize hz:aI (T:=yJ) A (i:Int)=z;obtain⟨(z1:Int),(z2:Int),(z3:Int)⟩:=z;dsimp only;refine aV (λx=>x.2=((w1,w2,Z,w4,L,A),z1,z2,z3)/\(x.1=af->0<=z1/\z1<L.length)) ?_ ?_
   .refine bL (λ_=>aj ⟨rfl,λh=>(by cases h)⟩) λg=>aj ⟨rfl,λh=>⟨g,?_⟩⟩
    rw[mB]at h;exact h
   rintro⟨c,y⟩ ⟨e,hzr⟩;dsimp only at e hzr;subst e;refine aO (λ_=>aj λh=>(by cases h)) λhzb=>?_
   obtain⟨z0,zT⟩:=hzr hzb;refine aV (λx=>x.2=((w1,w2,Z,w4,L,A),z1,z2,z3)/\(x.1=J->i=0\/¬(aI (T:=yJ) A ((i-1:Nat):Int)).1=z1)/\(x.1=af->¬(i:Int)=0/\(aI (T:=yJ) A ((i-1:Nat):Int)).1=z1)) ?_ ?_
   .refine aK (λh=>aj ⟨rfl,λ_=>.inl (by have h:((i:Nat):Int)=0:=h;omega),λh=>(by cases h)⟩) λh=>?_
    rw[hw h];refine cg (aT (aj ⟨rfl,λh2=>.inr (by simpa using h2),λh2=>⟨h,by simpa using h2⟩⟩))
   rintro⟨c,y⟩ ⟨e,hc1,hc⟩;dsimp only at e hc1 hc;subst e;refine aO (λhct=>?_) λhcf=>?_
   .refine aV (λx=>x.2=(w1,w2,Z,w4,L,A)/\(x.1=af->z2=0/\(¬i=0->((aI (T:=yJ) A ((i-1:Nat):Int)).1:Int)<z1))) ?_ ?_
    .refine cq (λ_=>aj ⟨rfl,λh=>(by cases h)⟩) λhz2=>?_
     refine bL (λh=>?_) λU=>aj ⟨rfl,λ_=>⟨hz2,λh=>by have U:((i:Nat):Int)<=0:=U;omega⟩⟩
     have h:(0:Int)<((i:Nat):Int):=h;rw[hw (by omega)];refine cg (aT (aj ⟨rfl,λh2=>⟨hz2,λh3=>?_⟩⟩));rw[gy]at h2;have h4:=(hc1 hct).resolve_left h3;have h2:(aI (T:=yJ) A ((i-1:Nat):Int)).1<=z1:=h2;exact Int.lt_iff_le_and_ne.2 ⟨h2,h4⟩
    rintro⟨c,y⟩ ⟨e,hy⟩;dsimp only at e hy;subst e;refine aO (λ_=>aj λh=>(by cases h)) λh=>aj ⟨rfl,?_⟩
    obtain⟨q1,q2⟩:=hy h;have q1:z2=0:=q1;subst q1;refine ⟨?_,dk 0,by show _>(0:Int);omega⟩;unfold U5;by_cases U:i=0
    .subst U;rw[aC rfl];dsimp only;by_cases hz1:z1=0
     .subst hz1;rfl
     .rw[ax (λh=>hz1 h.1),aC ⟨by omega,zT,rfl⟩];rfl
    .have:=q2 U;rw[ax U];dsimp only;rw[ax (λh=>by omega),aC ⟨this,zT,rfl⟩];rfl
   .obtain⟨U,hpr⟩:=hc hcf;rw[hw U];refine cg (aT ?_);refine cq (λ_=>aj λh=>(by cases h)) λh=>aj ⟨rfl,?_⟩
    obtain⟨b0,b1⟩:=hpb (by omega);have h:z2=bm .i64 ((aI (T:=yJ) A ((i-1:Nat):Int)).2.1+1):=h;rw[iz (by omega) (by omega)]at h;refine ⟨?_,by omega,by omega⟩;rw[ax (by omega)];unfold U5;dsimp only;rw[aC ⟨hpr.symm,h⟩,hpr,h]
  .rintro x ⟨rfl,hx,hx2⟩;refine aj ?_;dsimp only;refine ⟨gH (by omega),rfl,?_,λ_=>hx2⟩;rw[ax (by omega)];exact hx
 .rintro⟨a,b⟩ ⟨e1,e2,e3,_⟩;dsimp only at e1 e2;subst e1;subst e2;refine bL (λg4=>(by dsimp only[ak]at g4;omega)) λ_=>?_
  rw[cP]at e3;exact aj λ_=>⟨hv,by unfold SV0;dsimp only;rw[e3];simp⟩
def ug (e:ET):Bool:=decide (e.2.1=3)||decide (e.2.1=23)
def fl (l:Y ET) (t:Int):θ:=(l.filter λe=>decide (e.1=t)).map ug
def LX (l:Y ET) (t y:Int):Prop:=0<=y/\(fl l t).getD y.toNat af=J
theorem vo (l m:Y ET) (t:Int):fl (l++m) t=fl l t++fl m t:=by unfold fl;rw[yI,cM]
theorem Af {e:ET} {t:Int} (h:e.1=t):fl [e] t=[ug e]:=by unfold fl;simp[h]
theorem xo {e:ET} {t:Int} (h:¬e.1=t):fl [e] t=[]:=by unfold fl;simp[h]
theorem LX.app {l:Y ET} {t y:Int} (h:LX l t y) (m:Y ET):LX (l++m) t y:=by
 obtain⟨h0,h1⟩:=h;refine ⟨h0,?_⟩;rw[vo];rw[av]at h1 ⊢;rcases ci y.toNat (fl l t).length with g|g
 .rw[bR g];exact h1
 .rw[bG g]at h1;cases h1
theorem LX.lt {l:Y ET} {t y:Int} (h:LX l t y):y<(fl l t).length:=by
 obtain⟨h0,h1⟩:=h;rcases ci y.toNat (fl l t).length with g|g
 .omega
 .rw[av,bG g]at h1;cases h1
theorem LX.last {l:Y ET} {e:ET} {y:Int} (h:ug e=J) (a:y=(fl l e.1).length):LX (l++[e]) e.1 y:=by
 subst a;refine ⟨by omega,?_⟩;rw[vo,Af rfl,av,cj (by simp),h];simp
theorem Yv (l:Y ET) (t:Int):(fl l t).length<=l.length:=by unfold fl;rw[bw];exact Cb ..
structure SCx (w:WT) (l:List ET) (sy:SY) (ce fu:η) (e:ET):Prop where
 en:EN w sy e.1 e.2.1 e.2.2.1
 rd:XE w sy e.1 e.2.1 e.2.2.1
 s1:e.2.1=1\/e.2.1=2->e.2.2.2.2.1= -1
 s2:¬(e.2.1=1\/e.2.1=2)->0<=e.2.2.2.2.1/\e.2.2.2.2.1<w.2.2.2.2.2.length/\(aI (T:=yJ) w.2.2.2.2.2 e.2.2.2.2.1).1=e.1
 de:0<e.2.2.2.2.2.1.length->e.2.1=5\/(e.2.1=3\/e.2.1=4)/\¬(aI (T:=O_) w.1 e.2.2.1).2.2.1=0
 fr:0<e.2.2.2.2.2.2.length->e.2.1=4\/e.2.1=22
 nd:AN (fl l e.1).length e.2.2.2.2.2.1
 nf:AN (fl l e.1).length e.2.2.2.2.2.2
 rd1:∀y∈e.2.2.2.2.2.1,LX l e.1 y
 rd2:∀y∈e.2.2.2.2.2.2,LX l e.1 y
 va:VA w sy ce fu e.1 e.2.1 e.2.2.1 e.2.2.2.1
def Y_:Nat->Y (Int×Int×Bool)
 |0=>[]
 |n+1=>(1,0,af)::aA n (0,0,af)
def Rc (w:WT):SY:=(aA w.2.1.length (-1,[]),-1,aA w.2.2.2.1.length af,Y_ w.2.2.2.2.1.length)
def ce0 (w:WT):η:=w.1.map λc=>c.2.2.2.2
def fu0 (w:WT):η:=aA w.2.2.2.1.length 0
inductive Acw (w:WT):List ET->SY->η->η->Prop
 |nil:Acw w [] (Rc w) (ce0 w) (fu0 w)
 |snoc {l:List ET} {sy:SY} {ce fu:η} {e:ET} (h:Acw w l sy ce fu) (hs:SCx w l sy ce fu e):Acw w (l++[e]) (rJ w sy e.1 e.2.1 e.2.2.1 e.2.2.2.1).1 (ceP ce e) (fuP fu e)
theorem ac7 (i:Nat):Y_ (i+2)=Y_ (i+1)++[(0,0,af)]:=by
 show (1,0,af)::aA (i+1) (0,0,af)=(1,0,af)::aA i (0,0,af)++[(0,0,af)]
 rw[pt,gE]
theorem Iy:∀n,(Y_ n).length=n
 |0=>rfl
 |n+1=>by simp[Y_]
theorem LO (w:WT) (h:VL w):rU w=M (Rc w):=by
 obtain⟨w1,z,w3,A,U,Z⟩:=w;obtain⟨h1,h2,h3,h4,_,h5,h6⟩:=h;dsimp only at*
 refine b_ ?_;unfold rU aY bi bu cF dG cY fH be bx bC aX cR aD cL;refine b7 z.length (λi x=>x.1=(i:Int)/\x.2.1=(w1,z,w3,A,U,Z)/\x.2.2.2=(-1,aA i (-1,[]))) ?_ ?_ ⟨rfl,rfl,rfl⟩
 .rintro i ⟨a,b,c,d,e⟩ hi ⟨e1,e2,e3⟩;simp only[aE]at e1 e2 e3;obtain⟨rfl,rfl⟩:=e3;subst e1;subst e2;with_reducible repeat' first|(refine OS.ok ?_;constructor)|refine IM.mk λ_=>?_
  all_goals try simp only[ak,rG] at*
  all_goals first|omega|(simp;omega)|skip
  exact⟨gH (by omega),by rw[pt]⟩
 rintro⟨a,b,c,d,e⟩ ⟨e1,e2,e3⟩;simp only[aE]at e1 e2 e3;obtain⟨rfl,rfl⟩:=e3;subst e1;subst e2;refine bL (λL=>(by dsimp only[ak]at L;omega)) λ_=>?_
 refine aw (P:=λs=>s=Rc (w1,z,w3,A,U,Z)) ?_ λy hy=>aj hy
 refine b7 A.length (λi x=>x.1=(i:Int)/\x.2.1=(w1,z,w3,A,U,Z)/\x.2.2.2=(-1,aA z.length (-1,[]),aA i af)) ?_ ?_ ⟨rfl,rfl,rfl⟩
 .rintro i ⟨a,b,c,d,e',f⟩ hi ⟨e1,e2,e3⟩;simp only[aE]at e1 e2 e3;obtain⟨rfl,rfl,rfl⟩:=e3;subst e1;subst e2;with_reducible repeat' first|(refine OS.ok ?_;constructor)|refine IM.mk λ_=>?_
  all_goals try simp only[ak,rG] at*
  all_goals first|omega|(simp;omega)|skip
  exact⟨gH (by omega),by rw[pt]⟩
 rintro⟨a,b,c,d,e',f⟩ ⟨e1,e2,e3⟩;simp only[aE]at e1 e2 e3;obtain⟨rfl,rfl,rfl⟩:=e3;subst e1;subst e2;refine bL (λL=>(by dsimp only[ak]at L;omega)) λ_=>?_
 refine aw (P:=λs=>s=Rc (w1,z,w3,A,U,Z)) ?_ λy hy=>aj hy
 refine b7 U.length (λi x=>x.1=(i:Int)/\x.2.1=(w1,z,w3,A,U,Z)/\x.2.2.2=(-1,aA z.length (-1,[]),aA A.length af,Y_ i)) ?_ ?_ ⟨rfl,rfl,rfl⟩
 .rintro i ⟨a,b,c,d,e'',f',g⟩ hi ⟨e1,e2,e3⟩;simp only[aE]at e1 e2 e3;obtain⟨rfl,rfl,rfl,rfl⟩:=e3;subst e1;subst e2;have hl:=Iy i;refine bL (λ_=>?_) λL=>(by dsimp only[ak]at L;omega)
  refine gL (aK (λh0=>aj ?_) λh0=>aj ?_)
  .have h0:((i:Nat):Int)=0:=h0;have h0:i=0:=by omega
   subst h0;exact bd (by simp[Y_]) (by omega) (aj ⟨rfl,rfl,rfl⟩)
  .have h0:¬((i:Nat):Int)=0:=h0;obtain⟨j,rfl⟩:∃j,i=j+1:=⟨i-1,by omega⟩
   refine bd (by dsimp only;rw[hl];simp;omega) (by omega) (aj ⟨gH (by omega),rfl,?_⟩);dsimp only;rw[ac7]
 rintro⟨a,b,c,d,e'',f',g⟩ ⟨e1,e2,e3⟩;simp only[aE]at e1 e2 e3;obtain⟨rfl,rfl,rfl,rfl⟩:=e3;subst e1;subst e2;refine bL (λL=>(by dsimp only[ak]at L;omega)) λ_=>aj rfl
theorem Vk {w:WT} (h:VL w):SB 0 (Rc w):=by
 obtain⟨h1,h2,A,z,_,s,a⟩:=h;refine ⟨by omega,by simp[Rc];omega,λl hl=>?_,by simp[Rc];omega,by simp[Rc,Iy];omega⟩;rw[qg hl];simp
theorem LN (w:WT) (h:VL w):nC w=M (Rc w,ce0 w,fu0 w,aA w.2.2.2.2.1.length 0):=by
 have hs:=LO w h;have hd:(Rc w)=Rc w:=rfl;obtain⟨s,Z,U,A,z,L⟩:=w;obtain⟨h1,h2,h3,h4,_,h5,h6⟩:=h;dsimp only at*
 refine b_ ?_;unfold nC aY bi bu bO cY bx bC bD aX cR aD cL;refine aR hs ?_;with_reducible repeat' first|(refine OS.ok ?_;constructor)|refine IM.mk λ_=>?_
 all_goals try simp only[ak,rG] at*
 all_goals first|omega|skip
 refine b7 s.length (λi x=>x.1=(i:Int)/\x.2.1=(s,Z,U,A,z,L)/\x.2.2.2=(Rc (s,Z,U,A,z,L),(s.take i).map (λc=>c.2.2.2.2),aA A.length 0,aA z.length 0)) ?_ ?_ ⟨rfl,rfl,rfl⟩
 .rintro i ⟨a,b,c,d,e,f,g⟩ hi ⟨e1,e2,e3⟩;simp only[aE]at e1 e2 e3;obtain⟨rfl,rfl,rfl,rfl⟩:=e3;subst e1;subst e2;with_reducible repeat' first|(refine OS.ok ?_;constructor)|refine IM.mk λ_=>?_
  all_goals try simp only[ak,rG] at*
  all_goals first|omega|(simp;omega)|skip
  exact⟨gH (by omega),by rw[nh (T:=O_) hi,cM];rfl⟩
 rintro⟨a,b,c,d,e,f,g⟩ ⟨e1,e2,e3⟩;simp only[aE]at e1 e2 e3;obtain⟨rfl,rfl,rfl,rfl⟩:=e3;subst e1;subst e2;refine bL (λg4=>(by dsimp only[ak]at g4;omega)) λ_=>aj ?_
 rw[cP];rfl
theorem XA (w:WT) (h:VL w):Ok (nC w) λs=>NB 0 s/\s.2.1.length=w.1.length/\s.2.2.1.length=w.2.2.2.1.length/\s.2.2.2.length=w.2.2.2.2.1.length:=
 ak1 (LN w h) ⟨⟨Vk h,by have:=h.c;simp[ce0];omega,by have:=h.f;simp[fu0];omega,by have:=h.t;simp;omega⟩,by simp[ce0],by simp[fu0],by simp⟩
theorem RE (l:Y ET) (i t:Int) (s:η) (hl:l.length<=1000000000) (hi:0<=i/\i<=l.length) (hn:s.length<=1000000000):Ok (rS (l,i,t,s)) λb=>b=J->∀y∈s,LX (l.take i.toNat) t y:=by
 unfold rS aY bO be bx jw bD aX cR aD cL;refine b7 s.length (λk x=>x=(k:Int)/\∀j:Nat,j<k->LX (l.take i.toNat) t (aI (T:=.int .i64) s (j:Int))) ?_ ?_ ⟨rfl,λj hj=>(by omega)⟩
 .rintro k x hk ⟨rfl,U⟩;refine bL (λA=>?_) λA=>(by dsimp only[ak]at A;omega)
  refine qM (λx=>(i-x.2.2).toNat) (λx=>0<=x.2.2/\x.2.2<=i/\x.1=((fl (l.take x.2.2.toNat) t).length:Int)/\(x.2.1=J->LX (l.take x.2.2.toNat) t (aI (T:=.int .i64) s (k:Int)))) ?_ ⟨by simp,hi.1,by simp[fl],λh=>(by cases h)⟩;rintro⟨a,b,(c:Int)⟩ ⟨L,c1,Z,hb⟩;dsimp only at L c1 Z hb;subst Z;obtain⟨c,rfl⟩:∃n:Nat,c=(n:Int):=⟨c.toNat,by omega⟩
  rw[bY]at hb;dsimp only;rw[bY];have hfl:=Yv (l.take c) t;have htl:=qK c l;refine bL (λz=>?_) λz=>?_
  .have z:(c:Int)<i:=z;have htk:l.take (c+1)=l.take c++[aI (T:=tE) l (c:Int)]:=nh (T:=tE) (by omega);refine aV (λy=>y.1=((fl (l.take (c+1)) t).length:Int)/\(y.2=J->LX (l.take (c+1)) t (aI (T:=.int .i64) s (k:Int)))) ?_ ?_
   .rw[htk,vo];refine aP L (by first|omega|(dsimp only;omega)) (aT ?_);refine cq (λhne=>aj ⟨by rw[xo hne];simp,λh=>(hb h).app _⟩) λhe=>?_
    have he:(aI (T:=tE) l (c:Int)).1=t:=he;refine aV (λy=>y=J->LX (l.take c++[aI (T:=tE) l (c:Int)]) t (aI (T:=.int .i64) s (k:Int))) ?_ λy hy=>aj ⟨?_,hy⟩
    .refine aO (λh=>aj λ_=>(hb h).app _) λ_=>?_
     refine aP (by omega) (by first|omega|(dsimp only;omega)) (aT ?_);refine aK (λhn=>?_) λ_=>aj λh=>(by cases h)
     have hq:ug (aI (T:=tE) l (c:Int))=J->LX (l.take c++[aI (T:=tE) l (c:Int)]) t (aI (T:=.int .i64) s (k:Int)):=λh=>by
      rw[<- he]at hn ⊢;exact LX.last h hn.symm
     refine aP L (by first|omega|(dsimp only;omega)) (aT ?_);refine aK (λh=>aj λ_=>hq (by unfold ug;rw[aS h];rfl)) λ_=>?_
     exact aP L (by first|omega|(dsimp only;omega)) (aT (aj λh=>hq (by unfold ug;rw[h];simp)))
    .dsimp only;rw[Af he,gH (by omega)];simp
   .rintro⟨p,q⟩ ⟨hp,hq⟩;refine aj ?_;dsimp only at hp hq ⊢;rw[gH (by omega),bY];exact⟨⟨by omega,by omega,hp,hq⟩,by omega⟩
  .refine aw (P:=λr=>match r with|.inl y=>y=((k+1:Nat):Int)/\∀j:Nat,j<k+1->LX (l.take i.toNat) t (aI (T:=.int .i64) s (j:Int))|.inr r=>r=J->∀y∈s,LX (l.take i.toNat) t y) ?_ λr hr=>aj ?_
   .refine dS (λ_=>aj λh=>(by cases h)) λh=>aj ⟨gH (by omega),λj hj=>?_⟩
    rcases ci j k with h1|h1
    .exact U j h1
    .have:=hb h;have hci:c=i.toNat:=by have z:i<=(c:Int):=z;omega
     rw[show j=k by omega,<-hci];exact this
   .cases r with
    |inl y=>exact hr
    |inr r=>exact hr
 .rintro x ⟨rfl,U⟩;refine bL (λA=>(by dsimp only[ak]at A;omega)) λ_=>aj λ_=>iG (T:=.int .i64) U
def CN (l:Y ET) (c:η):Prop:=∀t:Int,0<=t->t<c.length->aI (T:=.int .i64) c t=((fl l t).length:Int)
theorem sk {T:Ty} (xs:Y T.den) (j k:Int) (x:T.den) (hj:0<=j) (a:j<xs.length) (hk:0<=k):aI (cK xs j x) k=if k=j then x else aI xs k:=by
 unfold aI cK;rw[av,av,ka];by_cases h:k=j
 .subst h;rw[aC rfl,aC rfl,aC (by omega)];rfl
 .rw[ax (by omega),ax h]
theorem CN.next {l:Y ET} {c:η} (h:CN l c) (e:ET) (h0:0<=e.1) (h1:e.1<c.length) (hl:l.length<1000000):CN (l++[e]) (cK c e.1 (bm .i64 (aI (T:=.int .i64) c e.1+1))):=λt t0 t1=>by
 rw[bW]at t1;have:=Yv l e.1;rw[sk (T:=.int .i64) _ _ _ _ h0 h1 t0,vo];split
 .rename_i h2;subst h2;rw[Af rfl,h _ h0 h1,gH (by omega)];simp
 .rename_i h2;rw[xo λa=>h2 a.symm,h _ t0 t1];simp
structure EvF (w:WT) (e:ET):Prop where
 nm:NM w e.2.1 e.2.2.1
 t0:0<=e.1
 t1:e.1<w.2.2.2.2.1.length
 cd:∀c∈w.2.2.1,0<=c.2/\c.2<w.2.1.length
theorem ag1 (w:WT) (l:Y ET) (hd:∀e∈l,e.2.2.2.2.2.1.length<=1000000000/\e.2.2.2.2.2.2.length<=1000000000):Ok (uP (w,l)) λy=>y.2=0->(VL w/\SV0 w)/\(∀e∈l,EvF w e)/\∃sy ce fu,Acw w l sy ce fu:=by
 unfold uP cF bO fH bx bD aX cR aD cL;refine bL (λ_=>aj λh=>(by cases h)) λhl=>?_
 dsimp only[ak]at hl;refine aw (B7 w) λb hb=>?_
 refine dS (λ_=>aj λh=>(by cases h)) λh=>?_
 obtain⟨hv,hsv⟩:=hb h;refine aR (LN w hv) ?_;have hs:NB 0 (Rc w,ce0 w,fu0 w,aA w.2.2.2.2.1.length 0):=⟨Vk hv,by have:=hv.c;simp[ce0];omega,by have:=hv.f;simp[fu0];omega,by have:=hv.t;simp;omega⟩
 have hw:w.2.2.1.length<=1000:=by have:=hv.d;omega
 refine b7 l.length (λi x=>x.1=(i:Int)/\x.2.1=(w,l)/\NB i x.2.2/\(∀k:Nat,k<i->EvF w (aI (T:=tE) l (k:Int)))/\Acw w (l.take i) x.2.2.1 x.2.2.2.1 x.2.2.2.2.1/\CN (l.take i) x.2.2.2.2.2/\x.2.2.2.2.2.length=w.2.2.2.2.1.length) ?_ ?_ ⟨rfl,rfl,hs,λk hk=>(by omega),.nil,λt t0 t1=>?_,by simp⟩
 .rintro i ⟨a,b,s⟩ hi ⟨e1,e2,e3,e4,Z,e6,e7⟩;dsimp only at e1 e2 e3 e4 Z e6 e7;subst e1;subst e2;refine bL (λA=>?_) λA=>(by dsimp only[ak]at A;omega)
  refine cg (aT ?_);have hmem:=bN (T:=tE) (xs:=l) (j:=(i:Int)) (by omega) (by omega);obtain⟨d1,d2⟩:=hd _ hmem;refine aw (Ge w s e3 hw _ d1 d2) λy hy=>?_
  refine aV (λx=>x.2.1=(w,l)/\x.2.2.2=y.1/\(x.1=af->y.2=J/\(∀z∈(aI (T:=tE) l (i:Int)).2.2.2.2.2.1,LX (l.take i) (aI (T:=tE) l (i:Int)).1 z)/\∀z∈(aI (T:=tE) l (i:Int)).2.2.2.2.2.2,LX (l.take i) (aI (T:=tE) l (i:Int)).1 z)) ?_ ?_
  .refine dS (λ_=>aj ⟨rfl,rfl,λh=>(by cases h)⟩) λh=>?_
   refine aw (RE l _ _ _ (by omega) ⟨by dsimp only;omega,by dsimp only;omega⟩ d1) λb1 hr1=>?_
   refine dS (λ_=>aj ⟨rfl,rfl,λh=>(by cases h)⟩) λhb1=>?_
   refine aw (RE l _ _ _ (by omega) ⟨by dsimp only;omega,by dsimp only;omega⟩ d2) λb2 hr2=>aj ⟨rfl,rfl,λhb2=>⟨h,hr1 hb1,hr2 (by simpa using hb2)⟩⟩
  .rintro⟨c,p,q,r⟩ ⟨f1,f2,f3⟩;dsimp only at f1 f2 f3;subst f1;subst f2;refine aO (λ_=>aj λh=>(by cases h)) λh=>?_
   obtain⟨f4,r1,r2⟩:=f3 h;obtain⟨L,g2,U,A⟩:=hy.1 f4;refine aj ?_;dsimp only;have htk:l.take (i+1)=l.take i++[aI (T:=tE) l (i:Int)]:=nh (T:=tE) hi;have hc:=e6 _ L.t0 (by rw[e7];exact L.t1);have hnx:=gZ Prod.fst A;have hac:=Z.snoc (e:=aI (T:=tE) l (i:Int)) ⟨L,U.rd,U.s1,U.s2,U.de,U.fr,by rw[<- hc];exact U.nd,by rw[<- hc];exact U.nf,r1,r2,U.va⟩;refine ⟨gH (by omega),rfl,g2.NB e3 (by omega),λk hk=>?_,by rw[htk,A];exact hac,by rw[htk,A];exact e6.next _ L.t0 (by rw[e7];exact L.t1) (by rw[bM];omega),by rw[A];unfold nxP;rw[bW];exact e7⟩;rcases ci k i with h1|h1
   .exact e4 k h1
   .rw[show k=i by omega];exact⟨L.nm,L.t0,L.t1,L.cd⟩
 .rintro⟨a,b,s⟩ ⟨e1,e2,e3,e4,Z,_⟩;dsimp only at e1 e2 e3 e4 Z;subst e1;subst e2;rw[cP]at Z;refine bL (λA=>(by dsimp only[ak]at A;omega)) λ_=>aj λ_=>⟨⟨hv,hsv⟩,iG (T:=tE) e4,_,_,_,Z⟩
 .rw[bU]at t1;obtain⟨t,rfl⟩:∃n:Nat,t=(n:Int):=⟨t.toNat,by omega⟩
  rw[P',av,jC];split<;>simp[fl]
structure TP (t:η×Int):Prop where
 l0:t.1.length<=9223372036854775807
 by_:∀x∈t.1,0<=x/\x<=255
 a0:0<=t.2
 a1:t.2<=t.1.length
structure vI (t t':η×Int):Prop where
 e:t'.1=t.1
 m:t.2<=t'.2
 p:TP t'
theorem vI.refl {t:η×Int} (h:TP t):vI t t:=⟨rfl,dk _,h⟩
theorem vI.trans {a b c:η×Int} (h:vI a b) (g:vI b c):vI a c:=⟨g.e.trans h.e,Int.le_trans h.m g.m,g.p⟩
theorem gD (n:Int) (t:η×Int) (h:TP t):Ok (bA (n,t)) λy=>vI t y.2/\0<=y.1/\(1<=n->y.1<n)/\(t.2<t.1.length->1<=n->t.2<y.2.2):=by
 obtain⟨L,a⟩:=t;have Z:=h;obtain⟨l0,hb,a0,a1⟩:=h;dsimp only at l0 hb a0 a1;unfold bA iR bC bD aX aD cL;refine aV (λx=>x.2=(L,a)/\(x.1=J->a=L.length\/n<1)/\(x.1=af->a<L.length/\1<=n)) ?_ ?_
 .refine eO (λh=>aj ⟨rfl,λ_=>?_,λh=>(by cases h)⟩) λh=>aj ⟨rfl,λh2=>?_,λh2=>?_⟩
  .dsimp only[ak]at h;omega
  .rw[sO]at h2;exact .inr h2
  .rw[gy]at h2;dsimp only[ak]at h h2;omega
 rintro⟨b,x⟩ ⟨e,h1,h2⟩;dsimp only at e h1 h2;subst e;refine aO (λh=>aj ⟨vI.refl Z,dk _,λU=>(by dsimp only;omega),λU h4=>?_⟩) λh=>?_
 .have:=h1 h;dsimp only at U;omega
 obtain⟨A,q2⟩:=h2 h;refine aT ?_;have e1:bm .i64 (a+1)=a+1:=iz (by omega) (by omega);dsimp only;rw[e1,iz (n:=a+1-1) (by omega) (by omega),show a+1-1=a by omega];have s:=hb _ (bN (T:=.int .u8) (xs:=L) (j:=a) a0 A);refine aP a0 A (aT ?_);generalize (aI _ a)=z at s;have s:0<=z/\z<=255:=s;rw[iz (n:=z) (by omega) (by omega)];refine zM (by omega) (aj ?_);dsimp only;refine ⟨⟨rfl,by dsimp only;omega,⟨l0,hb,by dsimp only;omega,by dsimp only;omega⟩⟩,Int.tmod_nonneg _ s.1,λ_=>?_,λ_ _=>by omega⟩;exact Int.tmod_lt_of_pos _ (by omega)
theorem U_ (s:SY) (hs:s.2.2.2.length<=1000) (y:η×η×η):Ok (ly (s,y)) λl=>l.length<=s.2.2.2.length:=by
 unfold ly bO be bx bC bD aX cR aD cL;refine b7 s.2.2.2.length (λi x=>x.1=(i:Int)/\x.2.length<=i) ?_ ?_ ⟨rfl,by simp⟩
 .rintro i ⟨a,b⟩ hi ⟨e1,e2⟩;dsimp only at e1 e2;subst e1;with_reducible repeat' first|(refine OS.ok ?_;constructor)|refine IM.mk λ_=>?_
  all_goals try simp only[ak,rG] at*
  all_goals first|omega|(simp;omega)|skip
  .exact⟨gH (by omega),by simp;omega⟩
  .exact⟨gH (by omega),by omega⟩
 .rintro⟨a,b⟩ ⟨e1,e2⟩;dsimp only at e1 e2;subst e1;refine bL (λz=>(by dsimp only[ak]at z;omega)) λ_=>aj e2
theorem Zl (k u:Int) (t:η×Int) (h:TP t):Ok (o8 ((k,u),t)) λy=>vI t y.2/\(k=3\/k=4->0<=y.1/\y.1<5):=by
 unfold o8 be kO aD cL;rcases @JJ k with rfl|rfl|rfl|rfl|rfl|rfl|rfl|rfl|rfl|rfl|rfl|rfl|rfl|rfl|rfl|rfl|rfl|rfl|rfl|rfl|rfl|rfl|rfl|⟨hk,s⟩
 case inr.inr.inr.inr.inr.inr.inr.inr.inr.inr.inr.inr.inr.inr.inr.inr.inr.inr.inr.inr.inr.inr.inr=>
  simp only[hk 1 (by decide) (by decide),hk 2 (by decide) (by decide),hk 3 (by decide) (by decide),hk 4 (by decide) (by decide),hk 5 (by decide) (by decide),hk 6 (by decide) (by decide),hk 7 (by decide) (by decide),hk 8 (by decide) (by decide),hk 9 (by decide) (by decide),hk 10 (by decide) (by decide),hk 11 (by decide) (by decide),hk 12 (by decide) (by decide),hk 13 (by decide) (by decide),hk 14 (by decide) (by decide),hk 15 (by decide) (by decide),hk 16 (by decide) (by decide),hk 17 (by decide) (by decide),hk 18 (by decide) (by decide),hk 19 (by decide) (by decide),hk 20 (by decide) (by decide),hk 21 (by decide) (by decide),hk 22 (by decide) (by decide),hk 23 (by decide) (by decide),aU,bp,tW];exact aj ⟨vI.refl h,λh=>(by first|omega|(simp at h;done)|(rcases h with h|h<;>cases h;done))⟩
 all_goals simp only[aU,bp,tW]
 all_goals first
  |exact aj ⟨vI.refl h,λh=>(by first|omega|(simp at h;done)|(rcases h with h|h<;>cases h;done))⟩
  |exact aw (gD 2 t h) λy a=>aj ⟨a.1,λh=>(by first|omega|(simp at h;done)|(rcases h with h|h<;>cases h;done))⟩
  |exact aw (gD 3 t h) λy a=>aj ⟨a.1,λh=>(by first|omega|(simp at h;done)|(rcases h with h|h<;>cases h;done))⟩
  |skip
 all_goals
  refine aw (gD 8 t h) λy a=>?_
  have h1:=a.2.1;have h2:=a.2.2.1 (by omega);refine aP h1 (by simp;omega) (aP h1 (by simp;omega) (aT (aj ⟨a.1,λ_=>?_⟩)));have:∀z:Int,z∈([0,0,0,1,1,2,3,4]:η)->0<=z/\z<5:=by decide
  exact this _ (bN (T:=.int .i64) h1 (by simp;omega))
structure SZ (n:Nat) (s:SN):Prop where
 nb:NB n s
 c:s.2.1.length=5
 f:s.2.2.1.length=1
 k:s.2.2.2.length=4
theorem SZ.step {n:Nat} {s y:SN} (h:SZ n s) (hp:SP n s y) (hn:n+1<=100000):SZ (n+1) y:=
 ⟨hp.NB h.nb hn,by rw[hp.c];exact h.c,by rw[hp.f];exact h.f,by rw[hp.k];exact h.k⟩
theorem Y' {n:Nat} (s:SN) (hs:SZ n s) (k o:Int) (A:k=3->0<=o/\o<5) (t:η×Int) (h:TP t):Ok (qQ ((s,k,o),t)) λy=>vI t y.2:=by
 obtain⟨s1,s2,U,L⟩:=s;have hc:=hs.c;have hf:=hs.f;have hth:=hs.nb.sb.th;dsimp only at hc hf hth;have z:=U_ s1 hth (s2,U,L);unfold qQ aY be bx bD aX aD;rcases @JJ k with rfl|rfl|rfl|rfl|rfl|rfl|rfl|rfl|rfl|rfl|rfl|rfl|rfl|rfl|rfl|rfl|rfl|rfl|rfl|rfl|rfl|rfl|rfl|⟨hk,Z⟩
 case inr.inr.inr.inr.inr.inr.inr.inr.inr.inr.inr.inr.inr.inr.inr.inr.inr.inr.inr.inr.inr.inr.inr=>
  simp only[hk 1 (by decide) (by decide),hk 2 (by decide) (by decide),hk 3 (by decide) (by decide),hk 4 (by decide) (by decide),hk 5 (by decide) (by decide),hk 6 (by decide) (by decide),hk 7 (by decide) (by decide),hk 8 (by decide) (by decide),hk 9 (by decide) (by decide),hk 10 (by decide) (by decide),hk 11 (by decide) (by decide),hk 12 (by decide) (by decide),hk 13 (by decide) (by decide),hk 14 (by decide) (by decide),hk 15 (by decide) (by decide),hk 16 (by decide) (by decide),hk 17 (by decide) (by decide),hk 18 (by decide) (by decide),hk 19 (by decide) (by decide),hk 20 (by decide) (by decide),hk 21 (by decide) (by decide),hk 22 (by decide) (by decide),hk 23 (by decide) (by decide),aU,bp,tW];exact aj (vI.refl h)
 all_goals simp only[aU,bp,tW]
 all_goals first
  |exact aj (vI.refl h)
  |exact aw (gD 2 t h) λy a=>aj a.1
  |exact aw (gD 3 t h) λy a=>aj a.1
  |exact aw z λy a=>aj (vI.refl h)
  |exact aP (by decide) (by omega) (aT (aj (vI.refl h)))
  |exact aP (A rfl).1 (by have:=(A rfl).2;omega) (aT (aj (vI.refl h)))
  |skip
 refine aw z λl hl=>?_
 refine bL (λh1=>?_) λ_=>aj (vI.refl h)
 refine aw (gD _ t h) λy a=>?_
 dsimp only[ak]at h1;have h2:=a.2.2.1 (by dsimp only[ak];omega);exact aP a.2.1 h2 (aT (aj a.1))
theorem ags (t:η×Int) (h:TP t) (r:η) (hr:r.length<=1000000):Ok (gM (t,r)) λy=>y.1.length<=r.length/\vI t y.2.1/\y.2.2=r:=by
 unfold gM aY bO bx iR bC kO aX cR aD cL;refine b7 r.length (λi x=>x.1=(i:Int)/\vI t x.2.1/\x.2.2.1=r/\x.2.2.2.length<=i) ?_ ?_ ⟨rfl,vI.refl h,rfl,by simp⟩
 .rintro i ⟨a,b,c,d⟩ hi ⟨e1,e2,e3,L⟩;dsimp only at e1 e2 e3 L;subst e1;subst e3;refine bL (λA=>?_) λA=>(by dsimp only[ak]at A;omega)
  refine aV (λx=>vI t x.1/\x.2.1=c/\x.2.2.length<=i+1) ?_ ?_
  .refine cg (cg (aT ?_));refine aV (λx=>vI t x.2.1/\x.2.2=(c,d)) ?_ ?_
   .refine aO (λ_=>?_) λ_=>aj ⟨e2,rfl⟩
    exact aw (gD 2 b e2.p) λy Z=>aj ⟨e2.trans Z.1,rfl⟩
   .rintro⟨p,q,u⟩ ⟨s,z⟩;dsimp only at s z;subst z;refine aO (λ_=>?_) λ_=>aj ⟨s,rfl,by dsimp only;omega⟩
    exact bd (by simp;omega) (by omega) (aj ⟨s,rfl,by simp;omega⟩)
  .rintro⟨p,q,u⟩ ⟨s,z,U⟩;dsimp only at s z U;subst z;refine aj ?_;dsimp only;exact⟨gH (by omega),s,rfl,U⟩
 .rintro⟨a,b,c,d⟩ ⟨e1,e2,e3,L⟩;dsimp only at e1 e2 e3 L;subst e1;subst e3;refine bL (λA=>(by dsimp only[ak]at A;omega)) λ_=>aj ⟨L,e2,rfl⟩
theorem adb:ui ()=M [3,3,3,3,3,4,4,4,4,4,5,5,5,6,6,6,7,7,7,8,9,10,11,12,13,14,14,15,16,16,17,17,18,18,19,20,1,1,2,21,22,23,23]:=rfl
abbrev RR:Type:=η×η×η×η
structure RB4 (m:Nat) (r:RR):Prop where
 r0:r.1.length<=m
 r1:r.2.1.length<=m
 r2:r.2.2.1.length<=m
 r3:r.2.2.2.length<=m
theorem ae6 {n:Nat} (s:SN) (hs:SZ n s) (w:WT) (hw:w.1.length=5) (t:η×Int) (h:TP t) (r:RR) (hr:RB4 1000000 r):Ok (qR ((s,w),t,r)) λy=>vI t y.2.1/\y.2.2=r/\(t.2<t.1.length->t.2<y.2.1.2)/\y.1.2.2.2.2.2.1.length<=1000000/\y.1.2.2.2.2.2.2.length<=1000000:=by
 obtain⟨r0,r1,r2,r3⟩:=r;obtain⟨h0,h1,h2,h3⟩:=hr;dsimp only at h0 h1 h2 h3;unfold qR EW Prod.p11 Prod.p12 aY bi bu cF dZ kY AG C7 Prod.q11 Prod.q12 cY fH be bC bD aX aD;refine aw (gD 4 t h) λy hy=>?_
 refine aR adb ?_;refine aw (gD _ y.2 hy.1.p) λz hz=>?_
 obtain⟨y1,yt⟩:=y;obtain⟨z1,zt⟩:=z;obtain⟨ty,yy0,yy1,yy2⟩:=hy;obtain⟨tz,zz0,zz1,_⟩:=hz;dsimp only at ty yy0 yy1 yy2 tz zz0 zz1;have yy1:=yy1 (by decide);have hzl:=zz1 (by decide);refine aP zz0 hzl (aT ?_);generalize (aI _ z1)=k;refine aw (gD 6 zt tz.p) λv hv=>?_
 obtain⟨v1,vt⟩:=v;have tv:=hv.1;dsimp only at tv;have tt:=(ty.trans tz).trans tv;have hadv:t.2<t.1.length->t.2<vt.2:=λh=>by
  have:=yy2 h (by decide);have:=tz.m;have:=tv.m;omega
 refine aV (λx=>x.1=vt/\x.2.1=r0/\x.2.2.1=r1/\x.2.2.2.1=r2/\x.2.2.2.2.1=r3/\x.2.2.2.2.2.1=s/\x.2.2.2.2.2.2.1=w) ?_ ?_
 .refine aV (λx=>x.2.1=vt/\x.2.2.1=r0/\x.2.2.2.1=r1/\x.2.2.2.2.1=r2/\x.2.2.2.2.2.1=r3/\x.2.2.2.2.2.2.1=s/\x.2.2.2.2.2.2.2.1=w) ?_ ?_
  .with_reducible repeat' first|(refine OS.ok ?_;constructor)|refine IM.mk λ_=>?_
   all_goals exact⟨rfl,rfl,rfl,rfl,rfl,rfl,rfl⟩
  .rintro⟨p,q⟩ hq;dsimp only at hq;with_reducible repeat' first|(refine OS.ok ?_;constructor)|refine IM.mk λ_=>?_
   all_goals exact hq
 rintro⟨x1,x2,x3,x4,x5,x6,x7,x8,x9,x10⟩ ⟨L,f2,f3,f4,f5,f6,Z⟩;dsimp only at L f2 f3 f4 f5 f6 Z;subst L;subst f2;subst f3;subst f4;subst f5;subst f6;subst Z;refine aw (Zl _ _ _ tv.p) λo ho=>?_
 obtain⟨o1,ot⟩:=o;obtain⟨to,ho⟩:=ho;dsimp only at to ho;refine aw (Y' _ hs _ _ (λhk=>ho (.inl hk)) _ to.p) λq hq=>?_
 obtain⟨q1,qt⟩:=q;dsimp only at hq;have U:=(tt.trans to).trans hq;have hadv2:t.2<t.1.length->t.2<qt.2:=λh=>by have:=hadv h;have:=to.m;have:=hq.m;omega
 have row:∀(T:η×Int) (c:η) {R:Type} (k:η×((η×Int)×η)->I R) (Q:R->Prop),vI t T->c.length<=1000000->(∀v T',vI T T'->v.length<=1000000->Ok (k (v,T',c)) Q)->Ok (au (gM (T,c)) k) Q:=λT c R k Q A hc hk=>by
  refine aw (ags T A.p c hc) λy hy=>?_
  obtain⟨a,b,d⟩:=y;obtain⟨g1,g2,g3⟩:=hy;dsimp only at g1 g2 g3;subst g3;exact hk a b g2 (by omega)
 refine aV (λx=>vI t x.1/\(t.2<t.1.length->t.2<x.1.2)/\x.2.1=x2/\x.2.2.1=x3/\x.2.2.2.1=x4/\x.2.2.2.2.1=x5/\x.2.2.2.2.2.2.2.2.2.2.2.length<=1000000) ?_ ?_
 .refine aV (λx=>x.2.1=qt/\x.2.2.1=x2/\x.2.2.2.1=x3/\x.2.2.2.2.1=x4/\x.2.2.2.2.2.1=x5) ?_ ?_
  .refine aK (λ_=>aj ⟨rfl,rfl,rfl,rfl,rfl⟩) λ_=>?_
   refine aK (λhk=>?_) λ_=>aK (λhk=>?_) λ_=>aj ⟨rfl,rfl,rfl,rfl,rfl⟩
   .exact aP (ho (.inl hk)).1 (by dsimp only;rw[hw];exact (ho (.inl hk)).2) (aT (aj ⟨rfl,rfl,rfl,rfl,rfl⟩))
   .exact aP (ho (.inr hk)).1 (by dsimp only;rw[hw];exact (ho (.inr hk)).2) (aT (aj ⟨rfl,rfl,rfl,rfl,rfl⟩))
  .rintro⟨b,p1,p2,p3,p4,p5,p6⟩ ⟨L,f2,f3,f4,f5⟩;dsimp only at L f2 f3 f4 f5;subst L;subst f2;subst f3;subst f4;subst f5;refine aO (λ_=>?_) λ_=>aj ⟨U,hadv2,rfl,rfl,rfl,rfl,by simp⟩
   have adv3:∀T',vI p1 T'->t.2<t.1.length->t.2<T'.2:=λT' A h=>by have:=hadv2 h;have:=A.m;omega
   refine aK (λ_=>?_) λ_=>aK (λ_=>?_) λ_=>aK (λ_=>?_) λ_=>aK (λ_=>?_) λ_=>?_
   .refine row p1 p2 _ _ U h0 λv T' A hv=>?_
    refine db (mc rfl (By ?_));exact aj ⟨U.trans A,adv3 T' A,rfl,rfl,rfl,rfl,hv⟩
   .refine row p1 p3 _ _ U h1 λv T' A hv=>?_
    refine db (mc rfl (By ?_));exact aj ⟨U.trans A,adv3 T' A,rfl,rfl,rfl,rfl,hv⟩
   .refine row p1 p4 _ _ U h2 λv T' A hv=>?_
    refine db (mc rfl (By ?_));exact aj ⟨U.trans A,adv3 T' A,rfl,rfl,rfl,rfl,hv⟩
   .refine row p1 p5 _ _ U h3 λv T' A hv=>?_
    refine db (mc rfl (By ?_));exact aj ⟨U.trans A,adv3 T' A,rfl,rfl,rfl,rfl,hv⟩
   .omega
 rintro⟨u1,u2,u3,u4,u5,u6,u7,u8,u9,u10,u11,u12⟩ ⟨L,f2,f3,f4,f5,f6,Z⟩;dsimp only at L f2 f3 f4 f5 f6 Z;subst f3;subst f4;subst f5;subst f6;refine aV (λx=>vI t x.1/\(t.2<t.1.length->t.2<x.1.2)/\x.2.1=u2/\x.2.2.1=u3/\x.2.2.2.1=u4/\x.2.2.2.2.1=u5/\x.2.2.2.2.2.2.2.2.2.2.2.1.length<=1000000/\x.2.2.2.2.2.2.2.2.2.2.2.2.length<=1000000) ?_ ?_
 .refine aV (λx=>x.2=(u1,u2,u3,u4,u5,u6,u7,u8,u9,u10,u11,u12)) ?_ ?_
  .with_reducible repeat' first|(refine OS.ok ?_;constructor)|refine IM.mk λ_=>?_
   all_goals rfl
  .rintro⟨b,x⟩ e;dsimp only at e;subst e;refine aO (λ_=>?_) λ_=>aj ⟨L,f2,rfl,rfl,rfl,rfl,Z,by simp⟩
   have adv3:∀T',vI u1 T'->t.2<t.1.length->t.2<T'.2:=λT' A h=>by have:=f2 h;have:=A.m;omega
   refine aK (λ_=>?_) λ_=>aK (λ_=>?_) λ_=>aK (λ_=>?_) λ_=>aK (λ_=>?_) λ_=>?_
   .refine row u1 u2 _ _ L h0 λv T' A hv=>?_
    refine db (mc rfl (By ?_));exact aj ⟨L.trans A,adv3 T' A,rfl,rfl,rfl,rfl,Z,hv⟩
   .refine row u1 u3 _ _ L h1 λv T' A hv=>?_
    refine db (mc rfl (By ?_));exact aj ⟨L.trans A,adv3 T' A,rfl,rfl,rfl,rfl,Z,hv⟩
   .refine row u1 u4 _ _ L h2 λv T' A hv=>?_
    refine db (mc rfl (By ?_));exact aj ⟨L.trans A,adv3 T' A,rfl,rfl,rfl,rfl,Z,hv⟩
   .refine row u1 u5 _ _ L h3 λv T' A hv=>?_
    refine db (mc rfl (By ?_));exact aj ⟨L.trans A,adv3 T' A,rfl,rfl,rfl,rfl,Z,hv⟩
   .omega
 rintro⟨a1,a2,a3,a4,a5,a6,a7⟩ ⟨g1,g2,g3,g4,g5,g6,g7,g8⟩;dsimp only at g1 g2 g3 g4 g5 g6 g7 g8;subst g3;subst g4;subst g5;subst g6;exact aj ⟨g1,rfl,g2,g7,g8⟩
def EvS (e:ET):Prop:=e.2.2.2.2.2.1.length<=1000000/\e.2.2.2.2.2.2.length<=1000000
theorem ah0 {m:Nat} (hm:m<=1000) (s:SN) (hs:SZ m s) (w:WT) (hw:w.1.length=5) (hwt:w.2.2.2.2.1.length=4) (hwc:w.2.2.1.length<=1000) (n:Int) (hn:n<=60) (t:η×Int) (h:TP t):Ok (sX ((s,w,n,af),t)) λy=>(∀e∈y.1,EvS e)/\y.1.length<=60:=by
 unfold sX aY bi bu cF dZ kY AG C7 Prod.q10 bO cY fH ky qJ Prod.q9 be bx bC bD aX cR aD;refine db (db (db (dI (by dsimp only[ak];omega) (dI (dk _) (bd (by dsimp only[ak];omega) (by omega) (Yg (by dsimp only[ak];omega) ?_))))));refine aV (λx=>x=(t,s,w,[],[],[],[])) ⟨_,rfl,rfl⟩ ?_;rintro x rfl;refine qM (λx=>((t.1.length:Int)-x.1.2).toNat) (λx=>vI t x.1/\x.2.2.1=w/\SZ (m+x.2.2.2.1.length) x.2.1/\x.2.2.2.1.length<=60/\(∀e∈x.2.2.2.1,EvS e)/\RB4 x.2.2.2.1.length x.2.2.2.2) ?_ ⟨vI.refl h,rfl,(by simpa using hs),by simp,λe he=>(by cases he),⟨by simp,by simp,by simp,by simp⟩⟩;rintro⟨a,s,w',out,r⟩ ⟨i1,i2,U,i4,i5,i6⟩;dsimp only at i1 i2 U i4 i5 i6;subst i2;refine aV (λx=>x.2=(a,s,w',out,r)/\(x.1=J->out.length<60/\a.2<a.1.length)) ?_ ?_
 .refine bL (λh1=>aj ⟨rfl,λh2=>?_⟩) λ_=>aj ⟨rfl,λh=>(by cases h)⟩
  rw[sO]at h2;dsimp only[ak]at h1 h2;exact⟨by omega,h2⟩
 rintro⟨b,x⟩ ⟨e,hb⟩;dsimp only at e hb;subst e;refine aO (λh1=>?_) λ_=>aj ⟨i5,i4⟩
 obtain⟨ho,ht⟩:=hb h1;obtain⟨q0,q1,q2,q3⟩:=id i6;refine aV (λx=>vI a x.1/\a.2<x.1.2/\x.2.2.1=w'/\SZ (m+x.2.2.2.1.length) x.2.1/\x.2.2.2.1.length<=60/\(∀e∈x.2.2.2.1,EvS e)/\RB4 x.2.2.2.1.length x.2.2.2.2) ?_ ?_
 .refine aw (ae6 s U w' hw a i1.p r ⟨by omega,by omega,by omega,by omega⟩) λy hy=>?_
  obtain⟨ev,tp',r'⟩:=y;obtain⟨j1,j2,j3,L,A⟩:=hy;dsimp only at j1 j2 j3 L A;subst j2;have j3:=j3 ht;refine db (mc rfl (db (mc rfl (db (mc rfl (db (mc rfl (By ?_))))))));refine aw (Ge w' s U.nb hwc ev (by omega) (by omega)) λz hz=>?_
  refine dS (λ_=>aj ⟨j1,j3,rfl,U,i4,i5,i6⟩) λh2=>?_
  obtain⟨z1,z2⟩:=z;obtain⟨hE,hS,_⟩:=hz.1 h2;have hS2:=U.step hS (by omega);refine aV (λx=>x.1=tp'/\x.2.2.1=w'/\x.2.2.2.1=out/\EvS x.2.2.2.2.1/\x.2.2.2.2.2.1=z1/\RB4 (out.length+1) x.2.2.2.2.2.2) ?_ ?_
  .refine aV (λx=>x.2=(tp',s,w',out,ev,z1,r')) ?_ ?_
   .refine aK (λ_=>aj rfl) λ_=>aj rfl
   .rintro⟨b,x⟩ e;dsimp only at e;subst e;have hk:=U.k;obtain⟨ev1,ev2⟩:=ev;have t0:=hE.t0;have t1:=hE.t1;rw[hwt]at t1;dsimp only at t0 t1;refine aO (λ_=>?_) λ_=>aj ⟨rfl,rfl,rfl,⟨L,A⟩,rfl,⟨by dsimp only;omega,by dsimp only;omega,by dsimp only;omega,by dsimp only;omega⟩⟩
    refine aK (λ_=>?_) λ_=>aK (λ_=>?_) λ_=>aK (λ_=>?_) λ_=>aK (λ_=>?_) λ_=>?_
    .exact aP (by decide) (by dsimp only;omega) (aT (bd (by simp;omega) (by omega) (aj ⟨rfl,rfl,rfl,⟨L,A⟩,rfl,⟨by simp;omega,by dsimp only;omega,by dsimp only;omega,by dsimp only;omega⟩⟩)))
    .exact aP (by decide) (by dsimp only;omega) (aT (bd (by simp;omega) (by omega) (aj ⟨rfl,rfl,rfl,⟨L,A⟩,rfl,⟨by dsimp only;omega,by simp;omega,by dsimp only;omega,by dsimp only;omega⟩⟩)))
    .exact aP (by decide) (by dsimp only;omega) (aT (bd (by simp;omega) (by omega) (aj ⟨rfl,rfl,rfl,⟨L,A⟩,rfl,⟨by dsimp only;omega,by dsimp only;omega,by simp;omega,by dsimp only;omega⟩⟩)))
    .exact aP (by decide) (by dsimp only;omega) (aT (bd (by simp;omega) (by omega) (aj ⟨rfl,rfl,rfl,⟨L,A⟩,rfl,⟨by dsimp only;omega,by dsimp only;omega,by dsimp only;omega,by simp;omega⟩⟩)))
    .dsimp only at *;omega
  .rintro⟨x1,x2,x3,x4,x5,x6,x7⟩ ⟨k1,k2,k3,k4,k5,Z⟩;dsimp only at k1 k2 k3 k4 k5 Z;subst k1;subst k2;subst k3;subst k5;refine bd (by simp;omega) (by omega) (aj ⟨j1,j3,rfl,?_,by simp;omega,λe he=>?_,?_⟩)
   .dsimp only;rw[bg,dc,<-qf];exact hS2
   .rcases bP.1 he with he|he
    .exact i5 e he
    .rw[aJ]at he;subst he;exact k4
   .dsimp only;rw[bg,dc];exact Z
 rintro⟨tp',s',w'',out',r'⟩ ⟨k1,k2,k3,k4,k5,Z,k7⟩;dsimp only at k1 k2 k3 k4 k5 Z k7;have e1:=i1.e;have a1:=k1.p.a1;have e2:=k1.e;refine aj ⟨⟨i1.trans k1,k3,k4,k5,Z,k7⟩,?_⟩;dsimp only;rw[e2,e1]at a1;omega
def C0:Y (ζ×Int×Int×Bool×Int):=[([120],0,0,af,0),([121],0,0,af,1),([118],0,0,J,0),([113],0,2,af,0),([113],1,2,af,0)]
def HJ:Y (ζ×Bool):=[([109],af),([110],af),([114],J)]
def Np:Y (ζ×Int):=[([99],0)]
def UM:Y ζ:=[[102]]
def wR:Y ζ:=[[109,97,105,110],[116,49],[116,50],[116,51]]
structure WX (w:WT):Prop where
 c:w.1=C0
 l:w.2.1=HJ
 d:w.2.2.1=Np
 f:w.2.2.2.1=UM
 t:∃n,1<=n/\n<=4/\w.2.2.2.2.1=wR.take n
 s:w.2.2.2.2.2.length<=60
 v:SV0 w
structure W0 (w:WT):Prop where
 c:w.1.length=5
 l:w.2.1.length=3
 d:w.2.2.1.length=1
 f:w.2.2.2.1.length=1
 t:w.2.2.2.2.1.length=4
 s:w.2.2.2.2.2.length<=24
 x:WX w
theorem W0.vl {w:WT} (h:W0 w):VL w:=⟨by rw[h.c];decide,by rw[h.l];decide,by rw[h.d];decide,by rw[h.f];decide,by rw[h.t];decide,by rw[h.t];decide,by have:=h.s;omega⟩
def nxS (i j:Nat):ν:=if j=0 then (if i=0 then (0,0) else ((i:Int)-1,6)) else (i,j)
theorem X0 {T:Int} {l:Y π} {s:π}:L8 T (l++[s])=U5 T (L8 T l) s:=by unfold L8;rw[dA];rfl
theorem Uy:Ok (ol ()) W0:=by
 unfold ol aY bi bu cF fH bx bC cR aD cL;refine b7 4 (λi x=>x.1=(i:Int)/\x.2.1=C0/\x.2.2.1=HJ/\x.2.2.2.1=Np/\x.2.2.2.2.1=UM/\x.2.2.2.2.2.1=wR/\x.2.2.2.2.2.2.length<=6*i/\L8 4 x.2.2.2.2.2.2=M (nxS i 0)) ?_ ?_ ⟨rfl,rfl,rfl,rfl,rfl,rfl,by simp,rfl⟩
 .rintro i ⟨a,w1,w2,w3,w4,w5,w6⟩ hi ⟨e1,e2,e3,Z,U,s,e7,L⟩;dsimp only at e1 e2 e3 Z U s e7 L;subst e1;have hl5:w5.length=4:=by rw[s];rfl
  refine bL (λ_=>?_) λg=>(by dsimp only[ak]at g;simp at g;omega)
  refine b7 6 (λj x=>x.1=(j:Int)/\x.2.1=w1/\x.2.2.1=w2/\x.2.2.2.1=w3/\x.2.2.2.2.1=w4/\x.2.2.2.2.2.1=w5/\x.2.2.2.2.2.2.length<=6*i+j/\L8 4 x.2.2.2.2.2.2=M (nxS i j)) ?_ ?_ ⟨rfl,rfl,rfl,rfl,rfl,rfl,by dsimp only;omega,L⟩
  .rintro j ⟨b,v1,v2,v3,v4,v5,v6⟩ hj ⟨d1,d2,d3,d4,d5,d6,d7,d8⟩;dsimp only at d1 d2 d3 d4 d5 d6 d7 d8;subst d1;refine du ?_;refine bd (by simp;omega) (by omega) (aj ?_);dsimp only;refine ⟨gH (by omega),d2,d3,d4,d5,d6,by simp;omega,?_⟩;rw[X0,d8];by_cases z:j=0
   .subst z;by_cases A:i=0
    .subst A;rfl
    .rw[show nxS i 0=((i:Int)-1,6) by unfold nxS;simp[A],show nxS i (0+1)=((i:Int),1) by unfold nxS;simp];unfold U5;dsimp only;rw[ax (λh=>by have:=h.1;omega),aC ⟨by omega,by omega,rfl⟩]
   .rw[show nxS i j=((i:Int),(j:Int)) by unfold nxS;simp[z],show nxS i (j+1)=((i:Int),(j:Int)+1) by unfold nxS;simp];unfold U5;dsimp only;rw[aC ⟨rfl,rfl⟩]
  .rintro⟨b,v1,v2,v3,v4,v5,v6⟩ ⟨d1,d2,d3,d4,d5,d6,d7,d8⟩;dsimp only at d1 d2 d3 d4 d5 d6 d7 d8;subst d1;subst d2;subst d3;subst d4;subst d5;subst d6;refine dv (aj ?_);dsimp only;refine ⟨gH (by omega),e2,e3,Z,U,s,by omega,?_⟩;rw[d8];unfold nxS;simp
 .rintro⟨a,w1,w2,w3,w4,w5,w6⟩ ⟨e1,e2,e3,Z,U,s,e7,L⟩;dsimp only at e1 e2 e3 Z U s e7 L;subst e1;subst e2;subst e3;subst Z;subst U;subst s;refine bL (λg=>(by dsimp only[ak]at g;simp[wR]at g)) λ_=>aj ?_
  refine ⟨rfl,rfl,rfl,rfl,rfl,by dsimp only;omega,rfl,rfl,rfl,rfl,⟨4,by decide,by decide,rfl⟩,by dsimp only;omega,?_⟩;unfold SV0;show L8 4 w6≠D;rw[L];simp
theorem SZ.mono {n m:Nat} {s:SN} (h:SZ n s) (hnm:n<=m) (hm:m<=100000):SZ m s:=
 ⟨⟨⟨hm,h.nb.sb.lk,λl hl=>dz (h.nb.sb.rd l hl) hnm,h.nb.sb.dn,h.nb.sb.th⟩,h.nb.c,h.nb.f,h.nb.k⟩,h.c,h.f,h.k⟩
theorem Xz (w:WT) (a:W0 w):Ok (nC w) λs=>SZ 0 s:=by
 refine (XA w a.vl).mono λs hs=>⟨hs.1,?_,?_,?_⟩
 .rw[hs.2.1,a.c]
 .rw[hs.2.2.1,a.f]
 .rw[hs.2.2.2,a.t]
structure WB (w:WT):Prop where
 c:w.1.length<=12
 l:w.2.1.length<=4
 d:w.2.2.1.length<=2
 f:w.2.2.2.1.length<=2
 t:w.2.2.2.2.1.length<=4
 s:w.2.2.2.2.2.length<=60
theorem VL.wb {w:WT} (h:VL w):WB w:=⟨h.c,h.l,h.d,h.f,h.t,h.s⟩
structure TR (y:WT×List ET):Prop where
 wb:WB y.1
 vl:VL y.1
 ev:∀e∈y.2,EvF y.1 e
 len:y.2.length<=400
 ls:∀e∈y.2,EvS e
 wx:WX y.1
 ac:∃sy ce fu,Acw y.1 y.2 sy ce fu
theorem Je (L:η) (n:Int) (hl:L.length<=9223372036854775807) (hb:∀x∈L,0<=x/\x<=255):Ok (qS (L,n)) TR:=by
 unfold qS aY bi bu dG cY bx iR jw bC kO aX cR aD cL;refine aV (λx=>x.length<=600/\∀z∈x,0<=z/\z<=255) ?_ ?_
 .refine bL (λg=>?_) λg=>?_
  .dsimp only[ak]at g;refine db (dI (by omega) (dI (by dsimp only;omega) (aj ⟨by dsimp only;rw[bM];simp;omega,λz A=>hb z (gg A)⟩)))
  .dsimp only[ak]at g;exact aj ⟨by dsimp only;omega,hb⟩
 rintro L' ⟨hL,hB⟩;refine aw Uy λw U=>?_
 have hvl:=U.vl;refine aw (Xz w U) λs hs=>?_
 refine aw (gD 3 (L',0) ⟨by dsimp only;omega,hB,by dsimp only;omega,by dsimp only;omega⟩) λy hy=>?_
 obtain⟨y1,yt⟩:=y;obtain⟨ty,yy0,yy1,_⟩:=hy;have yy1:=yy1 (by decide);dsimp only at ty yy0 yy1;have ew:bm .i64 (1+y1)=1+y1:=iz (by omega) (by omega);refine qM (λx=>(1+y1+1-x.1).toNat) (λx=>1<=x.1/\x.1<=2+y1/\x.2.1=yt/\x.2.2.1=w/\x.2.2.2.1=s/\((x.2.2.2.2.length:Nat):Int)<=2*x.1/\∀e∈x.2.2.2.2,EvS e) ?_ ⟨by dsimp only;omega,by dsimp only;omega,rfl,rfl,rfl,by simp,λe he=>?_⟩
 .rintro⟨a,t,w',s',es⟩ ⟨e1,e2,e3,e4,e5,e6,e7⟩;dsimp only at e1 e2 e3 e4 e5 e6 e7;subst e3;subst e4;subst e5;refine eO (λg=>?_) λg=>?_
  .dsimp only at g;rw[ew]at g;refine bd (by simp;omega) (by omega) (aj ?_);dsimp only;rw[iz (n:=a+1) (by omega) (by omega)];refine ⟨⟨by omega,by omega,rfl,rfl,rfl,by simp;omega,λe he=>?_⟩,by omega⟩;rcases bP.1 he with he|he
   .exact e7 e he
   .simp only[bl,cG,gq]at he;rcases he with he|he<;>subst he<;>exact⟨by simp,by simp⟩
  .refine aw (P:=TR) ?_ λr hr=>aj hr
   refine b7 es.length (λi x=>x.1=(i:Int)/\TP x.2.1/\x.2.2.1=w'/\SZ i x.2.2.2.1/\x.2.2.2.2.1=es/\x.2.2.2.2.2.length<=i/\∀e∈x.2.2.2.2.2,EvS e) ?_ ?_ ⟨rfl,ty.p,rfl,hs,rfl,by simp,λe he=>(by cases he)⟩
   .rintro i ⟨b,t,w',s',es',out⟩ hi ⟨d1,d2,d3,Z,d5,d6,d7⟩;dsimp only at d1 d2 d3 Z d5 d6 d7;subst d1;subst d3;subst d5;refine du ?_;refine aV (λx=>TP x.1/\x.2.1=w'/\SZ (i+1) x.2.2.1/\x.2.2.2.1=es'/\x.2.2.2.2.length<=i+1/\∀e∈x.2.2.2.2,EvS e) ?_ ?_
    .refine cg (cg (aT ?_));have A:=e7 _ (bN (T:=.st (.pr (.int .i64) (.pr (.int .i64) (.pr (.int .i64) (.pr (.int .i64) (.pr (.int .i64) (.pr (.sl (.int .i64)) (.sl (.int .i64))))))))) (xs:=es') (j:=(i:Int)) (by omega) (by omega));revert A;generalize (aI _ _)=z;intro A;refine aw (Ge w' s' Z.nb (by rw[U.d];decide) z (by have:=A.1;omega) (by have:=A.2;omega)) λv hv=>?_
     refine aO (λh=>?_) λh=>aj ⟨d2,rfl,Z.mono (by omega) (by omega),rfl,by dsimp only;omega,d7⟩
     refine bd (by simp;omega) (by omega) (aj ⟨d2,rfl,Z.step (hv.1 h).2.1 (by omega),rfl,by simp;omega,λe he=>?_⟩);rcases bP.1 he with he|he
     .exact d7 e he
     .rw[aJ]at he;subst he;exact A
    .rintro⟨t,w'',s'',es'',out'⟩ ⟨f1,f2,f3,f4,f5,f6⟩;dsimp only at f1 f2 f3 f4 f5 f6;refine aj ?_;dsimp only;exact⟨gH (by omega),f1,f2,f3,f4,f5,f6⟩
   .rintro⟨b,t,w',s',es',out⟩ ⟨d1,d2,d3,Z,d5,d6,d7⟩;dsimp only at d1 d2 d3 Z d5 d6 d7;subst d1;subst d3;subst d5;refine dv ?_;refine aw (P:=TR) ?_ λr hr=>aj hr
    have hmin:HU (fM n 0) 60<=60:=by
     unfold HU;split
     .omega
     .rename_i h;simp[fR]at h;exact h
    refine aw (ah0 (by omega) s' Z w' U.c U.t (by rw[U.d];decide) _ hmin t d2) λv hv=>?_
    refine bd (by have:=hv.2;dsimp only;omega) (by omega) ?_;have hall:∀e∈out++v.1,EvS e:=λe he=>by
     rcases bP.1 he with he|he
     .exact d7 e he
     .exact hv.1 e he
    refine aw (ag1 w' (out++v.1) λe he=>by have:=hall e he;exact⟨by have:=this.1;omega,by have:=this.2;omega⟩) λc hc=>?_
    refine cq (λ_=>?_) λh=>?_
    .exact aw Uy λu hu=>aj ⟨hu.vl.wb,hu.vl,λe he=>(by cases he),by simp,λe he=>(by cases he),hu.x,_,_,_,.nil⟩
    .exact aj ⟨(hc h).1.1.wb,(hc h).1.1,(hc h).2.1,by have:=hv.2;simp;omega,hall,U.x,(hc h).2.2⟩
 .rw[aJ]at he;subst he;exact⟨by simp,by simp⟩
abbrev IT:Type:=ω
abbrev CT:Type:=WT×Y (Int×Y IT)
theorem sM (a b:Int):jE (a,b)=M (decide (0<=a/\a<b)):=by
 refine b_ ?_;unfold jE iR aD;with_reducible repeat' first|(refine OS.ok ?_;constructor)|refine IM.mk λ_=>?_
 .by_cases h:a<b<;>simp[*,fR]
 .simp;omega
theorem Gf (k:Int):qp k=M (decide (1<=k/\k<=5)):=by
 refine b_ ?_;unfold qp iR aD;with_reducible repeat' first|(refine OS.ok ?_;constructor)|refine IM.mk λ_=>?_
 .by_cases h:k<=5<;>simp[*,c9]
 .simp;omega
def iY (i:IT):η:=
 if i.1=1\/i.1=6\/i.1=10\/i.1=27 then [i.2.1]
 else if i.1=2\/i.1=3 then [i.2.1,i.2.2.1]
 else if i.1=4 then [i.2.1,i.2.2.1,i.2.2.2.1]
 else if i.1=7 then [i.2.1,i.2.2.2.1]
 else if i.1=8\/i.1=26 then [i.2.2.1]
 else if i.1=9 then [i.2.2.1,i.2.2.2.1]
 else []
theorem uu (i:IT):jT i=M (iY i):=by
 obtain⟨a,i2⟩:=i;unfold jT iY aY bi bu be aD;by_cases h1:a=1
 .subst h1;rfl
 by_cases h2:a=6
 .subst h2;rfl
 by_cases h3:a=10
 .subst h3;rfl
 by_cases h4:a=27
 .subst h4;rfl
 by_cases h5:a=2
 .subst h5;rfl
 by_cases Z:a=3
 .subst Z;rfl
 by_cases U:a=4
 .subst U;rfl
 by_cases L:a=7
 .subst L;rfl
 by_cases A:a=8
 .subst A;rfl
 by_cases z:a=26
 .subst z;rfl
 by_cases s:a=9
 .subst s;rfl
 simp only[h1,h2,h3,h4,h5,Z,U,L,A,z,s,cJ,bcF,jnr,gq,eh]
theorem Dl (z:IT):(iY z).length<=3:=by
 unfold iY
 (repeat' split)<;>simp
theorem ada (l:Y IT) (a:Int) (hl:l.length<=1000000):Ok (pV (l,a)) λ_=>True:=by
 unfold pV be bx iR bD aX cR aD cL;refine qM (λx=>((l.length:Int)+1-x.2).toNat) (λx=>0<=x.2/\x.2<=(l.length:Int)+1) ?_ ⟨by dsimp only;omega,by dsimp only;omega⟩;rintro⟨(a:Int),(n:Int)⟩ ⟨h0,h1⟩;dsimp only at h0 h1;refine eO (λg=>?_) λ_=>aj trivial
 dsimp only[ak]at g;refine aV (λ_=>True) ?_ λb _=>aj ?_
 .refine aV (λb=>b=af->0<=a/\a<(l.length:Int)) ?_ ?_
  .refine bL (λ_=>aj λh=>(by cases h)) λs=>aj λh=>?_
   rw[mB]at h;dsimp only[ak]at h s;exact⟨s,h⟩
  .intro b hb;refine aO (λ_=>aj trivial) λh=>?_
   obtain⟨q0,z⟩:=hb h;refine aP q0 (by dsimp only;omega) (aT ?_);refine aR (Gf _) ?_;refine dS (λ_=>aj trivial) λ_=>?_
   refine aP q0 (by dsimp only;omega) (aT ?_);refine aK (λ_=>?_) λ_=>aj trivial
   exact aP q0 (by dsimp only;omega) (aT (aj trivial))
 .dsimp only;rw[iz (by omega) (by omega)];exact⟨⟨by omega,by omega⟩,by omega⟩
structure AR (w:WT) (b n:Int):Prop where
 b0:0<=b
 b1:b<w.1.length
 ix:(aI (T:=O_) w.1 b).2.1=0
 sz:¬(aI (T:=O_) w.1 b).2.2.1=0
 sn:(aI (T:=O_) w.1 b).2.2.1=n
theorem Uq (w:WT) (b n:Int):Ok (nR (w,b,n)) λr=>r=J->AR w b n:=by
 unfold nR be jw bD aX aD;refine gL ?_;refine aR (sM _ _) ?_;refine aK (λh=>?_) λ_=>aj (aj λh=>(by cases h))
 refine aP h.1 h.2 (aT (aK (λh1=>?_) λ_=>aj (aj λh=>(by cases h))));refine aP h.1 h.2 (aT (cq (λh2=>?_) λ_=>aj (aj λh=>(by cases h))));exact aP h.1 h.2 (aT (aj (aj λa=>⟨h.1,h.2,h1,h2,bf a⟩)))
theorem Vw (w:WT) (i:IT):Ok (mf (w,i)) λb=>b=J->(i.1=7->AR w i.2.2.1 i.2.2.2.2.1)/\(i.1=9->AR w i.2.1 i.2.2.2.2.1):=by
 have a:∀{b:Bool},¬i.1=7->¬i.1=9->b=J->(i.1=7->AR w i.2.2.1 i.2.2.2.2.1)/\(i.1=9->AR w i.2.1 i.2.2.2.2.1):=λh1 h2 _=>⟨λh=>(h1 h).elim,λh=>(h2 h).elim⟩
 unfold mf aY bi bu cF dZ be iR bD aX aD;simp only[sM,Yh];refine aK (λA=>?_) λ_=>?_
 .refine aV (λ_=>True) ?_ λ_ _=>aj (a (by have A:i.1=6:=A;omega) (by have A:i.1=6:=A;omega))
  refine aK (λh=>?_) λ_=>aj trivial
  exact aP h.1 h.2 (aT (aj trivial))
 refine aK (λs=>?_) λ_=>?_
 .refine aV (λ_=>True) ?_ λ_ _=>aj (a (by have s:i.1=8:=s;omega) (by have s:i.1=8:=s;omega))
  refine aK (λh=>?_) λ_=>aj trivial
  exact aP h.1 h.2 (aT (aj trivial))
 refine aK (λz=>?_) λL=>?_
 .exact aw (Uq _ _ _) λ_ h=>aj λh2=>⟨λ_=>h h2,λZ=>by have z:i.1=7:=z;omega⟩
 refine aK (λZ=>?_) λU=>?_
 .exact aw (Uq _ _ _) λ_ h=>aj λh2=>⟨λz=>(L z).elim,λ_=>h h2⟩
 have a:∀{b:Bool},b=J->(i.1=7->AR w i.2.2.1 i.2.2.2.2.1)/\(i.1=9->AR w i.2.1 i.2.2.2.2.1):=a L U;refine aV (λx=>x.2=(w,i)) (aK (λ_=>aj rfl) λ_=>aj rfl) ?_;rintro⟨b,x⟩ e;dsimp only at e;subst e;refine aO (λ_=>?_) λ_=>?_
 .refine aV (λ_=>True) ?_ λ_ _=>aj a
  refine aK (λh=>?_) λ_=>aj trivial
  exact aP h.1 h.2 (aT (aj trivial))
 refine aV (λx=>x.2=(w,i)) (aK (λ_=>aj rfl) λ_=>aK (λ_=>aj rfl) λ_=>aK (λ_=>aj rfl) λ_=>aj rfl) ?_;rintro⟨b,x⟩ e;dsimp only at e;subst e;refine aO (λ_=>?_) λ_=>?_
 .refine aV (λ_=>True) ?_ λ_ _=>aj a
  refine aK (λh=>?_) λ_=>aj trivial
  exact aP h.1 h.2 (aT (aj trivial))
 refine aV (λx=>x.2=(w,i)) (aK (λ_=>aj rfl) λ_=>aK (λ_=>aj rfl) λ_=>aj rfl) ?_;rintro⟨b,x⟩ e;dsimp only at e;subst e;refine aO (λ_=>aj a) λ_=>?_
 refine aV (λx=>x.2=(w,i)) (aK (λ_=>aj rfl) λ_=>aj rfl) ?_;rintro⟨b,x⟩ e;dsimp only at e;subst e;with_reducible repeat' first|(refine OS.ok ?_;constructor)|refine IM.mk λ_=>?_
 all_goals exact a
structure VI (n:Int) (i:IT):Prop where
 o1:1<=i.1
 o2:i.1<=28
 r:∀j∈iY i,0<=j/\j<n
structure VT (t:Int×List IT):Prop where
 r0:0<=t.1
 r1:t.1<=32
 i:∀i∈t.2,VI t.1 i
structure VJ (w:WT) (k:Int) (i:IT):Prop where
 a7:i.1=7->AR w i.2.2.1 i.2.2.2.2.1
 a9:i.1=9->AR w i.2.1 i.2.2.2.2.1
 se:i.1=28->i.2.2.2.2.2= -1
 si:¬i.1=28->0<=i.2.2.2.2.2/\i.2.2.2.2.2<w.2.2.2.2.2.length/\(aI (T:=yJ) w.2.2.2.2.2 i.2.2.2.2.2).1=k
theorem I7 (w:WT) (k:Int) (c:Int×Y IT) (hc:c.2.length<=1000000):Ok (iD (w,k,c)) λb=>b=J->VT c/\∀i∈c.2,VJ w k i:=by
 unfold iD aY bi bu cF bO cY qJ be bx jw bD aX cR aD cL;refine aV (λx=>x.2=(w,c)/\(x.1=af->0<=c.1/\c.1<=32)) ?_ ?_
 .refine bL (λ_=>aj ⟨rfl,λh=>(by cases h)⟩) λh0=>bL (λ_=>aj ⟨rfl,λh=>(by cases h)⟩) λh1=>aj ⟨rfl,λ_=>⟨h0,h1⟩⟩
 rintro⟨b,x⟩ ⟨e,hb⟩;dsimp only at e hb;subst e;refine aO (λ_=>aj λh=>(by cases h)) λh=>?_
 obtain⟨r0,r1⟩:=hb h;refine b7 c.2.length (λi x=>x.1=(i:Int)/\x.2=(w,c)/\∀q:Nat,q<i->VI c.1 (aI (T:=Cg) c.2 (q:Int))/\VJ w k (aI (T:=Cg) c.2 (q:Int))) ?_ ?_ ⟨rfl,rfl,λk hk=>by omega⟩
 .rintro i ⟨a,x⟩ hi ⟨e1,e2,e3⟩;dsimp only at e1 e2 e3;subst e1;subst e2;refine du ?_;refine cg (aT ?_);generalize Z:(aI _ _)=z;refine aV (λx=>x.2=(w,c,z)/\(x.1=af->(1<=z.1/\z.1<=28)/\(z.1=7->AR w z.2.2.1 z.2.2.2.2.1)/\(z.1=9->AR w z.2.1 z.2.2.2.2.1))) ?_ ?_
  .refine bL (λ_=>aj ⟨rfl,λh=>(by cases h)⟩) λh0=>bL (λ_=>aj ⟨rfl,λh=>(by cases h)⟩) λh1=>?_
   refine aO (λ_=>aj ⟨rfl,λh=>(by cases h)⟩) λ_=>?_
   refine aw (Vw w z) λy hy=>?_
   refine dS (λ_=>aj ⟨rfl,λh=>(by cases h)⟩) λhyt=>?_
   exact aw (ada c.2 _ hc) λy _=>aj ⟨rfl,λ_=>⟨⟨h0,h1⟩,hy hyt⟩⟩
  rintro⟨b,x⟩ ⟨e,hb⟩;dsimp only at e hb;subst e;refine aO (λ_=>aj λh=>(by cases h)) λh=>?_
  obtain⟨⟨o1,o2⟩,a7,a9⟩:=hb h;refine aV (λx=>x.2=(w,c,z)/\(x.1=af->(z.1=28->z.2.2.2.2.2= -1)/\(¬z.1=28->0<=z.2.2.2.2.2/\z.2.2.2.2.2<w.2.2.2.2.2.length/\(aI (T:=yJ) w.2.2.2.2.2 z.2.2.2.2.2).1=k))) ?_ ?_
  .simp only[sM,Yh];refine aK (λs=>?_) λs=>?_
   .refine cq (λ_=>aj ⟨rfl,λh=>(by cases h)⟩) λhm=>?_
    exact cq (λh=>(h s).elim) λ_=>aj ⟨rfl,λ_=>⟨λ_=>hm,λh=>(h s).elim⟩⟩
   .refine cq (λ_=>?_) λh=>(s h).elim
    refine cq (λ_=>aj ⟨rfl,λh=>(by cases h)⟩) λh=>?_
    exact aP h.1 h.2 (aT (aj ⟨rfl,λh2=>⟨λh3=>(s h3).elim,λ_=>⟨h.1,h.2,by simpa using h2⟩⟩⟩))
  rintro⟨b,x⟩ ⟨e,hsi⟩;dsimp only at e hsi;subst e;refine aO (λ_=>aj λh=>(by cases h)) λhbs=>?_
  obtain⟨se,si⟩:=hsi hbs;refine aV (λx=>x.2=(w,c,z)) ?_ ?_
  .simp only[sM,Yh];with_reducible repeat' first|(refine OS.ok ?_;constructor)|refine IM.mk λ_=>?_
   all_goals rfl
  rintro⟨b,x⟩ e;dsimp only at e;subst e;refine aO (λ_=>aj λh=>(by cases h)) λ_=>?_
  refine aR (uu z) ?_;refine b7 (iY z).length (λj x=>x.1=(j:Int)/\x.2=(w,c)/\∀k:Nat,k<j->0<=aI (T:=.int .i64) (iY z) (k:Int)/\aI (T:=.int .i64) (iY z) (k:Int)<c.1) ?_ ?_ ⟨rfl,rfl,λk hk=>by omega⟩
  .rintro j ⟨a,x⟩ hj ⟨U,L,A⟩;dsimp only at U L A;subst U;subst L;refine du ?_;refine cg (aT ?_);refine aR (sM _ _) ?_;refine cq (λ_=>aj λh=>(by cases h)) λh=>aj ?_
   dsimp only at h ⊢;have hj32:(iY z).length<=3:=Dl z;refine ⟨gH (by omega),rfl,λk hk=>?_⟩;rcases ci k j with h1|h1
   .exact A k h1
   .rw[show k=j by omega];exact h
  .rintro⟨a,x⟩ ⟨U,L,A⟩;dsimp only at U L A;subst U;subst L;refine dv (aj ?_);dsimp only;refine ⟨gH (by omega),rfl,λk hk=>?_⟩;rcases ci k i with h1|h1
   .exact e3 k h1
   .rw[show k=i by omega,Z];exact⟨⟨o1,o2,iG (T:=.int .i64) A⟩,⟨a7,a9,se,si⟩⟩
 .rintro⟨a,x⟩ ⟨e1,e2,e3⟩;dsimp only at e1 e2 e3;subst e1;subst e2;refine dv (aj λ_=>⟨⟨r0,r1,iG (T:=Cg) (p:=VI c.1) λq hq=>(e3 q hq).1⟩,iG (T:=Cg) (p:=VJ w k) λq hq=>(e3 q hq).2⟩)
structure VC (c:CT):Prop where
 vl:VL c.1
 tl:c.2.length=c.1.2.2.2.2.1.length
 t:∀t∈c.2,VT t
 sv:SV0 c.1
 j:∀k:Nat,k<c.2.length->∀i∈(aI (T:=wP) c.2 (k:Int)).2,VJ c.1 (k:Int) i
structure CB (c:CT):Prop where
 th:c.2.length<=1000000
 ins:∀t∈c.2,t.2.length<=1000000
 rg:∀t∈c.2,1<=t.1
 wx:WX c.1
 ok:jS c=M J
theorem UA (c:CT) (h1:c.2.length<=1000000) (h2:∀t∈c.2,t.2.length<=1000000):Ok (jS c) λb=>b=J->VC c:=by
 obtain⟨w,l⟩:=c;dsimp only at h1 h2;unfold jS bu bx bD aX cR aD cL;refine aV (λx=>x.2=(w,l)/\(x.1=af->(VL w/\SV0 w)/\l.length=w.2.2.2.2.1.length)) ?_ ?_
 .refine aw (B7 w) λb hb=>?_
  refine dS (λ_=>aj ⟨rfl,λh=>(by cases h)⟩) λh=>aj ⟨rfl,λL=>⟨hb h,?_⟩⟩
  simp at L;omega
 rintro⟨b,x⟩ ⟨e,s⟩;dsimp only at e s;subst e;refine aO (λ_=>aj λh=>(by cases h)) λh=>?_
 obtain⟨⟨hv,hsv⟩,hl⟩:=s h;refine b7 l.length (λi x=>x.1=(i:Int)/\x.2=(w,l)/\∀k:Nat,k<i->VT (aI (T:=wP) l (k:Int))/\∀q∈(aI (T:=wP) l (k:Int)).2,VJ w (k:Int) q) ?_ ?_ ⟨rfl,rfl,λk hk=>by omega⟩
 .rintro i ⟨a,x⟩ hi ⟨e1,e2,e3⟩;dsimp only at e1 e2 e3;subst e1;subst e2;refine du ?_;refine cg (aT ?_);have hm:=bN (T:=wP) (xs:=l) (j:=(i:Int)) (by omega) (by omega);revert hm;generalize A:(aI (T:=wP) l (i:Int))=z;intro hm;refine aw (I7 w _ z (h2 z hm)) λb hb=>?_
  refine dS (λ_=>aj λh=>(by cases h)) λh=>aj ?_
  dsimp only;refine ⟨gH (by omega),rfl,λk hk=>?_⟩;rcases ci k i with h1|h1
  .exact e3 k h1
  .rw[show k=i by omega,A];exact hb h
 .rintro⟨a,x⟩ ⟨e1,e2,e3⟩;dsimp only at e1 e2 e3;subst e1;subst e2;refine dv (aj λ_=>⟨hv,hl,iG (T:=wP) (p:=VT) λk hk=>(e3 k hk).1,hsv,λk hk=>(e3 k hk).2⟩)
abbrev TT:Type:=Int×η×Y η×Int
structure TL (F:Int->Prop) (E:Nat) (l:η):Prop where
 a:Ip l
 m:∀y∈l,0<=y/\y<(E:Int)
 f:∀y∈l,F y
theorem QU:∀(l:η) (lo hi:Int),Ip l->(∀y∈l,lo<=y/\y<hi)->(l.length:Int)<=max 0 (hi-lo)
 |[],lo,hi,_,_=>by simp;omega
 |x::r,lo,hi,h,hm=>by
  have h1:=hm x (c8 ..);have h2:=QU r (x+1) hi h.2 λy a=>⟨by have:=h.1 y a;omega,(hm y (cC _ a)).2⟩
  rw[cf];omega
variable {F:Int->Prop}
theorem TL.len {E:Nat} {l:η} (h:TL F E l):l.length<=E:=by
 have:=QU l 0 E h.a h.m;omega
theorem TL.nil (E:Nat):TL F E []:=⟨trivial,λy a=>(by cases a),λy a=>(by cases a)⟩
theorem TL.uni {E:Nat} {a b:η} (z:TL F E a) (hb:TL F E b):TL F E (xQ a b):=
 ⟨Rk a b,λy s=>by
   rcases I8.1 s with h|h
   .exact z.m y h
   .exact hb.m y h,λy s=>(I8.1 s).elim (z.f y) (hb.f y)⟩
theorem TL.mono {E A:Nat} {z:Int->Prop} {l:η} (h:TL F E l) (hf:E<=A) (L:∀y,F y->z y):TL z A l:=⟨h.a,λy s=>⟨(h.m y s).1,by have:=(h.m y s).2;omega⟩,λy s=>L y (h.f y s)⟩
structure TH (F:Int->Prop) (E:Nat) (s:TT):Prop where
 r:s.2.1.length<=32
 t:s.2.2.1.length<=32
 l:∀l∈s.2.2.1,TL F E l
 e0:0<=s.2.2.2
 e1:s.2.2.2<=(E:Int)
theorem TH.zero (E:Nat):TH F E (0,[],[],0):=⟨by simp,by simp,λl hl=>(by cases hl),by simp,by simp⟩
theorem TH.mono {E z:Nat} {a:Int->Prop} {s:TT} (h:TH F E s) (hf:E<=z) (A:∀y,F y->a y):TH a z s:=⟨h.r,h.t,λl hl=>(h.l l hl).mono hf A,h.e0,by have:=h.e1;omega⟩
theorem dx (s:TT) (E:Nat) (Z:E<=100000) (h:TH F E s):cz s=M ((s.1,s.2.2.2),s.2.1,s.2.2.1):=by
 obtain⟨h1,h2,U,h4,h5⟩:=h;refine b_ ?_;unfold cz aY bi bu bO cY bx bC bD aX cR aD cL;refine bd (by simp;omega) (by omega) ?_;refine b7 s.2.2.1.length (λi x=>x.1=(i:Int)/\x.2.1=s/\x.2.2.2.1=(s.1,s.2.2.2)/\x.2.2.2.2.1=s.2.1/\x.2.2.2.2.2=s.2.2.1.take i) ?_ ?_ ⟨rfl,rfl,rfl,rfl,rfl⟩
 .rintro i ⟨a,b,c,d,e,f⟩ hi ⟨e1,e2,e3,A,z⟩;dsimp only at e1 e2 e3 A z;subst e1;subst e2;subst z;refine du ?_;refine cg (aT ?_);have L:=(U _ (bN (T:=.sl (.int .i64)) (xs:=b.2.2.1) (j:=(i:Int)) (by omega) (by omega))).len;refine bd (by simp only[fO,bJ];exact dz L (by omega)) (by omega) ?_;refine bd (by simp;omega) (by omega) (aj ?_);dsimp only;refine ⟨gH (by omega),rfl,e3,A,?_⟩;rw[nh (T:=.sl (.int .i64)) hi];rfl
 .rintro⟨a,b,c,d,e,f⟩ ⟨e1,e2,e3,A,z⟩;dsimp only at e1 e2 e3 A z;subst e1;subst e2;subst z;refine dv (aj ?_);show (d,e,_)=_;rw[e3,A,cP]
theorem wS (b:Bool):Ok (gh b) λ_=>True:=by
 unfold gh;with_reducible repeat' first|(refine OS.ok ?_;constructor)|refine IM.mk λ_=>?_
 all_goals trivial
theorem Gs (n:Int):Ok (mI n) λ_=>True:=by
 unfold mI bx aD;with_reducible repeat' first|(refine OS.ok ?_;constructor)|refine IM.mk λ_=>?_
 all_goals trivial
theorem afb (x:ν):Ok (uU x) λ_=>True:=by
 unfold uU be;refine aK (λ_=>aj trivial) λ_=>aK (λ_=>?_) λ_=>aj trivial
 exact aw (wS _) λ_ _=>aj trivial
theorem abo (x:π):Ok (s5 x) λ_=>True:=by
 unfold s5 be jw bC aD;have t1:∀b,Ok (au (gh b) λy=>M (y,J)) λ_=>True:=λb=>aw (wS _) λ_ _=>aj trivial
 refine aK (λ_=>aj trivial) λ_=>aK (λ_=>aj trivial) λ_=>aK (λ_=>aj trivial) λ_=>?_
 refine aK (λ_=>aK (λ_=>aj trivial) λh=>zM h (aj trivial)) λ_=>?_
 refine aK (λ_=>aK (λ_=>aj trivial) λh=>zM h (aj trivial)) λ_=>?_
 refine aK (λ_=>t1 _) λ_=>aK (λ_=>t1 _) λ_=>aK (λ_=>t1 _) λ_=>aK (λ_=>t1 _) λ_=>aK (λ_=>t1 _) λ_=>aK (λ_=>t1 _) λ_=>?_
 refine aK (λ_=>aV (λ_=>True) (cq (λ_=>aw (wS _) λ_ _=>aj trivial) λ_=>aw (wS _) λ_ _=>aj trivial) λ_ _=>aj trivial) λ_=>?_
 exact aK (λ_=>aV (λ_=>True) (cq (λ_=>aw (wS _) λ_ _=>aj trivial) λ_=>aw (wS _) λ_ _=>aj trivial) λ_ _=>aj trivial) λ_=>aj trivial
theorem Zb (E:Nat) (hE:E<=100000) (i:IT) (p:ν) (R:η) (T:Y η) (hr:∀j∈iY i,0<=j/\j<(R.length:Int)) (o1:1<=i.1) (o2:i.1<=5) (hR:R.length<=32) (s:T.length=R.length) (hl:∀l∈T,TL F E l):Ok (xa ((i,p),R,T)) λy=>y.1.1.2=p.2/\y.2.1.length=R.length/\y.2.2.length=T.length/\∀l∈y.2.2,TL F E l:=by
 unfold xa aY bi bu ck be bx bC bD kO aX cR aD cL;refine aR (uu i) ?_;have h3:=Dl i;refine b7 (iY i).length (λj x=>x.1=(j:Int)/\x.2.1=R/\x.2.2.1=T/\x.2.2.2.1=i/\x.2.2.2.2.1=p) ?_ ?_ ⟨rfl,rfl,rfl,rfl,rfl⟩
 .rintro j ⟨a,b,c,d,e⟩ hj ⟨e1,e2,e3,Z,A⟩;dsimp only at e1 e2 e3 Z A;subst e1;subst e2;subst e3;subst Z;refine du ?_;have hz:=hr _ (bN (T:=.int .i64) (xs:=iY d) (j:=(j:Int)) (by omega) (by omega));refine aV (λx=>x.2=(b,c,d,e)/\x.1=af) ?_ ?_
  .refine cg (aT ?_);refine bL (λg=>?_) λ_=>?_
   .dsimp only at g;omega
   refine cg (aT (aj ⟨rfl,?_⟩));dsimp only;rw[mB];exact hz.2
  rintro⟨b',x⟩ ⟨U,L⟩;dsimp only at U L;subst U;subst L;refine aO (λh=>(by cases h)) λ_=>aj ?_
  dsimp only;exact⟨gH (by omega),rfl,rfl,rfl,A⟩
 .rintro⟨a,b,c,d,e⟩ ⟨e1,e2,e3,Z,A⟩;dsimp only at e1 e2 e3 Z A;subst e1;subst e2;subst e3;subst Z;refine dv ?_;obtain⟨e,e'⟩:=e;dsimp only at A;subst A;refine aw (P:=λy=>y.1.1.2=e.2/\y.2.1.length=b.length/\y.2.2.length=c.length/\∀l∈y.2.2,TL F E l) ?_ λr hr=>aj hr
  have hA:d.1≠5->0<=d.2.1/\d.2.1<(b.length:Int):=λh5=>hr _ (by
   unfold iY;(repeat' split)<;>simp<;>omega)
  have hB:2<=d.1->d.1≠5->0<=d.2.2.1/\d.2.2.1<(b.length:Int):=λh2 h5=>hr _ (by
   unfold iY;(repeat' split)<;>simp<;>omega)
  have hC:d.1=4->0<=d.2.2.2.1/\d.2.2.2.1<(b.length:Int):=λh5=>hr _ (by
   unfold iY;(repeat' split)<;>simp<;>omega)
  have hg:∀{j:Int},0<=j->j<(b.length:Int)->TL F E (aI (T:=.sl (.int .i64)) c j):=λh0 h1=>hl _ (bN (T:=.sl (.int .i64)) (xs:=c) h0 (by rw[s];exact h1))
  refine aV (λx=>x.2.1=b/\x.2.2.1=c/\x.2.2.2.1=d/\x.2.2.2.2.1=e/\TL F E x.1.2.2/\d.1≠5) ?_ ?_
  .refine aK (λ_=>aj ⟨rfl,rfl,rfl,hl⟩) λz=>?_
   refine aK (λ_=>aj ⟨rfl,rfl,rfl,rfl,TL.nil E,z⟩) λn1=>?_
   dsimp only at n1 z;obtain⟨b0,b1⟩:=hB (by omega) z;refine aK (λ_=>?_) λn2=>?_
   .refine aP b0 b1 (aP b0 b1 (aT ?_));refine aP b0 (by dsimp only;rw[s];exact b1) (aP b0 (by dsimp only;rw[s];exact b1) (aT ?_));exact aj ⟨rfl,rfl,rfl,rfl,hg b0 b1,z⟩
   refine aK (λ_=>?_) λn3=>?_
   .refine aw (Gs _) λy _=>?_
    refine aP b0 b1 (aP b0 b1 (aT ?_));refine aw (afb _) λy _=>?_
    refine aP b0 (by dsimp only;rw[s];exact b1) (aP b0 (by dsimp only;rw[s];exact b1) (aT ?_));exact aj ⟨rfl,rfl,rfl,rfl,hg b0 b1,z⟩
   dsimp only at n2 n3;obtain⟨c0,c1⟩:=hC (by omega);refine aw (Gs _) λy _=>?_
   refine aP b0 b1 (aP b0 b1 (aT ?_));refine aP c0 c1 (aP c0 c1 (aT ?_));refine aw (abo _) λy _=>?_
   refine aP b0 (by dsimp only;rw[s];exact b1) (aP b0 (by dsimp only;rw[s];exact b1) (aT ?_));refine aP c0 (by dsimp only;rw[s];exact c1) (aP c0 (by dsimp only;rw[s];exact c1) (aT ?_));have g1:=hg b0 b1;have g2:=hg c0 c1;refine aR (UB _ _ (dz g1.len (by omega)) (dz g2.len (by omega))) ?_;exact aj ⟨rfl,rfl,rfl,rfl,g1.uni g2,z⟩
  rintro⟨⟨v,ok,tn⟩,b',c',d',e',e''⟩ ⟨U,L,f3,f4,f5,f6⟩;dsimp only at U L f3 f4 f5 f6;subst U;subst L;subst f3;subst f4;obtain⟨a0,a1⟩:=hA f6;have ht:=f5.len;refine bd (by simp;omega) (by omega) ?_;refine aP a0 a1 (aP a0 a1 (aP a0 (by dsimp only;rw[s];exact a1) (aP a0 (by dsimp only;rw[s];exact a1) (aj ?_))));refine ⟨rfl,bW ..,bW ..,λl hm=>?_⟩;rcases Dg hm with h|h
  .exact hl l h
  .rw[h];exact f5
theorem aaw (E:Nat) (hE:E<=100000) (c:Int×Y IT) (hc:c.2.length<=1000000) (hv:VT c) (s:TT) (h:TH F E s):Ok (nQ (c,s)) λy=>TH F E y.1/\(y.1.2.1.length=0\/y.1.2.2.2=s.2.2.2):=by
 unfold nQ aY bi bu bO dG cY be bx iR jw bC bD aX cR aD cL;have A:=h;obtain⟨h1,h2,h3,h4,h5⟩:=h;refine aV (λx=>x.2.1=c/\x.2.2.1=s/\(x.1=af->(s.2.1.length:Int)=c.1/\(s.2.2.1.length:Int)=c.1)) ?_ ?_
 .refine cq (λ_=>aj ⟨rfl,rfl,λh=>(by cases h)⟩) λg=>aj ⟨rfl,rfl,λh=>?_⟩
  simp at h;exact⟨g,h⟩
 rintro⟨b,c',s',z⟩ ⟨e1,e2,e3⟩;dsimp only at e1 e2 e3;subst e1;subst e2;refine aO (λ_=>aj ⟨TH.zero E,.inl rfl⟩) λhb=>?_
 obtain⟨q1,q2⟩:=e3 hb;refine aR (dx s' E hE A) ?_;refine qM (λx=>((c'.2.length:Int)+1-x.1).toNat) (λx=>0<=x.1/\x.1<=(c'.2.length:Int)+1/\x.2.1=c'/\x.2.2.1.2=s'.2.2.2/\x.2.2.2.2.1.length=s'.2.1.length/\x.2.2.2.2.2.length=s'.2.2.1.length/\∀l∈x.2.2.2.2.2,TL F E l) ?_ ⟨by dsimp only;omega,by dsimp only;omega,rfl,rfl,rfl,rfl,h3⟩;rintro⟨(n:Int),c,⟨(a:Int),ev⟩,z',R,T⟩ ⟨n0,n1,e1,e2,e3,e4,L⟩;dsimp only at n0 n1 e1 e2 e3 e4 L;subst e1;subst e2;refine eO (λg=>?_) λ_=>aj ⟨TH.zero E,.inl rfl⟩
 dsimp only[ak]at g;refine aV (λx=>x.2=(c,(a,s'.2.2.2),z',R,T)/\(x.1=af->0<=a/\a<(c.2.length:Int))) ?_ ?_
 .refine bL (λ_=>aj ⟨rfl,λh=>(by cases h)⟩) λg1=>aj ⟨rfl,λh=>?_⟩
  dsimp only at g1 h;rw[mB]at h;exact⟨g1,h⟩
 rintro⟨b',x⟩ ⟨f1,f2⟩;dsimp only at f1 f2;subst f1;refine aO (λ_=>aj ⟨TH.zero E,.inl rfl⟩) λhb=>?_
 obtain⟨p0,p1⟩:=f2 hb;refine aP p0 p1 (aT ?_);have hi:=hv.i _ (bN (T:=Cg) (xs:=c.2) (j:=a) p0 p1);revert hi;generalize (aI (T:=Cg) _ _)=i;intro hi;refine aR (Gf _) ?_;refine cq (λ_=>aj ⟨⟨by dsimp only;omega,by dsimp only;omega,L,h4,h5⟩,.inr rfl⟩) λhsil=>?_
 refine aK (λ_=>aj ⟨TH.zero E,.inl rfl⟩) λhn=>?_
 dsimp only[ak]at hn;refine aw (Zb E hE i (a,s'.2.2.2) R T (λj hj=>by have:=hi.r j hj;omega) hsil.1 hsil.2 (by omega) (by omega) L) λy hy=>?_
 obtain⟨⟨⟨pc',ev'⟩,ok⟩,R',T'⟩:=y;obtain⟨k1,k2,Z,U⟩:=hy;dsimp only at k1 k2 Z U;refine db (mc Z.symm (db (mc k2.symm (By ?_))));refine dS (λ_=>aj ⟨TH.zero E,.inl rfl⟩) λ_=>aj ?_
 dsimp only;rw[iz (by omega) (by omega)];exact⟨⟨by omega,by omega,rfl,k1,by omega,by omega,U⟩,by omega⟩
abbrev ST:Type:=SY×η×η×Y TT
structure TF (c:Int×List IT) (t:TT):Prop where
 p0:0<=t.1
 p1:t.1<(c.2.length:Int)
 r:(t.2.1.length:Int)=c.1
 t:(t.2.2.1.length:Int)=c.1
structure FSx (c:CT) (s:ST):Prop where
 vc:VC c
 cd:∀d∈c.1.2.2.1,0<=d.2/\d.2<(c.1.2.1.length:Int)
 e3:s.1.2.2.2.length=c.1.2.2.2.2.1.length
 ce:s.2.1.length=c.1.1.length
 fu:s.2.2.1.length=c.1.2.2.2.1.length
 th:s.2.2.2.length=c.2.length
 t:∀k:Nat,k<c.2.length->TF (aI (T:=wP) c.2 (k:Int)) (aI (T:=vC) s.2.2.2 (k:Int))
def FQ (L:Y ET) (k:Int) (y:Int):Prop:=1<=y/\LX L k y
structure SV (n:Nat) (L:List ET) (s:ST):Prop where
 sb:SB n s.1
 ln:L.length=n
 t:∀k:Nat,k<s.2.2.2.length->TH (FQ L k) n (aI (T:=vC) s.2.2.2 (k:Int))
theorem SV.ti {n:Nat} {L:Y ET} {s:ST} (h:SV n L s) {k:Int} (h0:0<=k) (h1:k<(s.2.2.2.length:Int)):TH (FQ L k) n (aI (T:=vC) s.2.2.2 k):=by
 have:=h.t k.toNat (by omega);rw[show ((k.toNat:Nat):Int)=k by omega]at this;exact this
structure TG (c:CT) (L:List ET) (sy:SY) (k:Int) (t:TT):Prop where
 ev:t.2.2.2=((fl L k).length:Int)
 wi:(aI (T:=jP) sy.2.2.2 k).1=3\/(aI (T:=jP) sy.2.2.2 k).1=4->(aI (T:=Cg) (aI (T:=wP) c.2 k).2 t.1).1=21
 nw:(fl L k).length=0->(aI (T:=jP) sy.2.2.2 k).1=0\/(aI (T:=jP) sy.2.2.2 k).1=1
structure Ma (c:CT) (L:List ET) (s:ST):Prop where
 ac:Acw c.1 L s.1 s.2.1 s.2.2.1
 t:∀k:Nat,k<s.2.2.2.length->(aI (T:=vC) s.2.2.2 (k:Int)).2.1.length=0\/TG c L s.1 (k:Int) (aI (T:=vC) s.2.2.2 (k:Int))
theorem ahv (c:CT) (s:ST) (hc:CB c):Ok (w_ (c,s)) λb=>b=J->FSx c s:=by
 unfold w_ aY bi dG cY bx iR jw bD aX cR aD cL;refine aV (λx=>x.2=(c,s)/\(x.1=af->VC c/\(∀d∈c.1.2.2.1,0<=d.2/\d.2<(c.1.2.1.length:Int))/\s.1.2.2.2.length=c.1.2.2.2.2.1.length/\s.2.1.length=c.1.1.length/\s.2.2.1.length=c.1.2.2.2.1.length/\s.2.2.2.length=c.2.length)) ?_ ?_
 .refine aw (UA c hc.th hc.ins) λb hb=>?_
  refine dS (λ_=>aj ⟨rfl,λh=>(by cases h)⟩) λh=>?_
  have hv:=hb h;refine aw (Q_ c.1 s.1 (by have:=hv.vl.d;omega)) λb2 z=>?_
  refine dS (λ_=>aj ⟨rfl,λh=>(by cases h)⟩) λh2=>?_
  obtain⟨A,_,_,g4⟩:=z h2;refine cq (λ_=>aj ⟨rfl,λh=>(by cases h)⟩) λk1=>?_
  refine cq (λ_=>aj ⟨rfl,λh=>(by cases h)⟩) λk2=>aj ⟨rfl,λU=>⟨hv,A,g4,?_,?_,?_⟩⟩
  .dsimp only[ak]at k1;omega
  .dsimp only[ak]at k2;omega
  .simp at U;omega
 rintro⟨b,x⟩ ⟨e,hb⟩;dsimp only at e hb;subst e;refine aO (λ_=>aj λh=>(by cases h)) λh=>?_
 obtain⟨hv,hcd,Z,hce,hfu,hth⟩:=hb h;have hcl:=hc.th;refine b7 c.2.length (λi x=>x.1=(i:Int)/\x.2=(c,s)/\∀k:Nat,k<i->TF (aI (T:=wP) c.2 (k:Int)) (aI (T:=vC) s.2.2.2 (k:Int))) ?_ ?_ ⟨rfl,rfl,λk hk=>by omega⟩
 .rintro i ⟨a,x⟩ hi ⟨e1,e2,e3⟩;dsimp only at e1 e2 e3;subst e1;subst e2;refine du ?_;have hin:((i:Nat):Int)<(c.2.length:Int):=by omega
  refine cg (aT ?_);refine aV (λx=>x.2=(c,s)/\(x.1=af->TF (aI (T:=wP) c.2 (i:Int)) (aI (T:=vC) s.2.2.2 (i:Int)))) ?_ ?_
  .refine bL (λ_=>aj ⟨rfl,λh=>(by cases h)⟩) λg0=>?_
   refine aP (by dsimp only;omega) hin (aT ?_);refine eO (λ_=>aj ⟨rfl,λh=>(by cases h)⟩) λA=>?_
   refine aP (by dsimp only;omega) hin (aT ?_);refine cq (λ_=>aj ⟨rfl,λh=>(by cases h)⟩) λg2=>?_
   refine aP (by dsimp only;omega) hin (aT (aj ⟨rfl,λL=>⟨g0,A,g2,?_⟩⟩));simp at L;exact L
  rintro⟨b,x⟩ ⟨e,hb⟩;dsimp only at e hb;subst e;refine aO (λ_=>aj λh=>(by cases h)) λh=>aj ?_
  dsimp only;refine ⟨gH (by omega),rfl,λk hk=>?_⟩;rcases ci k i with h1|h1
  .exact e3 k h1
  .rw[show k=i by omega];exact hb h
 .rintro⟨a,x⟩ ⟨e1,e2,e3⟩;dsimp only at e1 e2 e3;subst e1;subst e2;refine dv (aj λ_=>⟨hv,hcd,Z,hce,hfu,hth,e3⟩)
theorem ajz {i:IT} (h:i.1=6\/i.1=7\/i.1=27\/i.1=10):i.2.1∈iY i:=by
 unfold iY;(repeat' split)<;>simp<;>omega
theorem ajy {i:IT} (h:i.1=8\/i.1=9\/i.1=26):i.2.2.1∈iY i:=by
 unfold iY;(repeat' split)<;>simp<;>omega
theorem ap2 {i:IT} (h:i.1=7\/i.1=9):i.2.2.2.1∈iY i:=by
 unfold iY;(repeat' split)<;>simp<;>omega
structure KD (op k:Int):Prop where
 ld:k=3->op=6\/op=7
 st:k=4->op=8\/op=9
 br:k=5->op=10
 se:k=22->op=26
 ge:k=23->op=27
 e1:k=2->op=28
 n1:¬k=1
 n17:¬k=17
 wt:k=16->op=21
 e2:¬k=0->op=28->k=2
 d7:¬k=0->op=7->k=3
 d8:¬k=0->op=8->k=4
 d9:¬k=0->op=9->k=4
 d10:¬k=0->op=10->k=5
 d26:¬k=0->op=26->k=22
theorem ahc (op:Int):Ok (w7 op) λk=>KD op k:=by
 unfold w7 bx kO aD;refine aV (λx=>x.2=[3,3,4,4,5,6,7,8,9,10,11,12,13,14,15,16,18,19,20,21,22,23,2]/\(x.1=af->6<=op/\op<=28)) ?_ ?_
 .refine bL (λ_=>aj ⟨rfl,λh=>(by cases h)⟩) λg=>aj ⟨rfl,λh=>?_⟩
  dsimp only at h;rw[gy]at h;exact⟨g,h⟩
 rintro⟨b,x⟩ ⟨e,hb⟩;dsimp only at e hb;subst e;refine aO (λ_=>aj (by constructor<;>first|decide|(intro h;first|(exact (h rfl).elim)|(cases h;done)))) λh=>?_
 obtain⟨h1,h2⟩:=hb h;dsimp only;rw[iz (n:=op-6) (by omega) (by omega)];refine aP (by omega) (by simp;omega) (aP (by omega) (by simp;omega) (aT (aj ?_)));have:op=6\/op=7\/op=8\/op=9\/op=10\/op=11\/op=12\/op=13\/op=14\/op=15\/op=16\/op=17\/op=18\/op=19\/op=20\/op=21\/op=22\/op=23\/op=24\/op=25\/op=26\/op=27\/op=28:=by omega
 rcases this with rfl|rfl|rfl|rfl|rfl|rfl|rfl|rfl|rfl|rfl|rfl|rfl|rfl|rfl|rfl|rfl|rfl|rfl|rfl|rfl|rfl|rfl|rfl;all_goals (constructor<;>decide)
theorem UL (a n:Int):Ok (rX (a,n)) λr=>n=2->r=0\/r=1:=by
 unfold rX bx bC aD;refine bL (λ_=>aj λh=>(by dsimp only at *;omega)) λh=>?_
 dsimp only at h;refine zM (by dsimp only;omega) ?_;have t1:=Int.tmod_lt_of_pos a (b:=n) (by omega);have s:=Int.lt_tmod_of_pos a (b:=n) (by omega);refine aV (λr=>n=2->r=0\/r=1) (bL (λg=>aj λh2=>?_) λg=>aj λh2=>?_) λ_ h=>aj h
 .dsimp only at g ⊢;rw[iz (by omega) (by omega)];omega
 .dsimp only at g ⊢;omega
theorem RP (i:IT) (t:TT) (hr:∀j∈iY i,0<=j/\j<(t.2.1.length:Int)):Ok (sZ (i,t)) λo=>(i.1=7->i.2.2.1=3->i.2.2.2.2.1=2->o=3\/o=4)/\(i.1=9->i.2.1=3->i.2.2.2.2.1=2->o=3\/o=4):=by
 unfold sZ aY bi bu be bD aD;have s:i.1=7\/i.1=9->0<=i.2.2.2.1/\i.2.2.2.1<(t.2.1.length:Int):=λh=>hr _ (by
  unfold iY;(repeat' split)<;>simp<;>omega)
 have z:∀{o:Int},¬i.1=7->¬i.1=9->(i.1=7->i.2.2.1=3->i.2.2.2.2.1=2->o=3\/o=4)/\(i.1=9->i.2.1=3->i.2.2.2.2.1=2->o=3\/o=4):=λh1 h2=>⟨λh=>(h1 h).elim,λh=>(h2 h).elim⟩
 have wk:∀{b r n:Int},b=3->n=2->(n=2->r=0\/r=1)->bm .i64 (b+r)=3\/bm .i64 (b+r)=4:=λh1 h2 a=>by
  have:=a h2;rw[iz (by omega) (by omega)];omega
 refine aV (λx=>x.2=(i,t)/\(x.1=J->i.1=6\/i.1=27)) (aK (λh=>aj ⟨rfl,λ_=>.inl h⟩) λ_=>aj ⟨rfl,λh=>.inr (bf h)⟩) ?_;rintro⟨b,x⟩ ⟨e,hb⟩;dsimp only at e hb;subst e;refine aO (λh=>aj (z (by have:=hb h;omega) (by have:=hb h;omega))) λ_=>?_
 refine aK (λh=>?_) λA=>?_
 .exact aP (s (.inl h)).1 (s (.inl h)).2 (aT (aw (UL _ _) λy L=>aj ⟨λ_ a U=>wk a U L,λh9=>by dsimp only at h;omega⟩))
 refine aK (λh=>?_) λZ=>?_
 .exact aP (s (.inr h)).1 (s (.inr h)).2 (aT (aw (UL _ _) λy L=>aj ⟨λh7=>(A h7).elim,λ_ a U=>wk a U L⟩))
 refine aV (λ_=>True) ?_ λx _=>aO (λ_=>aj (z A Z)) λ_=>aj (z A Z)
 with_reducible repeat' first|(refine OS.ok ?_;constructor)|refine IM.mk λ_=>?_
 all_goals trivial
theorem akl {w:WT} (a:w.1=C0) {b n:Int} (h:AR w b n):b=3/\n=2:=by
 obtain⟨b0,b1,ix,sz,sn⟩:=h;rw[a]at b1 ix sz sn;have b1:b<5:=b1;rcases (by omega:b=0\/b=1\/b=2\/b=3\/b=4) with rfl|rfl|rfl|rfl|rfl
 .exact (sz rfl).elim
 .exact (sz rfl).elim
 .exact (sz rfl).elim
 .exact⟨rfl,sn.symm⟩
 .exact ca ix (by decide)
theorem ajr {w:WT} (a:w.1=C0) {o:Int} (h:o=3\/o=4):¬(aI (T:=O_) w.1 o).2.2.1=0:=by
 rw[a];rcases h with rfl|rfl<;>decide
structure PE (n:Nat) (c:CT) (s:ST) (t:Int) (e:ET):Prop where
 fs:FSx c s
 t0:0<=t
 t1:t<(c.2.length:Int)
 et:e.1=t
 d:e.2.2.2.2.2.1.length<=n
 f:e.2.2.2.2.2.2.length<=n
 a:e.2.1=3\/e.2.1=23\/e.2.1=5->0<=(aI (T:=Cg) (aI (T:=wP) c.2 t).2 (aI (T:=vC) s.2.2.2 t).1).2.1/\(aI (T:=Cg) (aI (T:=wP) c.2 t).2 (aI (T:=vC) s.2.2.2 t).1).2.1<((aI (T:=vC) s.2.2.2 t).2.1.length:Int)
 b:e.2.1=4\/e.2.1=22->0<=(aI (T:=Cg) (aI (T:=wP) c.2 t).2 (aI (T:=vC) s.2.2.2 t).1).2.2.1/\(aI (T:=Cg) (aI (T:=wP) c.2 t).2 (aI (T:=vC) s.2.2.2 t).1).2.2.1<((aI (T:=vC) s.2.2.2 t).2.1.length:Int)
structure PS (c:CT) (L:List ET) (s:ST) (t:Int) (e:ET):Prop where
 tg:TG c L s.1 t (aI (T:=vC) s.2.2.2 t)
 s1:e.2.1=1\/e.2.1=2->e.2.2.2.2.1= -1
 s2:¬(e.2.1=1\/e.2.1=2)->0<=e.2.2.2.2.1/\e.2.2.2.2.1<c.1.2.2.2.2.2.length/\(aI (T:=yJ) c.1.2.2.2.2.2 e.2.2.2.2.1).1=t
 de:0<e.2.2.2.2.2.1.length->e.2.1=5\/(e.2.1=3\/e.2.1=4)/\¬(aI (T:=O_) c.1.1 e.2.2.1).2.2.1=0
 fr:0<e.2.2.2.2.2.2.length->e.2.1=4\/e.2.1=22
 da:Ip e.2.2.2.2.2.1
 dq:∀y∈e.2.2.2.2.2.1,FQ L t y
 fa:Ip e.2.2.2.2.2.2
 fq:∀y∈e.2.2.2.2.2.2,FQ L t y
 wt:e.2.1=16->(aI (T:=Cg) (aI (T:=wP) c.2 t).2 (aI (T:=vC) s.2.2.2 t).1).1=21
theorem XF (n:Nat) (hn:n<=100000) (c:CT) (L:Y ET) (s:ST) (hc:CB c) (hs:SV n L s) (hI:Ma c L s) (t:Int):Ok (oo (c,s,t)) λy=>y.2=J->PE n c s t y.1/\PS c L s t y.1:=by
 unfold oo aY bi bu bO dG cY be bx bC bD aX aD;refine aV (λx=>x.2.1=c/\x.2.2.1=s/\(x.1=af->FSx c s/\0<=t/\t<(c.2.length:Int))) ?_ ?_
 .refine aw (ahv c s hc) λb hb=>?_
  refine dS (λ_=>aj ⟨rfl,rfl,λh=>(by cases h)⟩) λh=>?_
  refine bL (λ_=>aj ⟨rfl,rfl,λh=>(by cases h)⟩) λg0=>aj ⟨rfl,rfl,λg1=>?_⟩
  dsimp only at g0 g1;rw[mB]at g1;exact⟨hb h,g0,g1⟩
 rintro⟨b,c',s',z⟩ ⟨e1,e2,hb⟩;dsimp only at e1 e2 hb;subst e1;subst e2;refine aO (λ_=>aj λh=>(by cases h)) λh=>?_
 obtain⟨hf,t0,t1⟩:=hb h;have hk:((t.toNat:Nat):Int)=t:=by omega
 have htf:=hf.t t.toNat (by omega);rw[hk]at htf;have hvt:=hf.vc.t _ (bN (T:=wP) (xs:=c'.2) (j:=t) t0 t1);have hth:=hs.ti t0 (by rw[hf.th];exact t1);have key:∀e:ET,e.1=t->e.2.2.2.2.2.1.length<=n->e.2.2.2.2.2.2.length<=n->(e.2.1=1\/e.2.1=17\/KD (aI (T:=Cg) (aI (T:=wP) c'.2 t).2 (aI (T:=vC) s'.2.2.2 t).1).1 e.2.1)->PE n c' s' t e:=by
  intro e h1 h2 h3 U;have hi:=hvt.i _ (bN (T:=Cg) (xs:=(aI (T:=wP) c'.2 t).2) (j:=(aI (T:=vC) s'.2.2.2 t).1) htf.p0 htf.p1);refine ⟨hf,t0,t1,h1,h2,h3,λh5=>?_,λh5=>?_⟩
  .rw[htf.r];rcases U with U|U|U
   .omega
   .omega
   .refine hi.r _ ?_;have a1:=U.ld;have a2:=U.ge;have a3:=U.br;revert a1 a2 a3 h5;generalize (aI (T:=Cg) (aI (T:=wP) c'.2 t).2 (aI (T:=vC) s'.2.2.2 t).1)=i;intro h5 a1 a2 a3;exact ajz (by omega)
  .rw[htf.r];rcases U with U|U|U
   .omega
   .omega
   .refine hi.r _ ?_;have a1:=U.st;have a2:=U.se;revert a1 a2 h5;generalize (aI (T:=Cg) (aI (T:=wP) c'.2 t).2 (aI (T:=vC) s'.2.2.2 t).1)=i;intro h5 a1 a2;exact ajy (by omega)
 have hir:=(hvt.i _ (bN (T:=Cg) (xs:=(aI (T:=wP) c'.2 t).2) (j:=(aI (T:=vC) s'.2.2.2 t).1) htf.p0 htf.p1)).r;rw[<- htf.r]at hir;have hrg:=hc.rg _ (bN (T:=wP) (xs:=c'.2) (j:=t) t0 t1);have htg:TG c' L s'.1 t (aI (T:=vC) s'.2.2.2 t):=by
  have:=hI.t t.toNat (by rw[hf.th];omega);rw[hk]at this;refine this.resolve_left λh=>?_
  have:=htf.r;omega
 have hvj:=hf.vc.j t.toNat (by omega);rw[hk]at hvj;have hvj:=hvj _ (bN (T:=Cg) (xs:=(aI (T:=wP) c'.2 t).2) (j:=(aI (T:=vC) s'.2.2.2 t).1) htf.p0 htf.p1);have hC0:=hc.wx.c;refine aP t0 (by dsimp only;rw[hf.th];exact t1) (aT ?_);refine aP t0 t1 (aT ?_);refine aP htf.p0 htf.p1 (aT ?_);have t4:t<(s'.1.2.2.2.length:Int):=by rw[hf.e3,<-hf.vc.tl];exact t1
 have tz:(aI (T:=vC) s'.2.2.2 t).2.2.1.length=(aI (T:=vC) s'.2.2.2 t).2.1.length:=by have:=htf.r;have:=htf.t;omega
 refine aP t0 t4 (aT ?_);refine aK (λ_=>aj λ_=>⟨key _ rfl (iK _) (iK _) (.inl rfl),⟨htg,λ_=>rfl,λh=>(h (.inl rfl)).elim,λh=>(by cases h),λh=>(by cases h),trivial,λy hy=>(by cases hy),trivial,λy hy=>(by cases hy),λh=>(by cases h)⟩⟩) λ_=>?_
 refine aK (λU=>aP t0 t4 (aT (aj λ_=>⟨key _ rfl (iK _) (iK _) (.inr (.inl rfl)),⟨htg,λh=>(by rcases h with h|h<;>cases h),λ_=>hvj.si (by rw[htg.wi (.inr U)];decide),λh=>(by cases h),λh=>(by cases h),trivial,λy hy=>(by cases hy),trivial,λy hy=>(by cases hy),λh=>(by cases h)⟩⟩))) λ_=>?_
 refine aK (λ_=>?_) λ_=>aj λh=>(by cases h)
 refine aw (ahc _) λk A=>?_
 refine aw (RP _ _ hir) λo ho=>?_
 refine aK (λ_=>aj λh=>(by cases h)) λZ=>?_
 have fin:∀e:ET,e.1=t->e.2.1=k->e.2.2.1=o->e.2.2.2.2.1=(aI (T:=Cg) (aI (T:=wP) c'.2 t).2 (aI (T:=vC) s'.2.2.2 t).1).2.2.2.2.2->(0<e.2.2.2.2.2.1.length->(aI (T:=Cg) (aI (T:=wP) c'.2 t).2 (aI (T:=vC) s'.2.2.2 t).1).1=10\/(aI (T:=Cg) (aI (T:=wP) c'.2 t).2 (aI (T:=vC) s'.2.2.2 t).1).1=7\/(aI (T:=Cg) (aI (T:=wP) c'.2 t).2 (aI (T:=vC) s'.2.2.2 t).1).1=9)->(0<e.2.2.2.2.2.2.length->(aI (T:=Cg) (aI (T:=wP) c'.2 t).2 (aI (T:=vC) s'.2.2.2 t).1).1=8\/(aI (T:=Cg) (aI (T:=wP) c'.2 t).2 (aI (T:=vC) s'.2.2.2 t).1).1=9\/(aI (T:=Cg) (aI (T:=wP) c'.2 t).2 (aI (T:=vC) s'.2.2.2 t).1).1=26)->TL (FQ L t) n e.2.2.2.2.2.1->TL (FQ L t) n e.2.2.2.2.2.2->PE n c' s' t e/\PS c' L s' t e:=by
  intro e h1 h2 h3 U h5 h6 h7 h8;refine ⟨key e h1 h7.len h8.len (.inr (.inr (h2▸A))),htg,λh=>?_,λh=>?_,λh=>?_,λh=>?_,h7.a,h7.f,h8.a,h8.f,λh=>A.wt (h2▸h)⟩
  .rw[U];rw[h2]at h;exact hvj.se (A.e1 (h.resolve_left A.n1))
  .rw[U];rw[h2]at h;exact hvj.si λh9=>h (.inr (A.e2 Z h9))
  .rw[h2,h3];rcases h5 h with g|g|g
   .exact .inl (A.d10 Z g)
   .obtain⟨q1,q2⟩:=akl hC0 (hvj.a7 g);exact .inr ⟨.inl (A.d7 Z g),ajr hC0 (ho.1 g q1 q2)⟩
   .obtain⟨q1,q2⟩:=akl hC0 (hvj.a9 g);exact .inr ⟨.inr (A.d9 Z g),ajr hC0 (ho.2 g q1 q2)⟩
  .rw[h2];rcases h6 h with g|g|g
   .exact .inl (A.d8 Z g)
   .exact .inl (A.d9 Z g)
   .exact .inr (A.d26 Z g)
 clear key htg hvj ho hC0 hrg;revert fin htf hvt hth hir tz A;dsimp only;generalize (aI (T:=vC) s'.2.2.2 t)=th;generalize (aI (T:=Cg) _ th.1)=i;intro htf hvt hth hir tz A fin;have hlen:∀{j:Int},0<=j->j<(th.2.2.1.length:Int)->TL (FQ L t) n (aI (T:=.sl (.int .i64)) th.2.2.1 j):=λh0 h1=>hth.l _ (bN (T:=.sl (.int .i64)) (xs:=th.2.2.1) h0 h1)
 have hA:i.1=10->0<=i.2.1/\i.2.1<(th.2.2.1.length:Int):=λh=>by
  rw[tz];exact hir _ (ajz (.inr (.inr (.inr h))))
 have hB:i.1=8\/i.1=9\/i.1=26->0<=i.2.2.1/\i.2.2.1<(th.2.2.1.length:Int):=λh=>by
  rw[tz];exact hir _ (ajy (h))
 have hC:i.1=7\/i.1=9->0<=i.2.2.2.1/\i.2.2.2.1<(th.2.2.1.length:Int):=λh=>by
  rw[tz];exact hir _ (ap2 (h))
 refine aV (λx=>x.2.1=th/\x.2.2.1=i/\(x.2.2.2.1.1=t/\x.2.2.2.1.2.1=k/\x.2.2.2.1.2.2.1=o/\x.2.2.2.1.2.2.2.2=i.2.2.2.2.2)/\TL (FQ L t) n x.2.2.2.2/\(0<x.2.2.2.2.length->i.1=10\/i.1=7\/i.1=9)) ?_ ?_
 .refine aK (λh=>?_) λ_=>?_
  .obtain⟨a0,a1⟩:=hA h;refine aP a0 a1 (aT ?_);have:=hlen a0 a1;exact bd (dz this.len (by omega)) (by omega) (aj ⟨rfl,rfl,⟨rfl,rfl,rfl,rfl⟩,this,λ_=>.inl h⟩)
  refine aV (λx=>x.2.2.1=th/\x.2.2.2.1=i/\(x.2.2.2.2.1=t/\x.2.2.2.2.2.1=k/\x.2.2.2.2.2.2.1=o/\x.2.2.2.2.2.2.2.2=i.2.2.2.2.2)/\(x.1=J->i.1=7\/i.1=9)) ?_ ?_
  .refine aK (λh=>aj ⟨rfl,rfl,⟨rfl,rfl,rfl,rfl⟩,λ_=>.inl h⟩) λ_=>aj ⟨rfl,rfl,⟨rfl,rfl,rfl,rfl⟩,λh=>.inr (bf h)⟩
  rintro⟨b,z0,th',i',t',k',z1⟩ ⟨e1,e2,e3,hb9⟩;dsimp only at e1 e2 e3 hb9;subst e1;subst e2;refine aO (λh=>?_) λ_=>aj ⟨rfl,rfl,e3,TL.nil n,λh=>(by cases h)⟩
  obtain⟨a0,a1⟩:=hC (hb9 h);refine aP a0 a1 (aT ?_);have:=hlen a0 a1;exact bd (dz this.len (by omega)) (by omega) (aj ⟨rfl,rfl,e3,this,λ_=>.inr (hb9 h)⟩)
 rintro⟨z0,th',i',⟨t',k',z1⟩,ds⟩ ⟨e1,e2,e3,hd,hd2⟩;dsimp only at e1 e2 e3 hd hd2;subst e1;subst e2;refine aV (λx=>(x.2.1.1=t/\x.2.1.2.1=k/\x.2.1.2.2.1=o/\x.2.1.2.2.2.2=i'.2.2.2.2.2)/\x.2.2.1=ds/\TL (FQ L t) n x.2.2.2/\(0<x.2.2.2.length->i'.1=8\/i'.1=9\/i'.1=26)) ?_ ?_
 .refine aV (λx=>x.2=(z0,th',i',(t',k',z1),ds)/\(x.1=J->i'.1=8\/i'.1=9\/i'.1=26)) ?_ ?_
  .exact aK (λh=>aj ⟨rfl,λ_=>.inl h⟩) λ_=>aK (λh=>aj ⟨rfl,λ_=>.inr (.inl h)⟩) λ_=>aj ⟨rfl,λh=>.inr (.inr (bf h))⟩
  rintro⟨b,x⟩ ⟨e,hb9⟩;dsimp only at e hb9;subst e;refine aO (λh=>?_) λ_=>aj ⟨e3,rfl,TL.nil n,λh=>(by cases h)⟩
  obtain⟨a0,a1⟩:=hB (hb9 h);refine aP a0 a1 (aT ?_);have:=hlen a0 a1;exact bd (dz this.len (by omega)) (by omega) (aj ⟨e3,rfl,this,λ_=>hb9 h⟩)
 rintro⟨z2,⟨t2,k2,o2,z3,si⟩,d2,f2⟩ ⟨e1,e2,h1,h2⟩;dsimp only at e1 e2 h1 h2;subst e2;obtain⟨g1,g2,g3,g4⟩:=e1;exact aj λ_=>fin _ g1 g2 g3 g4 hd2 h2 hd h1
theorem alc {n:Nat} {k:Int} (h0:0<=k) (h1:k<n):(aI (T:=jP) (Y_ n) k).1=0\/(aI (T:=jP) (Y_ n) k).1=1:=by
 have hm:=bN (T:=jP) (xs:=Y_ n) h0 (by rw[Iy];exact h1);revert hm;generalize aI (T:=jP) (Y_ n) k=z;intro hm;cases n with
 |zero=>cases hm
 |succ n=>
  rcases bl.1 hm with rfl|hm
  .exact .inr rfl
  .rw[qg hm];exact .inl rfl
theorem XB (c:CT) (hvt:jS c=M J) (hv:VC c):Ok (uQ c) λs=>SV 0 [] s/\Ma c [] s:=by
 unfold uQ aY bi bu cF bO dG cY fH bx wQ bC bD aX cR aD cL;refine aR hvt (dS (λh=>(by cases h)) λ_=>?_);obtain⟨vc,vl,vd,vf,_,vt,_⟩:=id hv.vl;have htl:=hv.tl;refine aR (LO c.1 hv.vl) ?_;refine b7 c.1.1.length (λi x=>x.1=(i:Int)/\x.2.1=c/\x.2.2.2.1=Rc c.1/\x.2.2.2.2=(c.1.1.take i).map λc=>c.2.2.2.2) ?_ ?_ ⟨rfl,rfl,rfl,rfl⟩
 .rintro i ⟨a,c',z,Z,l⟩ hi ⟨e1,e2,e3,A⟩;dsimp only at e1 e2 e3 A;subst e1;subst e2;subst e3;subst A;refine du ?_;refine cg (aT (bd (by simp;omega) (by omega) (aj ?_)));dsimp only;exact⟨gH (by omega),rfl,rfl,by rw[nh (T:=O_) hi,cM];rfl⟩
 rintro⟨a,c',z,Z,l⟩ ⟨e1,e2,e3,A⟩;dsimp only at e1 e2 e3 A;subst e1;subst e2;subst e3;rw[cP]at A;subst A;refine dv ?_;refine aw (P:=λs=>SV 0 [] s/\Ma c' [] s) ?_ λr hr=>aj hr
 refine b7 c'.1.2.2.2.1.length (λi x=>x.1=(i:Int)/\x.2.1=c'/\x.2.2.2.1=Rc c'.1/\x.2.2.2.2.1=ce0 c'.1/\x.2.2.2.2.2=aA i 0) ?_ ?_ ⟨rfl,rfl,rfl,rfl,rfl⟩
 .rintro i ⟨a,c,z,y,l,f⟩ hi ⟨e1,e2,e3,A,L⟩;dsimp only at e1 e2 e3 A L;subst e1;subst e2;subst e3;subst L;refine du ?_;refine bd (by simp;omega) (by omega) (aj ?_);dsimp only;exact⟨gH (by omega),rfl,rfl,A,by rw[pt]⟩
 rintro⟨a,c,z,y,l,f⟩ ⟨e1,e2,e3,A,L⟩;dsimp only at e1 e2 e3 A L;subst e1;subst e2;subst e3;subst A;subst L;refine dv ?_;refine aw (P:=λs=>SV 0 [] s/\Ma c [] s) ?_ λr hr=>aj hr
 refine b7 c.2.length (λi x=>x.1=(i:Int)/\x.2.1=c/\x.2.2.2.1=Rc c.1/\x.2.2.2.2.1=ce0 c.1/\x.2.2.2.2.2.1=fu0 c.1/\x.2.2.2.2.2.2.length=i/\∀t∈x.2.2.2.2.2.2,(∀F,TH F 0 t)/\t.2.2.2=0) ?_ ?_ ⟨rfl,rfl,rfl,rfl,rfl,rfl,λt ht=>(by cases ht)⟩
 .rintro i ⟨a,c,z,y,l,f,th⟩ hi ⟨e1,e2,e3,A,e4b,L,U⟩;dsimp only at e1 e2 e3 A e4b L U;subst e1;subst e2;subst e3;refine du ?_;have hin:((i:Nat):Int)<(c.2.length:Int):=by omega
  have hvt:=hv.t _ (bN (T:=wP) (xs:=c.2) (j:=(i:Int)) (by omega) hin);have q0:=hvt.r0;have q1:=hvt.r1;refine aP (by dsimp only;omega) hin (aT ?_);refine db (db (dI q0 (dI (dk _) (bd (by dsimp only;omega) (by omega) ?_))));refine aP (by dsimp only;omega) hin (aT ?_);refine db (db (dI q0 (dI (dk _) (bd (by dsimp only;omega) (by omega) ?_))));refine bd (by simp;omega) (by omega) (aj ?_);dsimp only;refine ⟨gH (by omega),rfl,rfl,A,e4b,by simp;omega,λt ht=>?_⟩;rcases bP.1 ht with h|h
  .exact U t h
  .rw[aJ]at h;subst h;refine ⟨λF=>⟨?_,?_,λl hl=>?_,dk _,dk _⟩,rfl⟩
   .dsimp only;rw[bU];omega
   .dsimp only;rw[bU];omega
   .rw[qg hl];exact TL.nil 0
 .rintro⟨a,c,z,y,l,f,th⟩ ⟨e1,e2,e3,A,e4b,L,U⟩;dsimp only at e1 e2 e3 A e4b L U;subst e1;subst e2;subst e3;subst A;subst e4b;refine dv (aj ?_);have hm:∀k:Nat,k<th.length->_:=λk hk=>U _ (bN (T:=vC) (xs:=th) (j:=(k:Int)) (by omega) (by omega))
  refine ⟨⟨Vk hv.vl,rfl,λk hk=>(hm k hk).1 _⟩,⟨.nil,λk hk=>.inr ?_⟩⟩;dsimp only at hk;have hst:=alc (n:=c.1.2.2.2.2.1.length) (k:=(k:Int)) (by omega) (by omega);exact⟨(hm k hk).2,λh=>(by rcases hst with q|q<;>rcases h with h|h<;>exact ca (q.symm.trans h) (by decide)),λ_=>hst⟩
theorem Ja {th:Y (Int×Int×Bool)} {t x j:Int} (h0:0<=t) (h1:t<th.length) (hj:0<=j):(aI (T:=jP) (yK th t x) j).1=if j=t then x else (aI (T:=jP) th j).1:=by
 unfold yK;rw[sk (T:=jP) _ _ _ _ h0 h1 hj];split<;>rfl
theorem ake {th:Y (Int×Int×Bool)} {t x j:Int} (h0:0<=t) (h1:t<th.length) (hj:0<=j):(aI (T:=jP) (cdP th t x) j).1=(aI (T:=jP) th j).1:=by
 unfold cdP;rw[sk (T:=jP) _ _ _ _ h0 h1 hj];split
 .rename_i h;rw[h]
 .rfl
theorem akk {th:Y (Int×Int×Bool)} {t j:Int} {x:Bool} (h0:0<=t) (h1:t<th.length) (hj:0<=j):(aI (T:=jP) (atP th t x) j).1=(aI (T:=jP) th j).1:=by
 unfold atP;rw[sk (T:=jP) _ _ _ _ h0 h1 hj];split
 .rename_i h;rw[h]
 .rfl
theorem ak3 {j:Int} (hj:0<=j):∀(l:η) (th:Y (Int×Int×Bool)),(∀u:Int,u∈l->0<=u/\u<th.length)->(aI (T:=jP) (Ds th l) j).1=if j∈l then 4 else (aI (T:=jP) th j).1
 |[],th,_=>by simp[Ds]
 |x::r,th,h=>by
  have a:=h x (c8 ..);have s:=ak3 hj r (yK th x 4) λu hu=>by unfold yK;rw[bW];exact h u (cC _ hu)
  have e:Ds th (x::r)=Ds (yK th x 4) r:=rfl;rw[e,s,Ja a.1 a.2 hj];by_cases h1:j∈r
  .rw[aC h1,aC (cC _ h1)]
  .rw[ax h1];by_cases h2:j=x
   .rw[aC h2,aC (by rw[h2];exact c8 ..)]
   .rw[ax h2,ax λh=>(bl.1 h).elim h2 h1]
theorem IW {l:η} (u:Int) (hl:¬l.length=0):B6 l u∈l:=by
 unfold B6;rw[ax hl];split
 .rename_i h;exact tS.1 h
 .exact bN (T:=.int .i64) (by omega) (by omega)
theorem Us {w:WT} {s:SY} {t k o u v:Int} {sy:SY} (h:(sy,v)=rJ w s t k o u):rJ w s t k o v=(sy,v):=by
 by_cases hk:k=18
 .subst hk;rw[F']at h ⊢;by_cases hl:(wl s.2.2.2 o s.2.2.2.length).length=0
  .rw[aC hl]at h ⊢;exact h.symm
  .rw[ax hl]at h ⊢;have hm:=IW u hl;generalize wl s.2.2.2 o s.2.2.2.length=l at h hl hm ⊢;obtain⟨rfl,rfl⟩:=Prod.mk.inj h;have:B6 l (B6 l u)=B6 l u:=by
    rw[B6,ax hl,aC (tS.2 hm)]
   rw[this]
 .rw[YV _ _ _ _ _ _ u hk,<-h]
theorem amb {w:WT} {s:SY} {t k o:Int} (u:Int) (he:EN w s t k o) (hr:XE w s t k o) {j:Int} (h0:0<=j):(¬j=t->(aI (T:=jP) (rJ w s t k o u).1.2.2.2 j).1=(aI (T:=jP) s.2.2.2 j).1\/((aI (T:=jP) s.2.2.2 j).1=3/\(aI (T:=jP) (rJ w s t k o u).1.2.2.2 j).1=4)\/((aI (T:=jP) s.2.2.2 j).1=0/\(aI (T:=jP) (rJ w s t k o u).1.2.2.2 j).1=1))/\(j=t->¬k=16->¬(aI (T:=jP) (rJ w s t k o u).1.2.2.2 j).1=3/\¬(aI (T:=jP) (rJ w s t k o u).1.2.2.2 j).1=4):=by
 have t0:=he.t0;have t1:t<s.2.2.2.length:=by have:=he.t1;have:=he.e3;omega
 have L:=hr.r;have hml:∀u:Int,u∈wl s.2.2.2 o s.2.2.2.length->0<=u/\u<s.2.2.2.length:=λu hu=>⟨(rM.1 hu).1,(rM.1 hu).2.1⟩
 have h3:∀u:Int,u∈wl s.2.2.2 o s.2.2.2.length->(aI (T:=jP) s.2.2.2 u).1=3:=λu hu=>by
  have:=(rM.1 hu).2.2;unfold I4 at this;rw[al]at this;exact bf this.1
 have same:¬k=1->¬k=17->∀th:Y (Int×Int×Bool),(aI (T:=jP) th j).1=(aI (T:=jP) s.2.2.2 j).1->(¬j=t->(aI (T:=jP) th j).1=(aI (T:=jP) s.2.2.2 j).1\/((aI (T:=jP) s.2.2.2 j).1=3/\(aI (T:=jP) th j).1=4)\/((aI (T:=jP) s.2.2.2 j).1=0/\(aI (T:=jP) th j).1=1))/\(j=t->¬k=16->¬(aI (T:=jP) th j).1=3/\¬(aI (T:=jP) th j).1=4):=λa b th h=>⟨λ_=>.inl h,λh2 _=>by rw[h,h2,L a b];decide⟩
 have st:∀x:Int,¬x=3\/k=16->¬x=4->∀th:Y (Int×Int×Bool),(aI (T:=jP) th j).1=(if j=t then x else (aI (T:=jP) s.2.2.2 j).1)->(¬j=t->(aI (T:=jP) th j).1=(aI (T:=jP) s.2.2.2 j).1\/((aI (T:=jP) s.2.2.2 j).1=3/\(aI (T:=jP) th j).1=4)\/((aI (T:=jP) s.2.2.2 j).1=0/\(aI (T:=jP) th j).1=1))/\(j=t->¬k=16->¬(aI (T:=jP) th j).1=3/\¬(aI (T:=jP) th j).1=4):=λx hx hx4 th h=>⟨λhn=>.inl (by rw[h,ax hn]),λh2 h16=>by rw[h,aC h2];exact⟨hx.resolve_right h16,hx4⟩⟩
 have U:∀x:Int,t<(yK s.2.2.2 t x).length:=λx=>by unfold yK;rw[bW];exact t1
 by_cases k1:k=1
 .subst k1;exact st 2 (.inl (by decide)) (by decide) _ (Ja t0 t1 h0)
 by_cases k2:k=2
 .subst k2;exact st 5 (.inl (by decide)) (by decide) _ (Ja t0 t1 h0)
 by_cases k16:k=16
 .subst k16;exact st 3 (.inr rfl) (by decide) _ ((ake t0 (U _) h0).trans (Ja t0 t1 h0))
 by_cases z:k=17
 .subst z;exact st 2 (.inl (by decide)) (by decide) _ ((ake t0 (U _) h0).trans (Ja t0 t1 h0))
 by_cases k14:k=14
 .subst k14;exact same k1 z _ (akk t0 t1 h0)
 by_cases k15:k=15
 .subst k15;exact same k1 z _ (akk t0 t1 h0)
 by_cases k18:k=18
 .subst k18;rw[F'];by_cases hl:(wl s.2.2.2 o s.2.2.2.length).length=0
  .rw[aC hl];exact same k1 z _ rfl
  .rw[ax hl];have hc:=IW u hl;have Z:=hml _ hc;have A:=h3 _ hc;dsimp only;rw[Ja Z.1 Z.2 h0];generalize B6 (wl s.2.2.2 o s.2.2.2.length) u=c at A;by_cases hj:j=c
   .rw[aC hj,hj];exact⟨λ_=>.inr (.inl ⟨A,rfl⟩),λh _=>by rw[h,L k1 z]at A;exact ca A (by decide)⟩
   .rw[ax hj];exact⟨λ_=>.inl rfl,λh _=>by rw[h,L k1 z];decide⟩
 by_cases k19:k=19
 .subst k19;show (_->(aI (T:=jP) (Ds _ _) j).1=_\/_/\(aI (T:=jP) (Ds _ _) j).1=_\/_/\(aI (T:=jP) (Ds _ _) j).1=_)/\(_->_->¬(aI (T:=jP) (Ds _ _) j).1=_/\¬(aI (T:=jP) (Ds _ _) j).1=_)
  rw[ak3 h0 _ _ hml];by_cases hj:j∈wl s.2.2.2 o s.2.2.2.length
  .rw[aC hj];have A:=h3 _ hj;exact⟨λ_=>.inr (.inl ⟨A,rfl⟩),λh _=>by rw[h,L k1 z]at A;exact ca A (by decide)⟩
  .rw[ax hj];exact⟨λ_=>.inl rfl,λh _=>by rw[h,L k1 z];decide⟩
 by_cases k20:k=20
 .subst k20;obtain⟨o0,o1⟩:=he.nm.th (.inl rfl);obtain⟨hot,ho0⟩:=hr.sp rfl;have o1':o<s.2.2.2.length:=by rw[he.e3];exact o1
  show (_->(aI (T:=jP) (yK _ _ _) j).1=_\/_/\(aI (T:=jP) (yK _ _ _) j).1=_\/_/\(aI (T:=jP) (yK _ _ _) j).1=_)/\(_->_->¬(aI (T:=jP) (yK _ _ _) j).1=_/\¬(aI (T:=jP) (yK _ _ _) j).1=_)
  rw[Ja o0 o1' h0];by_cases hj:j=o
  .rw[aC hj,hj];exact⟨λ_=>.inr (.inr ⟨ho0,rfl⟩),λh _=>(hot h).elim⟩
  .rw[ax hj];exact⟨λ_=>.inl rfl,λh _=>by rw[h,L k1 z];decide⟩
 refine same k1 z _ ?_;unfold rJ;rw[ax k1,ax k2];repeat' split
 all_goals first|rfl|omega
theorem ahu {e e':ET} (h1:e'.1=e.1) (h2:e'.2.1=e.2.1) (t:Int):fl [e'] t=fl [e] t:=by
 by_cases h:e.1=t
 .rw[Af h,Af (h1.trans h)];unfold ug;rw[h2]
 .rw[xo h,xo (λg=>h (h1.symm.trans g))]
theorem ajk {L:Y ET} {e e':ET} (h1:e'.1=e.1) (h2:e'.2.1=e.2.1) {k y:Int} (h:FQ (L++[e]) k y):FQ (L++[e']) k y:=by
 unfold FQ LX at h ⊢;rw[vo,ahu h1 h2,<-vo];exact h
theorem J_ {T:Ty} (xs:Y T.den) (i k:Nat) (x:T.den) (hi:i<xs.length):aI (xs.set i x) (k:Int)=if k=i then x else aI xs (k:Int):=by
 refine (sk xs (i:Int) (k:Int) x (by omega) (by omega) (by omega)).trans ?_;by_cases h:k=i
 .rw[aC h,aC (by omega)]
 .rw[ax h,ax (by omega)]
def SQ (n:Nat) (c:CT) (L:Y ET) (y:ST×ET×Bool):Prop:=y.2.2=J->SV (n+1) (L++[y.2.1]) y.1/\Ma c (L++[y.2.1]) y.1/\EvF c.1 y.2.1/\EvS y.2.1
theorem aj1 {n:Nat} (hn:n+1<=100000) {c:CT} {L:Y ET} {s:ST} {i:Nat} {kd o v0 si:Int} {ds fs:η} {sy:SY} (hs:SV n L s) (hI:Ma c L s) (hp:PE n c s (i:Int) ((i:Int),kd,o,v0,si,ds,fs)) (hm:PS c L s (i:Int) ((i:Int),kd,o,v0,si,ds,fs)) (he:EN c.1 s.1 (i:Int) kd o) (hr:XE c.1 s.1 (i:Int) kd o) (ha:AP n s.1 sy) (a:Int) (ce fu:η) (t':TT) (hap:(rJ c.1 s.1 (i:Int) kd o a).1=sy) (hva:VA c.1 s.1 s.2.1 s.2.2.1 (i:Int) kd o a) (hce:ce=ceP s.2.1 ((i:Int),kd,o,a,si,ds,fs)) (hfu:fu=fuP s.2.2.1 ((i:Int),kd,o,a,si,ds,fs)) (ht:TH (FQ (L++[((i:Int),kd,o,v0,si,ds,fs)]) (i:Int)) (n+1) t') (hg:t'.2.1.length=0\/t'.2.2.2=bm .i64 ((aI (T:=vC) s.2.2.2 (i:Int)).2.2.2+1)/\(kd=16->t'.1=(aI (T:=vC) s.2.2.2 (i:Int)).1)):SQ n c L ((sy,ce,fu,s.2.2.2.set i t'),((i:Int),kd,o,a,si,ds,fs),J):=by
 intro _;have q1:=hp.t1;have q2:=hp.fs.th;have q3:=hp.fs.e3;have q4:=hp.fs.vc.tl;have hil:i<s.2.2.2.length:=by omega
 have hln:=hs.ln;refine ⟨⟨ha.toSB hs.sb hn,by simp[hln],λk hk=>?_⟩,⟨?_,λk hk=>?_⟩,⟨he.nm,he.t0,he.t1,he.cd⟩,⟨dz hp.d (by omega),dz hp.f (by omega)⟩⟩
 .dsimp only at hk ⊢;rw[ig]at hk;rw[J_ (T:=vC) _ _ _ _ hil];split
  .rename_i h;subst h;exact ht.mono (bX _) λy z=>ajk (e:=((k:Int),kd,o,v0,si,ds,fs)) (e':=((k:Int),kd,o,a,si,ds,fs)) rfl rfl z
  .exact (hs.t k hk).mono (by omega) λy z=>⟨z.1,z.2.app _⟩
 .rw[<- hap,hce,hfu];exact hI.ac.snoc (e:=((i:Int),kd,o,a,si,ds,fs)) ⟨he,hr,hm.s1,hm.s2,hm.de,hm.fr,⟨hm.da,λx U=>⟨(hm.dq x U).1,(hm.dq x U).2.lt⟩⟩,⟨hm.fa,λx U=>⟨(hm.fq x U).1,(hm.fq x U).2.lt⟩⟩,λy z=>(hm.dq y z).2,λy z=>(hm.fq y z).2,hva⟩
 .dsimp only at hk ⊢;rw[ig]at hk;rw[J_ (T:=vC) _ _ _ _ hil];obtain⟨Jb,st2⟩:=amb a he hr (j:=(k:Int)) (by omega);rw[hap]at Jb st2;have hfl:=Yv L (i:Int);split
  .rename_i h;subst h;rcases hg with hg|⟨g1,g2⟩
   .exact .inl hg
   .refine .inr ⟨?_,λhw=>?_,λA=>?_⟩
    .rw[g1,hm.tg.ev,vo,Af rfl,gH (by omega)];simp
    .have Z:kd=16:=wq λh=>hw.elim (st2 rfl h).1 (st2 rfl h).2
     rw[g2 Z];exact hm.wt Z
    .rw[vo,Af rfl]at A;simp at A
  .rename_i h;have hki:¬(k:Int)=(i:Int):=by omega
   have hfo:∀e:ET,e.1=(i:Int)->fl (L++[e]) (k:Int)=fl L (k:Int):=λe h=>by
    rw[vo,xo (by rw[h];exact λh=>hki h.symm),ii]
   have Jb:=Jb hki;refine (hI.t k hk).imp id λg=>⟨by rw[hfo _ rfl];exact g.ev,λhw=>g.wi (by
    rcases Jb with h1|⟨h1,_⟩|⟨_,h1⟩
    .rw[<- h1];exact hw
    .exact .inl h1
    .exact hw.elim (λh=>ca (h1.symm.trans h) (by decide)) λh=>ca (h1.symm.trans h) (by decide)),λA=>?_⟩
   rw[hfo _ rfl]at A;have g2:=g.nw A;rcases Jb with h1|⟨h1,_⟩|⟨_,h1⟩
   .rw[h1];exact g2
   .exact (g2.elim (λh=>ca (h1.symm.trans h) (by decide)) λh=>ca (h1.symm.trans h) (by decide))
   .exact .inr h1
theorem kP {α R:Type} (o:I α):au o (λ_=>(D:I R))=D:=by cases o<;>rfl
theorem pl {R:Type} (b:Bool):chk b (λ_=>(D:I R))=D:=by cases b<;>rfl
theorem sL {α R:Type} (x:α):lt x (λ_=>(D:I R))=D:=rfl
def Rf {R:Type} (o:I R) (Q:R->Prop):Prop:=o=D\/Ok o Q
theorem Rf.or {R:Type} {a b:I R} {Q:R->Prop} (s:Rf a Q) (hb:Rf b Q):Rf (orE a b) Q:=by
 rcases s with rfl|⟨y,rfl,h⟩
 .exact hb
 .exact .inr ⟨y,rfl,h⟩
theorem Ok.orL {R:Type} {a b:I R} {Q:R->Prop} (s:Ok a Q):Ok (orE a b) Q:=by
 obtain⟨y,rfl,h⟩:=s;exact⟨y,rfl,h⟩
theorem Rf.orR {R:Type} {a b:I R} {Q:R->Prop} (s:Rf a Q) (hb:Ok b Q):Ok (orE a b) Q:=by
 rcases s with rfl|⟨y,rfl,h⟩
 .exact hb
 .exact⟨y,rfl,h⟩
theorem I_ {n:Nat} (hn:n+1<=100000) {c:CT} {L:Y ET} {s:ST} {t u:Int} (hc:CB c) (hs:SV n L s) (Z:Ma c L s) (G:I (ST×ET×Bool)->Prop) (hG:∀y,SQ n c L y->G (M y)) (k:ET×Bool->SY×Int×Bool->I (ST×ET×Bool))
 (hk:∀e v sy,PE n c s t e->PS c L s t e->EN c.1 s.1 t e.2.1 e.2.2.1->XE c.1 s.1 t e.2.1 e.2.2.1->AP n s.1 sy->(sy,v)=rJ c.1 s.1 t e.2.1 e.2.2.1 u->G (k (e,J) (sy,v,J))):
 G (au (oo (c,s,t)) λz=>aF (!z.2) (M ((([],0,[],[]),[],[],[]),(0,0,0,0,0,[],[]),af)) (au (pR (c.1,s.1,t,z.1.2.1,z.1.2.2.1,u)) λA=>aF (!A.2.2) (M ((([],0,[],[]),[],[],[]),(0,0,0,0,0,[],[]),af)) (k z A))):=by
 have U:=hG ((([],0,[],[]),[],[],[]),(0,0,0,0,0,[],[]),af) λh=>(by cases h)
 obtain⟨⟨e,b⟩,h1,h2⟩:=XF n (by omega) c L s hc hs Z t;rw[h1,Yh];cases b with
 |false=>exact U
 |true=>
  obtain⟨hp,hm⟩:=h2 rfl;have hcd:c.1.2.2.1.length<=1000:=by have:=hp.fs.vc.vl.d;omega
  obtain⟨⟨sy,v,b⟩,h3,h4,_,_⟩:=U1 c.1 s.1 hs.sb hcd t e.2.1 e.2.2.1 u;have e0:∀{R:Type} (a b:I R),aF (!J) a b=b:=λ_ _=>rfl
  rw[e0,h3,Yh];cases b with
  |false=>exact U
  |true=>
   obtain⟨g1,g2,g3,g4⟩:=h4 rfl;exact hk e v sy hp hm g1 g2 g3 g4
theorem abl {E:Nat} {L:Y ET} (sy:SY) (ce fu:η) (a:TT) (h:SV E L (sy,ce,fu,[a])) (hce:ce.length<=1000) (hfu:fu.length<=1000):nP (sy,ce,fu,[a])=M ((sy.2.1,sy.1,sy.2.2.1,sy.2.2.2).1,(sy.2.1,sy.1,sy.2.2.1,sy.2.2.2).2.1,(sy.2.1,sy.1,sy.2.2.1,sy.2.2.2).2.2.1,(sy.2.1,sy.1,sy.2.2.1,sy.2.2.2).2.2.2,(([]:η)++ce),(([]:η)++fu),((a.1,a.2.2.2),a.2.1,a.2.2.1)):=by
 have z:=h.sb.n1;have s:TH (FQ L 0) E a:=h.t 0 (by simp);refine b_ ?_;unfold nP aY bO bx bC bD aX;refine aR (rC sy h.sb) ?_;refine bd (by simp;omega) (by omega) (bd (by simp;omega) (by omega) ?_);refine fK rfl (bh rfl (aT (aR (dx a E z s) ?_)));exact gd rfl (aj rfl)
theorem UX (sy:SY) (ce fu:η) (l:Y TT) (h0:l.length<=4) (h:l.length≠1):nP (sy,ce,fu,l)=D:=by
 unfold nP aY bO bx bC bD aX;rcases l with _|⟨a,_|⟨b,_|⟨c,_|⟨d,_|⟨e,l⟩⟩⟩⟩⟩;all_goals first|(simp at h;done)|(exfalso;simp only[cf]at h0;omega)|simp[fR,kP,pl,sL,bcT,bcF]
theorem abk {E:Nat} {L:Y ET} (sy:SY) (ce fu:η) (a b:TT) (h:SV E L (sy,ce,fu,[a,b])) (hce:ce.length<=1000) (hfu:fu.length<=1000):nO (sy,ce,fu,[a,b])=M ((sy.2.1,sy.1,sy.2.2.1,sy.2.2.2).1,(sy.2.1,sy.1,sy.2.2.1,sy.2.2.2).2.1,(sy.2.1,sy.1,sy.2.2.1,sy.2.2.2).2.2.1,(sy.2.1,sy.1,sy.2.2.1,sy.2.2.2).2.2.2,(([]:η)++ce),(([]:η)++fu),(((a.1,a.2.2.2),a.2.1,a.2.2.1).1.1,((a.1,a.2.2.2),a.2.1,a.2.2.1).1.2,((b.1,b.2.2.2),b.2.1,b.2.2.1).1.1,((b.1,b.2.2.2),b.2.1,b.2.2.1).2.1,((b.1,b.2.2.2),b.2.1,b.2.2.1).2.2,((b.1,b.2.2.2),b.2.1,b.2.2.1).1.2),((a.1,a.2.2.2),a.2.1,a.2.2.1).2):=by
 have s:=h.sb.n1;have z:TH (FQ L 0) E a:=h.t 0 (by simp);have hb:TH (FQ L 1) E b:=h.t 1 (by simp);refine b_ ?_;unfold nO aY bO bx bC bD aX;refine aR (rC sy h.sb) ?_;refine bd (by simp;omega) (by omega) (bd (by simp;omega) (by omega) ?_);refine fK rfl (bh rfl (aT (aR (dx a E s z) ?_)));refine fK rfl (bh rfl (aT (aR (dx b E s hb) ?_)));exact gd rfl (aj rfl)
theorem UW (sy:SY) (ce fu:η) (l:Y TT) (h0:l.length<=4) (h:l.length≠2):nO (sy,ce,fu,l)=D:=by
 unfold nO aY bO bx bC bD aX;rcases l with _|⟨a,_|⟨b,_|⟨c,_|⟨d,_|⟨e,l⟩⟩⟩⟩⟩;all_goals first|(simp at h;done)|(exfalso;simp only[cf]at h0;omega)|simp[fR,kP,pl,sL,bcT,bcF]
theorem abj {E:Nat} {L:Y ET} (sy:SY) (ce fu:η) (a b:TT) (h:SV E L (sy,ce,fu,[a,b])) (hce:ce.length<=1000) (hfu:fu.length<=1000):nN (sy,ce,fu,[a,b])=M ((sy.2.1,sy.1,sy.2.2.1,sy.2.2.2).1,(sy.2.1,sy.1,sy.2.2.1,sy.2.2.2).2.1,(sy.2.1,sy.1,sy.2.2.1,sy.2.2.2).2.2.1,(sy.2.1,sy.1,sy.2.2.1,sy.2.2.2).2.2.2,(([]:η)++ce),(([]:η)++fu),((((a.1,a.2.2.2),a.2.1,a.2.2.1).1.1,((a.1,a.2.2.2),a.2.1,a.2.2.1).2.1,((a.1,a.2.2.2),a.2.1,a.2.2.1).2.2,((a.1,a.2.2.2),a.2.1,a.2.2.1).1.2),((b.1,b.2.2.2),b.2.1,b.2.2.1).1),((b.1,b.2.2.2),b.2.1,b.2.2.1).2):=by
 have s:=h.sb.n1;have z:TH (FQ L 0) E a:=h.t 0 (by simp);have hb:TH (FQ L 1) E b:=h.t 1 (by simp);refine b_ ?_;unfold nN aY bO bx bC bD aX;refine aR (rC sy h.sb) ?_;refine bd (by simp;omega) (by omega) (bd (by simp;omega) (by omega) ?_);refine fK rfl (bh rfl (aT (aR (dx a E s z) ?_)));refine fK rfl (bh rfl (aT (aR (dx b E s hb) ?_)));exact gd rfl (aj rfl)
theorem UV (sy:SY) (ce fu:η) (l:Y TT) (h0:l.length<=4) (h:l.length≠2):nN (sy,ce,fu,l)=D:=by
 unfold nN aY bO bx bC bD aX;rcases l with _|⟨a,_|⟨b,_|⟨c,_|⟨d,_|⟨e,l⟩⟩⟩⟩⟩;all_goals first|(simp at h;done)|(exfalso;simp only[cf]at h0;omega)|simp[fR,kP,pl,sL,bcT,bcF]
theorem abi {E:Nat} {L:Y ET} (sy:SY) (ce fu:η) (a b c:TT) (h:SV E L (sy,ce,fu,[a,b,c])) (hce:ce.length<=1000) (hfu:fu.length<=1000):nM (sy,ce,fu,[a,b,c])=M ((sy.2.1,sy.1,sy.2.2.1,sy.2.2.2).1,(sy.2.1,sy.1,sy.2.2.1,sy.2.2.2).2.1,(sy.2.1,sy.1,sy.2.2.1,sy.2.2.2).2.2.1,(sy.2.1,sy.1,sy.2.2.1,sy.2.2.2).2.2.2,(([]:η)++ce),(([]:η)++fu),(((a.1,a.2.2.2),a.2.1,a.2.2.1).1.1,((a.1,a.2.2.2),a.2.1,a.2.2.1).1.2,(((b.1,b.2.2.2),b.2.1,b.2.2.1).1.1,((b.1,b.2.2.2),b.2.1,b.2.2.1).2.1,((b.1,b.2.2.2),b.2.1,b.2.2.1).2.2,((b.1,b.2.2.2),b.2.1,b.2.2.1).1.2),((c.1,c.2.2.2),c.2.1,c.2.2.1).1.1,((c.1,c.2.2.2),c.2.1,c.2.2.1).2.1,((c.1,c.2.2.2),c.2.1,c.2.2.1).2.2,((c.1,c.2.2.2),c.2.1,c.2.2.1).1.2),((a.1,a.2.2.2),a.2.1,a.2.2.1).2):=by
 have s:=h.sb.n1;have z:TH (FQ L 0) E a:=h.t 0 (by simp);have hb:TH (FQ L 1) E b:=h.t 1 (by simp);have hc:TH (FQ L 2) E c:=h.t 2 (by simp);refine b_ ?_;unfold nM aY bO bx bC bD aX;refine aR (rC sy h.sb) ?_;refine bd (by simp;omega) (by omega) (bd (by simp;omega) (by omega) ?_);refine fK rfl (bh rfl (aT (aR (dx a E s z) ?_)));refine fK rfl (bh rfl (aT (aR (dx b E s hb) ?_)));refine fK rfl (bh rfl (aT (aR (dx c E s hc) ?_)));exact gd rfl (aj rfl)
theorem UU (sy:SY) (ce fu:η) (l:Y TT) (h0:l.length<=4) (h:l.length≠3):nM (sy,ce,fu,l)=D:=by
 unfold nM aY bO bx bC bD aX;rcases l with _|⟨a,_|⟨b,_|⟨c,_|⟨d,_|⟨e,l⟩⟩⟩⟩⟩;all_goals first|(simp at h;done)|(exfalso;simp only[cf]at h0;omega)|simp[fR,kP,pl,sL,bcT,bcF]
theorem abh {E:Nat} {L:Y ET} (sy:SY) (ce fu:η) (a b c:TT) (h:SV E L (sy,ce,fu,[a,b,c])) (hce:ce.length<=1000) (hfu:fu.length<=1000):nL (sy,ce,fu,[a,b,c])=M ((sy.2.1,sy.1,sy.2.2.1,sy.2.2.2).1,(sy.2.1,sy.1,sy.2.2.1,sy.2.2.2).2.1,(sy.2.1,sy.1,sy.2.2.1,sy.2.2.2).2.2.1,(sy.2.1,sy.1,sy.2.2.1,sy.2.2.2).2.2.2,(([]:η)++ce),(([]:η)++fu),((((a.1,a.2.2.2),a.2.1,a.2.2.1).1.1,((a.1,a.2.2.2),a.2.1,a.2.2.1).2.1,((a.1,a.2.2.2),a.2.1,a.2.2.1).2.2,((a.1,a.2.2.2),a.2.1,a.2.2.1).1.2),((b.1,b.2.2.2),b.2.1,b.2.2.1).1.1,((b.1,b.2.2.2),b.2.1,b.2.2.1).1.2,((c.1,c.2.2.2),c.2.1,c.2.2.1).1.1,((c.1,c.2.2.2),c.2.1,c.2.2.1).2.1,((c.1,c.2.2.2),c.2.1,c.2.2.1).2.2,((c.1,c.2.2.2),c.2.1,c.2.2.1).1.2),((b.1,b.2.2.2),b.2.1,b.2.2.1).2):=by
 have s:=h.sb.n1;have z:TH (FQ L 0) E a:=h.t 0 (by simp);have hb:TH (FQ L 1) E b:=h.t 1 (by simp);have hc:TH (FQ L 2) E c:=h.t 2 (by simp);refine b_ ?_;unfold nL aY bO bx bC bD aX;refine aR (rC sy h.sb) ?_;refine bd (by simp;omega) (by omega) (bd (by simp;omega) (by omega) ?_);refine fK rfl (bh rfl (aT (aR (dx a E s z) ?_)));refine fK rfl (bh rfl (aT (aR (dx b E s hb) ?_)));refine fK rfl (bh rfl (aT (aR (dx c E s hc) ?_)));exact gd rfl (aj rfl)
theorem UT (sy:SY) (ce fu:η) (l:Y TT) (h0:l.length<=4) (h:l.length≠3):nL (sy,ce,fu,l)=D:=by
 unfold nL aY bO bx bC bD aX;rcases l with _|⟨a,_|⟨b,_|⟨c,_|⟨d,_|⟨e,l⟩⟩⟩⟩⟩;all_goals first|(simp at h;done)|(exfalso;simp only[cf]at h0;omega)|simp[fR,kP,pl,sL,bcT,bcF]
theorem abg {E:Nat} {L:Y ET} (sy:SY) (ce fu:η) (a b c:TT) (h:SV E L (sy,ce,fu,[a,b,c])) (hce:ce.length<=1000) (hfu:fu.length<=1000):nK (sy,ce,fu,[a,b,c])=M ((sy.2.1,sy.1,sy.2.2.1,sy.2.2.2).1,(sy.2.1,sy.1,sy.2.2.1,sy.2.2.2).2.1,(sy.2.1,sy.1,sy.2.2.1,sy.2.2.2).2.2.1,(sy.2.1,sy.1,sy.2.2.1,sy.2.2.2).2.2.2,(([]:η)++ce),(([]:η)++fu),((((a.1,a.2.2.2),a.2.1,a.2.2.1).1.1,((a.1,a.2.2.2),a.2.1,a.2.2.1).2.1,((a.1,a.2.2.2),a.2.1,a.2.2.1).2.2,((a.1,a.2.2.2),a.2.1,a.2.2.1).1.2),(((b.1,b.2.2.2),b.2.1,b.2.2.1).1.1,((b.1,b.2.2.2),b.2.1,b.2.2.1).2.1,((b.1,b.2.2.2),b.2.1,b.2.2.1).2.2,((b.1,b.2.2.2),b.2.1,b.2.2.1).1.2),((c.1,c.2.2.2),c.2.1,c.2.2.1).1),((c.1,c.2.2.2),c.2.1,c.2.2.1).2):=by
 have s:=h.sb.n1;have z:TH (FQ L 0) E a:=h.t 0 (by simp);have hb:TH (FQ L 1) E b:=h.t 1 (by simp);have hc:TH (FQ L 2) E c:=h.t 2 (by simp);refine b_ ?_;unfold nK aY bO bx bC bD aX;refine aR (rC sy h.sb) ?_;refine bd (by simp;omega) (by omega) (bd (by simp;omega) (by omega) ?_);refine fK rfl (bh rfl (aT (aR (dx a E s z) ?_)));refine fK rfl (bh rfl (aT (aR (dx b E s hb) ?_)));refine fK rfl (bh rfl (aT (aR (dx c E s hc) ?_)));exact gd rfl (aj rfl)
theorem US (sy:SY) (ce fu:η) (l:Y TT) (h0:l.length<=4) (h:l.length≠3):nK (sy,ce,fu,l)=D:=by
 unfold nK aY bO bx bC bD aX;rcases l with _|⟨a,_|⟨b,_|⟨c,_|⟨d,_|⟨e,l⟩⟩⟩⟩⟩;all_goals first|(simp at h;done)|(exfalso;simp only[cf]at h0;omega)|simp[fR,kP,pl,sL,bcT,bcF]
theorem abf {E:Nat} {L:Y ET} (sy:SY) (ce fu:η) (a b c d:TT) (h:SV E L (sy,ce,fu,[a,b,c,d])) (hce:ce.length<=1000) (hfu:fu.length<=1000):nJ (sy,ce,fu,[a,b,c,d])=M ((sy.2.1,sy.1,sy.2.2.1,sy.2.2.2).1,(sy.2.1,sy.1,sy.2.2.1,sy.2.2.2).2.1,(sy.2.1,sy.1,sy.2.2.1,sy.2.2.2).2.2.1,(sy.2.1,sy.1,sy.2.2.1,sy.2.2.2).2.2.2,(([]:η)++ce),(([]:η)++fu),(((a.1,a.2.2.2),a.2.1,a.2.2.1).1.1,((a.1,a.2.2.2),a.2.1,a.2.2.1).1.2,(((b.1,b.2.2.2),b.2.1,b.2.2.1).1.1,((b.1,b.2.2.2),b.2.1,b.2.2.1).2.1,((b.1,b.2.2.2),b.2.1,b.2.2.1).2.2,((b.1,b.2.2.2),b.2.1,b.2.2.1).1.2),(((c.1,c.2.2.2),c.2.1,c.2.2.1).1.1,((c.1,c.2.2.2),c.2.1,c.2.2.1).2.1,((c.1,c.2.2.2),c.2.1,c.2.2.1).2.2,((c.1,c.2.2.2),c.2.1,c.2.2.1).1.2),((d.1,d.2.2.2),d.2.1,d.2.2.1).1.1,((d.1,d.2.2.2),d.2.1,d.2.2.1).2.1,((d.1,d.2.2.2),d.2.1,d.2.2.1).2.2,((d.1,d.2.2.2),d.2.1,d.2.2.1).1.2),((a.1,a.2.2.2),a.2.1,a.2.2.1).2):=by
 have s:=h.sb.n1;have z:TH (FQ L 0) E a:=h.t 0 (by simp);have hb:TH (FQ L 1) E b:=h.t 1 (by simp);have hc:TH (FQ L 2) E c:=h.t 2 (by simp);have hd:TH (FQ L 3) E d:=h.t 3 (by simp);refine b_ ?_;unfold nJ aY bO bx bC bD aX;refine aR (rC sy h.sb) ?_;refine bd (by simp;omega) (by omega) (bd (by simp;omega) (by omega) ?_);refine fK rfl (bh rfl (aT (aR (dx a E s z) ?_)));refine fK rfl (bh rfl (aT (aR (dx b E s hb) ?_)));refine fK rfl (bh rfl (aT (aR (dx c E s hc) ?_)));refine fK rfl (bh rfl (aT (aR (dx d E s hd) ?_)));exact gd rfl (aj rfl)
theorem UR (sy:SY) (ce fu:η) (l:Y TT) (h0:l.length<=4) (h:l.length≠4):nJ (sy,ce,fu,l)=D:=by
 unfold nJ aY bO bx bC bD aX;rcases l with _|⟨a,_|⟨b,_|⟨c,_|⟨d,_|⟨e,l⟩⟩⟩⟩⟩;all_goals first|(simp at h;done)|(exfalso;simp only[cf]at h0;omega)|simp[fR,kP,pl,sL,bcT,bcF]
theorem abe {E:Nat} {L:Y ET} (sy:SY) (ce fu:η) (a b c d:TT) (h:SV E L (sy,ce,fu,[a,b,c,d])) (hce:ce.length<=1000) (hfu:fu.length<=1000):nI (sy,ce,fu,[a,b,c,d])=M ((sy.2.1,sy.1,sy.2.2.1,sy.2.2.2).1,(sy.2.1,sy.1,sy.2.2.1,sy.2.2.2).2.1,(sy.2.1,sy.1,sy.2.2.1,sy.2.2.2).2.2.1,(sy.2.1,sy.1,sy.2.2.1,sy.2.2.2).2.2.2,(([]:η)++ce),(([]:η)++fu),((((a.1,a.2.2.2),a.2.1,a.2.2.1).1.1,((a.1,a.2.2.2),a.2.1,a.2.2.1).2.1,((a.1,a.2.2.2),a.2.1,a.2.2.1).2.2,((a.1,a.2.2.2),a.2.1,a.2.2.1).1.2),((b.1,b.2.2.2),b.2.1,b.2.2.1).1.1,((b.1,b.2.2.2),b.2.1,b.2.2.1).1.2,(((c.1,c.2.2.2),c.2.1,c.2.2.1).1.1,((c.1,c.2.2.2),c.2.1,c.2.2.1).2.1,((c.1,c.2.2.2),c.2.1,c.2.2.1).2.2,((c.1,c.2.2.2),c.2.1,c.2.2.1).1.2),((d.1,d.2.2.2),d.2.1,d.2.2.1).1.1,((d.1,d.2.2.2),d.2.1,d.2.2.1).2.1,((d.1,d.2.2.2),d.2.1,d.2.2.1).2.2,((d.1,d.2.2.2),d.2.1,d.2.2.1).1.2),((b.1,b.2.2.2),b.2.1,b.2.2.1).2):=by
 have s:=h.sb.n1;have z:TH (FQ L 0) E a:=h.t 0 (by simp);have hb:TH (FQ L 1) E b:=h.t 1 (by simp);have hc:TH (FQ L 2) E c:=h.t 2 (by simp);have hd:TH (FQ L 3) E d:=h.t 3 (by simp);refine b_ ?_;unfold nI aY bO bx bC bD aX;refine aR (rC sy h.sb) ?_;refine bd (by simp;omega) (by omega) (bd (by simp;omega) (by omega) ?_);refine fK rfl (bh rfl (aT (aR (dx a E s z) ?_)));refine fK rfl (bh rfl (aT (aR (dx b E s hb) ?_)));refine fK rfl (bh rfl (aT (aR (dx c E s hc) ?_)));refine fK rfl (bh rfl (aT (aR (dx d E s hd) ?_)));exact gd rfl (aj rfl)
theorem UQ (sy:SY) (ce fu:η) (l:Y TT) (h0:l.length<=4) (h:l.length≠4):nI (sy,ce,fu,l)=D:=by
 unfold nI aY bO bx bC bD aX;rcases l with _|⟨a,_|⟨b,_|⟨c,_|⟨d,_|⟨e,l⟩⟩⟩⟩⟩;all_goals first|(simp at h;done)|(exfalso;simp only[cf]at h0;omega)|simp[fR,kP,pl,sL,bcT,bcF]
theorem abd {E:Nat} {L:Y ET} (sy:SY) (ce fu:η) (a b c d:TT) (h:SV E L (sy,ce,fu,[a,b,c,d])) (hce:ce.length<=1000) (hfu:fu.length<=1000):nG (sy,ce,fu,[a,b,c,d])=M ((sy.2.1,sy.1,sy.2.2.1,sy.2.2.2).1,(sy.2.1,sy.1,sy.2.2.1,sy.2.2.2).2.1,(sy.2.1,sy.1,sy.2.2.1,sy.2.2.2).2.2.1,(sy.2.1,sy.1,sy.2.2.1,sy.2.2.2).2.2.2,(([]:η)++ce),(([]:η)++fu),((((a.1,a.2.2.2),a.2.1,a.2.2.1).1.1,((a.1,a.2.2.2),a.2.1,a.2.2.1).2.1,((a.1,a.2.2.2),a.2.1,a.2.2.1).2.2,((a.1,a.2.2.2),a.2.1,a.2.2.1).1.2),(((b.1,b.2.2.2),b.2.1,b.2.2.1).1.1,((b.1,b.2.2.2),b.2.1,b.2.2.1).2.1,((b.1,b.2.2.2),b.2.1,b.2.2.1).2.2,((b.1,b.2.2.2),b.2.1,b.2.2.1).1.2),((c.1,c.2.2.2),c.2.1,c.2.2.1).1.1,((c.1,c.2.2.2),c.2.1,c.2.2.1).1.2,((d.1,d.2.2.2),d.2.1,d.2.2.1).1.1,((d.1,d.2.2.2),d.2.1,d.2.2.1).2.1,((d.1,d.2.2.2),d.2.1,d.2.2.1).2.2,((d.1,d.2.2.2),d.2.1,d.2.2.1).1.2),((c.1,c.2.2.2),c.2.1,c.2.2.1).2):=by
 have s:=h.sb.n1;have z:TH (FQ L 0) E a:=h.t 0 (by simp);have hb:TH (FQ L 1) E b:=h.t 1 (by simp);have hc:TH (FQ L 2) E c:=h.t 2 (by simp);have hd:TH (FQ L 3) E d:=h.t 3 (by simp);refine b_ ?_;unfold nG aY bO bx bC bD aX;refine aR (rC sy h.sb) ?_;refine bd (by simp;omega) (by omega) (bd (by simp;omega) (by omega) ?_);refine fK rfl (bh rfl (aT (aR (dx a E s z) ?_)));refine fK rfl (bh rfl (aT (aR (dx b E s hb) ?_)));refine fK rfl (bh rfl (aT (aR (dx c E s hc) ?_)));refine fK rfl (bh rfl (aT (aR (dx d E s hd) ?_)));exact gd rfl (aj rfl)
theorem UP (sy:SY) (ce fu:η) (l:Y TT) (h0:l.length<=4) (h:l.length≠4):nG (sy,ce,fu,l)=D:=by
 unfold nG aY bO bx bC bD aX;rcases l with _|⟨a,_|⟨b,_|⟨c,_|⟨d,_|⟨e,l⟩⟩⟩⟩⟩;all_goals first|(simp at h;done)|(exfalso;simp only[cf]at h0;omega)|simp[fR,kP,pl,sL,bcT,bcF]
theorem abc {E:Nat} {L:Y ET} (sy:SY) (ce fu:η) (a b c d:TT) (h:SV E L (sy,ce,fu,[a,b,c,d])) (hce:ce.length<=1000) (hfu:fu.length<=1000):nF (sy,ce,fu,[a,b,c,d])=M ((sy.2.1,sy.1,sy.2.2.1,sy.2.2.2).1,(sy.2.1,sy.1,sy.2.2.1,sy.2.2.2).2.1,(sy.2.1,sy.1,sy.2.2.1,sy.2.2.2).2.2.1,(sy.2.1,sy.1,sy.2.2.1,sy.2.2.2).2.2.2,(([]:η)++ce),(([]:η)++fu),((((a.1,a.2.2.2),a.2.1,a.2.2.1).1.1,((a.1,a.2.2.2),a.2.1,a.2.2.1).2.1,((a.1,a.2.2.2),a.2.1,a.2.2.1).2.2,((a.1,a.2.2.2),a.2.1,a.2.2.1).1.2),(((b.1,b.2.2.2),b.2.1,b.2.2.1).1.1,((b.1,b.2.2.2),b.2.1,b.2.2.1).2.1,((b.1,b.2.2.2),b.2.1,b.2.2.1).2.2,((b.1,b.2.2.2),b.2.1,b.2.2.1).1.2),(((c.1,c.2.2.2),c.2.1,c.2.2.1).1.1,((c.1,c.2.2.2),c.2.1,c.2.2.1).2.1,((c.1,c.2.2.2),c.2.1,c.2.2.1).2.2,((c.1,c.2.2.2),c.2.1,c.2.2.1).1.2),((d.1,d.2.2.2),d.2.1,d.2.2.1).1),((d.1,d.2.2.2),d.2.1,d.2.2.1).2):=by
 have s:=h.sb.n1;have z:TH (FQ L 0) E a:=h.t 0 (by simp);have hb:TH (FQ L 1) E b:=h.t 1 (by simp);have hc:TH (FQ L 2) E c:=h.t 2 (by simp);have hd:TH (FQ L 3) E d:=h.t 3 (by simp);refine b_ ?_;unfold nF aY bO bx bC bD aX;refine aR (rC sy h.sb) ?_;refine bd (by simp;omega) (by omega) (bd (by simp;omega) (by omega) ?_);refine fK rfl (bh rfl (aT (aR (dx a E s z) ?_)));refine fK rfl (bh rfl (aT (aR (dx b E s hb) ?_)));refine fK rfl (bh rfl (aT (aR (dx c E s hc) ?_)));refine fK rfl (bh rfl (aT (aR (dx d E s hd) ?_)));exact gd rfl (aj rfl)
theorem UO (sy:SY) (ce fu:η) (l:Y TT) (h0:l.length<=4) (h:l.length≠4):nF (sy,ce,fu,l)=D:=by
 unfold nF aY bO bx bC bD aX;rcases l with _|⟨a,_|⟨b,_|⟨c,_|⟨d,_|⟨e,l⟩⟩⟩⟩⟩;all_goals first|(simp at h;done)|(exfalso;simp only[cf]at h0;omega)|simp[fR,kP,pl,sL,bcT,bcF]
theorem kdx (k:Int):k=1\/k=16\/k=2\/k=3\/k=23\/k=4\/k=22\/k=5\/((k=1)=False/\(k=16)=False/\(k=2)=False/\(k=3)=False/\(k=23)=False/\(k=4)=False/\(k=22)=False/\(k=5)=False):=by
 by_cases h:k=1\/k=16\/k=2\/k=3\/k=23\/k=4\/k=22\/k=5
 .omega
 .repeat (first|exact⟨eq_false (by omega),eq_false (by omega),eq_false (by omega),eq_false (by omega),eq_false (by omega),eq_false (by omega),eq_false (by omega),eq_false (by omega)⟩|refine Or.inr ?_)
def KR {Z:Type} (n:Nat) (a:CT) (L:Y ET) (i:Nat) (u:Int) (l:Y TT) (z:Z) (k:Int->(CT×SY×(ν)×Int×(υ)×ET×(ν)×(η)×(η)×Z×(η)×Y η)->I (ST×ET×Bool)):Prop:=
 ∀(F:Int->Prop) (p:Int) (sy:SY) (kd o v si:Int) (ds fs ce fu R:η) (T:Y η) (ev:Int),
  (kd≠16->kd≠2->Ok (nQ (aI (T:=wP) a.2 (i:Int),(p,R,T,bm .i64 (ev+1)))) λy=>TH F (n+1) y.1/\(y.1.2.1.length=0\/y.1.2.2.2=bm .i64 (ev+1)))->
  (kd=16\/kd=2->TH F (n+1) (p,R,T,bm .i64 (ev+1)))->
  (∀t',TH F (n+1) t'->(t'.2.1.length=0\/t'.2.2.2=bm .i64 (ev+1)/\(kd=16->t'.1=p))->SQ n a L ((sy,ce,fu,l.set i t'),((i:Int),kd,o,v,si,ds,fs),J))->(i:Int)<(a.2.length:Int)->
  ∀s,Ok (k p (a,sy,((i:Int),u),0,(0,0,0,0,0),((i:Int),kd,o,v,si,ds,fs),(s,ev),ce,fu,z,R,T)) (SQ n a L)
theorem B8 {Z:Type} (N i:Nat) {cp:SY×(η)×(η)×Y TT->I (Int×(Y (Int×η))×(θ)×(Y (Int×Int×Bool))×(η)×(η)×Z×(η)×Y η)} {pc ev:Z->Int} {k:Int->(CT×SY×(ν)×Int×(υ)×ET×(ν)×(η)×(η)×Z×(η)×Y η)->I (ST×ET×Bool)} {n:Nat} (hn:n+1<=100000) (A:CT) (L:Y ET) (s:ST) (t u:Int) (hc:CB A) (hs:SV n L s) (hI:Ma A L s)
 (h0:∀sy ce fu (l:Y TT),l.length<=4->l.length≠N->cp (sy,ce,fu,l)=D)
 (h1:∀sy ce fu (l:Y TT),SV n L (sy,ce,fu,l)->ce.length<=1000->fu.length<=1000->l.length=N->i<N/\∃y,cp (sy,ce,fu,l)=M y/\y.2.2.2.2.1=ce/\y.2.2.2.2.2.1=fu/\y.2.2.2.2.2.2.2.1=(aI (T:=vC) l (i:Int)).2.1/\y.2.2.2.2.2.2.2.2=(aI (T:=vC) l (i:Int)).2.2.1/\pc y.2.2.2.2.2.2.1=(aI (T:=vC) l (i:Int)).1/\ev y.2.2.2.2.2.2.1=(aI (T:=vC) l (i:Int)).2.2.2/\KR n A L i u l y.2.2.2.2.2.2.1 k):
 Rf (SG (i:Int) cp pc ev k (A,s,t,u)) (SQ n A L)/\(s.2.2.2.length=N->t=(i:Int)->Ok (SG (i:Int) cp pc ev k (A,s,t,u)) (SQ n A L)):=by
 by_cases hz:s.2.2.2.length=N/\t=(i:Int)
 .obtain⟨hz1,rfl⟩:=hz;suffices h:Ok (SG (i:Int) cp pc ev k (A,s,(i:Int),u)) (SQ n A L) from ⟨.inr h,λ_ _=>h⟩
  unfold SG EW Prod.p11 Prod.p12 aY bi bu cF dZ kY AG C7 Prod.q10 Prod.q11 Prod.q13 bO dG ky Prod.q9 ck be bD kO aD;refine I_ hn hc hs hI (λo=>Ok o (SQ n A L)) (λy h=>aj h) _ λe v sy hp hm he hr ha hq=>?_
  obtain⟨sy0,ce,fu,l⟩:=s;obtain⟨e1,kd,o,e4,site,ds,fs⟩:=e;have het:=hp.et;dsimp only at hz1 he hr ha hq het;subst het;have vl:=hp.fs.vc.vl;have hce:=hp.fs.ce;have hfu:=hp.fs.fu;dsimp only at hce hfu;obtain⟨hiN,⟨q1,q2,q3,q4,ce',fu',z,R0,T0⟩,hcp,g1,g2,g3,g4,hpc,hve,hk⟩:=h1 sy0 ce fu l hs (by have:=vl.c;omega) (by have:=vl.f;omega) hz1;dsimp only at g1 g2 g3 g4 hpc hve hk;rw[g1,g2,g3,g4]at hcp;obtain⟨_,_,nmce,_,_,_,nmfu,_,_,_⟩:=id he.nm;have t1:(i:Int)<(A.2.length:Int):=hp.t1;have htf:TF (aI (T:=wP) A.2 (i:Int)) (aI (T:=vC) l (i:Int)):=hp.fs.t i (by omega);have hA:=hp.a;have hB:=hp.b;dsimp only at hA hB;have hvt:=hp.fs.vc.t _ (bN (T:=wP) (xs:=A.2) (j:=(i:Int)) (by omega) t1);have hci:=hc.ins _ (bN (T:=wP) (xs:=A.2) (j:=(i:Int)) (by omega) t1);have hth:TH (FQ L (i:Int)) n (aI (T:=vC) l (i:Int)):=hs.t i (by dsimp only;omega);have done:=aj1 hn hs hI hp hm he hr ha;have htg:=hm.tg;have hrun:=hr.r;dsimp only at done htg;have hgv:kd=3\/kd=23->FQ (L++[((i:Int),kd,o,e4,site,ds,fs)]) (i:Int) (aI (T:=vC) l (i:Int)).2.2.2:=λh3=>by
   have h2:=hrun (by omega) (by omega);have hn0:¬(fl L (i:Int)).length=0:=λh=>(htg.nw h).elim (λg=>ca (h2.symm.trans g) (by decide)) λg=>ca (h2.symm.trans g) (by decide)
   refine ⟨by rw[htg.ev];omega,LX.last (e:=((i:Int),kd,o,e4,site,ds,fs)) ?_ htg.ev⟩;unfold ug;rcases h3 with h|h
   .rw[aS h];rfl
   .simp[h]
  have vaA:¬kd=3->¬kd=23->¬kd=5->VA A.1 sy0 ce fu (i:Int) kd o v:=λa b c=>⟨λh=>(a h).elim,λh=>(b h).elim,λh=>(c h).elim,λ_ _ _ _ _=>by rw[Us hq]⟩
  have apA:(rJ A.1 sy0 (i:Int) kd o v).1=sy:=by rw[Us hq]
  have apB:¬kd=18->∀v',(rJ A.1 sy0 (i:Int) kd o v').1=sy:=λh v'=>by rw[YV _ _ _ _ _ _ u h,<-hq]
  have keep:∀x∈(aI (T:=vC) l (i:Int)).2.2.1,TL (FQ (L++[((i:Int),kd,o,e4,site,ds,fs)]) (i:Int)) (n+1) x:=λx hx=>(hth.l x hx).mono (by omega) λy U=>⟨U.1,U.2.app _⟩
  clear g3 g4 hm hI hrun htg;revert done hgv keep;generalize FQ (L++[((i:Int),kd,o,e4,site,ds,fs)]) (i:Int)=F;generalize aI (T:=vC) l (i:Int)=th at hcp hpc hve htf hA hB hth ⊢;intro done hgv keep;refine aR hcp ?_;dsimp only;rw[hpc,hve];refine fK (aS rfl) ?_;refine aP (by omega) t1 (aT (aP htf.p0 htf.p1 (aT ?_)));have htz:th.2.2.1.length=th.2.1.length:=by have:=htf.r;have:=htf.t;omega
  have fin:∀(p:Int) (R:η) (T:Y η),R.length=th.2.1.length->T.length=th.2.2.1.length->(∀x∈T,TL F (n+1) x)->Ok (nQ (aI (T:=wP) A.2 (i:Int),(p,R,T,bm .i64 (th.2.2.2+1)))) λy=>TH F (n+1) y.1/\(y.1.2.1.length=0\/y.1.2.2.2=bm .i64 (th.2.2.2+1)):=λp R T h1 h2 h3=>by
   have a1:=hth.e0;have a2:=hth.e1;have a3:=hth.r;have a4:=hth.t;rw[iz (n:=th.2.2.2+1) (by omega) (by omega)];exact aaw (n+1) hn _ hci hvt _ ⟨by dsimp only;omega,by dsimp only;omega,h3,by dsimp only;omega,by dsimp only;omega⟩
  have mark:kd=3\/kd=23->∀j:Int,∀x∈cK th.2.2.1 j [th.2.2.2],TL F (n+1) x:=λh3 j x hx=>by
   rcases Dg hx with h|h
   .exact keep x h
   .rw[h];exact⟨⟨λy U=>(by cases U),trivial⟩,λy U=>by rw[aJ]at U;have:=hth.e0;have:=hth.e1;rw[U];exact⟨by omega,by omega⟩,λy U=>by rw[aJ]at U;rw[U];exact hgv h3⟩
  have nopark:TH F (n+1) (th.1,th.2.1,th.2.2.1,bm .i64 (th.2.2.2+1)):=by
   have a1:=hth.e0;have a2:=hth.e1;rw[iz (n:=th.2.2.2+1) (by omega) (by omega)];exact⟨hth.r,hth.t,keep,by dsimp only;omega,by dsimp only;omega⟩
  clear hp hs hc h0 h1 hcp g1 g2 hr ha hq he;generalize (aI (T:=Cg) (aI (T:=wP) A.2 (i:Int)).2 th.1)=ins at hA hB ⊢;rcases kdx kd with rfl|rfl|rfl|rfl|rfl|rfl|rfl|rfl|⟨k1,k2,k3,k4,k5,k6,k7,k8⟩
  case inr.inr.inr.inr.inr.inr.inr.inr=>
   simp only[k1,k2,k3,k4,k5,k6,k7,k8,aU,bp,tW];refine hk F _ _ _ _ _ _ _ _ _ _ _ _ _ (λ_ _=>fin _ _ _ rfl rfl keep) (λh=>by rw[k2,k3]at h;exact (h.elim id id).elim) (λt' h g=>?_) t1 _;exact done v ce fu t' apA (vaA (of_eq_false k4) (of_eq_false k5) (of_eq_false k8)) (ax (of_eq_false k6)).symm (ax (of_eq_false k7)).symm h (g.imp id λh=>⟨h.1,λh2=>(of_eq_false k2 h2).elim⟩)
  all_goals simp only[aU,bp,tW]
  .refine hk F _ _ _ _ _ _ _ _ _ _ _ _ _ (λ_ _=>fin _ _ _ rfl rfl keep) (λh=>by omega) (λt' h g=>?_) t1 _;exact done v ce fu t' apA (vaA (by decide) (by decide) (by decide)) rfl rfl h (g.imp id λh=>⟨h.1,λh2=>(by cases h2)⟩)
  .refine hk F _ _ _ _ _ _ _ _ _ _ _ _ _ (λh _=>(h rfl).elim) (λ_=>nopark) (λt' h g=>?_) t1 _;exact done v ce fu t' apA (vaA (by decide) (by decide) (by decide)) rfl rfl h g
  .refine hk F _ _ _ _ _ _ _ _ _ _ _ _ _ (λ_ h=>(h rfl).elim) (λ_=>nopark) (λt' h g=>?_) t1 _;exact done v ce fu t' apA (vaA (by decide) (by decide) (by decide)) rfl rfl h (g.imp id λh=>⟨h.1,λh2=>(by cases h2)⟩)
  .obtain⟨o0,o1⟩:=nmce (.inl rfl);rw[<- hce]at o1;obtain⟨a0,a1⟩:=hA (.inl rfl);have a2:ins.2.1<(th.2.2.1.length:Int):=by rw[htz];exact a1
   refine gL (aP o0 o1 (aP o0 o1 (aj ?_)));simp only[aU,bp,tW];refine gL (aP a0 a1 (aP a0 a1 (aP a0 a2 (aP a0 a2 (aj ?_)))));refine hk F _ _ _ _ _ _ _ _ _ _ _ _ _ (λ_ _=>fin _ _ _ (bW ..) (bW ..) (mark (.inl rfl) _)) (λh=>by omega) (λt' h g=>?_) t1 _;exact done _ ce fu t' (apB (by decide) _) ⟨λ_=>rfl,λh=>(by cases h),λh=>(by cases h),λh=>(h rfl).elim⟩ rfl rfl h (g.imp id λh=>⟨h.1,λh2=>(by cases h2)⟩)
  .obtain⟨o0,o1⟩:=nmfu (.inr rfl);rw[<- hfu]at o1;obtain⟨a0,a1⟩:=hA (.inr (.inl rfl));have a2:ins.2.1<(th.2.2.1.length:Int):=by rw[htz];exact a1
   refine gL (aP o0 o1 (aP o0 o1 (aj ?_)));simp only[aU,bp,tW];refine gL (aP a0 a1 (aP a0 a1 (aP a0 a2 (aP a0 a2 (aj ?_)))));refine hk F _ _ _ _ _ _ _ _ _ _ _ _ _ (λ_ _=>fin _ _ _ (bW ..) (bW ..) (mark (.inr rfl) _)) (λh=>by omega) (λt' h g=>?_) t1 _;exact done _ ce fu t' (apB (by decide) _) ⟨λh=>(by cases h),λ_=>rfl,λh=>(by cases h),λ_ h=>(h rfl).elim⟩ rfl rfl h (g.imp id λh=>⟨h.1,λh2=>(by cases h2)⟩)
  .obtain⟨o0,o1⟩:=nmce (.inr rfl);rw[<- hce]at o1;obtain⟨a0,a1⟩:=hB (.inl rfl);refine gL (aP a0 a1 (aP a0 a1 (aP o0 o1 (aP o0 o1 (aj ?_)))));simp only[aU,bp,tW];refine hk F _ _ _ _ _ _ _ _ _ _ _ _ _ (λ_ _=>fin _ _ _ rfl rfl keep) (λh=>by omega) (λt' h g=>?_) t1 _;exact done _ _ fu t' (apB (by decide) _) ⟨λh=>(by cases h),λh=>(by cases h),λh=>(by cases h),λ_ _ _ h=>(h rfl).elim⟩ rfl rfl h (g.imp id λh=>⟨h.1,λh2=>(by cases h2)⟩)
  .obtain⟨o0,o1⟩:=nmfu (.inl rfl);rw[<- hfu]at o1;obtain⟨a0,a1⟩:=hB (.inr rfl);refine gL (aP a0 a1 (aP a0 a1 (aP o0 o1 (aP o0 o1 (aj ?_)))));simp only[aU,bp,tW];refine hk F _ _ _ _ _ _ _ _ _ _ _ _ _ (λ_ _=>fin _ _ _ rfl rfl keep) (λh=>by omega) (λt' h g=>?_) t1 _;exact done _ ce _ t' (apB (by decide) _) ⟨λh=>(by cases h),λh=>(by cases h),λh=>(by cases h),λ_ _ _ _ h=>(h rfl).elim⟩ rfl rfl h (g.imp id λh=>⟨h.1,λh2=>(by cases h2)⟩)
  .obtain⟨a0,a1⟩:=hA (.inr (.inr rfl));refine gL (aP a0 a1 (aP a0 a1 (aK (λ_=>aj ?_) λ_=>aj ?_)));all_goals
    simp only[aU,bp,tW];refine hk F _ _ _ _ _ _ _ _ _ _ _ _ _ (λ_ _=>fin _ _ _ rfl rfl keep) (λh=>by omega) (λt' h g=>?_) t1 _;exact done _ ce fu t' (apB (by decide) _) ⟨λh=>(by cases h),λh=>(by cases h),λ_=>(by decide),λ_ _ h=>(h rfl).elim⟩ rfl rfl h (g.imp id λh=>⟨h.1,λh2=>(by cases h2)⟩)
 .refine ⟨?_,λh1 h2=>(hz ⟨h1,h2⟩).elim⟩;unfold SG EW Prod.p11 Prod.p12 aY bi bu cF dZ kY AG C7 Prod.q10 Prod.q11 Prod.q13 bO dG ky Prod.q9 ck be bD kO aD;refine I_ hn hc hs hI (λo=>Rf o (SQ n A L)) (λy h=>.inr (aj h)) _ λe v sy hp _ _ _ _ _=>.inl ?_
  obtain⟨sy0,ce,fu,l⟩:=s;have vl:=hp.fs.vc.vl;by_cases hl:l.length=N
  .have ht:¬t=(i:Int):=λh=>hz ⟨hl,h⟩
   dsimp only;cases cp (sy0,ce,fu,l) with
   |none=>rfl
   |some y=>rw[Yh,bB ht];rfl
  .show au (cp (sy0,ce,fu,l)) _=D;rw[h0 sy0 ce fu l (by have h1:l.length=A.2.length:=hp.fs.th;have:=hp.fs.vc.tl;have:=vl.t;omega) hl];rfl
theorem B9 {Z W V:Type} {n:Nat} {U:CT} {L:Y ET} {i:Nat} {u:Int} {l:Y TT} {z:Z} {t1:Z->η->Y η->W} {s:W->V} {a:V->TT->Y TT} (h3:∀R T t',a (s (t1 z R T)) t'=l.set i t'):KR n U L i u l z (KG (i:Int) t1 s a):=by
 intro F p sy kd o v si ds fs ce fu R T ev fin park done ht pc;unfold KG EW aY bi bu cF dZ kY AG C7 Prod.q10 Prod.q11 qJ be jw bD aD cL;dsimp only;have done:∀t',TH F (n+1) t'->(t'.2.1.length=0\/t'.2.2.2=bm .i64 (ev+1)/\(kd=16->t'.1=p))->SQ n U L ((sy,ce,fu,a (s (t1 z R T)) t'),((i:Int),kd,o,v,si,ds,fs),J):=λt' h g=>by rw[h3];exact done t' h g
 by_cases h1:kd=16
 .subst h1;exact gL (gL (gd rfl (aj (gd rfl (aj (fK (aS rfl) (aj (done _ (park (.inl rfl)) (.inr ⟨rfl,λ_=>rfl⟩)))))))))
 by_cases h2:kd=2
 .subst h2;exact gL (gL (fK rfl (aj (gd rfl (aj (fK (aS rfl) (aj (done _ (park (.inr rfl)) (.inr ⟨rfl,λh=>(by cases h)⟩)))))))))
 rw[bB h1,bB h2];exact gL (gL (fK rfl (aj (fK rfl (aP (ec i) ht (aT (aw (fin h1 h2) λy A=>aj (fK (aS rfl) (aj (done _ A.1 (A.2.imp id λh=>⟨h,λh2=>(h1 h2).elim⟩)))))))))))
theorem aan {n:Nat} (hn:n+1<=100000) (z:CT) (L:Y ET) (s:ST) (t u:Int) (hc:CB z) (hs:SV n L s) (A:Ma z L s):Rf (nE (z,s,t,u)) (SQ n z L)/\(s.2.2.2.length=4->t=0->Ok (nE (z,s,t,u)) (SQ n z L)):=by
 refine B8 4 0 hn z L s t u hc hs A UR λsy ce fu l hs hce hfu hl=>⟨by decide,?_⟩
 obtain⟨a,b,c,d,rfl⟩:∃a b c d,l=[a,b,c,d]:=by
  rcases l with _|⟨a,_|⟨b,_|⟨c,_|⟨d,_|⟨e,l⟩⟩⟩⟩⟩;all_goals first|exact⟨_,_,_,_,rfl⟩|(simp at hl;done)|(exfalso;simp only[cf]at hl;omega)
 refine ⟨_,abf sy ce fu a b c d hs hce hfu,rfl,rfl,rfl,rfl,rfl,rfl,B9 λR T t'=>rfl⟩
theorem aam {n:Nat} (hn:n+1<=100000) (z:CT) (L:Y ET) (s:ST) (t u:Int) (hc:CB z) (hs:SV n L s) (A:Ma z L s):Rf (nD (z,s,t,u)) (SQ n z L)/\(s.2.2.2.length=4->t=1->Ok (nD (z,s,t,u)) (SQ n z L)):=by
 refine B8 4 1 hn z L s t u hc hs A UQ λsy ce fu l hs hce hfu hl=>⟨by decide,?_⟩
 obtain⟨a,b,c,d,rfl⟩:∃a b c d,l=[a,b,c,d]:=by
  rcases l with _|⟨a,_|⟨b,_|⟨c,_|⟨d,_|⟨e,l⟩⟩⟩⟩⟩;all_goals first|exact⟨_,_,_,_,rfl⟩|(simp at hl;done)|(exfalso;simp only[cf]at hl;omega)
 refine ⟨_,abe sy ce fu a b c d hs hce hfu,rfl,rfl,rfl,rfl,rfl,rfl,B9 λR T t'=>rfl⟩
theorem aal {n:Nat} (hn:n+1<=100000) (z:CT) (L:Y ET) (s:ST) (t u:Int) (hc:CB z) (hs:SV n L s) (A:Ma z L s):Rf (lQ (z,s,t,u)) (SQ n z L)/\(s.2.2.2.length=4->t=2->Ok (lQ (z,s,t,u)) (SQ n z L)):=by
 refine B8 4 2 hn z L s t u hc hs A UP λsy ce fu l hs hce hfu hl=>⟨by decide,?_⟩
 obtain⟨a,b,c,d,rfl⟩:∃a b c d,l=[a,b,c,d]:=by
  rcases l with _|⟨a,_|⟨b,_|⟨c,_|⟨d,_|⟨e,l⟩⟩⟩⟩⟩;all_goals first|exact⟨_,_,_,_,rfl⟩|(simp at hl;done)|(exfalso;simp only[cf]at hl;omega)
 refine ⟨_,abd sy ce fu a b c d hs hce hfu,rfl,rfl,rfl,rfl,rfl,rfl,B9 λR T t'=>rfl⟩
theorem aak {n:Nat} (hn:n+1<=100000) (z:CT) (L:Y ET) (s:ST) (t u:Int) (hc:CB z) (hs:SV n L s) (A:Ma z L s):Rf (kA (z,s,t,u)) (SQ n z L)/\(s.2.2.2.length=4->t=3->Ok (kA (z,s,t,u)) (SQ n z L)):=by
 refine B8 4 3 hn z L s t u hc hs A UO λsy ce fu l hs hce hfu hl=>⟨by decide,?_⟩
 obtain⟨a,b,c,d,rfl⟩:∃a b c d,l=[a,b,c,d]:=by
  rcases l with _|⟨a,_|⟨b,_|⟨c,_|⟨d,_|⟨e,l⟩⟩⟩⟩⟩;all_goals first|exact⟨_,_,_,_,rfl⟩|(simp at hl;done)|(exfalso;simp only[cf]at hl;omega)
 refine ⟨_,abc sy ce fu a b c d hs hce hfu,rfl,rfl,rfl,rfl,rfl,rfl,B9 λR T t'=>rfl⟩
theorem aaq {n:Nat} (hn:n+1<=100000) (z:CT) (L:Y ET) (s:ST) (t u:Int) (hc:CB z) (hs:SV n L s) (A:Ma z L s):Rf (jH (z,s,t,u)) (SQ n z L)/\(s.2.2.2.length=3->t=0->Ok (jH (z,s,t,u)) (SQ n z L)):=by
 refine B8 3 0 hn z L s t u hc hs A UU λsy ce fu l hs hce hfu hl=>⟨by decide,?_⟩
 obtain⟨a,b,c,rfl⟩:∃a b c,l=[a,b,c]:=by
  rcases l with _|⟨a,_|⟨b,_|⟨c,_|⟨d,_|⟨e,l⟩⟩⟩⟩⟩;all_goals first|exact⟨_,_,_,rfl⟩|(simp at hl;done)|(exfalso;simp only[cf]at hl;omega)
 refine ⟨_,abi sy ce fu a b c hs hce hfu,rfl,rfl,rfl,rfl,rfl,rfl,B9 λR T t'=>rfl⟩
theorem aap {n:Nat} (hn:n+1<=100000) (z:CT) (L:Y ET) (s:ST) (t u:Int) (hc:CB z) (hs:SV n L s) (A:Ma z L s):Rf (iS (z,s,t,u)) (SQ n z L)/\(s.2.2.2.length=3->t=1->Ok (iS (z,s,t,u)) (SQ n z L)):=by
 refine B8 3 1 hn z L s t u hc hs A UT λsy ce fu l hs hce hfu hl=>⟨by decide,?_⟩
 obtain⟨a,b,c,rfl⟩:∃a b c,l=[a,b,c]:=by
  rcases l with _|⟨a,_|⟨b,_|⟨c,_|⟨d,_|⟨e,l⟩⟩⟩⟩⟩;all_goals first|exact⟨_,_,_,rfl⟩|(simp at hl;done)|(exfalso;simp only[cf]at hl;omega)
 refine ⟨_,abh sy ce fu a b c hs hce hfu,rfl,rfl,rfl,rfl,rfl,rfl,B9 λR T t'=>rfl⟩
theorem aao {n:Nat} (hn:n+1<=100000) (z:CT) (L:Y ET) (s:ST) (t u:Int) (hc:CB z) (hs:SV n L s) (A:Ma z L s):Rf (ik (z,s,t,u)) (SQ n z L)/\(s.2.2.2.length=3->t=2->Ok (ik (z,s,t,u)) (SQ n z L)):=by
 refine B8 3 2 hn z L s t u hc hs A US λsy ce fu l hs hce hfu hl=>⟨by decide,?_⟩
 obtain⟨a,b,c,rfl⟩:∃a b c,l=[a,b,c]:=by
  rcases l with _|⟨a,_|⟨b,_|⟨c,_|⟨d,_|⟨e,l⟩⟩⟩⟩⟩;all_goals first|exact⟨_,_,_,rfl⟩|(simp at hl;done)|(exfalso;simp only[cf]at hl;omega)
 refine ⟨_,abg sy ce fu a b c hs hce hfu,rfl,rfl,rfl,rfl,rfl,rfl,B9 λR T t'=>rfl⟩
theorem aas {n:Nat} (hn:n+1<=100000) (z:CT) (L:Y ET) (s:ST) (t u:Int) (hc:CB z) (hs:SV n L s) (A:Ma z L s):Rf (gO (z,s,t,u)) (SQ n z L)/\(s.2.2.2.length=2->t=0->Ok (gO (z,s,t,u)) (SQ n z L)):=by
 refine B8 2 0 hn z L s t u hc hs A UW λsy ce fu l hs hce hfu hl=>⟨by decide,?_⟩
 obtain⟨a,b,rfl⟩:∃a b,l=[a,b]:=by
  rcases l with _|⟨a,_|⟨b,_|⟨c,_|⟨d,_|⟨e,l⟩⟩⟩⟩⟩;all_goals first|exact⟨_,_,rfl⟩|(simp at hl;done)|(exfalso;simp only[cf]at hl;omega)
 refine ⟨_,abk sy ce fu a b hs hce hfu,rfl,rfl,rfl,rfl,rfl,rfl,B9 λR T t'=>rfl⟩
theorem aar {n:Nat} (hn:n+1<=100000) (z:CT) (L:Y ET) (s:ST) (t u:Int) (hc:CB z) (hs:SV n L s) (A:Ma z L s):Rf (gk (z,s,t,u)) (SQ n z L)/\(s.2.2.2.length=2->t=1->Ok (gk (z,s,t,u)) (SQ n z L)):=by
 refine B8 2 1 hn z L s t u hc hs A UV λsy ce fu l hs hce hfu hl=>⟨by decide,?_⟩
 obtain⟨a,b,rfl⟩:∃a b,l=[a,b]:=by
  rcases l with _|⟨a,_|⟨b,_|⟨c,_|⟨d,_|⟨e,l⟩⟩⟩⟩⟩;all_goals first|exact⟨_,_,rfl⟩|(simp at hl;done)|(exfalso;simp only[cf]at hl;omega)
 refine ⟨_,abj sy ce fu a b hs hce hfu,rfl,rfl,rfl,rfl,rfl,rfl,B9 λR T t'=>rfl⟩
theorem aat {n:Nat} (hn:n+1<=100000) (z:CT) (L:Y ET) (s:ST) (t u:Int) (hc:CB z) (hs:SV n L s) (A:Ma z L s):Rf (gm (z,s,t,u)) (SQ n z L)/\(s.2.2.2.length=1->t=0->Ok (gm (z,s,t,u)) (SQ n z L)):=by
 refine B8 1 0 hn z L s t u hc hs A UX λsy ce fu l hs hce hfu hl=>⟨by decide,?_⟩
 obtain⟨a,rfl⟩:∃a,l=[a]:=by
  rcases l with _|⟨a,_|⟨b,_|⟨c,_|⟨d,_|⟨e,l⟩⟩⟩⟩⟩;all_goals first|exact⟨_,rfl⟩|(simp at hl;done)|(exfalso;simp only[cf]at hl;omega)
 refine ⟨_,abl sy ce fu a hs hce hfu,rfl,rfl,rfl,rfl,rfl,rfl,B9 λR T t'=>rfl⟩
theorem aau {n:Nat} (hn:n+1<=100000) (c:CT) (L:Y ET) (s:ST) (t u:Int) (hc:CB c) (hs:SV n L s) (hI:Ma c L s):Ok (AS (c,s,t,u)) (SQ n c L):=by
 unfold AS;have a:=aan hn c L s t u hc hs hI;have z:=aam hn c L s t u hc hs hI;have A:=aal hn c L s t u hc hs hI;have U:=aak hn c L s t u hc hs hI;have Z:=aaq hn c L s t u hc hs hI;have a31:=aap hn c L s t u hc hs hI;have a32:=aao hn c L s t u hc hs hI;have a20:=aas hn c L s t u hc hs hI;have a21:=aar hn c L s t u hc hs hI;have a10:=aat hn c L s t u hc hs hI;by_cases hz:s.2.2.2.length<=4/\0<=t/\t<(s.2.2.2.length:Int)
 .obtain⟨h1,h2,h3⟩:=hz;have:(s.2.2.2.length=4/\t=0)\/(s.2.2.2.length=4/\t=1)\/(s.2.2.2.length=4/\t=2)\/(s.2.2.2.length=4/\t=3)\/(s.2.2.2.length=3/\t=0)\/(s.2.2.2.length=3/\t=1)\/(s.2.2.2.length=3/\t=2)\/(s.2.2.2.length=2/\t=0)\/(s.2.2.2.length=2/\t=1)\/(s.2.2.2.length=1/\t=0):=by omega
  rcases this with h|h|h|h|h|h|h|h|h|h
  .exact (a.2 h.1 h.2).orL
  .exact a.1.orR (z.2 h.1 h.2).orL
  .exact a.1.orR (z.1.orR (A.2 h.1 h.2).orL)
  .exact a.1.orR (z.1.orR (A.1.orR (U.2 h.1 h.2).orL))
  .exact a.1.orR (z.1.orR (A.1.orR (U.1.orR (Z.2 h.1 h.2).orL)))
  .exact a.1.orR (z.1.orR (A.1.orR (U.1.orR (Z.1.orR (a31.2 h.1 h.2).orL))))
  .exact a.1.orR (z.1.orR (A.1.orR (U.1.orR (Z.1.orR (a31.1.orR (a32.2 h.1 h.2).orL)))))
  .exact a.1.orR (z.1.orR (A.1.orR (U.1.orR (Z.1.orR (a31.1.orR (a32.1.orR (a20.2 h.1 h.2).orL))))))
  .exact a.1.orR (z.1.orR (A.1.orR (U.1.orR (Z.1.orR (a31.1.orR (a32.1.orR (a20.1.orR (a21.2 h.1 h.2).orL)))))))
  .exact a.1.orR (z.1.orR (A.1.orR (U.1.orR (Z.1.orR (a31.1.orR (a32.1.orR (a20.1.orR (a21.1.orR (a10.2 h.1 h.2)))))))))
 .refine Ok.orL ?_;unfold nE aY bi dG;refine I_ hn hc hs hI (λo=>Ok o (SQ n c L)) (λy h=>aj h) _ λe v sy hp _ _ _ _ _=>(hz ?_).elim
  have h1:s.2.2.2.length=c.2.length:=hp.fs.th;have h2:c.2.length=c.1.2.2.2.2.1.length:=hp.fs.vc.tl;have h3:c.1.2.2.2.2.1.length<=4:=hp.fs.vc.vl.t;have h4:0<=t:=hp.t0;have h5:t<(c.2.length:Int):=hp.t1;exact⟨by omega,h4,by omega⟩
theorem ahs (c:CT) (s:ST) (l:Y ν) (hc:CB c) (hs:SV 0 [] s) (hI:Ma c [] s) (hl:l.length<=9223372036854775806):Ok (w9 (c,s,l)) λy=>y.1.length<=400/\(∀e∈y.1,EvF c.1 e/\EvS e)/\∃sy ce fu,Acw c.1 y.1 sy ce fu:=by
 unfold w9 aY bi dG bx bC bD aX cR aD cL;refine qM (λx=>((l.length:Int)-x.1).toNat) (λx=>0<=x.1/\x.2.2.1=c/\SV x.2.1.length x.2.1 x.2.2.2.1/\Ma c x.2.1 x.2.2.2.1/\x.2.1.length<=400/\∀e∈x.2.1,EvF c.1 e/\EvS e) ?_ ⟨dk _,rfl,hs,hI,by simp,λe he=>(by cases he)⟩;rintro⟨(i:Int),es,c',s',z⟩ ⟨U,e1,e2,eI,e3,a⟩;dsimp only at U e1 e2 eI e3 a;subst e1;refine aV (λx=>x.2=(es,c',s',z)/\(x.1=J->i<(l.length:Int)/\es.length<400)) ?_ ?_
 .refine bL (λg=>aj ⟨rfl,λh=>⟨g,?_⟩⟩) λ_=>aj ⟨rfl,λh=>(by cases h)⟩
  dsimp only at h;rw[sO]at h;dsimp only[ak]at h;omega
 rintro⟨b,x⟩ ⟨f1,Z⟩;dsimp only at f1 Z;subst f1;refine aO (λh=>?_) λ_=>aj ⟨e3,a,_,_,_,eI.ac⟩
 obtain⟨g1,g2⟩:=Z h;refine aV (λx=>x.2.1=c'/\SV x.1.length x.1 x.2.2.1/\Ma c' x.1 x.2.2.1/\x.1.length<=400/\∀e∈x.1,EvF c'.1 e/\EvS e) ?_ ?_
 .refine aP U g1 (aT ?_);refine aw (aau (n:=es.length) (by omega) c' es s' _ _ hc e2 eI) λy hy=>?_
  refine aO (λh=>?_) λ_=>aj ⟨rfl,e2,eI,e3,a⟩
  obtain⟨h1,hJ,h2,h3⟩:=hy h;refine bd (by simp;omega) (by omega) (aj ⟨rfl,?_,hJ,by simp;omega,λe he=>?_⟩)
  .dsimp only;rw[bg,dc];exact h1
  .rcases bP.1 he with he|he
   .exact a e he
   .rw[aJ]at he;subst he;exact⟨h2,h3⟩
 rintro⟨es',c2,s2,z2⟩ ⟨k1,k2,kI,L,A⟩;dsimp only at k1 k2 kI L A;subst k1;refine aj ?_;dsimp only;rw[iz (n:=i+1) (by omega) (by omega)];exact⟨⟨by omega,rfl,k2,kI,L,A⟩,by omega⟩
theorem CB.vc {c:CT} (hc:CB c):VC c:=by
 obtain⟨b,h1,h2⟩:=UA c hc.th hc.ins;rw[hc.ok]at h1;cases h1;exact h2 rfl
theorem amx (c:CT) (l:Y ν) (hc:CB c) (hl:l.length<=9223372036854775806):Ok (zP (c,l)) λy=>TR y.1:=by
 unfold zP;refine aR hc.ok (dS (λh=>(by cases h)) λ_=>?_);have hv:=hc.vc;refine aw (XB c hc.ok hv) λs hs=>?_
 refine aw (ahs c s l hc hs.1 hs.2 hl) λy a=>aj ?_
 exact⟨hv.vl.wb,hv.vl,λe he=>(a.2.1 e he).1,by have:=a.1;dsimp only;omega,λe he=>(a.2.1 e he).2,hc.wx,a.2.2⟩
theorem XL (l:η) (hl:l.length<=1000000):Ok (pg l) λy=>y.length=l.length:=by
 unfold pg bx bC bD aX cR aD cL;refine b7 l.length (λi x=>x.1=(i:Int)/\x.2.length=i) ?_ ?_ ⟨rfl,rfl⟩
 .rintro i ⟨a,b⟩ hi ⟨e1,e2⟩;dsimp only at e1 e2;subst e1;refine du ?_;refine cg (aT (cg (aT (bd (by simp;omega) (by omega) (aj ?_)))));dsimp only;exact⟨gH (by omega),by simp;omega⟩
 .rintro⟨a,b⟩ ⟨e1,e2⟩;dsimp only at e1 e2;subst e1;exact dv (aj e2)
theorem fG (e:Xp):eD (Xp.op e,Xp.n e,Xp.name e,Xp.l e)=e:=by cases e;rfl
theorem zF (s:Sx):oy (Sx.op s,Sx.line s,Sx.name s,Sx.arg s,Sx.index s,Sx.expr s,Sx.body s,Sx.els s)=s:=by cases s;rfl
abbrev NV:Y ζ:=[[97],[98],[120],[121],[118]]
def GE:Nat->Xp->Prop
 |0,_=>False
 |d+1,e=>(e.op=3->e.name=[113])/\(e.op≠1->e.op≠2->1<=e.l.length)/\e.l.length<=2/\(∀x∈e.l,GE d x)/\(e.op=2->e.name∈NV)/\(e.op≠1->e.op≠2->e.op≠3->2<=e.l.length/\6<=e.op/\e.op<=18)
theorem GE.mono:∀{d:Nat} {e:Xp},GE d e->GE (d+1) e
 |0,_,h=>h.elim
 |_+1,_,h=>⟨h.1,h.2.1,h.2.2.1,λx a=>(h.2.2.2.1 x a).mono,h.2.2.2.2⟩
theorem GE.le {d k:Nat} {e:Xp} (h:GE d e) (hk:d<=k):GE k e:=by
 induction hk with
 |refl=>exact h
 |step _ a=>exact a.mono
theorem Ps (n:Int):r8 n=M (.mk 1 n [] []):=rfl
theorem ID (s:ζ):pZ s=M (.mk 2 0 s []):=rfl
theorem F9 (o:Int) (a b:Xp):ox (o,a,b)=M (.mk o 0 [] [a,b]):=by
 cases a;cases b;rfl
theorem uE (s:ζ) (e:Xp):jF (s,e)=M (.mk 1 0 s [] [] e [] []):=by
 cases e;rfl
abbrev MK:Type:=Int×Int×Bool×Bool×Bool×Bool
abbrev QZ:Type:=η×Int
abbrev HD:Type:=Bool×Y ζ
theorem GE.num (n:Int) (d:Nat):GE (d+1) (.mk 1 n [] []):=⟨λh=>(by cases h),λh=>(h rfl).elim,by simp[Xp.l],λx a=>(by cases a),λh=>(by cases h),λh=>(h rfl).elim⟩
theorem GE.nm {s:ζ} (hs:s∈NV) (d:Nat):GE (d+1) (.mk 2 0 s []):=⟨λh=>(by cases h),λ_ h=>(h rfl).elim,by simp[Xp.l],λx a=>(by cases a),λ_=>hs,λ_ h=>(h rfl).elim⟩
theorem GE.bin {o:Int} {a b:Xp} {d:Nat} (z:6<=o/\o<=18) (A:GE d a) (hb:GE d b):GE (d+1) (.mk o 0 [] [a,b]):=
 ⟨λh=>(by have h:o=3:=h;omega),λ_ _=>by simp[Xp.l],by simp[Xp.l],λx s=>by
   simp only[Xp.l,bl,cG,gq]at s;rcases s with rfl|rfl
   .exact A
   .exact hb,λh=>(by have h:o=2:=h;omega),λ_ _ _=>⟨by simp[Xp.l],z⟩⟩
theorem GE.ix {a:Xp} {d:Nat} (z:GE d a):GE (d+1) (.mk 3 0 [113] [a]):=
 ⟨λ_=>rfl,λ_ _=>by simp[Xp.l],by simp[Xp.l],λx s=>by
   simp only[Xp.l,bl,cG,gq]at s;rw[s];exact z,λh=>(by cases h),λ_ _ h=>(h rfl).elim⟩
theorem DX:∀(n d:Nat),d<n->d<=10->∀(m:MK) (t:QZ) (h:HD),TP t->Ok (iF n ((d:Int),m,t,h)) λy=>GE (d+1) y.1/\y.2.1=m/\vI t y.2.2.1/\y.2.2.2=h
 |0,d,hd,_,_,_,_,_=>by omega
 |n+1,d,hd,h10,m,t,h,ht=>by
  rw[zn];unfold oE aY bi bO dG cY be bx bC kO aX aD;refine aw (gD 10 t ht) λy a=>?_
  obtain⟨k,t1⟩:=y;obtain⟨s1,k0,k1,_⟩:=a;have k1:=k1 (by decide);dsimp only at s1 k0 k1;refine aV (λx=>x.2=(m,t1,h,(0,0,[]),[[97],[98],[120],[121],[118],[120],[121]])/\(x.1=af->2<=k/\(d=0->k<7))) ?_ ?_
  .refine bL (λ_=>aj ⟨rfl,λh=>(by cases h)⟩) λg=>aK (λg2=>aj ⟨rfl,λg3=>⟨g,λ_=>?_⟩⟩) λg2=>aj ⟨rfl,λ_=>⟨g,λh=>(g2 (by dsimp only;omega)).elim⟩⟩
   dsimp only at g3;rw[mB]at g3;exact g3
  rintro⟨b,x⟩ ⟨e,hb⟩;dsimp only at e hb;subst e;refine aO (λ_=>?_) λg=>?_
  .refine aw (gD 4 t1 s1.p) λy a=>?_
   refine aR (Ps _) (aj ?_);exact⟨GE.num _ _,rfl,s1.trans a.1,rfl⟩
  obtain⟨q0,q1⟩:=hb g;refine bL (λg=>?_) λg=>?_
  .refine aw (gD _ t1 s1.p) λy a=>?_
   obtain⟨u1,A,s,_⟩:=a;have s:=s (show (1:Int)<=7 by decide);refine aP A s (aP A s (aT ?_));refine aR (ID _) (aj ?_);have hnv:∀z∈([[97],[98],[120],[121],[118],[120],[121]]:Y ζ),z∈NV:=by decide
   exact⟨GE.nm (hnv _ (bN (T:=.str) A s)) _,rfl,s1.trans u1,rfl⟩
  dsimp only at g;have hd0:d≠0:=λh=>by have:=q1 h;omega
  obtain⟨d,rfl⟩:∃k,d=k+1:=⟨d-1,by omega⟩
  refine aK (λg=>?_) λg=>?_
  .refine aw (DX n 0 (by omega) (by omega) m t1 h s1.p) λy a=>?_
   obtain⟨e,m',t',h'⟩:=y;obtain⟨v1,Z,L,U⟩:=a;dsimp only at v1 Z L U;subst Z;subst U;refine bh (by simp) (aj ?_);dsimp only;rw[fG];exact⟨(GE.ix (v1.le (by omega):GE (d+1) e)),rfl,s1.trans L,rfl⟩
  .refine aw (gD _ t1 s1.p) λy a=>?_
   obtain⟨k2,t2⟩:=y;obtain⟨u1,A,s,_⟩:=a;have s:=s (by decide);dsimp only at u1 A s;refine aP A s (aP A s (aT ?_));have ho:(6:Int)<=aI (T:=.int .i64) [6,7,8,11,13,17] k2/\aI (T:=.int .i64) [6,7,8,11,13,17] k2<=(18:Int):=by
    have h1:=bN (T:=.int .i64) (xs:=([6,7,8,11,13,17]:η)) A s;have:∀z:Int,z∈([6,7,8,11,13,17]:η)->6<=z/\z<=18:=by decide
    exact this _ h1
   have ew:bm .i64 (((d+1:Nat):Int)-1)=(d:Int):=by rw[iz (by omega) (by omega)];omega
   dsimp only;rw[ew];refine aw (DX n d (by omega) (by omega) m t2 h u1.p) λy a=>?_
   obtain⟨e,m',t',h'⟩:=y;obtain⟨v1,Z,L,U⟩:=a;dsimp only at v1 Z L U;subst Z;subst U;refine bh (by simp) ?_;refine aw (DX n d (by omega) (by omega) m' t' h' L.p) λy a=>?_
   obtain⟨e2,m2,t2',h2⟩:=y;obtain⟨w1,w2,w3,w4⟩:=a;dsimp only at w1 w2 w3 w4;subst w2;subst w4;refine bh (by simp) ?_;refine aR (F9 _ _ _) (aj ?_);dsimp only;rw[fG];exact⟨GE.bin ho v1 w1,rfl,s1.trans (u1.trans (L.trans w3)),rfl⟩
theorem ad7 (d:Nat) (hd:d<=10) (m:MK) (t:QZ) (h:HD) (ht:TP t):Ok (fy ((d:Int),m,t,h)) λy=>GE (d+1) y.1/\y.2.1=m/\vI t y.2.2.1/\y.2.2.2=h:=DX fuel d (by rw[kf];omega) hd m t h ht
end
end Go.Proofs.YtloaobgmjdjhhaaGreatDoor.AI
