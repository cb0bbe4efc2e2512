/-
  Texts of the proof, part 2 of 6: what is used to prove the statement. No condition.
-/
import Derived.Test.YtgijlolllojpaaaGreatDoorShbFirstQ0
namespace Go.Proofs.YtgijlolllojpaaaGreatDoor.AI
open Go.RowKit
set_option maxRecDepth 100000
set_option maxHeartbeats 4000000
set_option linter.unusedVariables false
set_option linter.unusedSimpArgs false
open _root_.Bool renaming true→ai,false→aj
open _root_.Int renaming ofNat_eq_natCast→au,ofNat→aQ,toNat→aS,reduceEq→aZ,reduceNeg→bp,toNat_natCast→dx
open _root_.List renaming length→al,replicate→aG,length_cons→bZ,take→dA,length_singleton→dR,range→dT,cons_append→gr,length_nil→jY,take_succ_cons→vZ,foldl_cons→xh,getElem_of_mem→G2
open _root_.Nat renaming beq→aC,blt→gk
open _root_.Option renaming some→af,none→ah,map_some→b_,getD_some→uW
open _root_.Prod renaming p2→aV,p3→bh,p4→bw,q3→bL,p5→ct,q5→cN,q4→dc,p6→dQ,q6→eZ,p7→iU,q7→mq,q8→nF,p8→uV,p10→xd,p9→xf,p11→D9,q11→Lb,q9→Ny
open _root_.Sum renaming inr→bW,inl→oS
noncomputable section
abbrev Kd0:Ty:=(.st (.pr kG (.pr kG (.pr kG (.pr kG (.pr kG (.pr kG (.pr (.sl aM) (.pr kG (.sl aM))))))))))
abbrev Kd1:Ty:=(.st (.pr .bool .bool))
abbrev Xz:=((List (List Int))×(List (List Int))×(List (List Int))×(List (List Int))×(List (List Int))×(List (List Int))×(List Int)×(List (List Int))×List Int)
abbrev Yd1:=((List Int)×(List (List Int))×(List (List Int))×(List (List Int))×(List (List Int))×(List (List Int))×(List (List Int))×(List (List Int))×(List Int)×List Int)
abbrev Yd2:=(Int×gF×(List Bool)×List dw)
abbrev Yd3:=(Int×gX×gG×(List fw)×ca×ca×List (Int×Int×Int))
abbrev Yd4:=(dJ×Int×Int×Int×Int×Int×(List Int)×List Int)
abbrev GY:=(List (Int×Int))
abbrev Yd6:=(Int×(List Bool)×List dw)
def Mv {α R:Type} [DecidableEq α] (a b:α) (r:Option R):Option R:=if a=b then r else ah
theorem Qf {α R:Type} [DecidableEq α] (a b:α) (r:Option R):Mv a b r=same a b r:=by unfold Mv same;by_cases h:a=b<;>simp[h]
theorem Qe {α R:Type} [DecidableEq α] {a b:α} (h:a=b) (r:Option R):Mv a b r=r:=by unfold Mv;rw[aE h]
def jA (x:(List Int)×Int):Option (Int):=
 (jn (α:=Bool) (bB x.2 0 (aF ai) (aF (cY (aY x.1) x.2))) λI=>(bcase I (af 0) (v9 x.2 x.1 (af (aJ (T:=aM) x.1 x.2)))))
def vu (it:yH) (x:(List Int)×List Int):Option (List Int):=
 (bF (cY 0 (jL (aY x.1) (aY x.2))&&cY (jL (aY x.1) (aY x.2)) (jL (aY x.1) (aY x.2))&&bc (aS (jL (aY x.1) (aY x.2))) 8) (it (Int×List Int) _ (λI=>(bB I.1 (aQ (al (aG (aS (jL (aY x.1) (aY x.2))) (0:Int)))) (obind (jA (x.1,I.1)) λM=>(obind (jA (x.2,I.1)) λJ=>(ck (fk I.1 (al I.2)) (cK ((cC I.1),(cq I.2 I.1 (jL M J))))))) (aF I.2))) (0,(aG (aS (jL (aY x.1) (aY x.2))) (0:Int)))))
def zd (x:(List Int)×List Int):Option (List Int):=vu @iter x
def jw (x:(List Int)×List Int):Option (List Int):=vu @fU x
def Of (x:List Int):Option (List Int):=
 (bcase (aC (al x) 0) (Fq (af ([]:List Int)) (bF (bc (al ([]:List Int)+al x) 8) (af (([]:List Int)++x)))) (bF (bc (al ([]:List Int)+al x) 8) (af (([]:List Int)++x))))
def xx (x:List Int):Option (List Int):=chk (bc (al x) 8) λ_=>af x
def xF (it:yH) (x:List (List Int)):Option (List (List Int)):=
 (bF (cY 0 (aY x)&&cY (aY x) (aY x)&&bc (aS (aY x)) 24) (it (Int×List (List Int)) _ (λI=>(bB I.1 (aY x) (v9 I.1 x (obind (xx (aJ (T:=(.sl aM)) x I.1)) λJ=>(ck (fk I.1 (al I.2)) (cK ((cC I.1),(cq I.2 I.1 J)))))) (aF I.2))) (0,(aG (aS (aY x)) ([]:List Int)))))
def BP (x:List (List Int)):Option (List (List Int)):=xF @iter x
def iv (x:List (List Int)):Option (List (List Int)):=xF @fU x
def IJ (x:List Int):Option (List Int):=
 (bcase (aC (al x) 0) (Fq (af ([]:List Int)) (bF (bc (al ([]:List Int)+al x) 8) (af (([]:List Int)++x)))) (bF (bc (al ([]:List Int)+al x) 8) (af (([]:List Int)++x))))
def o6 (x:List Int):Option (List Int):=chk (bc (al x) 8) λ_=>af x
def ry (x:(List (List Int))×(List (List Int))×(List (List Int))×(List (List Int))×(List (List Int))×(List (List Int))×(List Int)×(List (List Int))×List Int):Option ((List Int)×(List (List Int))×(List (List Int))×(List (List Int))×(List (List Int))×(List (List Int))×(List (List Int))×(List (List Int))×List Int):=
 (obind (iv x.1) λy1=>(obind (iv x.2.1) λy2=>(obind (iv x.p2) λy3=>(obind (iv x.p3) λZ=>(obind (iv x.p4) λY=>(obind (iv x.p5) λU=>(obind (o6 x.p6) λM=>(obind (iv x.p7) λJ=>(obind (o6 x.q8) λI=>(af (M,y1,y2,y3,Z,Y,U,J,I)))))))))))
def tW (x:Int×List (List Int)):Option ((List Int)×List (List Int)):=
 (jn (α:=Bool×List (List Int)) (bB x.1 0 (aF (ai,x.2)) (aF ((cY (aY x.2) x.1),x.2))) λI=>(bcase I.1 (af (([]:List Int),I.2)) (ck (fk x.1 (al I.2)) (af ((aJ (T:=(.sl aM)) I.2 x.1),I.2)))))
def rz (x:gm×(List Int)×dJ×(List (List Int))×(List (List Int))×(List (List Int))×(List (List Int))×(List (List Int))×(List (List Int))×(List (List Int))×List Int):Option ((List (List Int))×gm×(List Int)×dJ×(List (List Int))×(List (List Int))×(List (List Int))×(List (List Int))×(List (List Int))×(List (List Int))×(List (List Int))×List Int):=
 (bd x.1.2.1 1 (ck (fk x.1.1 (al x.p4)) (af ([(aJ (T:=(.sl aM)) x.p4 x.1.1)],(x.1.1,x.1.2.1,x.1.p2,x.1.p3,x.1.p4,x.1.p5,x.1.q6),x.2.1,(x.p2.1,x.p2.2.1,x.p2.p2,x.p2.p3,x.p2.p4,x.p2.q5),x.p3,x.p4,x.p5,x.p6,x.p7,x.p8,x.p9,x.q10))) (bd x.1.2.1 21 (ck (fk x.1.p2 (al x.p3)) (af ([(aJ (T:=(.sl aM)) x.p3 x.1.p2)],(x.1.1,x.1.2.1,x.1.p2,x.1.p3,x.1.p4,x.1.p5,x.1.q6),x.2.1,(x.p2.1,x.p2.2.1,x.p2.p2,x.p2.p3,x.p2.p4,x.p2.q5),x.p3,x.p4,x.p5,x.p6,x.p7,x.p8,x.p9,x.q10))) (jn (α:=Bool×gm×(List Int)×dJ×(List (List Int))×(List (List Int))×(List (List Int))×(List (List Int))×(List (List Int))×(List (List Int))×(List (List Int))×List Int) (bd x.1.2.1 6 (aF ((decide ((x.1.2.1:Int)=6)),(x.1.1,x.1.2.1,x.1.p2,x.1.p3,x.1.p4,x.1.p5,x.1.q6),x.2.1,(x.p2.1,x.p2.2.1,x.p2.p2,x.p2.p3,x.p2.p4,x.p2.q5),x.p3,x.p4,x.p5,x.p6,x.p7,x.p8,x.p9,x.q10)) (aF ((decide ((x.1.2.1:Int)=10)),(x.1.1,x.1.2.1,x.1.p2,x.1.p3,x.1.p4,x.1.p5,x.1.q6),x.2.1,(x.p2.1,x.p2.2.1,x.p2.p2,x.p2.p3,x.p2.p4,x.p2.q5),x.p3,x.p4,x.p5,x.p6,x.p7,x.p8,x.p9,x.q10))) λI=>(bcase I.1 (ck (fk I.2.1.p2 (al I.p6)) (ck (fk I.2.1.p2 (al I.p7)) (af ([(aJ (T:=(.sl aM)) I.p6 I.2.1.p2),(aJ (T:=(.sl aM)) I.p7 I.2.1.p2)],(I.2.1.1,I.2.1.2.1,I.2.1.p2,I.2.1.p3,I.2.1.p4,I.2.1.p5,I.2.1.q6),I.p2,(I.p3.1,I.p3.2.1,I.p3.p2,I.p3.p3,I.p3.p4,I.p3.q5),I.p4,I.p5,I.p6,I.p7,I.p8,I.p9,I.p10,I.q11)))) (bd x.1.2.1 8 (ck (fk I.2.1.p2 (al I.p6)) (af ([(aJ (T:=(.sl aM)) I.p6 I.2.1.p2)],(I.2.1.1,I.2.1.2.1,I.2.1.p2,I.2.1.p3,I.2.1.p4,I.2.1.p5,I.2.1.q6),I.p2,(I.p3.1,I.p3.2.1,I.p3.p2,I.p3.p3,I.p3.p4,I.p3.q5),I.p4,I.p5,I.p6,I.p7,I.p8,I.p9,I.p10,I.q11))) (bd x.1.2.1 17 (v9 I.2.1.p2 I.p3.p2 (obind (tW ((aJ (T:=mb) I.p3.p2 I.2.1.p2).2,I.p6)) λM=>(bF (aC (al I.p6) (al M.2)&&ai) (obind (tW ((aJ (T:=mb) I.p3.p2 I.2.1.p2).2,I.p7)) λJ=>(bF (aC (al I.p7) (al J.2)&&ai) (ck (fk I.2.1.1 (al I.p10)) (af ([M.1,J.1,(aJ (T:=(.sl aM)) I.p10 I.2.1.1)],(I.2.1.1,I.2.1.2.1,I.2.1.p2,I.2.1.p3,I.2.1.p4,I.2.1.p5,I.2.1.q6),I.p2,(I.p3.1,I.p3.2.1,I.p3.p2,I.p3.p3,I.p3.p4,I.p3.q5),I.p4,I.p5,M.2,J.2,I.p8,I.p9,I.p10,I.q11)))))))) (bd x.1.2.1 3 (ck (fk I.2.1.p2 (al I.p8)) (af ([(aJ (T:=(.sl aM)) I.p8 I.2.1.p2)],(I.2.1.1,I.2.1.2.1,I.2.1.p2,I.2.1.p3,I.2.1.p4,I.2.1.p5,I.2.1.q6),I.p2,(I.p3.1,I.p3.2.1,I.p3.p2,I.p3.p3,I.p3.p4,I.p3.q5),I.p4,I.p5,I.p6,I.p7,I.p8,I.p9,I.p10,I.q11))) (bd x.1.2.1 23 (ck (fk I.2.1.p2 (al I.p9)) (af ([(aJ (T:=(.sl aM)) I.p9 I.2.1.p2)],(I.2.1.1,I.2.1.2.1,I.2.1.p2,I.2.1.p3,I.2.1.p4,I.2.1.p5,I.2.1.q6),I.p2,(I.p3.1,I.p3.2.1,I.p3.p2,I.p3.p3,I.p3.p4,I.p3.q5),I.p4,I.p5,I.p6,I.p7,I.p8,I.p9,I.p10,I.q11))) (bd x.1.2.1 12 (af ([I.p2],(I.2.1.1,I.2.1.2.1,I.2.1.p2,I.2.1.p3,I.2.1.p4,I.2.1.p5,I.2.1.q6),I.p2,(I.p3.1,I.p3.2.1,I.p3.p2,I.p3.p3,I.p3.p4,I.p3.q5),I.p4,I.p5,I.p6,I.p7,I.p8,I.p9,I.p10,I.q11)) (af (([]:List (List Int)),(I.2.1.1,I.2.1.2.1,I.2.1.p2,I.2.1.p3,I.2.1.p4,I.2.1.p5,I.2.1.q6),I.p2,(I.p3.1,I.p3.2.1,I.p3.p2,I.p3.p3,I.p3.p4,I.p3.q5),I.p4,I.p5,I.p6,I.p7,I.p8,I.p9,I.p10,I.q11)))))))))))
def Aq (it:yH) (x:gX×gG×(List fw)×ca×ca×List (Int×Int×Int)):Option Xz:=
 (ck (cY 0 (aY x.p4)&&cY (aY x.p4) (aY x.p4)&&bc (aS (aY x.p4)) 24) (ck (cY 0 (aY x.2.1)&&cY (aY x.2.1) (aY x.2.1)&&bc (aS (aY x.2.1)) 24) (bF (cY 0 (aY x.1)&&cY (aY x.1) (aY x.1)&&bc (aS (aY x.1)) 24) (bF (cY 0 (aY x.p3)&&cY (aY x.p3) (aY x.p3)&&bc (aS (aY x.p3)) 24) (bF (cY 0 (aY x.p4)&&cY (aY x.p4) (aY x.p4)&&bc (aS (aY x.p4)) 24) (bF (cY 0 (aY x.p4)&&cY (aY x.p4) (aY x.p4)&&bc (aS (aY x.p4)) 8) (it (Int×(List (List Int))×(List (List Int))×(List (List Int))×(List (List Int))×(List (List Int))×(List (List Int))×(List (List Int))×List Int) _ (λI=>(bB I.1 (aQ (al (aG (aS (aY x.p4)) (0:Int)))) (ck (fk I.1 (al I.q8)) (cK ((cC I.1),I.2.1,I.p2,I.p3,I.p4,I.p5,I.p6,I.p7,(cq I.q8 I.1 (-1))))) (aF (I.2.1,I.p2,I.p3,I.p4,I.p5,I.p6,([]:List Int),I.p7,I.q8)))) (0,(aG (aS (aY x.p4)) ([]:List Int)),(aG (aS (aY x.p4)) ([]:List Int)),(aG (aS (aY x.2.1)) ([]:List Int)),(aG (aS (aY x.2.1)) ([]:List Int)),(aG (aS (aY x.1)) ([]:List Int)),(aG (aS (aY x.p3)) ([]:List Int)),(aG (aS (aY x.p4)) ([]:List Int)),(aG (aS (aY x.p4)) (0:Int))))))))))
def Ew (x:gX×gG×(List fw)×ca×ca×List (Int×Int×Int)):Option Xz:=Aq @iter x
def nQ (x:gX×gG×(List fw)×ca×ca×List (Int×Int×Int)):Option Xz:=Aq @fU x
def pN (x:(List Int)×Int):Option (List Int):=
 (jn (α:=Bool) (jZ 0 x.2 (aF (fX x.2 4)) (aF aj)) λM=>(jn (α:=Int) (bcase M (aF (jL (aY x.1) (cC x.2))) (aF (aY x.1))) λI=>(bF (cY 0 I&&cY I I&&bc (aS I) 8) (jn (α:=List Int) (jn (α:=Bool×List Int) (bcase M (ck (fk x.2 (al (TA (aG (aS I) (0:Int)) x.1))) (aF ((fX (aJ (T:=aM) (TA (aG (aS I) (0:Int)) x.1) x.2) 9223372036854775807),(TA (aG (aS I) (0:Int)) x.1)))) (aF (aj,(TA (aG (aS I) (0:Int)) x.1)))) λJ=>(bcase J.1 (ck (fk x.2 (al J.2)) (ck (fk x.2 (al J.2)) (aF (cq J.2 x.2 (bn .i64 ((aJ (T:=aM) J.2 x.2)+1)))))) (aF J.2))) λU=>(af U)))))
def wD (x:List Int):Option ((List Int)×List Int):=
 (bF (bc (al ([]:List Int)+al x) 8) (af ((([]:List Int)++x),x)))
def vh (x:List Int):Option (List Int):=obind (wD x) λy=>Mv y.2 x (af y.1)
def H0 (it:yH) (x:(List Int)×List Int):Option ((List Int)×List Int):=
 (bF (cY 0 (jL (aY x.1) (aY x.2))&&cY (jL (aY x.1) (aY x.2)) (jL (aY x.1) (aY x.2))&&bc (aS (jL (aY x.1) (aY x.2))) 8) (it (Int×(List Int)×List Int) _ (λI=>(bB I.1 (aQ (al (aG (aS (jL (aY x.1) (aY x.2))) (0:Int)))) (obind (jA (x.1,I.1)) λM=>(obind (jA (I.2.1,I.1)) λJ=>(ck (fk I.1 (al I.2.2)) (cK ((cC I.1),I.2.1,(cq I.2.2 I.1 (jL M J))))))) (aF (I.2.2,I.2.1)))) (0,x.2,(aG (aS (jL (aY x.1) (aY x.2))) (0:Int)))))
def Ob (x:(List Int)×List Int):Option ((List Int)×List Int):=H0 @iter x
def tJ (x:(List Int)×List Int):Option ((List Int)×List Int):=H0 @fU x
def BW (x:(List Int)×List Int):Option (List Int):=obind (tJ x) λy=>Mv y.2 x.2 (af y.1)
def lD (x:Int×(List (List Int))×List Int):Option ((List (List Int))×List Int):=
 (jn (α:=Bool×(List (List Int))×List Int) (jZ 0 x.1 (aF ((fX x.1 (aY x.2.1)),x.2.1,x.2.2)) (aF (aj,x.2.1,x.2.2))) λI=>(bcase I.1 (ck (fk x.1 (al I.2.1)) (obind (BW ((aJ (T:=(.sl aM)) I.2.1 x.1),I.2.2)) λJ=>(ck (fk x.1 (al I.2.1)) (af ((cq I.2.1 x.1 J),I.2.2))))) (af (I.2.1,I.2.2))))
def wA (x:Int×(List Int)×(List (List Int))×(List (List Int))×(List (List Int))×(List (List Int))×(List (List Int))×(List (List Int))×(List (List Int))×(List Int)×List Int):Option Yd1:=
 (obind (vh x.q10) λI=>(ck (fk x.1 (al x.p8)) (ck (fk x.1 (al x.p9)) (af (x.2.1,x.p2,x.p3,x.p4,x.p5,x.p6,x.p7,(cq x.p8 x.1 I),(cq x.p9 x.1 (-1)),x.q10)))))
def Ao (it:yH) (x:Yd4×(List Int)×(List (List Int))×(List (List Int))×(List (List Int))×(List (List Int))×(List (List Int))×(List (List Int))×(List (List Int))×(List Int)×List Int):Option Yd1:=
 (obind (vh x.q10) λy1=>(ck (fk x.1.2.1 (al x.p2)) (jn (α:=(List Int)×(List (List Int))×(List (List Int))×(List (List Int))×(List (List Int))×(List (List Int))×(List (List Int))×(List (List Int))×(List Int)×List Int) (bd x.1.p2 20 (obind (vh x.q10) λy3=>(ck (fk x.1.p3 (al x.p3)) (aF (x.2.1,(cq x.p2 x.1.2.1 y1),(cq x.p3 x.1.p3 y3),x.p4,x.p5,x.p6,x.p7,x.p8,x.p9,x.q10)))) (jn (α:=Bool×(List Int)×(List (List Int))×(List (List Int))×(List (List Int))×(List (List Int))×(List (List Int))×(List (List Int))×(List (List Int))×(List Int)×(List Int)×dJ×Int×Int×Int×Int×Int×(List Int)×List Int) (bd x.1.p2 7 (aF ((decide ((x.1.p2:Int)=7)),x.2.1,(cq x.p2 x.1.2.1 y1),x.p3,x.p4,x.p5,x.p6,x.p7,x.p8,x.p9,x.q10,(x.1.1.1,x.1.1.2.1,x.1.1.p2,x.1.1.p3,x.1.1.p4,x.1.1.q5),x.1.2.1,x.1.p2,x.1.p3,x.1.p4,x.1.p5,x.1.p6,x.1.q7)) (aF ((decide ((x.1.p2:Int)=11)),x.2.1,(cq x.p2 x.1.2.1 y1),x.p3,x.p4,x.p5,x.p6,x.p7,x.p8,x.p9,x.q10,(x.1.1.1,x.1.1.2.1,x.1.1.p2,x.1.1.p3,x.1.1.p4,x.1.1.q5),x.1.2.1,x.1.p2,x.1.p3,x.1.p4,x.1.p5,x.1.p6,x.1.q7))) λI=>(bcase I.1 (obind (lD (I.p14,I.p4,I.p10)) λy5=>(bF (aC (al I.p10) (al y5.2)&&(aC (al I.p4) (al y5.1)&&ai)) (aF (I.2.1,I.p2,I.p3,y5.1,I.p5,I.p6,I.p7,I.p8,I.p9,y5.2)))) (bd x.1.p2 9 (obind (lD (I.p14,I.p5,I.p10)) λy6=>(bF (aC (al I.p10) (al y6.2)&&(aC (al I.p5) (al y6.1)&&ai)) (aF (I.2.1,I.p2,I.p3,I.p4,y6.1,I.p6,I.p7,I.p8,I.p9,y6.2)))) (bd x.1.p2 16 (ck (fk I.p12 (al I.p9)) (v9 I.p14 I.p11.p2 (obind (lD ((aJ (T:=mb) I.p11.p2 I.p14).2,I.p4,I.p10)) λy7=>(bF (aC (al I.p10) (al y7.2)&&(aC (al I.p4) (al y7.1)&&ai)) (aF (I.2.1,I.p2,I.p3,y7.1,I.p5,I.p6,I.p7,I.p8,(cq I.p9 I.p12 I.p14),y7.2)))))) (bd x.1.p2 4 (v9 I.p14 I.p11.1 (bcase (((((aJ (T:=kB) I.p11.1 I.p14).2).2).2).1) (obind (lD (I.p14,I.p6,I.p10)) λy8=>(bF (aC (al I.p10) (al y8.2)&&(aC (al I.p6) (al y8.1)&&ai)) (aF (I.2.1,I.p2,I.p3,I.p4,I.p5,y8.1,I.p7,I.p8,I.p9,y8.2)))) (aF (I.2.1,I.p2,I.p3,I.p4,I.p5,I.p6,I.p7,I.p8,I.p9,I.p10)))) (bd x.1.p2 22 (obind (lD (I.p14,I.p7,I.p10)) λy9=>(bF (aC (al I.p10) (al y9.2)&&(aC (al I.p7) (al y9.1)&&ai)) (aF (I.2.1,I.p2,I.p3,I.p4,I.p5,I.p6,y9.1,I.p8,I.p9,y9.2)))) (bd x.1.p2 13 (obind (BW (I.2.1,I.p10)) λy10=>(aF (y10,I.p2,I.p3,I.p4,I.p5,I.p6,I.p7,I.p8,I.p9,I.p10))) (bd x.1.p2 18 (jn (α:=Bool×(List Int)×(List (List Int))×(List (List Int))×(List (List Int))×(List (List Int))×(List (List Int))×(List (List Int))×(List (List Int))×(List Int)×(List Int)×Int×Int×Int×Int×Int×(List Int)×List Int) (jZ 0 I.p15 (aF ((fX I.p15 (aY I.p8)),I.2.1,I.p2,I.p3,I.p4,I.p5,I.p6,I.p7,I.p8,I.p9,I.p10,I.p12,I.p13,I.p14,I.p15,I.p16,I.p17,I.q18)) (aF (aj,I.2.1,I.p2,I.p3,I.p4,I.p5,I.p6,I.p7,I.p8,I.p9,I.p10,I.p12,I.p13,I.p14,I.p15,I.p16,I.p17,I.q18))) λM=>(bcase M.1 (obind (wA (M.p14,M.2.1,M.p2,M.p3,M.p4,M.p5,M.p6,M.p7,M.p8,M.p9,M.p10)) λY=>(bF (aC (al M.p10) (al Y.q9)&&(aC (al M.p9) (al Y.p8)&&(aC (al M.p8) (al Y.p7)&&(aC (al M.p7) (al Y.p6)&&(aC (al M.p6) (al Y.p5)&&(aC (al M.p5) (al Y.p4)&&(aC (al M.p4) (al Y.p3)&&(aC (al M.p3) (al Y.p2)&&(aC (al M.p2) (al Y.2.1)&&ai))))))))) (aF (Y.1,Y.2.1,Y.p2,Y.p3,Y.p4,Y.p5,Y.p6,Y.p7,Y.p8,Y.q9)))) (aF (M.2.1,M.p2,M.p3,M.p4,M.p5,M.p6,M.p7,M.p8,M.p9,M.p10)))) (bd x.1.p2 19 (it (Int×(List Int)×(List (List Int))×(List (List Int))×(List (List Int))×(List (List Int))×(List (List Int))×(List (List Int))×(List (List Int))×(List Int)×(List Int)×Int×Int×Int×Int×Int×(List Int)×List Int) _ (λJ=>(bB J.1 (aY I.p9) (jn (α:=(List Int)×(List (List Int))×(List (List Int))×(List (List Int))×(List (List Int))×(List (List Int))×(List (List Int))×(List (List Int))×(List Int)×(List Int)×Int×Int×Int×Int×Int×(List Int)×List Int) (ck (fk J.1 (al J.p9)) (bd (aJ (T:=aM) J.p9 J.1) J.p13 (obind (wA (J.1,J.2.1,J.p2,J.p3,J.p4,J.p5,J.p6,J.p7,J.p8,J.p9,J.p10)) λU=>(bF (aC (al J.p10) (al U.q9)&&(aC (al J.p9) (al U.p8)&&(aC (al J.p8) (al U.p7)&&(aC (al J.p7) (al U.p6)&&(aC (al J.p6) (al U.p5)&&(aC (al J.p5) (al U.p4)&&(aC (al J.p4) (al U.p3)&&(aC (al J.p3) (al U.p2)&&(aC (al J.p2) (al U.2.1)&&ai))))))))) (aF (U.1,U.2.1,U.p2,U.p3,U.p4,U.p5,U.p6,U.p7,U.p8,U.q9,J.p11,J.p12,J.p13,J.p14,J.p15,J.p16,J.q17)))) (aF (J.2.1,J.p2,J.p3,J.p4,J.p5,J.p6,J.p7,J.p8,J.p9,J.p10,J.p11,J.p12,J.p13,J.p14,J.p15,J.p16,J.q17)))) λZ=>(cK ((cC J.1),Z.1,Z.2.1,Z.p2,Z.p3,Z.p4,Z.p5,Z.p6,Z.p7,Z.p8,Z.p9,Z.p10,Z.p11,Z.p12,Z.p13,Z.p14,Z.p15,Z.q16))) (aF (bW (J.2.1,J.p2,J.p3,J.p4,J.p5,J.p6,J.p7,J.p8,J.p9,J.p10))))) (0,I.2.1,I.p2,I.p3,I.p4,I.p5,I.p6,I.p7,I.p8,I.p9,I.p10,I.p12,I.p13,I.p14,I.p15,I.p16,I.p17,I.q18)) (aF (I.2.1,I.p2,I.p3,I.p4,I.p5,I.p6,I.p7,I.p8,I.p9,I.p10)))))))))))) λx2=>(af (x2.1,x2.2.1,x2.p2,x2.p3,x2.p4,x2.p5,x2.p6,x2.p7,x2.p8,x2.q9)))))
def Eu (x:Yd4×(List Int)×(List (List Int))×(List (List Int))×(List (List Int))×(List (List Int))×(List (List Int))×(List (List Int))×(List (List Int))×(List Int)×List Int):Option Yd1:=Ao @iter x
def pK (x:Yd4×(List Int)×(List (List Int))×(List (List Int))×(List (List Int))×(List (List Int))×(List (List Int))×(List (List Int))×(List (List Int))×(List Int)×List Int):Option Yd1:=Ao @fU x
def Db (it:yH) (x:dJ×Xz×Int×Int×Int×Int×Int×(List Int)×List Int):Option (Xz×List Int):=
 (obind (ry (x.2.1.1,x.2.1.2.1,x.2.1.p2,x.2.1.p3,x.2.1.p4,x.2.1.p5,x.2.1.p6,x.2.1.p7,x.2.1.q8)) λU=>(ck (fk x.p2 (al U.2.1)) (obind (rz ((x.p2,x.p3,x.p4,x.p5,x.p6,x.p7,x.q8),U.1,(x.1.1,x.1.2.1,x.1.p2,x.1.p3,x.1.p4,x.1.q5),U.2.1,U.p2,U.p3,U.p4,U.p5,U.p6,U.p7,U.q8)) λJ=>(bF (aC (al U.q8) (al J.q11)&&(aC (al U.p7) (al J.p10)&&(aC (al U.p6) (al J.p9)&&(aC (al U.p5) (al J.p8)&&(aC (al U.p4) (al J.p7)&&(aC (al U.p3) (al J.p6)&&(aC (al U.p2) (al J.p5)&&(aC (al U.2.1) (al J.p4)&&ai)))))))) (it (Int×dJ×gm×(List Int)×(List Int)×(List (List Int))×(List (List Int))×(List (List Int))×(List (List Int))×(List (List Int))×(List (List Int))×(List (List Int))×List Int) _ (λI=>(bB I.1 (aY J.1) (v9 I.1 J.1 (obind (jw (I.p4,(aJ (T:=(.sl aM)) J.1 I.1))) λZ=>(cK ((cC I.1),(I.2.1.1,I.2.1.2.1,I.2.1.p2,I.2.1.p3,I.2.1.p4,I.2.1.q5),(I.p2.1,I.p2.2.1,I.p2.p2,I.p2.p3,I.p2.p4,I.p2.p5,I.p2.q6),I.p3,Z,I.p5,I.p6,I.p7,I.p8,I.p9,I.p10,I.p11,I.q12)))) (obind (obind (pN (I.p4,I.p2.1)) λY=>(obind (pK (((I.2.1.1,I.2.1.2.1,I.2.1.p2,I.2.1.p3,I.2.1.p4,I.2.1.q5),I.p2.1,I.p2.2.1,I.p2.p2,I.p2.p3,I.p2.p4,I.p2.p5,I.p2.q6),I.p3,I.p5,I.p6,I.p7,I.p8,I.p9,I.p10,I.p11,I.q12,Y)) λM=>(bF (aC (al Y) (al M.q9)&&(aC (al I.q12) (al M.p8)&&(aC (al I.p11) (al M.p7)&&(aC (al I.p10) (al M.p6)&&(aC (al I.p9) (al M.p5)&&(aC (al I.p8) (al M.p4)&&(aC (al I.p7) (al M.p3)&&(aC (al I.p6) (al M.p2)&&(aC (al I.p5) (al M.2.1)&&ai))))))))) (af ((M.2.1,M.p2,M.p3,M.p4,M.p5,M.p6,M.1,M.p7,M.p8),M.q9))))) λr=>af (bW r)))) (0,(J.p3.1,J.p3.2.1,J.p3.p2,J.p3.p3,J.p3.p4,J.p3.q5),(J.2.1.1,J.2.1.2.1,J.2.1.p2,J.2.1.p3,J.2.1.p4,J.2.1.p5,J.2.1.q6),J.p2,(aJ (T:=(.sl aM)) U.2.1 x.p2),J.p4,J.p5,J.p6,J.p7,J.p8,J.p9,J.p10,J.q11))))))
def IE (x:dJ×Xz×Int×Int×Int×Int×Int×(List Int)×List Int):Option (Xz×List Int):=Db @iter x
def sw (x:dJ×Xz×Int×Int×Int×Int×Int×(List Int)×List Int):Option (Xz×List Int):=Db @fU x
def rF (it:yH) (x:List UInt8):Option (Bool):=
 (lt (aJ (T:=(.st (.pr .str (.pr .str (.pr .str (.pr .str (.pr .str (.pr .str (.pr .str (.pr .str (.pr .str (.pr .str (.pr .str (.pr .str (.pr .str (.pr .str (.pr .str (.pr .str (.pr .str (.pr .str (.pr .str (.pr .str (.pr .str .str))))))))))))))))))))))) ([kwV]) 0) λI=>(it (Int) _ (λJ=>(bB J 22 (bF (cY 0 J&&fX J 22) (lt (aJ (T:=.str) [I.1,I.2.1,I.p2,I.p3,I.p4,I.p5,I.p6,I.p7,I.p8,I.p9,I.p10,I.p11,I.p12,I.p13,I.p14,I.p15,I.p16,I.p17,I.p18,I.p19,I.p20,I.q21] J) λM=>(bcase (decide ((x:List UInt8)=M)) (aF ai) (cK (cC J))))) (aF aj))) 0))
def re (x:List UInt8):Option (Bool):=rF @iter x
def kX (x:List UInt8):Option (Bool):=rF @fU x
def vP (it:yH) (x:List UInt8):Option (Bool):=
 (jn (α:=Bool) (bB (aY x) 1 (aF ai) (bB 12 (aY x) (aF ai) (obind (kX x) λU=>(aF U)))) λZ=>(bcase Z (af aj) (it (List (fw×Unit)) _ (λI=>(bcase (gk (Oj I) (al (PQ I))) (bF (fX (Ay (PQ I) (aQ (Oj I))) 128) (jn (α:=List (fw×Unit)) (jn (α:=Bool×List (fw×Unit)) (jZ 97 (Ay (PQ I) (aQ (Oj I))) (jZ (Ay (PQ I) (aQ (Oj I))) 122 (aF (ai,[(((PQ I),(aQ ((Oj I)+1))),())])) (jZ 65 (Ay (PQ I) (aQ (Oj I))) (aF ((cY (Ay (PQ I) (aQ (Oj I))) 90),[(((PQ I),(aQ ((Oj I)+1))),())])) (aF (aj,[(((PQ I),(aQ ((Oj I)+1))),())])))) (jZ 65 (Ay (PQ I) (aQ (Oj I))) (aF ((cY (Ay (PQ I) (aQ (Oj I))) 90),[(((PQ I),(aQ ((Oj I)+1))),())])) (aF (aj,[(((PQ I),(aQ ((Oj I)+1))),())])))) λJ=>(bcase J.1 (aF J.2) (jn (α:=Bool×List (fw×Unit)) (bB 0 (aQ (Oj I)) (bd (Ay (PQ I) (aQ (Oj I))) 95 (aF (ai,J.2)) (jZ 48 (Ay (PQ I) (aQ (Oj I))) (aF ((cY (Ay (PQ I) (aQ (Oj I))) 57),J.2)) (aF (aj,J.2)))) (aF (aj,J.2))) λM=>(bcase M.1 (aF M.2) (cK (bW aj)))))) λY=>(cK Y))) (aF ai))) ([((x,0),())]))))
def vJ (x:List UInt8):Option (Bool):=vP @iter x
def oG (x:List UInt8):Option (Bool):=vP @fU x
def xK (it:yH) (x:(List Int)×Int):Option (Int):=
 (it (Int) _ (λI=>(bB I (aY x.1) (bI aM x.1 I λJ=>(bd x.2 J (aF I) (cK (cC I)))) (aF (-1)))) 0)
def BR (x:(List Int)×Int):Option (Int):=xK @iter x
def rB (x:(List Int)×Int):Option (Int):=xK @fU x
def kz (x:(List Int)×Int):Option (Bool):=
 (obind (rB x) λI=>(af (cY 0 I)))
def ml (x:(List Int)×Int×Int):Option (Bool):=
 (obind (jA (x.1,x.2.2)) λI=>(af (cY x.2.1 I)))
def uo (x:Int×Int×Int×Int×Int×(List Int)×List Int):Option (Bool):=
 (jn (α:=Bool) (bd x.2.1 3 (aF ai) (aF (decide ((x.2.1:Int)=4)))) λI=>(af I))
def qu (x:(dJ×List gm)×Int×Int):Option (Bool):=
 (bI jt x.1.2 x.2.1 λM=>(bI jt x.1.2 x.2.2 λJ=>(jn (α:=Bool×(dJ×List gm)×gm×Int×Int×Int×Int×Int×(List Int)×List Int) (bd M.1 J.1 (aF (ai,x.1,M,J)) (aF ((!decide ((M.p2:Int)=J.p2)),x.1,M,J))) λI=>(bcase I.1 (af aj) (jn (α:=Bool×gm×Int×Int×Int×Int×Int×(List Int)×List Int) (obind (uo I.p2) λy5=>(bcase (!y5) (aF (ai,I.2.2)) (obind (uo I.q3) λZ=>(bcase (!Z) (aF (ai,I.2.2)) (bI kB I.2.1.1.1 I.p2.p2 λY=>(aF (Y.2.2.2.1,I.2.2))))))) λU=>(bcase U.1 (af aj) (jn (α:=Bool) (bd U.2.1.2.1 4 (aF ai) (aF (decide ((U.p3:Int)=4)))) λx8=>(af x8))))))))
def xE (it:yH) (x:List gm):Option GY:=
 (bF (cY 0 (aY x)&&cY (aY x) (aY x)&&bc (aS (aY x)) 16) (it (Int×GY×List (Int×Int)) _ (λI=>(bB I.1 (aY x) (bI jt x I.1 λJ=>(ck (fk I.1 (al I.2.2)) (cK ((cC I.1),(CQ (K:=aM) (V:=aM) J.1 (bn .i64 ((s9 (K:=aM) (V:=aM) J.1 I.2.1 0)+1)) I.2.1),(cq I.2.2 I.1 ((s9 (K:=aM) (V:=aM) J.1 (CQ (K:=aM) (V:=aM) J.1 (bn .i64 ((s9 (K:=aM) (V:=aM) J.1 I.2.1 0)+1)) I.2.1) 0),J.1)))))) (aF I.2.2))) (0,([]:List (Int×Int)),(aG (aS (aY x)) ((0,0):Int×Int)))))
def BO (x:List gm):Option GY:=xE @iter x
def pw (x:List gm):Option GY:=xE @fU x
def sR (x:Int×Int):Option (Bool):=
 (jn (α:=Bool) (jZ 0 x.1 (aF (fX x.1 x.2)) (aF aj)) λI=>(af I))
def sS (x:dJ×Int×Bool):Option (Bool):=
 (jn (α:=Bool) (obind (sR (x.2.1,(aY x.1.2.1))) λJ=>(bcase J (bI rP x.1.2.1 x.2.1 λI=>(aF ((I.2==x.2.2) !=aj))) (aF aj))) λM=>(af M))
def oz (it:yH) (x:List SU):Option (ca×Bool):=
 (it (Int×List (List UInt8)) _ (λM=>(bB M.1 (aY x) (jn (α:=Int×List (List UInt8)) (bI kB x M.1 λI=>(bF (bc (al M.2+al ([I.1])) 16) (bd I.p2 0 (iF I.2.1 0 (cK (bW (([]:List (List UInt8)),aj))) (aF ((cC M.1),(M.2++([I.1]))))) (jn (α:=Bool×ca×(List UInt8)×Int×Int×Bool×Int) (bB I.p2 1 (aF (ai,(M.2++([I.1])),I)) (bB 4 I.p2 (aF (ai,(M.2++([I.1])),I)) (bcase I.p3 (aF (ai,(M.2++([I.1])),I)) (aF ((fX (bn .i64 ((aY x)-M.1)) I.p2),(M.2++([I.1])),I))))) λY=>(bcase Y.1 (cK (bW (([]:List (List UInt8)),aj))) (it (Int×ca×(List UInt8)×Int×Int×Bool×Int) _ (λJ=>(bB J.1 Y.p4 (bI kB x (bn .i64 (M.1+J.1)) λU=>(bcase (Lj (.pr .str (.pr aM (.pr aM (.pr .bool (.pr aM .un))))) (U.1,U.2.1,U.p2,U.p3,U.q4,()) (J.p2,J.1,J.p4,J.p5,J.q6,()) !=ai) (aF (oS (bW (([]:List (List UInt8)),aj)))) (cK ((cC J.1),J.2.1,J.p2,J.1,J.q4)))) (aF (bW ((bn .i64 (M.1+J.p4)),J.2.1))))) (0,Y.2))))))) λZ=>(cK Z)) (aF (M.2,ai)))) (0,([]:List (List UInt8))))
def oq (x:List SU):Option (ca×Bool):=oz @iter x
def hP (x:List SU):Option (ca×Bool):=oz @fU x
def oy (it:yH) (x:dJ×List (List UInt8)):Option (Bool):=
 (bF (bc (al (x.2:List (List UInt8))) 16) (it (Int×dJ×List (List UInt8)) _ (λJ=>(bB J.1 (aY x.1.2.1) (bI rP x.1.2.1 J.1 λz2=>(bF (bc (al J.2.2+al ([z2.1])) 16) (cK ((cC J.1),J.2.1,(J.2.2++([z2.1])))))) (obind (it (Int×dJ×List (List UInt8)) _ (λI=>(bB I.1 (aY J.2.1.p2) (bI mb J.2.1.p2 I.1 λZ=>(bF (bc (al I.2.2+al ([Z.1])) 16) (cK ((cC I.1),I.2.1,(I.2.2++([Z.1])))))) (obind (bF (bc (al I.2.2+al I.2.1.p3) 16) (bF (bc (al (I.2.2++I.2.1.p3)+al I.2.1.p4) 16) (it (Int×gG×List (List UInt8)) _ (λM=>(bB M.1 (aQ (al ((I.2.2++I.2.1.p3)++I.2.1.p4))) (kF (.str) M.2.2 M.1 λU=>(jn (α:=Bool×gG×List (List UInt8)) (obind (oG U) λy8=>(bcase (!y8) (aF (ai,M.2)) (aF ((s9 (K:=.str) (V:=.bool) U M.2.1 aj),M.2)))) λY=>(bcase Y.1 (aF aj) (cK ((cC M.1),(CQ (K:=.str) (V:=.bool) U ai Y.2.1),Y.2.2))))) (aF ai))) (0,([]:List ((List UInt8)×Bool)),((I.2.2++I.2.1.p3)++I.2.1.p4))))) λr=>af (bW r)))) (0,J.2)) λr=>af (bW r)))) (0,x)))
def oo (x:dJ×List (List UInt8)):Option (Bool):=oy @iter x
def dO (x:dJ×List (List UInt8)):Option (Bool):=oy @fU x
def kN (it:yH) (x:gX×gG×(List fw)×ca×ca×List (Int×Int×Int)):Option (Bool):=
 (it ((Int×Int×Int)×gX×gG×(List fw)×ca×ca×List (Int×Int×Int)) _ (λI=>(bB I.1.2.2 (aY x.q5) (bI oR x.q5 I.1.2.2 λU=>(jn (α:=Bool×dJ×Int×Int×Int) (bB U.1 I.1.1 (aF (ai,I.2,U)) (aF ((cY (aY I.p5) U.1),I.2,U))) λM=>(bcase M.1 (aF aj) (jn (α:=(Int×Int)×dJ×Int×Int×Int) (bB I.1.1 M.p2 (aF ((M.p2,0),M.2)) (aF ((I.1.1,I.1.2.1),M.2))) λJ=>(iF J.p3 J.1.2 (aF aj) (cK ((J.1.1,(cC J.1.2),(cC I.1.2.2)),J.2.1))))))) (aF ai))) ((0,0,0),x))
def om (x:gX×gG×(List fw)×ca×ca×List (Int×Int×Int)):Option (Bool):=kN @iter x
def fZ (x:gX×gG×(List fw)×ca×ca×List (Int×Int×Int)):Option (Bool):=kN @fU x
def kO (it:yH) (x:gX×gG×(List fw)×ca×ca×List (Int×Int×Int)):Option (Bool):=
 (jn (α:=Bool×gX×gG×(List fw)×ca×ca×List (Int×Int×Int)) (bB 12 (aY x.1) (aF (ai,x)) (bB 4 (aY x.2.1) (aF (ai,x)) (bB 2 (aY x.p2) (aF (ai,x)) (bB 2 (aY x.p3) (aF (ai,x)) (aF ((fX 60 (aY x.q5)),x)))))) λM=>(bcase M.1 (af aj) (jn (α:=Bool×gX×gG×(List fw)×ca×ca×List (Int×Int×Int)) (bB (aY M.p5) 1 (aF (ai,M.2)) (aF ((fX 4 (aY M.p5)),M.2))) λJ=>(bcase J.1 (af aj) (obind (hP J.2.1) λY=>(jn (α:=Bool×gX×gG×(List fw)×ca×ca×List (Int×Int×Int)) (bcase (!Y.2) (aF (ai,J.2)) (obind (dO (J.2,Y.1)) λy5=>(aF ((!y5),J.2)))) λU=>(bcase U.1 (af aj) (it Yd3 _ (λI=>(bB I.1 (aY U.p3) (bI mb U.p3 I.1 λZ=>(obind (sS (I.2,Z.2,aj)) λy8=>(bcase (!y8) (aF aj) (cK ((cC I.1),I.2))))) (obind (obind (fZ I.2) λy9=>(af y9)) λr=>af (bW r)))) (0,U.2)))))))))
def ou (x:gX×gG×(List fw)×ca×ca×List (Int×Int×Int)):Option (Bool):=kO @iter x
def dP (x:gX×gG×(List fw)×ca×ca×List (Int×Int×Int)):Option (Bool):=kO @fU x
def vQ (it:yH) (x:gX×gG×(List fw)×ca×ca×List (Int×Int×Int)):Option pa:=
 (bF (cY 0 (aY x.2.1)&&cY (aY x.2.1) (aY x.2.1)&&bc (aS (aY x.2.1)) 32) (bF (cY 0 (aY x.p3)&&cY (aY x.p3) (aY x.p3)&&bc (aS (aY x.p3)) 1) (bF (cY 0 (aY x.p4)&&cY (aY x.p4) (aY x.p4)&&bc (aS (aY x.p4)) 24) (it (Int×Int×Int×gF×(List Bool)×List dw) _ (λI=>(bB I.1 (aQ (al (aG (aS (aY x.2.1)) ((0,[]):Int×List Int)))) (ck (fk I.1 (al I.p3)) (cK ((cC I.1),I.2.1,I.p2,(cq I.p3 I.1 ((-1),(aJ (T:=ef) I.p3 I.1).2)),I.q4))) (obind (jn (α:=Int×Int×gF×(List Bool)×List dw) (bB 0 (aY I.q5) (ck (fk 0 (al I.q5)) (aF (I.2.1,I.p2,I.p3,I.p4,(cq I.q5 0 (1,(aJ (T:=ie) I.q5 0).2))))) (aF I.2)) λJ=>(af (J.p2,J.2.1,J.q3))) λr=>af (bW r)))) (0,0,(-1),(aG (aS (aY x.2.1)) ((0,[]):Int×List Int)),(aG (aS (aY x.p3)) (aj:Bool)),(aG (aS (aY x.p4)) ((0,(0,aj)):Int×Int×Bool)))))))
def vL (x:gX×gG×(List fw)×ca×ca×List (Int×Int×Int)):Option pa:=vQ @iter x
def oJ (x:gX×gG×(List fw)×ca×ca×List (Int×Int×Int)):Option pa:=vQ @fU x
def qy (it:yH) (x:gX×gG×(List fw)×ca×ca×List (Int×Int×Int)):Option eO:=
 (obind (oJ x) λM=>(bF (cY 0 0&&cY 0 (aY x.1)&&bc (aS (aY x.1)) 8) (bF (cY 0 (aY x.p3)&&cY (aY x.p3) (aY x.p3)&&bc (aS (aY x.p3)) 8) (bF (cY 0 (aY x.p4)&&cY (aY x.p4) (aY x.p4)&&bc (aS (aY x.p4)) 8) (it (Int×Int×pa×(List Int)×(List Int)×List Int) _ (λI=>(bB I.1 (aY x.1) (bI kB x.1 I.1 λJ=>(bF (bc (al I.p3+al ([J.q4])) 8) (cK ((cC I.1),I.2.1,I.p2,(I.p3++([J.q4])),I.q4)))) (aF I.2.2))) (0,0,M,(aG (aS 0) (0:Int)),(aG (aS (aY x.p3)) (0:Int)),(aG (aS (aY x.p4)) (0:Int))))))))
def qf (x:gX×gG×(List fw)×ca×ca×List (Int×Int×Int)):Option eO:=qy @iter x
def dh (x:gX×gG×(List fw)×ca×ca×List (Int×Int×Int)):Option eO:=qy @fU x
def kq (it:yH) (x:(List Bool)×Int×Int×Int×Int×Int×(List Int)×List Int):Option (Bool):=
 (it (Int) _ (λI=>(bB I 2 (bF (cY 0 I&&fX I 2) (lt (aJ (T:=(.sl aM)) [x.p6,x.q7] I) λU=>(it (Int) _ (λM=>(bB M (aY U) (bI aM U M λJ=>(jn (α:=Bool) (bB J 0 (aF ai) (jZ (aY x.1) J (aF ai) (bI (.bool) x.1 J λY=>(aF (!Y))))) λZ=>(bcase Z (aF (bW aj)) (cK (cC M))))) (aF (oS (cC I))))) 0))) (aF ai))) 0)
def mJ (x:(List Bool)×Int×Int×Int×Int×Int×(List Int)×List Int):Option (Bool):=kq @iter x
def cf (x:(List Bool)×Int×Int×Int×Int×Int×(List Int)×List Int):Option (Bool):=kq @fU x
def fd (x:Int×Int):Option (Bool):=
 (jn (α:=Bool) (jZ 0 x.1 (aF (fX x.1 x.2)) (aF aj)) λI=>(af I))
def lX (x:dJ×Int×Int):Option (Bool):=
 (jn (α:=Bool×gX×gG×(List fw)×ca×ca×List (Int×Int×Int)) (bd x.2.1 1 (aF ((decide ((x.2.1:Int)=1)),x.1)) (bd x.2.1 2 (aF ((decide ((x.2.1:Int)=2)),x.1)) (bd x.2.1 5 (aF ((decide ((x.2.1:Int)=5)),x.1)) (bd x.2.1 12 (aF ((decide ((x.2.1:Int)=12)),x.1)) (bd x.2.1 13 (aF ((decide ((x.2.1:Int)=13)),x.1)) (bd x.2.1 14 (aF ((decide ((x.2.1:Int)=14)),x.1)) (aF ((decide ((x.2.1:Int)=15)),x.1)))))))) λx1=>(bcase x1.1 (af (decide ((x.2.2:Int)=(-1)))) (jn (α:=Bool×gX×gG×(List fw)×ca×ca×List (Int×Int×Int)) (bd x.2.1 3 (aF ((decide ((x.2.1:Int)=3)),x1.2)) (aF ((decide ((x.2.1:Int)=4)),x1.2))) λZ=>(bcase Z.1 (obind (fd (x.2.2,(aY Z.2.1))) λy3=>(af y3)) (jn (α:=Bool×gX×gG×(List fw)×ca×ca×List (Int×Int×Int)) (bd x.2.1 6 (aF ((decide ((x.2.1:Int)=6)),Z.2)) (aF ((decide ((x.2.1:Int)=7)),Z.2))) λU=>(bcase U.1 (jn (α:=Bool) (obind (fd (x.2.2,(aY U.p2))) λy6=>(bcase y6 (bI rP U.p2 x.2.2 λz7=>(aF (!z7.2))) (aF aj))) λx5=>(af x5)) (jn (α:=Bool×gX×gG×(List fw)×ca×ca×List (Int×Int×Int)) (bd x.2.1 8 (aF ((decide ((x.2.1:Int)=8)),U.2)) (bd x.2.1 9 (aF ((decide ((x.2.1:Int)=9)),U.2)) (bd x.2.1 10 (aF ((decide ((x.2.1:Int)=10)),U.2)) (aF ((decide ((x.2.1:Int)=11)),U.2))))) λM=>(bcase M.1 (jn (α:=Bool) (obind (fd (x.2.2,(aY M.p2))) λy10=>(bcase y10 (bI rP M.p2 x.2.2 λz11=>(aF z11.2)) (aF aj))) λx9=>(af x9)) (jn (α:=Bool×gX×gG×(List fw)×ca×ca×List (Int×Int×Int)) (bd x.2.1 16 (aF ((decide ((x.2.1:Int)=16)),M.2)) (bd x.2.1 17 (aF ((decide ((x.2.1:Int)=17)),M.2)) (bd x.2.1 18 (aF ((decide ((x.2.1:Int)=18)),M.2)) (aF ((decide ((x.2.1:Int)=19)),M.2))))) λJ=>(bcase J.1 (obind (fd (x.2.2,(aY J.p3))) λy13=>(af y13)) (jn (α:=Bool×gX×gG×(List fw)×ca×ca×List (Int×Int×Int)) (bd x.2.1 20 (aF ((decide ((x.2.1:Int)=20)),J.2)) (aF ((decide ((x.2.1:Int)=21)),J.2))) λI=>(bcase I.1 (obind (fd (x.2.2,(aY I.p5))) λy15=>(af y15)) (jn (α:=Bool×gX×gG×(List fw)×ca×ca×List (Int×Int×Int)) (bd x.2.1 22 (aF ((decide ((x.2.1:Int)=22)),I.2)) (aF ((decide ((x.2.1:Int)=23)),I.2))) λY=>(bcase Y.1 (obind (fd (x.2.2,(aY Y.p4))) λy17=>(af y17)) (af aj)))))))))))))))
def tM (it:yH) (x:dJ×gF×Int×(List Bool)×List dw):Option (Bool):=
 (jn (α:=Bool×gX×gG×(List fw)×ca×ca×List (Int×Int×Int)) (iF (aY x.2.1) (aY x.1.2.1) (aF (ai,x.1)) (iF (aY x.p3) (aY x.1.p3) (aF (ai,x.1)) (aF ((!decide (((aY x.q4):Int)=(aY x.1.p4))),x.1)))) λJ=>(bcase J.1 (af aj) (it Yd3 _ (λI=>(bB I.1 (aY J.p3) (bI mb J.p3 I.1 λM=>(obind (fd (M.2,(aY I.p2))) λU=>(bcase (!U) (aF aj) (cK ((cC I.1),I.2))))) (aF ai))) (0,J.2))))
def xu (x:dJ×gF×Int×(List Bool)×List dw):Option (Bool):=tM @iter x
def kn (x:dJ×gF×Int×(List Bool)×List dw):Option (Bool):=tM @fU x
def oI (x:dJ×pa×Int×Int×Int):Option (Bool):=
 (bd x.p3 6 (bI ef x.2.1.1 x.q4 λz1=>(af (decide ((z1.1:Int)=(-1))))) (bd x.p3 10 (jn (α:=Bool) (bI ef x.2.1.1 x.q4 λz3=>(bd z3.1 (-1) (bI ef x.2.1.1 x.q4 λz4=>(aF (decide (((aY z4.2):Int)=0)))) (aF aj))) λx2=>(af x2)) (bd x.p3 8 (jn (α:=Bool) (bI ef x.2.1.1 x.q4 λz6=>(bd z6.1 (-1) (bI ef x.2.1.1 x.q4 λz7=>(obind (kz (z7.2,x.p2)) λy8=>(aF (!y8)))) (aF aj))) λx5=>(af x5)) (jn (α:=Bool×dJ×gF×Int×(List Bool)×List dw) (bd x.p3 7 (aF ((decide ((x.p3:Int)=7)),x.1,x.2.1)) (aF ((decide ((x.p3:Int)=11)),x.1,x.2.1))) λJ=>(bcase J.1 (bI ef J.p2 x.q4 λz10=>(af (decide ((z10.1:Int)=x.p2)))) (bd x.p3 9 (bI ef J.p2 x.q4 λz11=>(obind (kz (z11.2,x.p2)) λy12=>(af y12))) (bd x.p3 12 (af (decide ((J.p3:Int)=(-1)))) (bd x.p3 13 (af (decide ((J.p3:Int)=x.p2))) (bd x.p3 14 (bI ie J.q5 x.p2 λz13=>(af (!z13.2.2))) (bd x.p3 15 (bI ie J.q5 x.p2 λz14=>(af z14.2.2)) (jn (α:=Bool×dJ×gF×Int×(List Bool)×List dw) (bd x.p3 16 (aF ((decide ((x.p3:Int)=16)),J.2)) (bd x.p3 18 (aF ((decide ((x.p3:Int)=18)),J.2)) (aF ((decide ((x.p3:Int)=19)),J.2)))) λI=>(bcase I.1 (bI mb I.2.1.p2 x.q4 λz16=>(bI ef I.p2 z16.2 λz17=>(af (decide ((z17.1:Int)=x.p2))))) (bd x.p3 20 (jn (α:=Bool) (iF x.q4 x.p2 (bI ie I.q5 x.q4 λZ=>(aF (decide ((Z.1:Int)=0)))) (aF aj)) λx18=>(af x18)) (bd x.p3 21 (jn (α:=Bool) (iF x.q4 x.p2 (bI ie I.q5 x.q4 λY=>(aF (decide ((Y.1:Int)=5)))) (aF aj)) λx20=>(af x20)) (bd x.p3 22 (bI (.bool) I.p4 x.q4 λU=>(af (!U))) (bd x.p3 23 (bI (.bool) I.p4 x.q4 λM=>(af M)) (af ai)))))))))))))))))
def jg (x:dJ×pa×Int×Int×Int):Option (Bool):=
 (jn (α:=Bool×dJ×gF×Int×(List Bool)×List dw) (obind (kn (x.1,x.2.1)) λy2=>(bcase (!y2) (aF (ai,x.1,x.2.1)) (obind (fd (x.p2,(aY x.1.p4))) λy3=>(bcase (!y3) (aF (ai,x.1,x.2.1)) (obind (lX (x.1,x.q3)) λZ=>(aF ((!Z),x.1,x.2.1))))))) λI=>(bcase I.1 (af aj) (bI ie I.q5 x.p2 λJ=>(bd x.p3 1 (af (decide ((J.1:Int)=1))) (bd x.p3 17 (jn (α:=Bool) (bd J.1 4 (bd J.2.1 x.q4 (bI mb I.2.1.p2 x.q4 λY=>(bI ef I.p2 Y.2 λU=>(aF (decide ((U.1:Int)=(-1)))))) (aF aj)) (aF aj)) λx6=>(af x6)) (jn (α:=Bool) (bd J.1 2 (obind (oI (I.2.1,I.2.2,x.2.2)) λM=>(aF M)) (aF aj)) λx9=>(af x9)))))))
def kW (x:dJ×pa×(List Int)×(List Int)×List Int):Option (Bool):=
 (jn (α:=Bool) (obind (kn (x.1,x.2.1)) λI=>(bcase I (bd (aY x.p2) (aY x.1.1) (bd (aY x.p3) (aY x.1.p3) (aF (decide (((aY x.q4):Int)=(aY x.1.p4)))) (aF aj)) (aF aj)) (aF aj))) λJ=>(af J))
def jF (x:dJ×Int×Int×Int×Int×Int×(List Int)×List Int):Option (Bool):=
 (jn (α:=Bool×dJ×Int×Int×Int×Int×Int×(List Int)×List Int) (bd x.p2 1 (aF (ai,x)) (aF ((decide ((x.p2:Int)=2)),x))) λI=>(bcase I.1 (af (decide ((I.p6:Int)=(-1)))) (jn (α:=Bool) (jZ 0 I.p6 (bB I.p6 (aY I.2.1.q5) (bI oR I.2.1.q5 I.p6 λJ=>(aF (decide ((J.1:Int)=I.p2)))) (aF aj)) (aF aj)) λM=>(af M))))
def js (it:yH) (x:dJ×eO×Int×Int×Int×Int×Int×(List Int)×List Int):Option (Bool):=
 (jn (α:=Bool×eO×Int×Int×Int×Int×Int×(List Int)×List Int) (bd x.p3 3 (bI kB x.1.1 x.p4 λz2=>(aF ((!decide ((z2.2.2.1:Int)=0)),x.2))) (bd x.p3 4 (bI kB x.1.1 x.p4 λz3=>(aF ((!decide ((z3.2.2.1:Int)=0)),x.2))) (aF (aj,x.2)))) λI=>(jn (α:=eO×gm×Bool×Bool) (bd I.p3 5 (bd I.p3 4 (aF (I.2.1,I.2.2,ai,ai)) (aF (I.2.1,I.2.2,ai,(decide ((I.p3:Int)=22))))) (bd I.p3 4 (aF (I.2.1,I.2.2,I.1,ai)) (aF (I.2.1,I.2.2,I.1,(decide ((I.p3:Int)=22)))))) λx4=>(it (Int×eO×gm×Bool×Bool) _ (λJ=>(bB J.1 2 (bF (cY 0 J.1&&fX J.1 2) (lt (aJ (T:=(.sl aM)) [x4.2.1.p5,x4.2.1.q6] J.1) λZ=>(jn (α:=Bool×eO×gm×Bool×Bool) (bB 0 (aY Z) (bF (cY 0 J.1&&fX J.1 2) (bF (fk J.1 2) (lt (aJ (T:=.bool) [J.p3,J.q4] J.1) λz8=>(aF ((!z8),J.2))))) (aF (aj,J.2))) λx7=>(bcase x7.1 (aF aj) (it ((Int×Int)×eO×gm×Bool×Bool) _ (λM=>(bB M.1.2 (aY Z) (bI aM Z M.1.2 λU=>(jn (α:=Bool×eO×gm×Bool×Bool) (jZ U M.1.1 (aF (ai,M.2)) (bI aM M.2.1.q3 M.p2.1 λz12=>(aF ((cY z12 U),M.2)))) λY=>(bcase Y.1 (aF (bW aj)) (cK ((U,(cC M.1.2)),Y.2))))) (aF (oS ((cC J.1),M.2))))) ((0,0),x7.2)))))) (aF ai))) (0,x4))))
def lz (x:dJ×eO×Int×Int×Int×Int×Int×(List Int)×List Int):Option (Bool):=js @iter x
def e9 (x:dJ×eO×Int×Int×Int×Int×Int×(List Int)×List Int):Option (Bool):=js @fU x
def lG (it:yH) (x:eO×Int×Int×Int×Int×Int×(List Int)×List Int):Option (Bool):=
 (bd x.p2 3 (bI aM x.1.2.1 x.p3 λz1=>(af (decide ((x.p4:Int)=z1)))) (bd x.p2 23 (bI aM x.1.p2 x.p3 λz2=>(af (decide ((x.p4:Int)=z2)))) (bd x.p2 5 (jn (α:=Bool) (bd x.p4 0 (aF ai) (aF (decide ((x.p4:Int)=1)))) λx3=>(af x3)) (jn (α:=Bool×eO×Int×Int×Int×Int×Int×(List Int)×List Int) (bd x.p2 4 (aF ((decide ((x.p2:Int)=4)),x)) (aF ((decide ((x.p2:Int)=22)),x))) λM=>(bcase M.1 (af ai) (bd x.p2 18 (it ((Int×Bool×Int)×Int×Int×Int×Int×Int×(List Int)×List Int) _ (λJ=>(bB J.1.2.2 (aY M.2.1.1.q3) (jn (α:=(Int×Bool)×Int×Int×Int×Int×Int×(List Int)×List Int) (bI ie M.2.1.1.q3 J.1.2.2 λz7=>(jn (α:=Bool×Int×Int×Int×Int×Int×(List Int)×List Int) (bd z7.1 3 (aF ((decide ((z7.2.1:Int)=J.p3)),J.2)) (aF (aj,J.2))) λZ=>(bcase Z.1 (bcase J.1.2.1 (aF (((cC J.1.1),ai),Z.2)) (aF (((cC J.1.1),(decide ((Z.p4:Int)=J.1.2.2))),Z.2))) (aF ((J.1.1,J.1.2.1),Z.2))))) λx6=>(cK ((x6.1.1,x6.1.2,(cC J.1.2.2)),x6.2))) (obind (jn (α:=Bool) (bcase J.1.2.1 (aF ai) (bd J.1.1 0 (aF (decide ((J.p4:Int)=(-1)))) (aF aj))) λx9=>(af x9)) λr=>af (bW r)))) ((0,aj,0),M.2.2)) (bd x.p2 19 (it ((Int×Int)×Int×Int×Int×Int×Int×(List Int)×List Int) _ (λI=>(bB I.1.2 (aY M.2.1.1.q3) (jn (α:=Int×Int×Int×Int×Int×Int×(List Int)×List Int) (bI ie M.2.1.1.q3 I.1.2 λY=>(jn (α:=Bool×Int×Int×Int×Int×Int×(List Int)×List Int) (bd Y.1 3 (aF ((decide ((Y.2.1:Int)=I.p3)),I.2)) (aF (aj,I.2))) λU=>(bcase U.1 (aF ((cC I.1.1),U.2)) (aF (I.1.1,U.2))))) λx11=>(cK ((x11.1,(cC I.1.2)),x11.2))) (aF (decide ((I.p4:Int)=I.1.1))))) ((0,0),M.2.2)) (af (decide ((M.p5:Int)=0))))))))))
def pe (x:eO×Int×Int×Int×Int×Int×(List Int)×List Int):Option (Bool):=lG @iter x
def gy (x:eO×Int×Int×Int×Int×Int×(List Int)×List Int):Option (Bool):=lG @fU x
def mj (x:dw×Int):Option (Bool):=
 (jn (α:=Bool) (bd x.1.1 3 (aF (decide ((x.1.2.1:Int)=x.2))) (aF aj)) λI=>(af I))
def IL (x:List Bool):Option (List Bool):=
 (bcase (aC (al x) 0) (Fq (af ([]:List Bool)) (bF (bc (al ([]:List Bool)+al x) 1) (af (([]:List Bool)++x)))) (bF (bc (al ([]:List Bool)+al x) 1) (af (([]:List Bool)++x))))
def Oe (x:List Bool):Option (List Bool):=chk (bc (al x) 1) λ_=>af x
def ED (x:List Bool):Option (List Bool):=
 (bcase (aC (al x) 0) (Fq (af ([]:List Bool)) (bF (bc (al ([]:List Bool)+al x) 1) (af (([]:List Bool)++x)))) (bF (bc (al ([]:List Bool)+al x) 1) (af (([]:List Bool)++x))))
def IK (x:List Bool):Option (List Bool):=chk (bc (al x) 1) λ_=>af x
def II (x:List dw):Option (List dw):=
 (bcase (aC (al x) 0) (Fq (af ([]:List dw)) (bF (bc (al ([]:List dw)+al x) 24) (af (([]:List dw)++x)))) (bF (bc (al ([]:List dw)+al x) 24) (af (([]:List dw)++x))))
def Od (x:List dw):Option (List dw):=chk (bc (al x) 24) λ_=>af x
def EB (x:List dw):Option (List dw):=
 (bcase (aC (al x) 0) (Fq (af ([]:List dw)) (bF (bc (al ([]:List dw)+al x) 24) (af (([]:List dw)++x)))) (bF (bc (al ([]:List dw)+al x) 24) (af (([]:List dw)++x))))
def IH (x:List dw):Option (List dw):=chk (bc (al x) 24) λ_=>af x
def EC (x:List Int):Option (List Int):=
 (bcase (aC (al x) 0) (Fq (af ([]:List Int)) (bF (bc (al ([]:List Int)+al x) 8) (af (([]:List Int)++x)))) (bF (bc (al ([]:List Int)+al x) 8) (af (([]:List Int)++x))))
def zg (x:List Int):Option (List Int):=chk (bc (al x) 8) λ_=>af x
def rZ (it:yH) (x:gF×Int×(List Bool)×List dw):Option Yd2:=
 (bF (cY 0 (aY x.1)&&cY (aY x.1) (aY x.1)&&bc (aS (aY x.1)) 32) (it (Int×pa×Int×List (Int×List Int)) _ (λI=>(bB I.1 (aY x.1) (bI ef x.1 I.1 λJ=>(obind (xx J.2) λY=>(ck (fk I.1 (al I.q3)) (cK ((cC I.1),I.2.1,I.p2,(cq I.q3 I.1 (J.1,Y))))))) (obind (obind (IK I.2.1.p2) λU=>(obind (IH I.2.1.q3) λM=>(af (I.2.1.2.1,I.q3,U,M)))) λr=>af (bW r)))) (0,x,0,(aG (aS (aY x.1)) ((0,[]):Int×List Int)))))
def vK (x:gF×Int×(List Bool)×List dw):Option Yd2:=rZ @iter x
def ky (x:gF×Int×(List Bool)×List dw):Option Yd2:=rZ @fU x
def qB (it:yH) (x:(Int×Int×Int)×gF×(List Bool)×List dw):Option Yd2:=
 (it ((Int×Int)×gF×(List Bool)×(List dw)×Int) _ (λI=>(bB I.1.2 (aY x.q3) (jn (α:=Int×gF×(List Bool)×(List dw)×Int) (kF ie I.p3 I.1.2 λU=>(jn (α:=Bool×gF×(List Bool)×(List dw)×Int) (obind (mj (U,x.1.2.1)) λY=>(bcase Y (bB I.1.1 0 (aF (ai,I.2)) (aF ((decide ((I.1.2:Int)=x.1.2.2)),I.2))) (aF (aj,I.2)))) λJ=>(bcase J.1 (aF (I.1.2,J.2)) (aF (I.1.1,J.2))))) λM=>(cK ((M.1,(cC I.1.2)),M.2))) (obind (jn (α:=gF×(List Bool)×List dw) (jZ 0 I.1.1 (ck (fk I.1.1 (al I.p3)) (aF (I.2.1,I.p2,(cq I.p3 I.1.1 (4,(aJ (T:=ie) I.p3 I.1.1).2))))) (aF (I.2.1,I.p2,I.p3))) λZ=>(af (I.1.1,Z))) λr=>af (bW r)))) (((-1),0),x.2.1,x.p2,x.q3,x.1.1))
def uc (x:(Int×Int×Int)×gF×(List Bool)×List dw):Option Yd2:=qB @iter x
def jK (x:(Int×Int×Int)×gF×(List Bool)×List dw):Option Yd2:=qB @fU x
def mz (it:yH) (x:(Int×Int)×gF×(List Bool)×List dw):Option Yd2:=
 (it ((Int×Int)×gF×(List Bool)×(List dw)×Int) _ (λI=>(bB I.1.2 (aY x.q3) (jn (α:=Int×gF×(List Bool)×(List dw)×Int) (kF ie I.p3 I.1.2 λM=>(obind (mj (M,x.1.2)) λU=>(bcase U (ck (fk I.1.2 (al I.p3)) (aF ((cC I.1.1),I.2.1,I.p2,(cq I.p3 I.1.2 (4,(aJ (T:=ie) I.p3 I.1.2).2)),I.q4))) (aF (I.1.1,I.2))))) λJ=>(cK ((J.1,(cC I.1.2)),J.2))) (aF (I.1.1,I.2.1,I.p2,I.p3)))) ((0,0),x.2.1,x.p2,x.q3,x.1.1))
def qg (x:(Int×Int)×gF×(List Bool)×List dw):Option Yd2:=mz @iter x
def gU (x:(Int×Int)×gF×(List Bool)×List dw):Option Yd2:=mz @fU x
def qw (x:Int):Option (Bool):=
 (af (!decide ((x:Int)=x)))
def vN (x:Int×Int):Option (Bool):=
 (jn (α:=Bool) (obind (qw x.1) λJ=>(bcase J (obind (qw x.2) λI=>(bcase (!I) (aF ai) (aF (fX x.1 x.2)))) (aF (fX x.1 x.2)))) λM=>(af M))
def ru (x:Int):Option (Int):=
 (jZ 4294967296 x ah (jZ 65536 x ah (jZ 256 x ah (v9 (bn .u8 x) ([0,1,2,2,3,3,3,3,4,4,4,4,4,4,4,4,5,5,5,5,5,5,5,5,5,5,5,5,5,5,5,5,6,6,6,6,6,6,6,6,6,6,6,6,6,6,6,6,6,6,6,6,6,6,6,6,6,6,6,6,6,6,6,6,7,7,7,7,7,7,7,7,7,7,7,7,7,7,7,7,7,7,7,7,7,7,7,7,7,7,7,7,7,7,7,7,7,7,7,7,7,7,7,7,7,7,7,7,7,7,7,7,7,7,7,7,7,7,7,7,7,7,7,7,7,7,7,7,8,8,8,8,8,8,8,8,8,8,8,8,8,8,8,8,8,8,8,8,8,8,8,8,8,8,8,8,8,8,8,8,8,8,8,8,8,8,8,8,8,8,8,8,8,8,8,8,8,8,8,8,8,8,8,8,8,8,8,8,8,8,8,8,8,8,8,8,8,8,8,8,8,8,8,8,8,8,8,8,8,8,8,8,8,8,8,8,8,8,8,8,8,8,8,8,8,8,8,8,8,8,8,8,8,8,8,8,8,8,8,8,8,8,8,8,8,8,8,8,8,8,8,8,8,8,8,8]) (af (bn .i64 (0+(bn .i64 (Ay ([0,1,2,2,3,3,3,3,4,4,4,4,4,4,4,4,5,5,5,5,5,5,5,5,5,5,5,5,5,5,5,5,6,6,6,6,6,6,6,6,6,6,6,6,6,6,6,6,6,6,6,6,6,6,6,6,6,6,6,6,6,6,6,6,7,7,7,7,7,7,7,7,7,7,7,7,7,7,7,7,7,7,7,7,7,7,7,7,7,7,7,7,7,7,7,7,7,7,7,7,7,7,7,7,7,7,7,7,7,7,7,7,7,7,7,7,7,7,7,7,7,7,7,7,7,7,7,7,8,8,8,8,8,8,8,8,8,8,8,8,8,8,8,8,8,8,8,8,8,8,8,8,8,8,8,8,8,8,8,8,8,8,8,8,8,8,8,8,8,8,8,8,8,8,8,8,8,8,8,8,8,8,8,8,8,8,8,8,8,8,8,8,8,8,8,8,8,8,8,8,8,8,8,8,8,8,8,8,8,8,8,8,8,8,8,8,8,8,8,8,8,8,8,8,8,8,8,8,8,8,8,8,8,8,8,8,8,8,8,8,8,8,8,8,8,8,8,8,8,8,8,8,8,8,8,8]) (bn .u8 x))))))))))
def ul (x:Int):Option (Int):=
 (obind (ru x) λI=>(af I))
def j7 (it:yH) (x:(Int×Int)×List Int):Option (List Int):=
 (it (Int×List Int) _ (λM=>(bB M.1 x.1.2 (it (Int×List Int) _ (λI=>(jn (α:=Bool×List Int) (bB x.1.1 I.1 (kF aM I.2 I.1 λz4=>(kF aM I.2 (bn .i64 (I.1-1)) λZ=>(obind (vN (z4,Z)) λy6=>(aF (y6,I.2))))) (aF (aj,I.2))) λJ=>(bcase J.1 (kF aM J.2 (bn .i64 (I.1-1)) λU=>(kF aM J.2 I.1 λY=>(ck (fk I.1 (al J.2)) (ck (fk (bn .i64 (I.1-1)) (al (cq J.2 I.1 U))) (cK ((bn .i64 (I.1-1)),(cq (cq J.2 I.1 U) (bn .i64 (I.1-1)) Y))))))) (aF (oS ((cC M.1),J.2)))))) M) (aF M.2))) ((cC x.1.1),x.2))
def j6 (x:(Int×Int)×List Int):Option (List Int):=j7 @iter x
def fR (x:(Int×Int)×List Int):Option (List Int):=j7 @fU x
def ox (it:yH) (x:(Int×Int×Int)×List Int):Option (List Int):=
 (it ((Int×Int×Int×Bool×Bool)×List Int) _ (λI=>(jZ (bn .i64 (I.1.2.1-I.1.1)) 12 (obind (fR ((I.1.1,I.1.2.1),I.2)) λJ=>(bF (aC (al I.2) (al J)&&ai) (aF J))) (bd I.1.p2 0 ah (bcase (!I.1.p3) ah ah)))) ((x.1.1,x.1.2.1,x.1.2.2,ai,ai),x.2))
def ol (x:(Int×Int×Int)×List Int):Option (List Int):=ox @iter x
def jk (x:(Int×Int×Int)×List Int):Option (List Int):=ox @fU x
def wC (x:List Int):Option (List Int):=
 (obind (ul (bn .u64 (aY x))) λJ=>(obind (jk ((0,(aY x),J),x)) λI=>(bF (aC (al x) (al I)&&ai) (af I))))
def xL (it:yH) (x:List Int):Option (List Int):=
 (bB (aY x) 2 (af x) (it (Int×List Int) _ (λI=>(bB I.1 (aY I.2) (kF aM I.2 I.1 λM=>(kF aM I.2 (bn .i64 (I.1-1)) λJ=>(bd M J (bF (cY 0 I.1&&fX I.1 (al I.2)) ah) (cK ((cC I.1),I.2))))) (aF I.2))) (1,x)))
def xv (x:List Int):Option (List Int):=xL @iter x
def lE (x:List Int):Option (List Int):=xL @fU x
def oZ (x:Int×Int):Option (Bool×Int):=
 (af ((decide ((x.1:Int)=x.2)),x.2))
def uC (it:yH) (x:(List Int)×Int):Option (Int×(List Int)×Int):=
 (it (Int×(List Int)×Int) _ (λI=>(bB I.1 (aY x.1) (kF aM I.2.1 I.1 λM=>(obind (oZ (M,I.2.2)) λJ=>(bcase J.1 (aF (I.1,I.2.1,J.2)) (cK ((cC I.1),I.2.1,J.2))))) (aF ((-1),I.2)))) (0,x))
def ud (x:(List Int)×Int):Option (Int×(List Int)×Int):=uC @iter x
def m_ (x:(List Int)×Int):Option (Int×(List Int)×Int):=uC @fU x
def sV (it:yH) (x:(List Int)×Int):Option (Int×List Int):=
 (obind (m_ x) λJ=>(bF (aC (al x.1) (al J.2.1)&&ai) (bd J.1 (-1) ah (it ((Int×Int)×(List Int)×Int) _ (λI=>(bB I.1.2 (aY I.2.1) (jn (α:=Int×(List Int)×Int) (kF aM I.2.1 I.1.2 λU=>(obind (oZ (U,I.2.2)) λM=>(bcase (!M.1) (ck (fk I.1.1 (al I.2.1)) (aF ((cC I.1.1),(cq I.2.1 I.1.1 U),M.2))) (aF (I.1.1,I.2.1,M.2))))) λY=>(cK ((Y.1,(cC I.1.2)),Y.2))) (obind (ck (cY 0 I.1.1&&fX I.1.1 (al I.2.1)) (bF (cY 0 I.1.1&&fX I.1.1 (al (dA (aS I.1.1) I.2.1++aG (al I.2.1-aS I.1.1) (0:Int)))) (af (I.2.2,(dA (aS I.1.1) (dA (aS I.1.1) I.2.1++aG (al I.2.1-aS I.1.1) (0:Int))))))) λr=>af (bW r)))) ((J.1,(cC J.1)),J.2)))))
def sQ (x:(List Int)×Int):Option (Int×List Int):=sV @iter x
def jh (x:(List Int)×Int):Option (Int×List Int):=sV @fU x
def gV (x:dJ×pa×Int×Int×Int×Int):Option (pa×Int×Bool):=
 (obind (jg (x.1,x.2.1,x.p2,x.p3,x.p4)) λy1=>(bcase (!y1) (af ((([]:List (Int×List Int)),0,([]:List Bool),([]:List dw)),0,aj)) (obind (ky x.2.1) λJ=>(jn (α:=Int×Int×Int×gF×(List Bool)×List dw) (bd x.p3 1 (ck (fk x.p2 (al J.q3)) (aF (0,J.1,0,J.2.1,J.p2,(cq J.q3 x.p2 (2,(aJ (T:=ie) J.q3 x.p2).2))))) (bd x.p3 2 (ck (fk x.p2 (al J.q3)) (aF (0,J.1,0,J.2.1,J.p2,(cq J.q3 x.p2 (5,(aJ (T:=ie) J.q3 x.p2).2))))) (jn (α:=Bool×dJ×Int×Int×Int×gF×(List Bool)×List dw) (bd x.p3 6 (aF ((decide ((x.p3:Int)=6)),x.1,J.1,x.p2,0,J.2)) (aF ((decide ((x.p3:Int)=10)),x.1,J.1,x.p2,0,J.2))) λY=>(bcase Y.1 (ck (fk x.p4 (al Y.p5)) (aF (0,Y.p2,Y.p4,(cq Y.p5 x.p4 (Y.p3,(aJ (T:=ef) Y.p5 x.p4).2)),Y.q6))) (jn (α:=Bool×dJ×Int×Int×Int×gF×(List Bool)×List dw) (bd x.p3 7 (aF ((decide ((x.p3:Int)=7)),Y.2)) (aF ((decide ((x.p3:Int)=11)),Y.2))) λI=>(bcase I.1 (ck (fk x.p4 (al I.p5)) (aF (0,I.p2,I.p4,(cq I.p5 x.p4 ((-1),(aJ (T:=ef) I.p5 x.p4).2)),I.q6))) (bd x.p3 8 (kF ef I.p5 x.p4 λz6=>ah) (bd x.p3 9 (kF ef I.p5 x.p4 λz7=>ah) (bd x.p3 12 (aF (0,I.q3)) (bd x.p3 13 (aF (0,(-1),I.q4)) (bd x.p3 14 (ck (fk I.p3 (al I.q7)) (aF (0,I.p2,I.p4,I.p5,I.p6,(cq I.q7 I.p3 ((aJ (T:=ie) I.q7 I.p3).1,((aJ (T:=ie) I.q7 I.p3).2).1,ai))))) (bd x.p3 15 (ck (fk I.p3 (al I.q7)) (aF (0,I.p2,I.p4,I.p5,I.p6,(cq I.q7 I.p3 ((aJ (T:=ie) I.q7 I.p3).1,((aJ (T:=ie) I.q7 I.p3).2).1,aj))))) (bd x.p3 16 (bI mb I.2.1.p2 x.p4 λz8=>(ck (fk z8.2 (al I.p5)) (ck (fk I.p3 (al I.q7)) (ck (fk I.p3 (al (cq I.q7 I.p3 (3,(aJ (T:=ie) I.q7 I.p3).2)))) (aF (0,I.p2,I.p4,(cq I.p5 z8.2 ((-1),(aJ (T:=ef) I.p5 z8.2).2)),I.p6,(cq (cq I.q7 I.p3 (3,(aJ (T:=ie) I.q7 I.p3).2)) I.p3 ((aJ (T:=ie) (cq I.q7 I.p3 (3,(aJ (T:=ie) I.q7 I.p3).2)) I.p3).1,x.p4,((aJ (T:=ie) (cq I.q7 I.p3 (3,(aJ (T:=ie) I.q7 I.p3).2)) I.p3).2).2)))))))) (bd x.p3 17 (bI mb I.2.1.p2 x.p4 λz9=>(ck (fk z9.2 (al I.p5)) (ck (fk I.p3 (al I.q7)) (ck (fk I.p3 (al (cq I.q7 I.p3 (2,(aJ (T:=ie) I.q7 I.p3).2)))) (aF (0,I.p2,I.p4,(cq I.p5 z9.2 (I.p3,(aJ (T:=ef) I.p5 z9.2).2)),I.p6,(cq (cq I.q7 I.p3 (2,(aJ (T:=ie) I.q7 I.p3).2)) I.p3 ((aJ (T:=ie) (cq I.q7 I.p3 (2,(aJ (T:=ie) I.q7 I.p3).2)) I.p3).1,0,((aJ (T:=ie) (cq I.q7 I.p3 (2,(aJ (T:=ie) I.q7 I.p3).2)) I.p3).2).2)))))))) (bd x.p3 18 (obind (jK ((I.p2,x.q4),I.q5)) λU=>(bF (aC (al I.q7) (al U.q3)&&(aC (al I.p6) (al U.p2)&&(aC (al I.p5) (al U.2.1)&&ai))) (aF (U.1,I.p2,I.p4,U.2)))) (bd x.p3 19 (obind (gU ((I.p2,x.p4),I.q5)) λM=>(bF (aC (al I.q7) (al M.q3)&&(aC (al I.p6) (al M.p2)&&(aC (al I.p5) (al M.2.1)&&ai))) (aF (M.1,I.p2,I.p4,M.2)))) (bd x.p3 20 (ck (fk x.p4 (al I.q7)) (aF (0,I.p2,I.p4,I.p5,I.p6,(cq I.q7 x.p4 (1,(aJ (T:=ie) I.q7 x.p4).2))))) (bd x.p3 22 (ck (fk x.p4 (al I.p6)) (aF (0,I.p2,I.p4,I.p5,(cq I.p6 x.p4 ai),I.q7))) (aF (0,I.p2,I.q4)))))))))))))))))))) λZ=>(af ((Z.p3,Z.2.1,Z.q4),Z.1,ai))))))
def m7 (x:gF×Int×(List Bool)×List dw):Option (Yd6×(Int×Int×Int)×(List Int)×(List Int)×List Int):=
 (bF (cY 0 (aY x.1)&&cY (aY x.1) (aY x.1)&&bc (aS (aY x.1)) 32&&decide (((aY x.1):Int)=3)) (jn (α:=pa×Int×(Int×Int×Int)×(List Int)×(List Int)×List Int) (bB 0 (aY x.1) (bI ef x.1 0 λI=>(obind (o6 I.2) λU=>(bB 1 (aY x.1) (bI ef x.1 1 λM=>(obind (o6 M.2) λy5=>(bB 2 (aY x.1) (bI ef x.1 2 λz6=>(obind (o6 z6.2) λy7=>(bB 3 (aY x.1) (bI ef x.1 3 λz8=>(obind (o6 z8.2) λy9=>ah)) (aF (x,0,(I.1,M.1,z6.1),U,y5,y7))))) (aF (x,0,(I.1,M.1,0),U,y5,([]:List Int)))))) (aF (x,0,(I.1,0,0),U,([]:List Int),([]:List Int)))))) (aF (x,0,(0,0,0),([]:List Int),([]:List Int),([]:List Int)))) λJ=>(obind (Oe J.1.p2) λZ=>(obind (Od J.1.q3) λY=>(af ((J.1.2.1,Z,Y),J.2.2))))))
def k9 (x:dJ×pa×Int×Int×Int×Int):Option (pa×Int×Bool):=
 (obind (jg (x.1,x.2.1,x.p2,x.p3,x.p4)) λy1=>(bcase (!y1) (af ((([]:List (Int×List Int)),0,([]:List Bool),([]:List dw)),0,aj)) (obind (m7 x.2.1) λM=>(jn (α:=Int×Yd6×Int×((Int×List Int)×(Int×List Int)×Int)×Bool×List Int) (bd x.p3 1 (v9 x.p2 M.1.2.2 ah) (bd x.p3 2 (v9 x.p2 M.1.2.2 ah) (jn (α:=Bool×dJ×Yd6×Int×Int×(Int×Int×Int)×(List Int)×(List Int)×List Int) (bd x.p3 6 (aF ((decide ((x.p3:Int)=6)),x.1,M.1,x.p2,0,M.2)) (aF ((decide ((x.p3:Int)=10)),x.1,M.1,x.p2,0,M.2))) λJ=>(bcase J.1 ah (jn (α:=Bool×dJ×Yd6×Int×Int×(Int×(List Int)×Int×(List Int)×Int)×List Int) (bd x.p3 7 (aF ((decide ((x.p3:Int)=7)),J.2.1,J.p2,J.p3,J.p4,(J.p5.1,J.p6,J.p5.2.1,J.p7,J.p5.2.2),J.q8)) (aF ((decide ((x.p3:Int)=11)),J.2.1,J.p2,J.p3,J.p4,(J.p5.1,J.p6,J.p5.2.1,J.p7,J.p5.2.2),J.q8))) λI=>(bcase I.1 ah (bd x.p3 8 (bd x.p4 0 ah (bd x.p4 1 ah (bd x.p4 2 (bF (bc (al I.q6+al ([I.p3])) 8) (obind (wC (I.q6++([I.p3]))) λY=>(bF (aC (al (I.q6++([I.p3]))) (al Y)&&ai) (obind (lE Y) λZ=>(bF (aC (al Y) (al Z)&&ai) (aF (0,I.p2,I.p4,((I.p5.1,I.p5.2.1),(I.p5.p2,I.p5.p3),I.p5.q4),ai,Z))))))) ah))) (bd x.p3 9 (bd x.p4 0 ah (bd x.p4 1 ah (bd x.p4 2 (obind (jh (I.q6,I.p3)) λy8=>(bF (aC (al I.q6) (al I.q6)&&ai) (aF (0,I.p2,I.p4,((I.p5.1,I.p5.2.1),(I.p5.p2,I.p5.p3),I.p5.q4),aj,y8.2)))) ah))) (bd x.p3 12 (aF (0,(I.p3,I.p2.2),I.p4,((I.p5.1,I.p5.2.1),(I.p5.p2,I.p5.p3),I.p5.q4),ai,I.q6)) (bd x.p3 13 (aF (0,((-1),I.p2.2),I.p4,((I.p5.1,I.p5.2.1),(I.p5.p2,I.p5.p3),I.p5.q4),ai,I.q6)) (bd x.p3 14 (v9 I.p3 I.p2.2.2 ah) (bd x.p3 15 (v9 I.p3 I.p2.2.2 ah) (bd x.p3 16 ah (bd x.p3 17 ah (bd x.p3 18 ah (bd x.p3 19 ah (bd x.p3 20 (v9 x.p4 I.p2.2.2 ah) (bd x.p3 22 (v9 x.p4 I.p2.2.1 ah) (aF (0,I.p2,I.p4,((I.p5.1,I.p5.2.1),(I.p5.p2,I.p5.p3),I.p5.q4),ai,I.q6)))))))))))))))))))) λU=>(af (([U.p3.1,U.p3.2.1,(U.p3.2.2,U.q5)],U.2.1),U.1,ai))))))
def rV (x:dJ×pa×Int×Int×Int×Int):Option (pa×Int×Bool):=orE (gV x) (k9 x)
def fP (x:dJ×eO×Int×Int×Int×Int×Int×(List Int)×List Int):Option (eO×Bool):=
 (jn (α:=Bool×dJ×eO×gm×Int) (obind (kW (x.1,x.2.1)) λy2=>(bcase (!y2) (aF (ai,x.1,x.2.1,x.2.2,0)) (bB x.p2 0 (aF (ai,x.1,x.2.1,x.2.2,0)) (jZ (aY x.1.p4) x.p2 (aF (ai,x.1,x.2.1,x.2.2,0)) (bB x.p3 1 (aF (ai,x.1,x.2.1,x.2.2,0)) (aF ((fX 23 x.p3),x.1,x.2.1,x.2.2,0))))))) λM=>(bcase M.1 (af (((([]:List (Int×List Int)),0,([]:List Bool),([]:List dw)),([]:List Int),([]:List Int),([]:List Int)),aj)) (jn (α:=Bool×dJ×eO×gm×Int) (obind (jg (M.2.1,M.p2.1,M.p3.1,M.p3.2.1,M.p3.p2)) λy4=>(bcase (!y4) (aF (ai,M.2)) (obind (jF (M.2.1,M.p3)) λy5=>(bcase (!y5) (aF (ai,M.2)) (obind (e9 (M.2.1,M.p2,M.p3)) λy6=>(bcase (!y6) (aF (ai,M.2)) (obind (gy (M.p2,M.p3)) λy7=>(aF ((!y7),M.2))))))))) λx3=>(bcase x3.1 (af (((([]:List (Int×List Int)),0,([]:List Bool),([]:List dw)),([]:List Int),([]:List Int),([]:List Int)),aj)) (jn (α:=Int×dJ×eO×gm×Int) (bd x3.p3.2.1 18 (aF (x3.p3.p3,x3.2)) (aF ((-1),x3.2))) λI=>(obind (rV (I.2.1,I.p2.1,I.p3.1,I.p3.2.1,I.p3.p2,I.1)) λy9=>(bcase (!y9.2.2) (af (((([]:List (Int×List Int)),0,([]:List Bool),([]:List dw)),([]:List Int),([]:List Int),([]:List Int)),aj)) (obind (zg I.p2.2.1) λY=>(obind (zg I.p2.p2) λU=>(obind (o6 I.p2.q3) λZ=>(jn (α:=gm×Int×pa×(List Int)×(List Int)×List Int) (bd I.p3.2.1 4 (ck (fk I.p3.p2 (al Y)) (aF (I.p3,I.q4,y9.1,(cq Y I.p3.p2 I.p3.p3),U,Z))) (bd I.p3.2.1 22 (ck (fk I.p3.p2 (al U)) (aF (I.p3,I.q4,y9.1,Y,(cq U I.p3.p2 I.p3.p3),Z))) (aF (I.p3,I.q4,y9.1,Y,U,Z)))) λJ=>(kF aM J.q5 J.1.1 λz14=>(ck (fk J.1.1 (al J.q5)) (af ((J.p2,J.p3,J.p4,(cq J.q5 J.1.1 (cC z14))),ai)))))))))))))))
def lH (it:yH) (x:dJ×List gm):Option (Int×Int):=
 (bB 400 (aY x.2) (af (0,2)) (obind (dP x.1) λy1=>(bcase (!y1) (af (0,1)) (obind (dh x.1) λy2=>(bF (cY 0 (aY x.1.p4)&&cY (aY x.1.p4) (aY x.1.p4)&&bc (aS (aY x.1.p4)) 24&&decide (((aY x.1.p4):Int)=1)) (it (Int×(dJ×List gm)×eO×List Bool) _ (λJ=>(bB J.1 (aY x.2) (bI jt x.2 J.1 λM=>(obind (fP (J.2.1.1,J.p2,M)) λU=>(jn (α:=Bool×(dJ×List gm)×eO×gm×eO×List Bool) (bd M.1 0 (bcase (!U.2) (aF (ai,J.2.1,J.p2,(0,M.2),U.1,J.q3)) (obind (cf (J.q3,0,M.2)) λZ=>(aF ((!Z),J.2.1,J.p2,(0,M.2),U.1,J.q3)))) ah) λI=>(bcase I.1 (aF (J.1,12)) (jn (α:=(dJ×List gm)×eO×eO×List Bool) (bd I.p3.1 0 (bd I.p3.2.1 3 (bF (bc (al I.q5+al ([ai])) 1) (aF (I.2.1,I.p2,I.p4,(I.q5++([ai]))))) (bF (bc (al I.q5+al ([(decide ((I.p3.2.1:Int)=23))])) 1) (aF (I.2.1,I.p2,I.p4,(I.q5++([(decide ((I.p3.2.1:Int)=23))])))))) ah) λY=>(cK ((cC J.1),Y.1,Y.2.2))))))) (aF (0,0)))) (0,x,y2,([]:List Bool))))))))
def pi (x:dJ×List gm):Option (Int×Int):=lH @iter x
def eA (x:dJ×List gm):Option (Int×Int):=lH @fU x
def jQ (it:yH) (x:dJ×List gm):Option (Int×Int):=
 (bB 400 (aY x.2) (af (0,2)) (obind (dP x.1) λy1=>(bcase (!y1) (af (0,1)) (obind (dh x.1) λy2=>(bF (cY 0 (aY x.1.p4)&&cY (aY x.1.p4) (aY x.1.p4)&&bc (aS (aY x.1.p4)) 24&&decide (((aY x.1.p4):Int)=2)) (it (Int×(dJ×List gm)×eO×(List Bool)×List Bool) _ (λJ=>(bB J.1 (aY x.2) (bI jt x.2 J.1 λM=>(obind (fP (J.2.1.1,J.p2,M)) λU=>(jn (α:=Bool×(dJ×List gm)×eO×gm×eO×(List Bool)×List Bool) (bd M.1 0 (bcase (!U.2) (aF (ai,J.2.1,J.p2,(0,M.2),U.1,J.q3)) (obind (cf (J.p3,0,M.2)) λy7=>(aF ((!y7),J.2.1,J.p2,(0,M.2),U.1,J.q3)))) (bd M.1 1 (bcase (!U.2) (aF (ai,J.2.1,J.p2,(1,M.2),U.1,J.q3)) (obind (cf (J.q4,1,M.2)) λZ=>(aF ((!Z),J.2.1,J.p2,(1,M.2),U.1,J.q3)))) ah)) λI=>(bcase I.1 (aF (J.1,12)) (jn (α:=(dJ×List gm)×eO×eO×(List Bool)×List Bool) (bd I.p3.1 0 (bd I.p3.2.1 3 (bF (bc (al I.p5+al ([ai])) 1) (aF (I.2.1,I.p2,I.p4,(I.p5++([ai])),I.q6))) (bF (bc (al I.p5+al ([(decide ((I.p3.2.1:Int)=23))])) 1) (aF (I.2.1,I.p2,I.p4,(I.p5++([(decide ((I.p3.2.1:Int)=23))])),I.q6)))) (bd I.p3.1 1 (bd I.p3.2.1 3 (bF (bc (al I.q6+al ([ai])) 1) (aF (I.2.1,I.p2,I.p4,I.p5,(I.q6++([ai]))))) (bF (bc (al I.q6+al ([(decide ((I.p3.2.1:Int)=23))])) 1) (aF (I.2.1,I.p2,I.p4,I.p5,(I.q6++([(decide ((I.p3.2.1:Int)=23))])))))) ah)) λY=>(cK ((cC J.1),Y.1,Y.2.2))))))) (aF (0,0)))) (0,x,y2,([]:List Bool),([]:List Bool))))))))
def ph (x:dJ×List gm):Option (Int×Int):=jQ @iter x
def di (x:dJ×List gm):Option (Int×Int):=jQ @fU x
def jP (it:yH) (x:dJ×List gm):Option (Int×Int):=
 (bB 400 (aY x.2) (af (0,2)) (obind (dP x.1) λy1=>(bcase (!y1) (af (0,1)) (obind (dh x.1) λy2=>(bF (cY 0 (aY x.1.p4)&&cY (aY x.1.p4) (aY x.1.p4)&&bc (aS (aY x.1.p4)) 24&&decide (((aY x.1.p4):Int)=3)) (it (Int×(dJ×List gm)×eO×(List Bool)×(List Bool)×List Bool) _ (λJ=>(bB J.1 (aY x.2) (bI jt x.2 J.1 λM=>(obind (fP (J.2.1.1,J.p2,M)) λU=>(jn (α:=Bool×(dJ×List gm)×eO×gm×eO×(List Bool)×(List Bool)×List Bool) (bd M.1 0 (bcase (!U.2) (aF (ai,J.2.1,J.p2,(0,M.2),U.1,J.q3)) (obind (cf (J.p3,0,M.2)) λy7=>(aF ((!y7),J.2.1,J.p2,(0,M.2),U.1,J.q3)))) (bd M.1 1 (bcase (!U.2) (aF (ai,J.2.1,J.p2,(1,M.2),U.1,J.q3)) (obind (cf (J.p4,1,M.2)) λy8=>(aF ((!y8),J.2.1,J.p2,(1,M.2),U.1,J.q3)))) (bd M.1 2 (bcase (!U.2) (aF (ai,J.2.1,J.p2,(2,M.2),U.1,J.q3)) (obind (cf (J.q5,2,M.2)) λZ=>(aF ((!Z),J.2.1,J.p2,(2,M.2),U.1,J.q3)))) ah))) λI=>(bcase I.1 (aF (J.1,12)) (jn (α:=(dJ×List gm)×eO×eO×(List Bool)×(List Bool)×List Bool) (bd I.p3.1 0 (bd I.p3.2.1 3 (bF (bc (al I.p5+al ([ai])) 1) (aF (I.2.1,I.p2,I.p4,(I.p5++([ai])),I.q6))) (bF (bc (al I.p5+al ([(decide ((I.p3.2.1:Int)=23))])) 1) (aF (I.2.1,I.p2,I.p4,(I.p5++([(decide ((I.p3.2.1:Int)=23))])),I.q6)))) (bd I.p3.1 1 (bd I.p3.2.1 3 (bF (bc (al I.p6+al ([ai])) 1) (aF (I.2.1,I.p2,I.p4,I.p5,(I.p6++([ai])),I.q7))) (bF (bc (al I.p6+al ([(decide ((I.p3.2.1:Int)=23))])) 1) (aF (I.2.1,I.p2,I.p4,I.p5,(I.p6++([(decide ((I.p3.2.1:Int)=23))])),I.q7)))) (bd I.p3.1 2 (bd I.p3.2.1 3 (bF (bc (al I.q7+al ([ai])) 1) (aF (I.2.1,I.p2,I.p4,I.p5,I.p6,(I.q7++([ai]))))) (bF (bc (al I.q7+al ([(decide ((I.p3.2.1:Int)=23))])) 1) (aF (I.2.1,I.p2,I.p4,I.p5,I.p6,(I.q7++([(decide ((I.p3.2.1:Int)=23))])))))) ah))) λY=>(cK ((cC J.1),Y.1,Y.2.2))))))) (aF (0,0)))) (0,x,y2,([]:List Bool),([]:List Bool),([]:List Bool))))))))
def pg (x:dJ×List gm):Option (Int×Int):=jP @iter x
def dL (x:dJ×List gm):Option (Int×Int):=jP @fU x
def jO (it:yH) (x:dJ×List gm):Option (Int×Int):=
 (bB 400 (aY x.2) (af (0,2)) (obind (dP x.1) λy1=>(bcase (!y1) (af (0,1)) (obind (dh x.1) λy2=>(bF (cY 0 (aY x.1.p4)&&cY (aY x.1.p4) (aY x.1.p4)&&bc (aS (aY x.1.p4)) 24&&decide (((aY x.1.p4):Int)=4)) (it (Int×(dJ×List gm)×eO×(List Bool)×(List Bool)×(List Bool)×List Bool) _ (λJ=>(bB J.1 (aY x.2) (bI jt x.2 J.1 λM=>(obind (fP (J.2.1.1,J.p2,M)) λU=>(jn (α:=Bool×(dJ×List gm)×eO×gm×eO×(List Bool)×(List Bool)×(List Bool)×List Bool) (bd M.1 0 (bcase (!U.2) (aF (ai,J.2.1,J.p2,(0,M.2),U.1,J.q3)) (obind (cf (J.p3,0,M.2)) λy7=>(aF ((!y7),J.2.1,J.p2,(0,M.2),U.1,J.q3)))) (bd M.1 1 (bcase (!U.2) (aF (ai,J.2.1,J.p2,(1,M.2),U.1,J.q3)) (obind (cf (J.p4,1,M.2)) λy8=>(aF ((!y8),J.2.1,J.p2,(1,M.2),U.1,J.q3)))) (bd M.1 2 (bcase (!U.2) (aF (ai,J.2.1,J.p2,(2,M.2),U.1,J.q3)) (obind (cf (J.p5,2,M.2)) λy9=>(aF ((!y9),J.2.1,J.p2,(2,M.2),U.1,J.q3)))) (bd M.1 3 (bcase (!U.2) (aF (ai,J.2.1,J.p2,(3,M.2),U.1,J.q3)) (obind (cf (J.q6,3,M.2)) λZ=>(aF ((!Z),J.2.1,J.p2,(3,M.2),U.1,J.q3)))) ah)))) λI=>(bcase I.1 (aF (J.1,12)) (jn (α:=(dJ×List gm)×eO×eO×(List Bool)×(List Bool)×(List Bool)×List Bool) (bd I.p3.1 0 (bd I.p3.2.1 3 (bF (bc (al I.p5+al ([ai])) 1) (aF (I.2.1,I.p2,I.p4,(I.p5++([ai])),I.q6))) (bF (bc (al I.p5+al ([(decide ((I.p3.2.1:Int)=23))])) 1) (aF (I.2.1,I.p2,I.p4,(I.p5++([(decide ((I.p3.2.1:Int)=23))])),I.q6)))) (bd I.p3.1 1 (bd I.p3.2.1 3 (bF (bc (al I.p6+al ([ai])) 1) (aF (I.2.1,I.p2,I.p4,I.p5,(I.p6++([ai])),I.q7))) (bF (bc (al I.p6+al ([(decide ((I.p3.2.1:Int)=23))])) 1) (aF (I.2.1,I.p2,I.p4,I.p5,(I.p6++([(decide ((I.p3.2.1:Int)=23))])),I.q7)))) (bd I.p3.1 2 (bd I.p3.2.1 3 (bF (bc (al I.p7+al ([ai])) 1) (aF (I.2.1,I.p2,I.p4,I.p5,I.p6,(I.p7++([ai])),I.q8))) (bF (bc (al I.p7+al ([(decide ((I.p3.2.1:Int)=23))])) 1) (aF (I.2.1,I.p2,I.p4,I.p5,I.p6,(I.p7++([(decide ((I.p3.2.1:Int)=23))])),I.q8)))) (bd I.p3.1 3 (bd I.p3.2.1 3 (bF (bc (al I.q8+al ([ai])) 1) (aF (I.2.1,I.p2,I.p4,I.p5,I.p6,I.p7,(I.q8++([ai]))))) (bF (bc (al I.q8+al ([(decide ((I.p3.2.1:Int)=23))])) 1) (aF (I.2.1,I.p2,I.p4,I.p5,I.p6,I.p7,(I.q8++([(decide ((I.p3.2.1:Int)=23))])))))) ah)))) λY=>(cK ((cC J.1),Y.1,Y.2.2))))))) (aF (0,0)))) (0,x,y2,([]:List Bool),([]:List Bool),([]:List Bool),([]:List Bool))))))))
def pf (x:dJ×List gm):Option (Int×Int):=jO @iter x
def ey (x:dJ×List gm):Option (Int×Int):=jO @fU x
def mr (x:dJ×List gm):Option (Int×Int):=orE (ey x) (orE (dL x) (orE (di x) (eA x)))
def xG (it:yH) (x:dJ×List gm):Option ((List (List Int))×Int):=
 (obind (mr x) λY=>(iF Y.2 0 (af (([]:List (List Int)),12)) (obind (nQ x.1) λU=>(bF (cY 0 (aY x.2)&&cY (aY x.2) (aY x.2)&&bc (aS (aY x.2)) 24) (it (Int×(dJ×List gm)×Xz×List (List Int)) _ (λI=>(bB I.1 (aY x.2) (bI jt x.2 I.1 λM=>(obind (sw (I.2.1.1,I.p2,M)) λJ=>(ck (fk I.1 (al I.q3)) (cK ((cC I.1),I.2.1,J.1,(cq I.q3 I.1 J.2)))))) (aF (I.q3,0)))) (0,x,U,(aG (aS (aY x.2)) ([]:List Int))))))))
def BQ (x:dJ×List gm):Option ((List (List Int))×Int):=xG @iter x
def m8 (x:dJ×List gm):Option ((List (List Int))×Int):=xG @fU x
def Ar (it:yH) (x:dJ×List gm):Option (GY×Int):=
 (obind (m8 x) λY=>(iF Y.2 0 (af (([]:List (Int×Int)),Y.2)) (obind (pw x.2) λy2=>(it (Int×(dJ×List gm)×List (Int×Int)) _ (λJ=>(bB J.1 (aY x.2) (it (Int×(dJ×List gm)×List (Int×Int)) _ (λI=>(bB I.1 J.1 (jn (α:=(dJ×List gm)×List (Int×Int)) (jn (α:=Bool×(dJ×List gm)×List (Int×Int)) (obind (qu (I.2.1,I.1,J.1)) λy7=>(bcase y7 (bI (.sl aM) Y.1 J.1 λz8=>(bI gj y2 I.1 λZ=>(obind (ml (z8,Z)) λU=>(aF ((!U),I.2))))) (aF (aj,I.2)))) λM=>(bcase M.1 (bF (bc (al M.2.2+al ([(I.1,J.1)])) 16) (aF (M.2.1,(M.2.2++([(I.1,J.1)]))))) (aF M.2))) λx5=>(cK ((cC I.1),x5))) (aF (oS ((cC J.1),I.2))))) (0,J.2)) (aF (J.2.2,0)))) (0,x,([]:List (Int×Int)))))))
def Ey (x:dJ×List gm):Option (GY×Int):=Ar @iter x
def rA (x:dJ×List gm):Option (GY×Int):=Ar @fU x
def ON (it:yH) (x:Unit):Option dJ:=
 (it Yd3 _ (λJ=>(bB J.1 (aQ (al ([[109,97,105,110],[116,49],[116,50],[116,51]]))) (it Yd3 _ (λI=>(bB I.1 6 (bF (bc (al I.q6+al ([(J.1,I.1,(bn .i64 ((bn .i64 ((bn .i64 (10*J.1))+I.1))+1)))])) 24) (cK ((cC I.1),I.2.1,I.p2,I.p3,I.p4,I.p5,(I.q6++([(J.1,I.1,(bn .i64 ((bn .i64 ((bn .i64 (10*J.1))+I.1))+1)))]))))) (aF (oS ((cC J.1),I.2))))) (0,J.2)) (aF J.2))) (0,[([120],0,0,aj,0),([121],0,0,aj,1),([118],0,0,ai,0),([113],0,2,aj,0),([113],1,2,aj,0)],[([109],aj),([110],aj),([114],ai)],[([99],0)],[[102]],[[109,97,105,110],[116,49],[116,50],[116,51]],([]:List (Int×Int×Int))))
def Oa (x:Unit):Option dJ:=ON @iter x
def CS (x:Unit):Option dJ:=ON @fU x
def yO:Nat:=1000000000
def jl (a b:List Int):List Int:=(dT (max a.length b.length)).map λi=>jL (a.getD i 0) (b.getD i 0)
theorem pP (a b:List Int):(jl a b).length=max a.length b.length:=by simp[jl]
theorem uq (a b:List Int) (i:Nat):(jl a b).getD i 0=jL (a.getD i 0) (b.getD i 0):=by
 unfold jl;simp only[ax,a8];by_cases h:i<max a.length b.length
 .rw[md h];rfl
 .rw[bR (by simp only[jT];omega),bR (l:=a) (by omega),bR (l:=b) (by omega)];rfl
theorem La (c:List Int) (i:Nat):jA (c,(i:Int))=af (c.getD i 0):=by
 unfold jA bB v9 aY aF;simp only[];rw[ye (by omega)];simp only[ec,mo];by_cases h:i<c.length
 .rw[aas (by simp;omega)];simp only[ec];rw[cB (c5 h),uz];rfl
 .rw[qV (by simp;omega)];simp only[dI];rw[ax,bR (by omega)];rfl
theorem XG (a b:List Int) (U:a.length<=yO) (hb:b.length<=yO):jw (a,b)=af (jl a b):=by
 unfold yO at U hb;unfold jw vu ck bB bF aY cK aF cC;have hm:max a.length b.length<=1000000000:=by omega
 rw[cB (by simp only[zm];rw[qV (by omega),qV (by omega),xo (by simp;omega) (by simp;omega)];rfl)];simp only[zm,dx,eR];have:=zk (σ:=Int×List Int) (R:=List Int) (max a.length b.length) (by omega) (λi=>((i:Int),(dT (max a.length b.length)).map λk=>if k<i then jL (a.getD k 0) (b.getD k 0) else 0)) (f:=(λI=>(bcase (fX I.1 (aQ (max a.length b.length))) (obind (jA (a,I.1)) λM=>(obind (jA (b,I.1)) λJ=>(chk (fk I.1 (al I.2)) λ_=>(chk (fk I.1 (al I.2)) λ_=>(af (oS ((bn .i64 (I.1+1)),(cq I.2 I.1 (jL M J))))))))) (af (bW I.2))))) (r:=jl a b) ?_ ?_
 .refine Eq.trans ?_ this;congr 1;simp only[Int.natCast_zero,xg,eo,aD,Bx];apply dD<;>simp
 .intro i hi;simp only[];rw[vm (by simp;omega),dI,La,La,c9,c9,cB (c5 (by simpa using hi)),cB (c5 (by simpa using hi)),pE hi (by omega),eB];congr 3;apply dD
  .simp
  .intro k h1 h2;simp only[bY,jT] at h2;simp only[uY,qP,nA];by_cases e:i=k
   .subst e;simp
   .by_cases h:k<i
    .rw[aA e,aE h,aE (by omega)]
    .rw[aA e,aA h,aA (by omega)]
 .simp only[];rw[ye (by simp),ec];congr 2;unfold jl;apply p_;intro k hk;rw[aE (nz.1 hk)]
theorem Zj (a b:List Int) (U:a.length<=yO) (hb:b.length<=yO):tJ (a,b)=af (jl a b,b):=by
 unfold yO at U hb;unfold tJ H0 ck bB bF aY cK aF cC;have hm:max a.length b.length<=1000000000:=by omega
 rw[cB (by simp only[zm];rw[qV (by omega),qV (by omega),xo (by simp;omega) (by simp;omega)];rfl)];simp only[zm,dx,eR];have:=zk (σ:=Int×List Int×List Int) (R:=List Int×List Int) (max a.length b.length) (by omega) (λi=>((i:Int),b,(dT (max a.length b.length)).map λk=>if k<i then jL (a.getD k 0) (b.getD k 0) else 0)) (f:=(λI=>(bcase (fX I.1 (aQ (max a.length b.length))) (obind (jA (a,I.1)) λM=>(obind (jA (I.2.1,I.1)) λJ=>(chk (fk I.1 (al I.2.2)) λ_=>(chk (fk I.1 (al I.2.2)) λ_=>(af (oS ((bn .i64 (I.1+1)),I.2.1,(cq I.2.2 I.1 (jL M J))))))))) (af (bW (I.2.2,I.2.1)))))) (r:=(jl a b,b)) ?_ ?_
 .refine Eq.trans ?_ this;congr 1;simp only[Int.natCast_zero,xg,eo,aD,Bx];apply dD<;>simp
 .intro i hi;simp only[];rw[vm (by simp;omega),dI,La,La,c9,c9,cB (c5 (by simpa using hi)),cB (c5 (by simpa using hi)),pE hi (by omega),eB];congr 4;apply dD
  .simp
  .intro k h1 h2;simp only[bY,jT] at h2;simp only[uY,qP,nA];by_cases e:i=k
   .subst e;simp
   .by_cases h:k<i
    .rw[aA e,aE h,aE (by omega)]
    .rw[aA e,aA h,aA (by omega)]
 .simp only[];rw[ye (by simp),ec];congr 3;unfold jl;apply p_;intro k hk;rw[aE (nz.1 hk)]
theorem Td (a b:List Int) (I:a.length<=yO) (hb:b.length<=yO):BW (a,b)=af (jl a b):=by
 unfold BW;rw[Zj a b I hb,c9];exact Qe rfl _
def tk (c:List Int) (t:Nat):List Int:=(c++aG (t+1-c.length) 0).set t (c.getD t 0+1)
theorem Mq (c:List Int) (t:Nat):(tk c t).length=max c.length (t+1):=by simp[tk];omega
theorem alf (c:List Int) (n i:Nat):(c++aG n 0).getD i 0=c.getD i 0:=by
 simp only[ax];by_cases h:i<c.length
 .rw[bJ h]
 .rw[bV (by omega),bR (l:=c) (by omega),lw];split<;>rfl
theorem Ig (c:List Int) (t i:Nat):(tk c t).getD i 0=if i=t then c.getD t 0+1 else c.getD i 0:=by
 unfold tk;rw[ax,oW];by_cases h:t=i
 .subst h;rw[aE rfl,aE (by simp;omega),aE rfl];rfl
 .rw[aA h,aA (λe=>h e.symm),<-ax,alf]
theorem abi (c:List Int) (n:Nat) (h:c.length<=n):TA (aG n 0) c=c++aG (n-c.length) 0:=by
 unfold TA;rw[eR,fe h,List.drop_replicate]
theorem XA (c:List Int) (t:Nat) (hc:c.length<=yO) (ht:t<4) (h0:0<=c.getD t 0) (h1:c.getD t 0<9223372036854775807):pN (c,(t:Int))=af (tk c t):=by
 unfold yO at hc;unfold pN ck jZ bF aY aF cC;simp only[];rw[qV (by omega),dI,mo,vm (by omega)];simp only[dI,mo];have e1:jL (aQ c.length) (bn .i64 ((t:Int)+1))=((max c.length (t+1):Nat):Int):=by
  rw[pE ht (by omega)];exact zm _ _
 rw[e1];rw[cB (by rw[qV (by omega),qV (by omega),xo (by simp;omega) (by simp;omega)];rfl)];rw[dx];have e2:TA (aG (max c.length (t+1)) (0:Int)) c=c++aG (t+1-c.length) 0:=by
  rw[abi c _ (by omega)];rw[show max c.length (t+1)-c.length=t+1-c.length from by omega]
 rw[e2];have hl:t<(c++aG (t+1-c.length) (0:Int)).length:=by simp;omega
 rw[cB (c5 hl),cB (c5 hl),mo];have e3:aJ (T:=.int .i64) (c++aG (t+1-c.length) (0:Int)) (t:Int)=c.getD t 0:=by
  rw[uz];exact alf c _ t
 simp only[];rw[e3,vm h1,dI,cB (c5 hl),cB (c5 hl),cB (c5 hl),cB (c5 hl),mo,agi (by omega) (by omega),eB];rfl
theorem D7 (c:List Int) (hc:c.length<=yO):xx c=af c:=by
 unfold yO at hc;unfold xx;rw[cB (xo (by omega) (by omega))]
theorem Nt (c:List Int) (hc:c.length<=yO):vh c=af c:=by
 unfold yO at hc;unfold vh wD bF;rw[cB (xo (by simp;omega) (by simp;omega)),c9];exact Qe rfl _
theorem Nu (c:List Int) (hc:c.length<=yO):o6 c=af c:=D7 c hc
def GL (l:List (List Int)):Prop:=l.length<=yO/\∀ c∈l,c.length<=yO
abbrev HTp:Type:=List (List Int)×List (List Int)×List (List Int)×List (List Int)×List (List Int)×List (List Int)×List Int×List (List Int)×List Int
def GH (h:HTp):Prop:=GL h.1/\GL h.2.1/\GL h.2.2.1/\GL h.2.2.2.1/\GL h.2.2.2.2.1/\GL h.2.2.2.2.2.1/\h.2.2.2.2.2.2.1.length<=yO/\GL h.2.2.2.2.2.2.2.1/\h.2.2.2.2.2.2.2.2.length<=yO
theorem Dd {l:List (List Int)} {i:Nat} (h:i<l.length):l.getD i []∈l:=by
 rw[ax,aB h];exact uZ h
theorem GL.at {l:List (List Int)} (h:GL l) (i:Nat):(l.getD i []).length<=yO:=by
 by_cases hi:i<l.length
 .exact h.2 _ (Dd hi)
 .rw[ax,bR (by omega)];simp
theorem YG (g:List Int->Option (List Int)) (l:List (List Int)) (hl:l.length<=yO) (hg:∀ c∈l,g c=af c):
 fU (σ:=Int×List (List Int)) (λI=>(bcase (fX I.1 (aQ (al l))) (chk (fk I.1 (al l)) λ_=>(obind (g (aJ (T:=(.sl (.int .i64))) l I.1)) λJ=>(chk (fk I.1 (al I.2)) λ_=>(chk (fk I.1 (al I.2)) λ_=>(af (oS ((bn .i64 (I.1+1)),(cq I.2 I.1 J)))))))) (af (bW I.2)))) (0,(aG (aS (aQ (al l))) ([]:List Int)))=af l:=by
 unfold yO at hl;have:=zk (σ:=Int×List (List Int)) (R:=List (List Int)) l.length (by omega) (λi=>((i:Int),(dT l.length).map λk=>if k<i then l.getD k [] else [])) (f:=(λI=>(bcase (fX I.1 (aQ (al l))) (chk (fk I.1 (al l)) λ_=>(obind (g (aJ (T:=(.sl (.int .i64))) l I.1)) λJ=>(chk (fk I.1 (al I.2)) λ_=>(chk (fk I.1 (al I.2)) λ_=>(af (oS ((bn .i64 (I.1+1)),(cq I.2 I.1 J)))))))) (af (bW I.2))))) (r:=l) ?_ ?_
 .refine Eq.trans ?_ this;congr 1;simp only[Int.natCast_zero,xg,eo,aD,Bx,au,dx];apply dD<;>simp
 .intro i hi;simp only[];rw[vm (by simp;omega),dI,cB (c5 hi),uz,show (l.getD i (Ty.zero (.sl (.int .i64))))=l.getD i [] from rfl,hg _ (Dd hi),c9,cB (c5 (by simpa using hi)),cB (c5 (by simpa using hi)),pE hi (by omega),eB];congr 3;apply dD
  .simp
  .intro k h1 h2;simp only[bY,jT] at h2;simp only[uY,qP,nA];by_cases e:i=k
   .subst e;simp
   .by_cases h:k<i
    .rw[aA e,aE h,aE (by omega)]
    .rw[aA e,aA h,aA (by omega)]
 .simp only[];rw[ye (by simp),ec];congr 2;apply dD
  .simp
  .intro k h1 h2;simp only[qP,nA];rw[aE h2,ax,aB h2];rfl
theorem rK (l:List (List Int)) (h:GL l):iv l=af l:=by
 have hl:=h.1;unfold yO at hl;unfold iv xF ck bB v9 bF aY cK aF cC;rw[cB (by rw[qV (by simp),qV (by omega),xo (by simp;omega) (by simp;omega)];rfl)];exact YG xx l h.1 λc hc=>D7 c (h.2 c hc)
theorem Nj (h:HTp) (g:GH h):ry h=af (h.2.2.2.2.2.2.1,h.1,h.2.1,h.2.2.1,h.2.2.2.1,h.2.2.2.2.1,h.2.2.2.2.2.1,h.2.2.2.2.2.2.2.1,h.2.2.2.2.2.2.2.2):=by
 obtain⟨g1,g2,g3,Z,Y,U,M,J,I⟩:=g;unfold ry aV bh bw ct dQ iU nF;rw[rK _ g1,c9,rK _ g2,c9,rK _ g3,c9,rK _ Z,c9,rK _ Y,c9,rK _ U,c9,Nu _ M,c9,rK _ J,c9,Nu _ I,c9]
abbrev vE:Type:=List (List UInt8×Int×Int×Bool×Int)×List (List UInt8×Bool)×List (List UInt8×Int)×List (List UInt8)×List (List UInt8)×List (Int×Int×Int)
def h0 (w:vE):HTp:=(aG w.2.2.2.2.1.length [],aG w.2.2.2.2.1.length [],aG w.2.1.length [],aG w.2.1.length [],aG w.1.length [],aG w.2.2.2.1.length [],[],aG w.2.2.2.2.1.length [],aG w.2.2.2.2.1.length (-1))
theorem acf (w:vE) (h1:w.1.length<=yO) (h2:w.2.1.length<=yO) (M:w.2.2.2.1.length<=yO) (J:w.2.2.2.2.1.length<=yO):nQ w=af (h0 w):=by
 unfold yO at h1 h2 M J;have c:∀ n b:Nat,n<=1000000000->b<=24->(cY 0 (aQ n)&&cY (aQ n) (aQ n)&&bc (aS (aQ n)) b)=ai:=λn b hn hb=>by
  have:n*b<=n*24:=Nat.mul_le_mul_left n hb;rw[qV (by simp),qV (by omega),xo (by simp;omega) (by simp;omega)];rfl
 unfold nQ Aq aV bh bw ct dQ iU nF ck bB bF aY cK aF cC;rw[cB (c _ 24 J (by omega)),cB (c _ 24 J (by omega)),cB (c _ 24 h2 (by omega)),cB (c _ 24 h2 (by omega)),cB (c _ 24 h1 (by omega)),cB (c _ 24 M (by omega)),cB (c _ 24 J (by omega)),cB (c _ 8 J (by omega))];simp only[au,dx,eR];have:=zk (σ:=Int×(List (List Int))×(List (List Int))×(List (List Int))×(List (List Int))×(List (List Int))×(List (List Int))×(List (List Int))×List Int) (R:=HTp) w.2.2.2.2.1.length (by omega) (λi=>((i:Int),aG w.2.2.2.2.1.length [],aG w.2.2.2.2.1.length [],aG w.2.1.length [],aG w.2.1.length [],aG w.1.length [],aG w.2.2.2.1.length [],aG w.2.2.2.2.1.length [],(dT w.2.2.2.2.1.length).map λk=>if k<i then -1 else 0)) (f:=(λI=>(bcase (fX I.1 (w.2.2.2.2.1.length:Int)) (chk (fk I.1 (al I.2.2.2.2.2.2.2.2)) λ_=>(chk (fk I.1 (al I.2.2.2.2.2.2.2.2)) λ_=>(af (oS ((bn .i64 (I.1+1)),I.2.1,I.2.2.1,I.2.2.2.1,I.2.2.2.2.1,I.2.2.2.2.2.1,I.2.2.2.2.2.2.1,I.2.2.2.2.2.2.2.1,(cq I.2.2.2.2.2.2.2.2 I.1 (-1))))))) (af (bW (I.2.1,I.2.2.1,I.2.2.2.1,I.2.2.2.2.1,I.2.2.2.2.2.1,I.2.2.2.2.2.2.1,([]:List Int),I.2.2.2.2.2.2.2.1,I.2.2.2.2.2.2.2.2)))))) (r:=h0 w) ?_ ?_
 .refine Eq.trans ?_ this;congr 1;simp only[Int.natCast_zero,xg,eo,aD,Bx];apply dD<;>simp
 .intro i hi;simp only[];rw[vm (by omega),dI,cB (c5 (by simpa using hi)),cB (c5 (by simpa using hi)),pE hi (by omega),eB];congr 3;simp only[aD,Bx];apply dD
  .simp
  .intro k h1 h2;simp only[bY,jT] at h2;simp only[uY,qP,nA];by_cases e:i=k
   .subst e;simp
   .by_cases h:k<i
    .rw[aA e,aE h,aE (by omega)]
    .rw[aA e,aA h,aA (by omega)]
 .simp only[];rw[ye (by omega),ec];unfold h0;congr 3;simp only[aD,Bx];apply dD
  .simp
  .intro k h1 h2;simp only[eR] at h2;simp only[qP,nA,List.getElem_replicate];rw[aE h2]
theorem oM (x y:Int):jL x y=max x y:=by
 unfold jL;by_cases h:x<y
 .rw[vm h,aE rfl];omega
 .rw[ye (by omega)];simp;omega
theorem Uq (a b c:Int):jL (jL a b) c=jL a (jL b c):=by
 simp only[oM];omega
theorem wF {a b:List Int} (hl:a.length=b.length) (h:∀ i,a.getD i 0=b.getD i 0):a=b:=by
 apply dD hl;intro i h1 h2;have:=h i;simpa[ax,aB h1,aB h2] using this
theorem sx (a b c:List Int):jl (jl a b) c=jl a (jl b c):=
 wF (by simp only[pP];omega) λi=>by simp only[uq,Uq]
def En (n:Int) (c:List Int):Prop:=c.length<=4/\∀ i,0<=c.getD i 0/\c.getD i 0<=n
theorem En.nil {n:Int} (h:0<=n):En n []:=⟨by simp,λi=>by simp;exact h⟩
theorem En.mono {n m:Int} {c:List Int} (h:En n c) (hm:n<=m):En m c:=⟨h.1,λi=>⟨(h.2 i).1,Int.le_trans (h.2 i).2 hm⟩⟩
theorem En.jl {n:Int} {a b:List Int} (I:En n a) (hb:En n b):En n (jl a b):=⟨by rw[pP];have:=I.1;have:=hb.1;omega,λi=>by
 rw[uq];obtain⟨h1,h2⟩:=I.2 i;obtain⟨M,J⟩:=hb.2 i;unfold jL;split<;>exact⟨by assumption,by assumption⟩⟩
theorem En.tk {n:Int} {c:List Int} {t:Nat} (h:En n c) (ht:t<4):En (n+1) (tk c t):=⟨by rw[Mq];have:=h.1;omega,λi=>by
 rw[Ig];obtain⟨h1,h2⟩:=h.2 i;obtain⟨J,I⟩:=h.2 t;split<;>omega⟩
theorem ov {n:Int} {c:List Int} (h:En n c):jl c []=c:=wF (by simp[pP]) λi=>by
 rw[uq,oM];have:=(h.2 i).1;simp only[List.getD_nil];omega
theorem ai9 {n:Int} {c:List Int} (h:En n c):jl [] c=c:=wF (by simp[pP]) λi=>by
 rw[uq,oM];have:=(h.2 i).1;simp only[List.getD_nil];omega
def Bu (n:Int) (l:List (List Int)):Prop:=∀ i,En n (l.getD i [])
theorem Bu.mono {n m:Int} {l:List (List Int)} (h:Bu n l) (hm:n<=m):Bu m l:=λi=>(h i).mono hm
theorem Bu.set {n:Int} {l:List (List Int)} (h:Bu n l) {c:List Int} (hc:En n c) (j:Nat):Bu n (l.set j c):=λi=>by
 rw[ax,oW];by_cases e:j=i
 .subst e;rw[aE rfl];split
  .exact hc
  .have:=h j;simp only[ax] at this;rename_i hj;rw[bR (by omega)] at this;exact this
 .rw[aA e,<-ax];exact h i
theorem Bu.repl {n:Int} (h:0<=n) (k:Nat):Bu n (aG k []):=λi=>by
 rw[ax,lw];split<;>exact En.nil h
structure HS where
 T:List (List Int)
 S:List (List Int)
 L:List (List Int)
 R:List (List Int)
 C:List (List Int)
 F:List (List Int)
 X:List Int
 N:List (List Int)
 W:List Int
def HS.t (h:HS):HTp:=(h.T,h.S,h.L,h.R,h.C,h.F,h.X,h.N,h.W)
structure EV where
 th:Nat
 k:Nat
 ob:Nat
 va:Int
abbrev WTc:=List (List UInt8×Int)
def Tz (I:WTc) (o:Nat):Nat:=((I.getD o ([],0)).2).toNat
def wa (I:List (List UInt8×Int×Int×Bool×Int)) (o:Nat):Bool:=(I.getD o ([],0,0,aj,0)).2.2.2.1
def sg (w:vE) (h:HS) (e:EV):List (List Int):=
 if e.k=1 then [h.S.getD e.th []]
 else if e.k=21 then [h.T.getD e.ob []]
 else if e.k=6\/e.k=10 then [h.L.getD e.ob [],h.R.getD e.ob []]
 else if e.k=8 then [h.L.getD e.ob []]
 else if e.k=17 then [h.L.getD (Tz w.2.2.1 e.ob) [],h.R.getD (Tz w.2.2.1 e.ob) [],h.N.getD e.th []]
 else if e.k=3 then [h.C.getD e.ob []]
 else if e.k=23 then [h.F.getD e.ob []]
 else if e.k=12 then [h.X]
 else []
def vS (w:vE) (h:HS) (e:EV):List Int:=tk ((sg w h e).foldl jl (h.T.getD e.th [])) e.th
def jat (l:List (List Int)) (i:Nat) (c:List Int):List (List Int):=l.set i (jl (l.getD i []) c)
def Co (p:Nat->Bool) (c:List Int) (h:HS):HS:={h with N:=h.N.mapIdx λu x=>if p u then c else x,W:=h.W.mapIdx λu x=>if p u then -1 else x}
def ik (w:vE) (h:HS) (e:EV) (c:List Int):HS:=
 let h:={h with T:=h.T.set e.th c}
 if e.k=20 then {h with S:=h.S.set e.ob c}
 else if e.k=7\/e.k=11 then {h with L:=jat h.L e.ob c}
 else if e.k=9 then {h with R:=jat h.R e.ob c}
 else if e.k=16 then {h with L:=jat h.L (Tz w.2.2.1 e.ob) c,W:=h.W.set e.th e.ob}
 else if e.k=4 then (if wa w.1 e.ob then {h with C:=jat h.C e.ob c} else h)
 else if e.k=22 then {h with F:=jat h.F e.ob c}
 else if e.k=13 then {h with X:=jl h.X c}
 else if e.k=18 then (if 0<=e.va/\e.va<h.N.length then {h with N:=h.N.set e.va.toNat c,W:=h.W.set e.va.toNat (-1)} else h)
 else if e.k=19 then Co (λu=>decide (h.W.getD u 0=(e.ob:Int))) c h
 else h
def FF (w:vE) (h:HS) (e:EV):HS×List Int:=(ik w h e (vS w h e),vS w h e)
structure EOK (w:vE) (h:HS) (e:EV):Prop where
 th4:e.th<4
 th:e.th<h.T.length
 k1:1<=e.k
 k2:e.k<=23
 sp:e.k=20\/e.k=21->e.ob<h.T.length
 lk:6<=e.k/\e.k<=11->e.ob<h.L.length
 cd:e.k=16\/e.k=17->e.ob<w.2.2.1.length/\0<=(w.2.2.1.getD e.ob ([],0)).2/\Tz w.2.2.1 e.ob<h.L.length
 ce:e.k=3\/e.k=4->e.ob<h.C.length/\e.ob<w.1.length
 fu:e.k=22\/e.k=23->e.ob<h.F.length
structure PN (n:Int) (h:HS):Prop where
 n0:0<=n
 n1:n<=1000000
 T:Bu n h.T
 S:Bu n h.S
 L:Bu n h.L
 R:Bu n h.R
 C:Bu n h.C
 F:Bu n h.F
 X:En n h.X
 N:Bu n h.N
 lT:h.T.length<=1000
 lS:h.S.length=h.T.length
 lN:h.N.length=h.T.length
 lW:h.W.length=h.T.length
 lL:h.L.length<=1000
 lR:h.R.length=h.L.length
 lC:h.C.length<=1000
 lF:h.F.length<=1000
theorem En.lb {n:Int} {c:List Int} (h:En n c):c.length<=yO:=by have:=h.1;unfold yO;omega
theorem Bu.GL {n:Int} {l:List (List Int)} (h:Bu n l) (hl:l.length<=1000):GL l:=⟨by unfold yO;omega,λc hc=>by
 obtain⟨i,hi⟩:=eC hc;have:=(h i).lb
 rwa [ax,hi] at this⟩
theorem PN.GH {n:Int} {h:HS} (o:PN n h):GH h.t:=
 ⟨o.T.GL o.lT,o.S.GL (by rw[o.lS];exact o.lT),o.L.GL o.lL,o.R.GL (by rw[o.lR];exact o.lL),o.C.GL o.lC,o.F.GL o.lF,o.X.lb,o.N.GL (by rw[o.lN];exact o.lT),by show h.W.length<=yO;have:=o.lT;rw[o.lW];unfold yO;omega⟩
theorem En.join {n:Int} {a b:List Int} (I:En n a) (hb:En n b):jw (a,b)=af (AI.jl a b):=XG a b I.lb hb.lb
theorem NT {n:Int} {w:vE} {h:HS} (o:PN n h) (e:EV):∀ c∈sg w h e,En n c:=by
 intro c hc;unfold sg at hc;repeat' (split at hc)
 all_goals simp only[bl,cw,gf] at hc
 .subst hc;exact o.S _
 .subst hc;exact o.T _
 .rcases hc with rfl|rfl
  .exact o.L _
  .exact o.R _
 .subst hc;exact o.L _
 .rcases hc with rfl|rfl|rfl
  .exact o.L _
  .exact o.R _
  .exact o.N _
 .subst hc;exact o.C _
 .subst hc;exact o.F _
 .subst hc;exact o.X
theorem xM {n:Int}:∀ (l:List (List Int)) (c:List Int),En n c->(∀ x∈l,En n x)->En n (l.foldl jl c)
 |[],_,hc,_=>hc
 |x::r,c,hc,h=>xM r _ (hc.jl (h x (dC ..))) λy I=>h y (cO _ I)
theorem Kw {n:Int} {w:vE} {h:HS} (o:PN n h) {e:EV} (he:e.th<4):En (n+1) (vS w h e):=(xM _ _ (o.T _) (NT o e)).tk he
theorem Bu.jat {n:Int} {l:List (List Int)} {c:List Int} (h:Bu n l) (hc:En n c) (i:Nat):Bu n (jat l i c):=h.set ((h i).jl hc) i
theorem Bu.mapIdx {n:Int} {l:List (List Int)} {c:List Int} (h:Bu n l) (hc:En n c) (p:Nat->Bool):Bu n (l.mapIdx λu x=>if p u then c else x):=λi=>by
 rw[ax,D'];have:=h i;rw[ax] at this;cases I:l[i]? with
 |none=>rw[I] at this;exact this
 |some x=>
  rw[I] at this;simp only[b_,uW];split
  .exact hc
  .exact this
theorem W9 {n:Int} {w:vE} {h:HS} (o:PN n h) (hn:n+1<=1000000) {e:EV} {c:List Int} (hc:En (n+1) c):PN (n+1) (ik w h e c):=by
 have m:n<=n+1:=by omega
 have oT:Bu (n+1) (h.T.set e.th c):=(o.T.mono m).set hc _;have b:PN (n+1) {h with T:=h.T.set e.th c}:=⟨by have:=o.n0;omega,hn,oT,o.S.mono m,o.L.mono m,o.R.mono m,o.C.mono m,o.F.mono m,o.X.mono m,o.N.mono m,by simpa using o.lT,by simpa using o.lS,by simpa using o.lN,by simpa using o.lW,o.lL,o.lR,o.lC,o.lF⟩
 unfold ik;simp only[];repeat' split
 .exact {b with S:=(o.S.mono m).set hc _,lS:=by simpa using b.lS}
 .exact {b with L:=(o.L.mono m).jat hc _,lL:=by simpa[jat] using b.lL,lR:=by simpa[jat] using b.lR}
 .exact {b with R:=(o.R.mono m).jat hc _,lR:=by simpa[jat] using b.lR}
 .exact {b with L:=(o.L.mono m).jat hc _,lL:=by simpa[jat] using b.lL,lR:=by simpa[jat] using b.lR,lW:=by simpa using b.lW}
 .exact {b with C:=(o.C.mono m).jat hc _,lC:=by simpa[jat] using b.lC}
 .exact b
 .exact {b with F:=(o.F.mono m).jat hc _,lF:=by simpa[jat] using b.lF}
 .exact {b with X:=(o.X.mono m).jl hc}
 .exact {b with N:=(o.N.mono m).set hc _,lN:=by simpa using b.lN,lW:=by simpa using b.lW}
 .exact b
 .exact {b with N:=(o.N.mono m).mapIdx hc _,lN:=by simpa[Co] using b.lN,lW:=by simpa[Co] using b.lW}
 .exact b
theorem ZS {n:Int} {w:vE} {h:HS} (o:PN n h) (hn:n+1<=1000000) {e:EV} (he:e.th<4):PN (n+1) (FF w h e).1:=W9 o hn (Kw o he)
theorem VR {a b:Nat} (h:a=b):aC a b=ai:=by subst h;exact rR a
theorem Rx (l:List (List Int)) (i:Nat) (h:i<l.length):tW ((i:Int),l)=af (l.getD i [],l):=by
 unfold tW ck bB aY aF;simp only[];rw[ye (by omega)];simp only[ec,mo];rw[aas (by simp;omega)];simp only[ec];rw[cB (c5 h),cB (c5 h),lI]
theorem tY {n:Int} (l:List (List Int)) (i:Nat) (c:List Int) (h:i<l.length) (hl:Bu n l) (hc:En n c):lD ((i:Int),l,c)=af (jat l i c,c):=by
 unfold lD ck jZ aY aF;simp only[];rw[qV (by omega)];simp only[dI,mo];rw[vm (by simp;omega)];simp only[dI];rw[cB (c5 h),cB (c5 h),lI,Td _ _ (hl i).lb hc.lb,c9,cB (c5 h),cB (c5 h),eB];rfl
theorem rD (l:List (List Int)) (i:Nat) (c:List Int):(jat l i c).length=l.length:=by simp[jat]
theorem Wc {n:Int} (h:HS) (u:Nat) (c:List Int) (h1:u<h.N.length) (h2:u<h.W.length) (hc:En n c):wA ((u:Int),h.X,h.T,h.S,h.L,h.R,h.C,h.F,h.N,h.W,c)=af (h.X,h.T,h.S,h.L,h.R,h.C,h.F,h.N.set u c,h.W.set u (-1),c):=by
 unfold wA aV bh bw ct dQ iU uV xf Prod.q10 ck;simp only[];rw[Nt c hc.lb,c9,cB (c5 h1),cB (c5 h1),cB (c5 h2),cB (c5 h2),eB,eB]
theorem WV (I:WTc) (i:Nat):aJ (T:=.st (.pr .str (.int .i64))) I (i:Int)=I.getD i ([],0):=uz (T:=.st (.pr .str (.int .i64))) I i
theorem OK (I:List (List UInt8×Int×Int×Bool×Int)) (i:Nat):aJ (T:=.st (.pr .str (.pr (.int .i64) (.pr (.int .i64) (.pr .bool (.int .i64)))))) I (i:Int)=I.getD i ([],0,0,aj,0):=uz (T:=.st (.pr .str (.pr (.int .i64) (.pr (.int .i64) (.pr .bool (.int .i64)))))) I i
abbrev ETp:Type:=Int×Int×Int×Int×Int×List Int×List Int
structure EvT (e:EV) (x:ETp):Prop where
 th:x.1=(e.th:Int)
 k:x.2.1=(e.k:Int)
 ob:e.k∈[3,4,6,7,8,9,10,11,16,17,18,19,20,21,22,23]->x.2.2.1=(e.ob:Int)
 va:x.2.2.2.1=e.va
theorem WL {k:Nat} {z:Int} (I:z=(k:Int)) (h1:1<=k) (h2:k<=23):(k=1/\z=1)\/(k=2/\z=2)\/(k=3/\z=3)\/(k=4/\z=4)\/(k=5/\z=5)\/(k=6/\z=6)\/(k=7/\z=7)\/(k=8/\z=8)\/(k=9/\z=9)\/(k=10/\z=10)\/(k=11/\z=11)\/(k=12/\z=12)\/(k=13/\z=13)\/(k=14/\z=14)\/(k=15/\z=15)\/(k=16/\z=16)\/(k=17/\z=17)\/(k=18/\z=18)\/(k=19/\z=19)\/(k=20/\z=20)\/(k=21/\z=21)\/(k=22/\z=22)\/(k=23/\z=23):=by
 have h:k=1\/k=2\/k=3\/k=4\/k=5\/k=6\/k=7\/k=8\/k=9\/k=10\/k=11\/k=12\/k=13\/k=14\/k=15\/k=16\/k=17\/k=18\/k=19\/k=20\/k=21\/k=22\/k=23:=by omega
 subst I;rcases h with rfl|rfl|rfl|rfl|rfl|rfl|rfl|rfl|rfl|rfl|rfl|rfl|rfl|rfl|rfl|rfl|rfl|rfl|rfl|rfl|rfl|rfl|rfl<;>simp
theorem VQ (a:Nat):(aC a a&&ai)=ai:=by rw[VR rfl];rfl
theorem S6 {n:Int} {w:vE} {h:HS} (o:PN n h) {e:EV} (ok:EOK w h e) {x:ETp} (hx:EvT e x):rz (x,h.X,w,h.T,h.S,h.L,h.R,h.C,h.F,h.N,h.W)=af (sg w h e,x,h.X,w,h.T,h.S,h.L,h.R,h.C,h.F,h.N,h.W):=by
 obtain⟨x1,x2,M,x4,x5,x6,x7⟩:=x;obtain⟨w1,w2,U,w4,w5,w6⟩:=w;obtain⟨th,k,ob,va⟩:=e;obtain⟨q1,Y,q3,q4⟩:=hx;simp only at q1 Y q3 q4;subst q1 q4;have t1:=ok.th;simp only at t1;have fS:fk (th:Int) h.S.length=ai:=c5 (by rw[o.lS];exact t1);have fN:fk (th:Int) h.N.length=ai:=c5 (by rw[o.lN];exact t1);have fT:k=21->fk (ob:Int) h.T.length=ai/\M=(ob:Int):=λe=>by
  subst e;have:=ok.sp (.inr rfl);exact⟨c5 this,q3 (by decide)⟩
 have fL:(k=6\/k=10\/k=8)->fk (ob:Int) h.L.length=ai/\fk (ob:Int) h.R.length=ai/\M=(ob:Int):=λe=>by
  have h1:ob<h.L.length:=ok.lk (by rcases e with rfl|rfl|rfl<;>(simp only[];omega));exact⟨c5 h1,c5 (by rw[o.lR];exact h1),q3 (by rcases e with rfl|rfl|rfl<;>decide)⟩
 have fC:k=3->fk (ob:Int) h.C.length=ai/\M=(ob:Int):=λe=>by
  subst e;have:=(ok.ce (.inl rfl)).1;exact⟨c5 this,q3 (by decide)⟩
 have fF:k=23->fk (ob:Int) h.F.length=ai/\M=(ob:Int):=λe=>by
  subst e;have:=ok.fu (.inr rfl);exact⟨c5 this,q3 (by decide)⟩
 unfold rz sg xd aV bh bw ct dQ iU uV xf Prod.q10 Lb cN eZ ck bd v9 bF aF;rcases WL Y ok.k1 ok.k2 with ⟨e,e'⟩|⟨e,e'⟩|⟨e,e'⟩|⟨e,e'⟩|⟨e,e'⟩|⟨e,e'⟩|⟨e,e'⟩|⟨e,e'⟩|⟨e,e'⟩|⟨e,e'⟩|⟨e,e'⟩|⟨e,e'⟩|⟨e,e'⟩|⟨e,e'⟩|⟨e,e'⟩|⟨e,e'⟩|⟨e,e'⟩|⟨e,e'⟩|⟨e,e'⟩|⟨e,e'⟩|⟨e,e'⟩|⟨e,e'⟩|⟨e,e'⟩<;>clear Y<;>subst e<;>subst e'
 case inr.inr.inr.inr.inr.inr.inr.inr.inr.inr.inr.inr.inr.inr.inr.inr.inl=>
  have q3:=q3 (by decide);subst q3;obtain⟨d1,d2,Z⟩:=ok.cd (.inr rfl);simp only at d1 d2 Z;have d4:Tz U ob<h.R.length:=by rw[o.lR];exact Z
  have e1:(U.getD ob ([],0)).2=((Tz U ob:Nat):Int):=by unfold Tz;omega
  simp only[aZ,c_,dW,dI,ec,mo,cB,c5 d1,WV,e1,Rx _ _ Z,Rx _ _ d4,c9,VQ,fN,lI];rfl
 case inr.inr.inl=>
  obtain⟨I,rfl⟩:=fC rfl;simp only[aZ,c_,dW,dI,ec,mo,cB,I,lI];rfl
 case inr.inr.inr.inr.inr.inr.inr.inr.inr.inr.inr.inr.inr.inr.inr.inr.inr.inr.inr.inr.inr.inr=>
  obtain⟨I,rfl⟩:=fF rfl;simp only[aZ,c_,dW,dI,ec,mo,cB,I,lI];rfl
 case inr.inr.inr.inr.inr.inr.inr.inr.inr.inr.inr.inr.inr.inr.inr.inr.inr.inr.inr.inr.inl=>
  obtain⟨I,rfl⟩:=fT rfl;simp only[aZ,c_,dW,dI,ec,mo,cB,I,lI];rfl
 case inl=>
  simp only[aZ,c_,dW,dI,ec,mo,cB,fS,lI];rfl
 case inr.inr.inr.inr.inr.inl=>
  obtain⟨I,J,rfl⟩:=fL (by decide);simp only[aZ,c_,dW,dI,ec,mo,cB,I,J,lI];rfl
 case inr.inr.inr.inr.inr.inr.inr.inr.inr.inl=>
  obtain⟨I,J,rfl⟩:=fL (by decide);simp only[aZ,c_,dW,dI,ec,mo,cB,I,J,lI];rfl
 case inr.inr.inr.inr.inr.inr.inr.inl=>
  obtain⟨I,J,rfl⟩:=fL (by decide);simp only[aZ,c_,dW,dI,ec,mo,cB,I,J,lI];rfl
 all_goals
  simp only[aZ,c_,dW,dI,ec,mo];rfl
theorem EI {σ R:Type} {f:σ->Option (σ⊕R)} {x0:σ} {r:R} (n:Nat) (hn:n<18446744073709551616) (st:Nat->σ) (I:x0=st 0) (h0:∀ i,i<n->f (st i)=af (.inl (st (i+1)))) (h1:f (st n)=af (.inr r)):fU f x0=af r:=by
 subst I;exact zk n hn st h0 h1
def Lg {α:Type} (p:Nat->Bool) (c:α) (u:Nat) (l:List α):List α:=l.mapIdx λk x=>if decide (k<u)&&p k then c else x
theorem ZH {α:Type} (p:Nat->Bool) (c:α) (l:List α):Lg p c 0 l=l:=by
 unfold Lg;apply dD
 .simp
 .intro i h1 h2;simp
theorem Ic {α:Type} (p:Nat->Bool) (c:α) (u:Nat) (l:List α):(Lg p c u l).length=l.length:=by simp[Lg]
theorem P0 {α:Type} (p:Nat->Bool) (c:α) (u:Nat) (l:List α) (h:l.length<=u):Lg p c u l=l.mapIdx λk x=>if p k then c else x:=by
 unfold Lg;apply dD
 .simp
 .intro i h1 h2;simp only[List.length_mapIdx] at h1;simp only[List.getElem_mapIdx];rw[show decide (i<u)=ai from aO (by omega)];rfl
theorem Wa {α:Type} (p:Nat->Bool) (c:α) (u:Nat) (l:List α) (hp:p u=ai):(Lg p c u l).set u c=Lg p c (u+1) l:=by
 unfold Lg;apply dD
 .simp
 .intro i h1 h2;simp only[uY,List.getElem_mapIdx];by_cases e:u=i
  .subst e;simp[hp]
  .rw[aA e];by_cases h:i<u
   .rw[aO h,aO (show i<u+1 by omega)]
   .rw[bz h,bz (show ¬i<u+1 by omega)]
theorem PZ {α:Type} (p:Nat->Bool) (c:α) (u:Nat) (l:List α) (hp:p u=aj):Lg p c u l=Lg p c (u+1) l:=by
 unfold Lg;apply dD
 .simp
 .intro i h1 h2;simp only[List.getElem_mapIdx];by_cases e:u=i
  .subst e;simp[hp]
  .by_cases h:i<u
   .rw[aO h,aO (show i<u+1 by omega)]
   .rw[bz h,bz (show ¬i<u+1 by omega)]
theorem ahx (p:Nat->Bool) (c:Int) (u:Nat) (l:List Int):(Lg p c u l).getD u 0=l.getD u 0:=by
 unfold Lg;rw[ax,D',ax];cases l[u]? with
 |none=>rfl
 |some x=>simp
def HS.e (h:HS) (c:List Int):List Int×List (List Int)×List (List Int)×List (List Int)×List (List Int)×List (List Int)×List (List Int)×List (List Int)×List Int×List Int:=(h.X,h.T,h.S,h.L,h.R,h.C,h.F,h.N,h.W,c)
theorem Ry {n:Int} {w:vE} {h:HS} (o:PN n h) (hn:n+1<=1000000) {e:EV} (ok:EOK w h e) {x:ETp} (hx:EvT e x) {c:List Int} (hc:En (n+1) c):pK ((w,x),h.e c)=af ((ik w h e c).e c):=by
 obtain⟨x1,x2,x3,I,x5,x6,x7⟩:=x;obtain⟨J,w2,M,w4,w5,w6⟩:=w;obtain⟨th,k,ob,va⟩:=e;obtain⟨q1,q2,q3,q4⟩:=hx;simp only at q1 q2 q3 q4;subst q1 q4;have t1:=ok.th;simp only at t1;have m:n<=n+1:=by omega
 have fT:fk (th:Int) h.T.length=ai:=c5 t1;have fW:fk (th:Int) h.W.length=ai:=c5 (by rw[o.lW];exact t1);have cl:=Nt c hc.lb;unfold pK Ao HS.e xd D9 Prod.p12 Prod.p13 Prod.p14 Prod.p15 Prod.p16 Prod.p17 aV bh bw ct dQ iU uV xf Prod.q10 Prod.q16 Prod.q17 Prod.q18 cN mq Ny ck bd bB jZ v9 bF aY cK aF cC;rcases WL q2 ok.k1 ok.k2 with ⟨e,e'⟩|⟨e,e'⟩|⟨e,e'⟩|⟨e,e'⟩|⟨e,e'⟩|⟨e,e'⟩|⟨e,e'⟩|⟨e,e'⟩|⟨e,e'⟩|⟨e,e'⟩|⟨e,e'⟩|⟨e,e'⟩|⟨e,e'⟩|⟨e,e'⟩|⟨e,e'⟩|⟨e,e'⟩|⟨e,e'⟩|⟨e,e'⟩|⟨e,e'⟩|⟨e,e'⟩|⟨e,e'⟩|⟨e,e'⟩|⟨e,e'⟩<;>clear q2<;>subst e<;>subst e'
 case inr.inr.inr.inr.inr.inr.inr.inr.inr.inr.inr.inr.inr.inr.inr.inr.inr.inr.inr.inl=>
  obtain rfl:=q3 (by decide);have f:fk (ob:Int) h.S.length=ai:=c5 (by rw[o.lS];exact ok.sp (.inl rfl));simp only[aZ,c_,dW,dI,ec,mo,c9,cB,cl,fT,f,eB];rfl
 case inr.inr.inr.inr.inr.inr.inl=>
  obtain rfl:=q3 (by decide);have f:ob<h.L.length:=ok.lk (by simp only[];omega);simp only[aZ,c_,dW,dI,ec,mo,c9,cB,cl,fT,eB,tY _ _ _ f (o.L.mono m) hc,rD,VQ];rfl
 case inr.inr.inr.inr.inr.inr.inr.inr.inr.inr.inl=>
  obtain rfl:=q3 (by decide);have f:ob<h.L.length:=ok.lk (by simp only[];omega);simp only[aZ,c_,dW,dI,ec,mo,c9,cB,cl,fT,eB,tY _ _ _ f (o.L.mono m) hc,rD,VQ];rfl
 case inr.inr.inr.inr.inr.inr.inr.inr.inl=>
  obtain rfl:=q3 (by decide);have f:ob<h.R.length:=by rw[o.lR];exact ok.lk (by simp only[];omega)
  simp only[aZ,c_,dW,dI,ec,mo,c9,cB,cl,fT,eB,tY _ _ _ f (o.R.mono m) hc,rD,VQ];rfl
 case inr.inr.inr.inr.inr.inr.inr.inr.inr.inr.inr.inr.inr.inr.inr.inl=>
  obtain rfl:=q3 (by decide);obtain⟨Y,Z,d3⟩:=ok.cd (.inl rfl);simp only at Y Z d3;have e1:(M.getD ob ([],0)).2=((Tz M ob:Nat):Int):=by unfold Tz;omega
  simp only[aZ,c_,dW,dI,ec,mo,c9,cB,cl,fT,fW,eB,c5 Y,WV,e1,tY _ _ _ d3 (o.L.mono m) hc,rD,VQ];rfl
 case inr.inr.inr.inl=>
  obtain rfl:=q3 (by decide);obtain⟨Y,Z⟩:=ok.ce (.inr rfl);simp only at Y Z;simp only[aZ,c_,dW,dI,ec,mo,c9,cB,cl,fT,eB,c5 Z,OK];cases hv:(J.getD ob ([],0,0,aj,0)).2.2.2.1 with
  |true=>
   simp only[dI,c9,cB,tY _ _ _ Y (o.C.mono m) hc,rD,VQ,mo];have U:ik (J,w2,M,w4,w5,w6) h ⟨th,4,ob,I⟩ c=if wa J ob then {h with T:=h.T.set th c,C:=jat h.C ob c} else {h with T:=h.T.set th c}:=rfl
   rw[U,show wa J ob=ai from hv];rfl
  |false=>
   simp only[ec,mo];have U:ik (J,w2,M,w4,w5,w6) h ⟨th,4,ob,I⟩ c=if wa J ob then {h with T:=h.T.set th c,C:=jat h.C ob c} else {h with T:=h.T.set th c}:=rfl
   rw[U,show wa J ob=aj from hv];rfl
 case inr.inr.inr.inr.inr.inr.inr.inr.inr.inr.inr.inr.inr.inr.inr.inr.inr.inr.inr.inr.inr.inl=>
  obtain rfl:=q3 (by decide);have f:ob<h.F.length:=ok.fu (.inl rfl);simp only[aZ,c_,dW,dI,ec,mo,c9,cB,cl,fT,eB,tY _ _ _ f (o.F.mono m) hc,rD,VQ];rfl
 case inr.inr.inr.inr.inr.inr.inr.inr.inr.inr.inr.inr.inl=>
  simp only[aZ,c_,dW,dI,ec,mo,c9,cB,cl,fT,eB,Td _ _ (o.X.mono m).lb hc.lb];rfl
 case inr.inr.inr.inr.inr.inr.inr.inr.inr.inr.inr.inr.inr.inr.inr.inr.inr.inl=>
  simp only[aZ,c_,dW,dI,ec,mo,c9,cB,cl,fT,eB];have U:ik (J,w2,M,w4,w5,w6) h ⟨th,18,ob,I⟩ c=if 0<=I/\I<h.N.length then {h with T:=h.T.set th c,N:=h.N.set I.toNat c,W:=h.W.set I.toNat (-1)} else {h with T:=h.T.set th c}:=rfl
  rw[U];by_cases h0:0<=I
  .by_cases h1:I<h.N.length
   .rw[qV h0];simp only[dI,mo];rw[vm (show I<aQ h.N.length from h1)];obtain⟨v,rfl⟩:∃ v:Nat,I=(v:Int):=⟨I.toNat,by omega⟩
    have v1:v<h.N.length:=by omega
    have v2:v<h.W.length:=by rw[o.lW,<-o.lN];exact v1
    have:=Wc {h with T:=h.T.set th c} v c v1 v2 hc;simp only[] at this;simp only[dI,this,c9,sL,cB,VR rfl,iQ,mo];rw[aE ⟨h0,h1⟩];rfl
   .rw[qV h0];simp only[dI,mo];rw[ye (show aQ h.N.length<=I from Ch.1 h1)];simp only[ec,mo];rw[aA (λq=>h1 q.2)]
  .rw[aas (by omega)];simp only[ec,mo];rw[aA (λq=>h0 q.1)]
 case inr.inr.inr.inr.inr.inr.inr.inr.inr.inr.inr.inr.inr.inr.inr.inr.inr.inr.inl=>
  obtain rfl:=q3 (by decide);simp only[aZ,c_,dW,dI,ec,mo,c9,cB,cl,fT,eB];rw[EI (r:=bW (h.X,h.T.set th c,h.S,h.L,h.R,h.C,h.F,Lg (λu=>decide (h.W.getD u 0=(ob:Int))) c h.W.length h.N,Lg (λu=>decide (h.W.getD u 0=(ob:Int))) (-1) h.W.length h.W,c)) h.W.length (by have:=o.lW;have:=o.lT;omega)
   (λi=>((i:Int),h.X,h.T.set th c,h.S,h.L,h.R,h.C,h.F,Lg (λu=>decide (h.W.getD u 0=(ob:Int))) c i h.N,Lg (λu=>decide (h.W.getD u 0=(ob:Int))) (-1) i h.W,c,(th:Int),(19:Int),(ob:Int),I,x5,x6,x7)) ?_ ?_ ?_]
  .simp only[mo];rw[P0 _ _ _ h.W (bP _),P0 _ _ _ h.N (by rw[o.lN,o.lW];exact bP _)];rfl
  .simp only[ZH];rfl
  .intro i hi;simp only[];have hN:i<(Lg (λu=>decide (h.W.getD u 0=(ob:Int))) c i h.N).length:=by rw[Ic,o.lN,<-o.lW];exact hi
   have hW:i<(Lg (λu=>decide (h.W.getD u 0=(ob:Int))) (-1) i h.W).length:=by rw[Ic];exact hi
   rw[vm (by simp;omega),dI,cB (c5 hW),cB (c5 hW),aig,ahx];have ws:=pE hi (show h.W.length<=1099511627776 by have:=o.lW;have:=o.lT;omega);by_cases hp:h.W.getD i 0=(ob:Int)
   .rw[aO hp,dI];have:=Wc {h with T:=h.T.set th c,N:=Lg (λu=>decide (h.W.getD u 0=(ob:Int))) c i h.N,W:=Lg (λu=>decide (h.W.getD u 0=(ob:Int))) (-1) i h.W} i c hN hW hc;simp only[] at this;rw[this,c9,cB (by simp only[sL,VR rfl,iQ]),mo,ws,Wa _ _ _ _ (aO hp),Wa _ _ _ _ (aO hp)]
   .rw[bz hp,ec,mo,ws,<-PZ _ _ _ _ (bz hp),<-PZ _ _ _ _ (bz hp)]
  .simp only[];rw[ye (by simp),ec]
 all_goals
  simp only[aZ,c_,dW,dI,ec,mo,c9,cB,cl,fT,eB];rfl
theorem Js (l:List (List Int)) (c:List Int) (i:Nat) (hi:i<l.length):(l.take (i+1)).foldl jl c=jl ((l.take i).foldl jl c) (l.getD i []):=by
 rw[List.take_add_one,fK,aB hi,ax,aB hi];rfl
theorem FG (w:vE) (h:HS) (e:EV):(sg w h e).length<=3:=by
 unfold sg;repeat' split
 all_goals simp
theorem abn {n:Int} {w:vE} {h:HS} (o:PN n h) (e:EV) (i:Nat):0<=((sg w h e).foldl jl (h.T.getD e.th [])).getD i 0/\((sg w h e).foldl jl (h.T.getD e.th [])).getD i 0<9223372036854775807:=by
 have:=(xM _ _ (o.T e.th) (NT (w:=w) o e)).2 i;have:=o.n1;omega
theorem vx (w:vE) (h:HS) (e:EV) (c:List Int):(ik w h e c).T.length=h.T.length/\(ik w h e c).S.length=h.S.length/\(ik w h e c).L.length=h.L.length/\(ik w h e c).R.length=h.R.length/\(ik w h e c).C.length=h.C.length/\(ik w h e c).F.length=h.F.length/\(ik w h e c).N.length=h.N.length/\(ik w h e c).W.length=h.W.length:=by
 unfold ik;simp only[];repeat' split
 all_goals simp[jat,Co]
theorem aft {n:Int} {w:vE} {h:HS} (o:PN n h) (hn:n+1<=1000000) {e:EV} (ok:EOK w h e) {x:ETp} (hx:EvT e x):sw (w,h.t,x)=af ((FF w h e).1.t,(FF w h e).2):=by
 have s2:=S6 o ok hx;have hce:En (n+1) (vS w h e):=Kw o ok.th4;have en:=Ry o hn ok hx hce;have cp:=Nj h.t o.GH;have sl:=FG w h e;have sE:=NT (w:=w) o e;have hlen:=vx w h e (vS w h e);obtain⟨x1,x2,x3,x4,x5,x6,x7⟩:=x;obtain⟨Z,Y,U,M,J,I⟩:=w;have t1:=hx.th;simp only at t1;subst t1;unfold HS.t at cp;simp only[] at cp;have fT:fk (e.th:Int) h.T.length=ai:=c5 ok.th;unfold sw Db HS.t xd D9 aV bh bw ct dQ iU uV xf Lb Prod.q12 cN eZ nF Ny ck bB v9 bF aY cK cC;simp only[];rw[cp,c9];simp only[];rw[cB fT,cB fT,s2,c9];simp only[];rw[cB (by simp only[VR rfl,iQ])];refine EI (sg (Z,Y,U,M,J,I) h e).length (by omega) (λi=>((i:Int),(Z,Y,U,M,J,I),((e.th:Int),x2,x3,x4,x5,x6,x7),h.X,((sg (Z,Y,U,M,J,I) h e).take i).foldl jl (h.T.getD e.th []),h.T,h.S,h.L,h.R,h.C,h.F,h.N,h.W)) ?_ ?_ ?_
 .simp only[lI,List.take_zero,List.foldl_nil];rfl
 .intro i hi;simp only[];rw[vm (by simp;omega),dI,cB (c5 hi),lI,(xM _ _ (o.T e.th) (λy hy=>sE y (gY hy))).join (sE _ (Dd hi)),c9,pE hi (by omega),Js _ _ _ hi]
 .simp only[];rw[ye (by simp),ec,fe (bP _)];have hl:=abn (w:=(Z,Y,U,M,J,I)) o e e.th;rw[XA _ e.th (xM _ _ (o.T e.th) sE).lb ok.th4 hl.1 hl.2,c9];unfold HS.e at en;unfold vS at en hlen;rw[en,c9];simp only[];rw[cB (by rw[hlen.1,hlen.2.1,hlen.2.2.1,hlen.2.2.2.1,hlen.2.2.2.2.1,hlen.2.2.2.2.2.1,hlen.2.2.2.2.2.2.1,hlen.2.2.2.2.2.2.2];simp only[VR rfl,iQ])];rfl
abbrev v8:Ty:=(.st (.pr (.int .i64) (.sl (.st (.pr (.int .i64) (.pr (.int .i64) (.pr (.int .i64) (.pr (.int .i64) (.pr (.int .i64) (.int .i64))))))))))
abbrev BA:Ty:=(.st (.pr (.int .i64) (.pr (.int .i64) (.pr (.int .i64) (.pr (.int .i64) (.pr (.int .i64) (.int .i64)))))))
abbrev uN:Ty:=(.st (.pr (.int .i64) (.pr (.sl (.int .i64)) (.pr (.sl (.sl (.int .i64))) (.int .i64)))))
abbrev yT:Ty:=(.st (.pr .str (.pr (.int .i64) (.pr (.sl .str) (.sl .sm)))))
abbrev tDc:Ty:=(.st (.pr (.int .i64) (.pr (.int .i64) (.pr .str (.pr (.int .i64) (.pr (.int .i64) .str))))))
abbrev tE:Ty:=(.st (.pr (.int .i64) (.pr (.int .i64) (.pr (.int .i64) (.pr (.int .i64) (.pr (.int .i64) (.pr (.sl (.int .i64)) (.sl (.int .i64)))))))))
abbrev TO:Ty:=(.st (.pr .str .bool))
abbrev NK:Ty:=(.st (.pr .str (.pr (.int .i64) (.pr (.int .i64) (.pr .bool (.int .i64))))))
abbrev x_:Ty:=(.st (.pr (.int .i64) (.pr (.int .i64) (.int .i64))))
abbrev Tw:Ty:=(.st (.pr .str (.int .i64)))
abbrev Ax:Ty:=(.st (.pr (.int .i64) (.sl (.int .i64))))
abbrev jE:Ty:=(.st (.pr (.int .i64) (.pr (.int .i64) .bool)))
def Ok {R:Type} (o:Option R) (Q:R->Prop):Prop:=∃ y,o=af y/\Q y
theorem Ok.mono {R:Type} {o:Option R} {Q Q':R->Prop} (h:Ok o Q) (hq:∀ y,Q y->Q' y):Ok o Q':=by obtain⟨y,h1,h2⟩:=h;exact⟨y,h1,hq y h2⟩
theorem ar {R:Type} {y:R} {Q:R->Prop} (h:Q y):Ok (af y) Q:=⟨y,rfl,h⟩
theorem alh {R:Type} {o:Option R} {y:R} {Q:R->Prop} (e:o=af y) (h:Q y):Ok o Q:=⟨y,e,h⟩
theorem be {R:Type} {b:Bool} {k:Option R} {Q:R->Prop} (h:b=ai) (hk:Ok k Q):Ok (chk b λ_=>k) Q:=by subst h;exact hk
theorem aP {R:Type} {b:Bool} {t f:Option R} {Q:R->Prop} (ht:b=ai->Ok t Q) (hf:b=aj->Ok f Q):Ok (bcase b t f) Q:=by
 cases b with
 |true=>exact ht rfl
 |false=>exact hf rfl
theorem fD {R:Type} {b:Bool} {t f:Option R} {Q:R->Prop} (h:b=ai) (ht:Ok t Q):Ok (bcase b t f) Q:=by subst h;exact ht
theorem fI {R:Type} {b:Bool} {t f:Option R} {Q:R->Prop} (h:b=aj) (hf:Ok f Q):Ok (bcase b t f) Q:=by subst h;exact hf
theorem ay {α R:Type} {o:Option α} {k:α->Option R} {P:α->Prop} {Q:R->Prop} (h:Ok o P) (hk:∀ x,P x->Ok (k x) Q):Ok (obind o k) Q:=by
 obtain⟨x,rfl,I⟩:=h;exact hk x I
theorem aU {α R:Type} {o:Option α} {k:α->Option R} {x:α} {Q:R->Prop} (h:o=af x) (hk:Ok (k x) Q):Ok (obind o k) Q:=by subst h;exact hk
theorem aT {α R:Type} {x:α} {k:α->Option R} {Q:R->Prop} (h:Ok (k x) Q):Ok (lt x k) Q:=h
theorem aX {α R:Type} {o:Option (R⊕α)} {k:α->Option R} {Q:R->Prop} (P:α->Prop) (h:Ok o λr=>match r with|.inl r=>Q r|.inr x=>P x) (hk:∀ x,P x->Ok (k x) Q):Ok (jn o k) Q:=by
 obtain⟨r,rfl,hr⟩:=h;cases r with
 |inl r=>exact⟨r,rfl,hr⟩
 |inr x=>exact hk x hr
theorem gA {α R:Type} {o:Option (R⊕α)} {k:α->Option R} {Q:R->Prop} (h:Ok o λr=>match r with|.inl r=>Q r|.inr x=>Ok (k x) Q):Ok (jn o k) Q:=aX (λx=>Ok (k x) Q) h λ_ h=>h
theorem ae2 {α R:Type} {a b:α} {r:Option R} {Q:R->Prop} (e:a=b) (h:Ok r Q):Ok (same a b r) Q:=by unfold same;rw[aE e];exact h
theorem qc {σ R:Type} {f:σ->Option (σ⊕R)} {Q:R->Prop} (μ:σ->Nat) (I:σ->Prop) (h:∀ x,I x->Ok (f x) λr=>match r with|.inl y=>I y/\μ y<μ x|.inr r=>Q r) {x:σ} (J:I x):Ok (iter f x) Q:=by
 have key:∀ n x,μ x<n->I x->∃ m r,iterN f m x=af r/\Q r:=by
  intro n;induction n with
  |zero=>intro x hm;omega
  |succ n M=>
   intro x hm J;obtain⟨r,h1,h2⟩:=h x J;cases r with
   |inl y=>
    obtain⟨m,r,Y,U⟩:=M y (by have:=h2.2;omega) h2.1;exact⟨m+1,r,by rw[iterN,h1];exact Y,U⟩
   |inr r=>exact⟨1,r,by rw[iterN,h1],h2⟩
 obtain⟨m,r,h1,h2⟩:=key (μ x+1) x (qO _) J;exact⟨r,zj h1,h2⟩
theorem cr {σ R:Type} {f:σ->Option (σ⊕R)} {Q:R->Prop} (n:Nat) (I:Nat->σ->Prop) (h0:∀ i x,i<n->I i x->Ok (f x) λr=>match r with|.inl y=>I (i+1) y|.inr r=>Q r) (h1:∀ x,I n x->Ok (f x) λr=>match r with|.inl _=>False|.inr r=>Q r) {x:σ} (U:I 0 x):Ok (iter f x) Q:=by
 have key:∀ m i x,i+m=n->I i x->∃ k r,iterN f k x=af r/\Q r:=by
  intro m;induction m with
  |zero=>
   intro i x hi U;have:i=n:=by omega
   subst this;obtain⟨r,M,J⟩:=h1 x U;cases r with
   |inl y=>exact J.elim
   |inr r=>exact⟨1,r,by rw[iterN,M],J⟩
  |succ m Y=>
   intro i x hi U;obtain⟨r,M,J⟩:=h0 i x (by omega) U;cases r with
   |inl y=>
    obtain⟨k,r,g3,Z⟩:=Y (i+1) y (by omega) J;exact⟨k+1,r,by rw[iterN,M];exact g3,Z⟩
   |inr r=>exact⟨1,r,by rw[iterN,M],J⟩
 obtain⟨m,r,M,J⟩:=key n 0 x (by omega) U;exact⟨r,zj M,J⟩
def itQ {σ R:Type} (f:σ->Option (σ⊕R)) (Q:R->Prop):σ⊕R->Prop
 |.inl y=>Ok (iter f y) Q
 |.inr r=>Q r
def jnQ {α R:Type} (k:α->Option R) (Q:R->Prop):R⊕α->Prop
 |.inl r=>Q r
 |.inr x=>Ok (k x) Q
theorem ae1 {σ R:Type} {f:σ->Option (σ⊕R)} {x:σ} {Q:R->Prop} (h:Ok (f x) (itQ f Q)):Ok (iter f x) Q:=by
 obtain⟨r,h1,h2⟩:=h;cases r with
 |inr r=>exact⟨r,zj (n:=1) (by rw[iterN,h1]),h2⟩
 |inl y=>
  obtain⟨z,I,J⟩:=h2;unfold iter at I;split at I
  .exact⟨z,zj (n:=_+1) (by rw[iterN,h1];exact I),J⟩
  .cases I
theorem WC {σ R:Type} {f:σ->Option (σ⊕R)} {y:σ} {Q:R->Prop} (h:Ok (iter f y) Q):Ok (af (.inl y)) (itQ f Q):=⟨_,rfl,h⟩
theorem WA {σ R:Type} {f:σ->Option (σ⊕R)} {r:R} {Q:R->Prop} (h:Ok (af r) Q):Ok (af (.inr r)) (itQ f Q):=by
 obtain⟨_,h1,h2⟩:=h;cases h1;exact⟨_,rfl,h2⟩
theorem Qx {α R:Type} {o:Option (R⊕α)} {k:α->Option R} {Q:R->Prop} (h:Ok o (jnQ k Q)):Ok (jn o k) Q:=by
 obtain⟨r,rfl,hr⟩:=h;cases r with
 |inl r=>exact⟨r,rfl,hr⟩
 |inr x=>exact hr
theorem Wz {α R:Type} {r:R} {k:α->Option R} {Q:R->Prop} (h:Ok (af r) Q):Ok (af (.inl r)) (jnQ k Q):=by
 obtain⟨_,h1,h2⟩:=h;cases h1;exact⟨_,rfl,h2⟩
theorem Wy {α R:Type} {x:α} {k:α->Option R} {Q:R->Prop} (h:Ok (k x) Q):Ok (af (.inr x)) (jnQ k Q):=⟨_,rfl,h⟩
def oQ {α R:Type} (k:α->Option R) (Q:R->Prop) (x:α):Prop:=Ok (k x) Q
theorem Qw {α R:Type} {o:Option α} {k:α->Option R} {Q:R->Prop} (h:Ok o (oQ k Q)):Ok (obind o k) Q:=ay h λ_ h=>h
theorem Qv {α R:Type} {x:α} {k:α->Option R} {Q:R->Prop} (h:Ok (k x) Q):Ok (af x) (oQ k Q):=⟨_,rfl,h⟩
theorem aeh {j:Int} {n:Nat}:fk j n=ai↔0<=j/\j<n:=by simp[fk,cY,fX]
theorem Om {a b:Int}:cY a b=ai↔a<=b:=by simp[cY]
theorem tL {a b:Int}:fX a b=ai↔a<b:=by simp[fX]
theorem gh {a b:Int}:fX a b=aj↔b<=a:=by simp[fX]
theorem l7 {a b:Int}:cY a b=aj↔b<a:=by simp[cY]
theorem XS {n b:Nat}:bc n b=ai↔n<=1099511627776/\n*b<=1099511627776:=by simp[bc]
theorem cD {R:Type} {o:Option R} {v:R} (h:Ok o (·=v)):o=af v:=by obtain⟨y,h1,h2⟩:=h;rw[h1,h2]
section steps
variable {R:Type} {k t f:Option R} {Q:R->Prop}
theorem aR {j:Int} {n:Nat} (h0:0<=j) (h1:j<n) (hk:Ok k Q):Ok (chk (fk j n) λ_=>k) Q:=be (aeh.2 ⟨h0,h1⟩) hk
theorem bi {n b:Nat} (h0:n<=1073741824) (h1:b<=1024) (hk:Ok k Q):Ok (chk (bc n b) λ_=>k) Q:=
 be (XS.2 ⟨by omega,dk (Nat.mul_le_mul h0 h1) (by omega)⟩) hk
theorem cW {a b:Bool} (h:Ok (chk a λ_=>chk b λ_=>k) Q):Ok (chk (a&&b) λ_=>k) Q:=by
 cases a with
 |true=>exact h
 |false=>obtain⟨y,h,_⟩:=h;cases h
theorem dv {a b:Int} (h:a<=b) (hk:Ok k Q):Ok (chk (cY a b) λ_=>k) Q:=be (Om.2 h) hk
theorem Ak {a b:Int} (h:a<b) (hk:Ok k Q):Ok (chk (fX a b) λ_=>k) Q:=be (tL.2 h) hk
theorem WD {p:Prop} {i:Decidable p} (h:p) (hk:Ok k Q):Ok (chk (decide p) λ_=>k) Q:=be (aO h) hk
theorem yZ {p:Prop} {i:Decidable p} (h:¬p) (hk:Ok k Q):Ok (chk (!decide p) λ_=>k) Q:=be (by simp[h]) hk
theorem ly {a b:Nat} (h:a=b) (hk:Ok k Q):Ok (chk (aC a b) λ_=>k) Q:=be (by subst h;exact rR a) hk
theorem AU (hk:Ok k Q):Ok (chk ai λ_=>k) Q:=hk
theorem bK {a b:Int} (ht:a<b->Ok t Q) (hf:b<=a->Ok f Q):Ok (bcase (fX a b) t f) Q:=aP (λh=>ht (tL.1 h)) (λh=>hf (gh.1 h))
theorem gg {a b:Int} (ht:a<=b->Ok t Q) (hf:b<a->Ok f Q):Ok (bcase (cY a b) t f) Q:=aP (λh=>ht (Om.1 h)) (λh=>hf (l7.1 h))
theorem aK {p:Prop} {i:Decidable p} (ht:p->Ok t Q) (hf:¬p->Ok f Q):Ok (bcase (decide p) t f) Q:=aP (λh=>ht (bf h)) (λh=>hf (By h))
theorem b8 {p:Prop} {i:Decidable p} (ht:¬p->Ok t Q) (hf:p->Ok f Q):Ok (bcase (!decide p) t f) Q:=aP (λh=>ht (by simpa using h)) (λh=>hf (by simpa using h))
theorem dS {b:Bool} (ht:b=aj->Ok t Q) (hf:b=ai->Ok f Q):Ok (bcase (!b) t f) Q:=aP (λh=>ht (by simpa using h)) (λh=>hf (by simpa using h))
theorem aa3 (ht:Ok t Q):Ok (bcase ai t f) Q:=ht
theorem fJ (hf:Ok f Q):Ok (bcase aj t f) Q:=hf
theorem cE {j:Int} {n:Nat} (hk:Ok k Q) (h0:0<=j:=by first|omega|(dsimp only;omega)) (h1:j<n:=by first|omega|(dsimp only;omega)):Ok (chk (fk j n) λ_=>k) Q:=aR h0 h1 hk
theorem dg {a b:Int} (ht:Ok t Q) (h:a<b:=by first|omega|(dsimp only[au];omega)):Ok (bcase (fX a b) t f) Q:=bK (λ_=>ht) λg=>cV h (Ch.2 g)
theorem db {a b:Int} (hf:Ok f Q) (h:b<=a:=by first|omega|(dsimp only[au];omega)):Ok (bcase (fX a b) t f) Q:=bK (λg=>cV g (Ch.2 h)) λ_=>hf
end steps
theorem qT:(∀ (p:Prop) [Decidable p],(decide p=ai)=p)/\(∀ p:Prop,(True\/p)=True)/\(∀ p:Prop,(p\/True)=True)/\(∀ p:Prop,(True->p)=p)/\(∀ p:Prop,(True/\p)=p)/\∀ p:Prop,(p/\True)=p:=⟨λ_=>bt,true_or,or_true,λ_=>true_implies _,Bx,and_true⟩
theorem s8:(∀ i:Decidable True,@decide True i=ai)/\(∀ i:Decidable False,@decide False i=aj)/\(∀ {R:Type} (t f:Option R),bcase ai t f=t)/\(∀ {R:Type} (t f:Option R),bcase aj t f=f)/\(∀ {α R:Type} (x:α) (k:α->Option R),jn (af (.inr x)) k=k x)/\(∀ {α R:Type} (r:R) (k:α->Option R),jn (af (.inl r)) k=af r)/\(∀ {α R:Type} (x:α) (k:α->Option R),obind (af x) k=k x)/\(∀ {α R:Type} (x:α) (k:α->Option R),lt x k=k x)/\(!ai)=aj/\(!aj)=ai:=⟨dW,c_,λ_ _=>rfl,λ_ _=>rfl,λ_ _=>rfl,λ_ _=>rfl,λ_ _=>rfl,λ_ _=>rfl,rfl,rfl⟩
structure IM (p q:Prop):Prop where
 h:p->q
inductive OS {R:Type}:Option R->(R->Prop)->Prop where
 |cand {a b:Bool} {k:Option R} {Q:R->Prop} (h:Ok (chk a λ_=>chk b λ_=>k) Q):OS (chk (a&&b) λ_=>k) Q
 |fk {j:Int} {n:Nat} {k:Option R} {Q:R->Prop} (h0:0<=j) (h1:j<n) (hk:Ok k Q):OS (chk (fk j n) λ_=>k) Q
 |room {n b:Nat} {k:Option R} {Q:R->Prop} (h0:n<=1073741824) (h1:b<=1024) (hk:Ok k Q):OS (chk (bc n b) λ_=>k) Q
 |cile {a b:Int} {k:Option R} {Q:R->Prop} (h:a<=b) (hk:Ok k Q):OS (chk (cY a b) λ_=>k) Q
 |cilt {a b:Int} {k:Option R} {Q:R->Prop} (h:a<b) (hk:Ok k Q):OS (chk (fX a b) λ_=>k) Q
 |cdec {p:Prop} {i:Decidable p} {k:Option R} {Q:R->Prop} (h:p) (hk:Ok k Q):OS (chk (decide p) λ_=>k) Q
 |cndec {p:Prop} {i:Decidable p} {k:Option R} {Q:R->Prop} (h:¬p) (hk:Ok k Q):OS (chk (!decide p) λ_=>k) Q
 |cbeq {a b:Nat} {k:Option R} {Q:R->Prop} (h:a=b) (hk:Ok k Q):OS (chk (aC a b) λ_=>k) Q
 |cT {k:Option R} {Q:R->Prop} (hk:Ok k Q):OS (chk ai λ_=>k) Q
 |lt {α:Type} {x:α} {k:α->Option R} {Q:R->Prop} (h:Ok (k x) Q):OS (lt x k) Q
 |b1 {t f:Option R} {Q:R->Prop} (h:Ok t Q):OS (bcase ai t f) Q
 |b0 {t f:Option R} {Q:R->Prop} (h:Ok f Q):OS (bcase aj t f) Q
 |fX {a b:Int} {t f:Option R} {Q:R->Prop} (ht:IM (a<b) (Ok t Q)) (hf:IM (b<=a) (Ok f Q)):OS (bcase (fX a b) t f) Q
 |cY {a b:Int} {t f:Option R} {Q:R->Prop} (ht:IM (a<=b) (Ok t Q)) (hf:IM (b<a) (Ok f Q)):OS (bcase (cY a b) t f) Q
 |dec {p:Prop} {i:Decidable p} {t f:Option R} {Q:R->Prop} (ht:IM p (Ok t Q)) (hf:IM (¬p) (Ok f Q)):OS (bcase (decide p) t f) Q
 |ndec {p:Prop} {i:Decidable p} {t f:Option R} {Q:R->Prop} (ht:IM (¬p) (Ok t Q)) (hf:IM p (Ok f Q)):OS (bcase (!decide p) t f) Q
 |not {b:Bool} {t f:Option R} {Q:R->Prop} (ht:IM (b=aj) (Ok t Q)) (hf:IM (b=ai) (Ok f Q)):OS (bcase (!b) t f) Q
 |bcase {b:Bool} {t f:Option R} {Q:R->Prop} (ht:IM (b=ai) (Ok t Q)) (hf:IM (b=aj) (Ok f Q)):OS (bcase b t f) Q
 |jc {α:Type} {o:Option (R⊕α)} {k:α->Option R} {Q:R->Prop} (h:Ok o λr=>match r with|.inl r=>Q r|.inr x=>Ok (k x) Q):OS (jn o k) Q
 |some {y:R} {Q:R->Prop} (h:Q y):OS (af y) Q
theorem OS.ok {R:Type} {o:Option R} {Q:R->Prop} (h:OS o Q):Ok o Q:=by
 cases h with
 |cand h=>exact cW h
 |fk a b h=>exact aR a b h
 |room a b h=>exact bi a b h
 |cile a h=>exact dv a h
 |cilt a h=>exact Ak a h
 |cdec a h=>exact WD a h
 |cndec a h=>exact yZ a h
 |cbeq a h=>exact ly a h
 |cT h=>exact h
 |lt h=>exact h
 |b1 h=>exact h
 |b0 h=>exact h
 |fX a b=>exact bK a.h b.h
 |cY a b=>exact gg a.h b.h
 |dec a b=>exact aK a.h b.h
 |ndec a b=>exact b8 a.h b.h
 |not a b=>exact dS a.h b.h
 |bcase a b=>exact aP a.h b.h
 |jc h=>
  obtain⟨r,e,h⟩:=h;exact gA ⟨r,e,by cases r<;>exact h⟩
 |some h=>exact ar h
theorem bcT {R:Type} (t f:Option R):bcase ai t f=t:=rfl
theorem bcF {R:Type} (t f:Option R):bcase aj t f=f:=rfl
theorem jnr {α R:Type} (x:α) (k:α->Option R):jn (af (.inr x)) k=k x:=rfl
theorem WE {α R:Type} (x:α) (k:α->Option R):obind (af x) k=k x:=rfl
theorem IV {k:Int}:k=1\/k=2\/k=3\/k=4\/k=5\/k=6\/k=7\/k=8\/k=9\/k=10\/k=11\/k=12\/k=13\/k=14\/k=15\/k=16\/k=17\/k=18\/k=19\/k=20\/k=21\/k=22\/k=23\/((∀ j:Int,1<=j->j<=23->(k=j)=False)/\(k<1\/23<k)):=by
 by_cases h:1<=k/\k<=23
 .omega
 .have:(∀ j:Int,1<=j->j<=23->(k=j)=False)/\(k<1\/23<k):=⟨λj h1 h2=>eq_false (by omega),by omega⟩
  repeat (first|exact this|refine Or.inr ?_)
theorem io {n:Int} (h0: -9223372036854775808<=n) (h1:n<=9223372036854775807):bn .i64 n=n:=by
 rw[HI];unfold Mn;simp[cY,h0,h1]
theorem gM {i:Nat} (h:i<9223372036854775807):bn .i64 ((i:Int)+1)=((i+1:Nat):Int):=by rw[io (by omega) (by omega)];omega
theorem uA {T:Ty} (xs:List T.den) (i:Nat):aJ xs (i:Int)=xs.getD i T.zero:=by unfold aJ;simp
theorem OL (xs:List Int) (i:Nat):aJ (T:=.int .i64) xs (i:Int)=xs.getD i 0:=uA (T:=.int .i64) xs i
theorem bH {T:Ty} {xs:List T.den} {j:Int} (h0:0<=j) (h1:j<xs.length):aJ xs j∈xs:=by
 unfold aJ;rw[ax,aB (by omega)];exact uZ _
theorem bT {α:Type} (xs:List α) (j:Int) (x:α):(cq xs j x).length=xs.length:=by unfold cq;simp
theorem Cw {α:Type} {xs:List α} {j:Int} {x y:α} (h:y∈cq xs j x):y∈xs\/y=x:=List.mem_or_eq_of_mem_set h
abbrev WT:Type:=List (List UInt8×Int×Int×Bool×Int)×List (List UInt8×Bool)×List (List UInt8×Int)×List (List UInt8)×List (List UInt8)×List (Int×Int×Int)
abbrev SY:Type:=List (Int×List Int)×Int×List Bool×List (Int×Int×Bool)
theorem aap (a b:Int):qm (a,b)=af (decide (0<=a/\a<b)):=by
 refine cD ?_;unfold qm jZ aF;with_reducible repeat' first|(refine OS.ok ?_;constructor)|refine IM.mk λ_=>?_
 .by_cases h:a<b<;>simp[*,fX]
 .simp;omega
theorem V9 (l:List Int) (n:Int) (hl:l.length<=1000000):qn (l,n)=af (l.contains n):=by
 refine cD ?_;unfold qn bd bB bI aY cK aF cC;refine cr l.length (λi x=>x=(i:Int)/\∀ k,k<i->l.getD k 0≠n) ?_ ?_ ⟨rfl,λk hk=>by omega⟩
 .rintro i x hi ⟨rfl,I⟩;with_reducible repeat' first|(refine OS.ok ?_;constructor)|refine IM.mk λ_=>?_
  all_goals try simp only[au,qT] at*
  .omega
  .omega
  .rename_i h;rw[OL] at h;show ai=_
   symm
   rw[s5,<-h,ax,aB hi];exact uZ _
  .rename_i h;rw[OL] at h;refine ⟨gM (by omega),λk hk=>?_⟩;rcases b7 k i with h1|h1
   .exact I k h1
   .rw[show k=i by omega];exact h
  .omega
 .rintro x ⟨rfl,I⟩;with_reducible repeat' first|(refine OS.ok ?_;constructor)|refine IM.mk λ_=>?_
  all_goals try simp only[au,qT] at*
  .omega
  .omega
  .omega
  .omega
  .symm
   rw[NC];intro hc;rw[s5] at hc;obtain⟨k,hk,he⟩:=G2 hc;exact I k hk (by rw[ax,aB hk];exact he)
theorem iy {T:Ty} {xs:List T.den} {p:T.den->Prop} (h:∀ k:Nat,k<al xs->p (aJ xs (k:Int))):∀ c∈xs,p c:=λc hc=>by
 obtain⟨k,hk,he⟩:=G2 hc;have:=h k hk;rw[uA,ax,aB hk,uW,he] at this;exact this
theorem PO (w:WT) (s:SY) (hw:w.2.2.1.length<=1000000):Ok (rj (w,s)) λb=>b=ai->(∀ c∈w.2.2.1,0<=c.2/\c.2<w.2.1.length)/\s.1.length=w.2.1.length/\s.2.2.1.length=w.2.2.2.1.length/\s.2.2.2.length=w.2.2.2.2.1.length:=by
 unfold rj aV bh bw cN bd bB bI aY cK aF cC;refine cr w.2.2.1.length (λi x=>x.1=(i:Int)/\x.2=(w,s)/\∀ k:Nat,k<i->0<=(aJ (T:=Tw) w.2.2.1 (k:Int)).2/\(aJ (T:=Tw) w.2.2.1 (k:Int)).2<w.2.1.length) ?_ ?_ ⟨rfl,rfl,λk hk=>by omega⟩
 .rintro i ⟨Y,U⟩ hi ⟨J,I,M⟩;dsimp only at J I;subst J;subst I;with_reducible repeat' first|(refine OS.ok ?_;constructor)|refine IM.mk λ_=>?_
  all_goals try simp only[au,qT] at*
  all_goals first|omega|skip
  .intro h;cases h
  .intro h;cases h
  .refine ⟨gM (by omega),λk hk=>?_⟩;rcases b7 k i with h1|h1
   .exact M k h1
   .rename_i h2 Z;rw[show k=i by omega];exact⟨h2,Z⟩
 .rintro⟨Y,U⟩ ⟨J,I,M⟩;dsimp only at J I;subst J;subst I;with_reducible repeat' first|(refine OS.ok ?_;constructor)|refine IM.mk λ_=>?_
  all_goals try simp only[au,qT] at*
  all_goals first|omega|skip
  refine ay (P:=λb=>b=ai->s.1.length=w.2.1.length/\s.2.2.1.length=w.2.2.2.1.length/\s.2.2.2.length=w.2.2.2.2.1.length) ?_ ?_
  .with_reducible repeat' first|(refine OS.ok ?_;constructor)|refine IM.mk λ_=>?_
   all_goals try simp only[au,qT] at*
   .intro h;omega
   .intro h;cases h
   .intro h;cases h
  .intro b hb;with_reducible repeat' first|(refine OS.ok ?_;constructor)|refine IM.mk λ_=>?_
   exact λh=>⟨iy (T:=Tw) M,hb h⟩
structure NM (w:WT) (k o:Int):Prop where
 k1:1<=k
 k2:k<=23
 ce:k=3\/k=4->0<=o/\o<w.1.length
 lk:6<=k/\k<=11->0<=o/\o<w.2.1.length
 cd:16<=k/\k<=19->0<=o/\o<w.2.2.1.length
 th:k=20\/k=21->0<=o/\o<w.2.2.2.2.1.length
 fu:k=22\/k=23->0<=o/\o<w.2.2.2.1.length
 no:k=1\/k=2\/k=5\/(12<=k/\k<=15)->o= -1
 mu:k=6\/k=7->(aJ (T:=TO) w.2.1 o).2=aj
 rw:8<=k/\k<=11->(aJ (T:=TO) w.2.1 o).2=ai
theorem aa9 (w:WT) (k o:Int):Ok (uh (w,k,o)) λb=>b=ai->NM w k o:=by
 unfold uh aV bh bw ct bd bI aY aF;rcases @IV k with rfl|rfl|rfl|rfl|rfl|rfl|rfl|rfl|rfl|rfl|rfl|rfl|rfl|rfl|rfl|rfl|rfl|rfl|rfl|rfl|rfl|rfl|rfl|⟨hk,I⟩
 case inr.inr.inr.inr.inr.inr.inr.inr.inr.inr.inr.inr.inr.inr.inr.inr.inr.inr.inr.inr.inr.inr.inr=>
  simp only[hk 1 (by decide) (by decide),hk 2 (by decide) (by decide),hk 3 (by decide) (by decide),hk 4 (by decide) (by decide),hk 5 (by decide) (by decide),hk 6 (by decide) (by decide),hk 7 (by decide) (by decide),hk 8 (by decide) (by decide),hk 9 (by decide) (by decide),hk 10 (by decide) (by decide),hk 11 (by decide) (by decide),hk 12 (by decide) (by decide),hk 13 (by decide) (by decide),hk 14 (by decide) (by decide),hk 15 (by decide) (by decide),hk 16 (by decide) (by decide),hk 17 (by decide) (by decide),hk 18 (by decide) (by decide),hk 19 (by decide) (by decide),hk 20 (by decide) (by decide),hk 21 (by decide) (by decide),hk 22 (by decide) (by decide),hk 23 (by decide) (by decide),aZ,bp,s8];exact ar λh=>by cases h
 all_goals simp only[aZ,bp,s8,aap]
 all_goals with_reducible repeat' first|(refine OS.ok ?_;constructor)|refine IM.mk λ_=>?_
 all_goals try simp only[au,qT] at*
 all_goals first|omega|(intro h;cases h;done)|(intro h;constructor<;>first|omega|(intro h2;first|omega|(simpa using h)))
structure SB (n:Nat) (s:SY):Prop where
 n1:n<=100000
 lk:s.1.length<=1000
 rd:∀ l∈s.1,l.2.length<=n
 dn:s.2.2.1.length<=1000
 th:s.2.2.2.length<=1000
structure EN (w:WT) (s:SY) (t k o:Int):Prop where
 nm:NM w k o
 t0:0<=t
 t1:t<w.2.2.2.2.1.length
 cd:∀ c∈w.2.2.1,0<=c.2/\c.2<w.2.1.length
 e1:s.1.length=w.2.1.length
 e2:s.2.2.1.length=w.2.2.2.1.length
 e3:s.2.2.2.length=w.2.2.2.2.1.length
structure V4 (w:WT) (s:SY) (t k o:Int):Prop where
 b:k=1->(aJ (T:=jE) s.2.2.2 t).1=1
 wk:k=17->(aJ (T:=jE) s.2.2.2 t).1=4/\(aJ (T:=jE) s.2.2.2 t).2.1=o/\(aJ (T:=Ax) s.1 (aJ (T:=Tw) w.2.2.1 o).2).1= -1
 r:k≠1->k≠17->(aJ (T:=jE) s.2.2.2 t).1=2
 aq:k=6\/k=8\/k=10->(aJ (T:=Ax) s.1 o).1= -1
 wr:k=10->(aJ (T:=Ax) s.1 o).2.length=0
 ra:k=8->(aJ (T:=Ax) s.1 o).2.contains t=aj
 rl:k=7\/k=11->(aJ (T:=Ax) s.1 o).1=t
 rr:k=9->(aJ (T:=Ax) s.1 o).2.contains t=ai
 xb:k=12->s.2.1= -1
 xe:k=13->s.2.1=t
 ab:k=14->(aJ (T:=jE) s.2.2.2 t).2.2=aj
 ae:k=15->(aJ (T:=jE) s.2.2.2 t).2.2=ai
 nt:k=16\/k=18\/k=19->(aJ (T:=Ax) s.1 (aJ (T:=Tw) w.2.2.1 o).2).1=t
 sp:k=20->¬o=t/\(aJ (T:=jE) s.2.2.2 o).1=0
 jo:k=21->¬o=t/\(aJ (T:=jE) s.2.2.2 o).1=5
 se:k=22->aJ (T:=.bool) s.2.2.1 o=aj
 ge:k=23->aJ (T:=.bool) s.2.2.1 o=ai
theorem K7 {n:Nat} (w:WT) (s:SY) (hs:SB n s) (hw:w.2.2.1.length<=1000) (t k o:Int):Ok (kl (w,s,t,k,o)) λb=>b=ai->EN w s t k o/\V4 w s t k o:=by
 unfold kl aV bh bw bL dc cN bd iF bI aY aF;refine aX (λx=>x.2=(w,s)/\(x.1=aj->EN w s t k o)) ?_ ?_
 .refine ay (PO w s (by omega)) λb hb=>?_
  with_reducible repeat' first|(refine OS.ok ?_;constructor)|refine IM.mk λ_=>?_
  .exact⟨rfl,λh=>by cases h⟩
  .simp only[aap,WE];with_reducible repeat' first|(refine OS.ok ?_;constructor)|refine IM.mk λ_=>?_
   .exact⟨rfl,λh=>by cases h⟩
   .refine ay (aa9 w k o) λc hc=>?_
    with_reducible repeat' first|(refine OS.ok ?_;constructor)|refine IM.mk λ_=>?_
    all_goals try simp only[au,qT] at*
    rename_i h1 h2;obtain⟨f1,f2,Z,Y⟩:=hb h1;exact λh=>⟨hc (by simpa using h),by omega,by omega,f1,f2,Z,Y⟩
 .rintro⟨x1,x2⟩ ⟨I,J⟩;dsimp only at I J;subst I;refine aP (λh=>ar λh=>by cases h) (λh=>?_);have he:=J h;obtain⟨nm,t0,t1,cd,e1,e2,e3⟩:=id he;obtain⟨_,_,ce,lk,cn,th,fu⟩:=nm;have hm:16<=k/\k<=19->0<=(aJ (T:=Tw) w.2.2.1 o).2/\(aJ (T:=Tw) w.2.2.1 o).2<w.2.1.length:=λh=>cd _ (bH (cn h).1 (cn h).2)
  have U:6<=k/\k<=11->qn ((aJ (T:=Ax) s.1 o).2,t)=af ((aJ (T:=Ax) s.1 o).2.contains t):=λh=>V9 _ _ (by
   have:=hs.rd _ (bH (T:=Ax) (lk h).1 (by have:=(lk h).2;omega));have:=hs.n1;omega)
  rcases @IV k with rfl|rfl|rfl|rfl|rfl|rfl|rfl|rfl|rfl|rfl|rfl|rfl|rfl|rfl|rfl|rfl|rfl|rfl|rfl|rfl|rfl|rfl|rfl|⟨hk,M⟩
  case inr.inr.inr.inr.inr.inr.inr.inr.inr.inr.inr.inr.inr.inr.inr.inr.inr.inr.inr.inr.inr.inr.inr=>omega
  all_goals simp only[aZ,bp,s8]
  all_goals with_reducible repeat' first|(refine OS.ok ?_;constructor)|refine IM.mk λ_=>?_
  all_goals try simp only[U (by omega),WE]
  all_goals with_reducible repeat' first|(refine OS.ok ?_;constructor)|refine IM.mk λ_=>?_
  all_goals try simp only[au,qT] at*
  all_goals first|omega|(intro h;cases h;done)|exact (hm ⟨by decide,by decide⟩).1|(rw [e1];exact (hm ⟨by decide,by decide⟩).2)|(intro h;refine ⟨he,?_⟩;constructor<;>first|omega|(intros;first|omega|assumption|(simpa using h)|exact⟨by assumption,by first|assumption|exact⟨by assumption,by assumption⟩⟩))|(refine ⟨he,?_⟩;constructor<;>first|omega|(intros;first|omega|assumption))
def lU:List Int->Int->List Int
 |[],n=>[n]
 |x::r,n=>if x<n then x::lU r n else if x=n then x::r else n::x::r
theorem Eo (n:Int):∀ (i:Nat) (l:List Int),i<=l.length->(∀ k,k<i->l.getD k 0<n)->lU l n=l.take i++lU (l.drop i) n
 |0,l,_,_=>by simp
 |i+1,[],h,_=>by simp at h
 |i+1,x::r,h,hk=>by
  have h0:=hk 0 (by omega);simp at h0;have:=Eo n i r (by simpa using h) (λk I=>by have:=hk (k+1) (by omega);simpa using this);rw[lU,aE h0,this,vZ,v7,gr]
theorem FJ (n:Int):∀ l:List Int,(lU l n).length<=l.length+1
 |[]=>by simp[lU]
 |x::r=>by
  have:=FJ n r;rw[lU];split
  .simp;omega
  .split<;>simp
theorem It {n y:Int}:∀ {l:List Int},y∈lU l n↔y=n\/y∈l
 |[]=>by simp[lU]
 |x::r=>by
  have:=It (n:=n) (y:=y) (l:=r);rw[lU];split
  .simp[this];constructor
   .rintro (h|h|h)<;>simp[h]
   .rintro (h|h|h)<;>simp[h]
  .split
   .rename_i h;subst h;simp
   .simp
def HA:List Int->Prop
 |[]=>True
 |x::r=>(∀ y∈r,x<y)/\HA r
theorem Qq {n:Int}:∀ {l:List Int},HA l->HA (lU l n)
 |[],_=>by simp[lU,HA]
 |x::r,h=>by
  rw[lU];split
  .rename_i J;refine ⟨λy I=>?_,Qq h.2⟩;rcases It.1 I with rfl|I
   .exact J
   .exact h.1 y I
  .split
   .exact h
   .rename_i h1 h2;refine ⟨λy I=>?_,h⟩;rcases bl.1 I with rfl|I
    .omega
    .have:=h.1 y I;omega
theorem acj (l:List Int) (n:Int) (hl:l.length<=1000000):wz (l,n)=af (lU l n):=by
 refine cD ?_;unfold wz bB bF bI aY cK aF cC;have fin:∀ i:Nat,i<=l.length->(∀ k,k<i->l.getD k 0<n)->(i<l.length->¬l.getD i 0<n/\l.getD i 0≠n)->l.take i++[n]++l.drop i=lU l n:=λi hi hk hn=>by
  rw[Eo n i l hi hk];cases hd:l.drop i with
  |nil=>simp[lU]
  |cons y r=>
   have hlt:i<l.length:=by
    rcases b7 i l.length with h|h
    .exact h
    .rw[List.drop_eq_nil_of_le h] at hd;cases hd
   have J:l.getD i 0=y:=by
    rw[ax,<-List.head?_drop,hd];rfl
   obtain⟨h1,h2⟩:=hn hlt;rw[J] at h1 h2;rw[lU,aA h1,aA h2];simp
 refine cr l.length (λi x=>x=(i:Int)/\∀ k,k<i->l.getD k 0<n) ?_ ?_ ⟨rfl,λk hk=>by omega⟩
 .rintro i x hi ⟨rfl,I⟩;by_cases hlt:l.getD i 0<n
  .with_reducible repeat' first|(refine OS.ok ?_;constructor)|refine IM.mk λ_=>?_
   all_goals try simp only[au,qT] at*
   all_goals first|omega|skip
   .refine ⟨gM (by omega),λk hk=>?_⟩;rcases b7 k i with h1|h1
    .exact I k h1
    .rw[show k=i by omega];exact hlt
   .rename_i h;exact cV hlt (Ch.2 h)
  .have key:l.getD i 0=n->lU l n=l:=λhe=>by
    rw[Eo n i l (by omega) I];cases hd:l.drop i with
    |nil=>have:=gx al hd;simp at this;omega
    |cons y r=>
     have J:l.getD i 0=y:=by rw[ax,<-List.head?_drop,hd];rfl
     rw[J] at he;rw[lU,aA (by omega),aE he,<-hd,Bw]
   with_reducible repeat' first|(refine OS.ok ?_;constructor)|refine IM.mk λ_=>?_
   all_goals try simp only[au,qT] at*
   all_goals first|omega|skip
   .rename_i h;exact cV h hlt
   .refine ay (P:=λr=>r=lU l n) ?_ λr hr=>ar hr
    with_reducible repeat' first|(refine OS.ok ?_;constructor)|refine IM.mk λ_=>?_
    all_goals try simp only[au,qT] at*
    all_goals first|omega|skip
    .rename_i h;exact (key h).symm
    .simp;omega
    .simp;omega
    .simp;omega
    .rename_i h;simpa using fin i (by omega) I (λ_=>⟨hlt,h⟩)
 .rintro x ⟨rfl,I⟩;with_reducible repeat' first|(refine OS.ok ?_;constructor)|refine IM.mk λ_=>?_
  all_goals try simp only[au,qT] at*
  all_goals first|omega|skip
  refine ay (P:=λr=>r=lU l n) ?_ λr hr=>ar hr
  with_reducible repeat' first|(refine OS.ok ?_;constructor)|refine IM.mk λ_=>?_
  all_goals try simp only[au,qT] at*
  all_goals first|omega|skip
  .simp;omega
  .simp;omega
  .simp;omega
  .simpa using fin l.length (by omega) I (λh=>by omega)
def xj (a b:List Int):List Int:=b.foldl lU (a.foldl lU [])
theorem wI:∀ (b acc:List Int),(b.foldl lU acc).length<=acc.length+b.length
 |[],acc=>by simp
 |x::r,acc=>by
  have:=wI r (lU acc x);have:=FJ x acc;rw[xh,bZ];omega
theorem Ju:∀ {b acc:List Int},HA acc->HA (b.foldl lU acc)
 |[],_,h=>h
 |x::r,acc,h=>by rw[xh];exact Ju (Qq h)
theorem Jt {y:Int}:∀ {b acc:List Int},y∈b.foldl lU acc↔y∈acc\/y∈b
 |[],acc=>by simp
 |x::r,acc=>by
  rw[xh,Jt,It];simp;constructor
  .rintro ((h|h)|h)<;>simp[h]
  .rintro (h|h|h)<;>simp[h]
theorem P1 (a b:List Int):HA (xj a b):=Ju (Ju trivial)
theorem If {a b:List Int} {y:Int}:y∈xj a b↔y∈a\/y∈b:=by unfold xj;rw[Jt,Jt];simp
theorem ZL (a b:List Int):(xj a b).length<=a.length+b.length:=by
 have:=wI b (a.foldl lU []);have:=wI a [];unfold xj;simp at *;omega
theorem MR {b acc:List Int} {i:Nat} (hi:i<b.length):(b.take (i+1)).foldl lU acc=lU ((b.take i).foldl lU acc) (b.getD i 0):=by
 rw[oV hi,fK,ax,aB hi];rfl
theorem S5 (a b:List Int) (M:a.length<=400000) (hb:b.length<=400000):rk (a,b)=af (xj a b):=by
 refine cD ?_;unfold rk bB bI aY cK aF cC;refine cr a.length (λi x=>x.2=(i:Int)/\x.1=(a.take i).foldl lU []) ?_ ?_ ⟨rfl,rfl⟩
 .rintro i ⟨J,I⟩ hi ⟨h1,h2⟩;dsimp only at h1 h2;subst h1;subst h2;have hl:((a.take i).foldl lU []).length<=1000000:=by have:=wI (a.take i) [];have:=qa i a;simp at *;omega
  with_reducible repeat' first|(refine OS.ok ?_;constructor)|refine IM.mk λ_=>?_
  all_goals try simp only[au,qT] at*
  all_goals first|omega|skip
  refine aU (acj _ _ hl) (ar ?_);dsimp only;refine ⟨gM (by omega),?_⟩;rw[OL,MR hi]
 .rintro⟨J,I⟩ ⟨h1,h2⟩;dsimp only at h1 h2;subst h1;subst h2;rw[cR];have hla:=wI a [];with_reducible repeat' first|(refine OS.ok ?_;constructor)|refine IM.mk λ_=>?_
  all_goals try simp only[au,qT] at*
  all_goals first|omega|skip
  refine ay (P:=λr=>r=xj a b) ?_ λr hr=>ar hr
  refine cr b.length (λi x=>x.2=(i:Int)/\x.1=(b.take i).foldl lU (a.foldl lU [])) ?_ ?_ ⟨rfl,rfl⟩
  .rintro i ⟨J,I⟩ hi ⟨h1,h2⟩;dsimp only at h1 h2;subst h1;subst h2;have hl:((b.take i).foldl lU (a.foldl lU [])).length<=1000000:=by have:=wI (b.take i) (a.foldl lU []);have:=qa i b;simp at *;omega
   with_reducible repeat' first|(refine OS.ok ?_;constructor)|refine IM.mk λ_=>?_
   all_goals try simp only[au,qT] at*
   all_goals first|omega|skip
   refine aU (acj _ _ hl) (ar ?_);dsimp only;refine ⟨gM (by omega),?_⟩;rw[OL,MR hi]
  .rintro⟨J,I⟩ ⟨h1,h2⟩;dsimp only at h1 h2;subst h1;subst h2;rw[cR];with_reducible repeat' first|(refine OS.ok ?_;constructor)|refine IM.mk λ_=>?_
   all_goals try simp only[au,qT] at*
   all_goals first|omega|rfl
def H_ (c:Int) (x:Int×Int×Bool):Bool:=decide (x.1=3)&&decide (x.2.1=c)
def wl (th:List (Int×Int×Bool)) (c:Int):Nat->List Int
 |0=>[]
 |i+1=>if H_ c (aJ (T:=jE) th (i:Int)) then wl th c i++[(i:Int)] else wl th c i
theorem vI (th:List (Int×Int×Bool)) (c:Int):∀ i,(wl th c i).length<=i
 |0=>bP _
 |i+1=>by have:=vI th c i;rw[wl];split<;>simp<;>omega
theorem q_ {th:List (Int×Int×Bool)} {c u:Int}:∀ {i:Nat},u∈wl th c i↔0<=u/\u<i/\H_ c (aJ (T:=jE) th u)=ai
 |0=>by simp[wl];omega
 |i+1=>by
  have I:= @q_ th c u i;rw[wl];by_cases hu:u=(i:Int)
  .subst hu;split
   .rename_i h;simp[h];omega
   .rename_i h;rw[I];simp[h]
  .split
   .rw[bQ,I,aL];constructor
    .rintro (h|h)
     .exact⟨h.1,by omega,h.2.2⟩
     .exact cV h hu
    .intro h;exact .inl ⟨h.1,by omega,h.2.2⟩
   .rw[I];constructor
    .intro h;exact⟨h.1,by omega,h.2.2⟩
    .intro h;exact⟨h.1,by omega,h.2.2⟩
theorem al7 {th:List (Int×Int×Bool)} {c:Int} {i:Nat} (h1:(aJ (T:=jE) th (i:Int)).1=3) (h2:(aJ (T:=jE) th (i:Int)).2.1=c):wl th c (i+1)=wl th c i++[(i:Int)]:=by
 rw[wl,aE];unfold H_;rw[h1,h2];simp
theorem agk {th:List (Int×Int×Bool)} {c:Int} {i:Nat} (h1:¬(aJ (T:=jE) th (i:Int)).1=3):wl th c (i+1)=wl th c i:=by
 rw[wl,aA];unfold H_;rw[bz h1];simp
theorem agj {th:List (Int×Int×Bool)} {c:Int} {i:Nat} (h1:¬(aJ (T:=jE) th (i:Int)).2.1=c):wl th c (i+1)=wl th c i:=by
 rw[wl,aA];unfold H_;rw[bz h1];simp
theorem VX (s:SY) (c:Int) (hs:s.2.2.2.length<=1000):nK (s,c)=af (wl s.2.2.2 c s.2.2.2.length):=by
 refine cD ?_;unfold nK bL bd bB bF bI aY cK aF cC;refine cr s.2.2.2.length (λi x=>x=((i:Int),s,wl s.2.2.2 c i)) ?_ ?_ rfl
 .rintro i x hi rfl;have hl:=vI s.2.2.2 c i;with_reducible repeat' first|(refine OS.ok ?_;constructor)|refine IM.mk λ_=>?_
  all_goals try simp only[au,qT] at*
  all_goals first|omega|skip
  all_goals first|(simp;omega)|skip
  .rename_i h1 h2;rw[al7 h1 h2,gM (by omega)]
  .rename_i h1 h2;rw[agj h2,gM (by omega)]
  .rename_i h1;rw[agk h1,gM (by omega)]
 .rintro x rfl;with_reducible repeat' first|(refine OS.ok ?_;constructor)|refine IM.mk λ_=>?_
  all_goals try simp only[au,qT] at*
  all_goals first|omega|rfl
def wo (l:List Int) (n:Int):List Int:=l.filter λx=> !decide (x=n)
theorem TD (l:List Int) (n:Int) (hl:l.length<=1000000):ql (l,n)=af (wo l n):=by
 refine cD ?_;unfold ql bB iF bF bI aY cK aF cC;refine cr l.length (λi x=>x=((i:Int),wo (l.take i) n)) ?_ ?_ rfl
 .rintro i x hi rfl;have hq:(wo (l.take i) n).length<=i:=dk (List.length_filter_le ..) (qa ..);have ht:wo (l.take (i+1)) n=if aJ (T:=.int .i64) l (i:Int)=n then wo (l.take i) n else wo (l.take i) n++[aJ (T:=.int .i64) l (i:Int)]:=by
   unfold wo;rw[oV hi,List.filter_append,OL,ax,aB hi];by_cases h:l[i]=n<;>simp[h]
  with_reducible repeat' first|(refine OS.ok ?_;constructor)|refine IM.mk λ_=>?_
  all_goals try simp only[au,qT] at*
  all_goals first|omega|skip
  .simp;omega
  .rename_i h;rw[ht,aA h,gM (by omega)]
  .rename_i h;rw[ht,aE h,gM (by omega)]
 .rintro x rfl;with_reducible repeat' first|(refine OS.ok ?_;constructor)|refine IM.mk λ_=>?_
  all_goals try simp only[au,qT] at*
  all_goals first|omega|(rw [cR])
theorem oe {T:Ty} {xs:List T.den} {i:Nat} (hi:i<al xs):dA (i+1) xs=dA i xs++[aJ xs (i:Int)]:=by
 rw[oV hi,uA,ax,aB hi];rfl
theorem qM {n:Nat} (s:SY) (hs:SB n s):ir s=af (s.2.1,s.1,s.2.2.1,s.2.2.2):=by
 refine cD ?_;obtain⟨s1,s2,J,I⟩:=s;have hn:=hs.n1;have Y:=hs.lk;have U:=hs.dn;have M:=hs.th;dsimp only at Y U M;unfold ir aV bh bw bL cN bB bF bI aY cK aF cC;with_reducible repeat' first|(refine OS.ok ?_;constructor)|refine IM.mk λ_=>?_
 all_goals try simp only[au,qT] at*
 .simp;omega
 .omega
 .simp;omega
 .omega
 refine cr s1.length (λi x=>x=((i:Int),(s1,s2,J,I),0,s2,s1.take i,J,I)) ?_ ?_ ?_
 .rintro i x hi rfl;have hg:=hs.rd _ (bH (T:=Ax) (xs:=s1) (j:=(i:Int)) (by omega) (by omega));with_reducible repeat' first|(refine OS.ok ?_;constructor)|refine IM.mk λ_=>?_
  all_goals try simp only[au,qT] at*
  all_goals first|omega|skip
  .simp;omega
  .simp;omega
  .rw[gM (by omega),oe (T:=Ax) hi];rfl
 .rintro x rfl;with_reducible repeat' first|(refine OS.ok ?_;constructor)|refine IM.mk λ_=>?_
  all_goals try simp only[au,qT] at*
  all_goals first|omega|skip
  simp
 .simp
theorem GZ (s:SY) (c:Int) (hs:s.2.2.2.length<=1000):jG ((s.2.1,c),s.1,s.2.2.1,s.2.2.2)=af (wl s.2.2.2 c s.2.2.2.length):=by
 refine cD ?_;unfold jG;refine ay (P:=λy=>y=(wl s.2.2.2 c s.2.2.2.length,s.1,s.2.2.1,s.2.2.2)) ?_ λy I=>by subst I;exact ae2 rfl (ar rfl)
 unfold me aV bh bw bL cN bd bB bF kF aY cK aF cC;refine cr s.2.2.2.length (λi x=>x=((i:Int),s.1,s.2.2.1,s.2.2.2,s.2.1,wl s.2.2.2 c i)) ?_ ?_ rfl
 .rintro i x hi rfl;have hl:=vI s.2.2.2 c i;with_reducible repeat' first|(refine OS.ok ?_;constructor)|refine IM.mk λ_=>?_
  all_goals try simp only[au,qT] at*
  all_goals first|omega|skip
  all_goals first|(simp;omega)|skip
  .rename_i h1 h2;rw[al7 h1 h2,gM (by omega)]
  .rename_i h1 h2;rw[agj h2,gM (by omega)]
  .rename_i h1;rw[agk h1,gM (by omega)]
 .rintro x rfl;with_reducible repeat' first|(refine OS.ok ?_;constructor)|refine IM.mk λ_=>?_
  all_goals try simp only[au,qT] at*
  all_goals first|omega|rfl
structure AP (n:Nat) (s y:SY):Prop where
 a1:y.1.length=s.1.length
 a2:y.2.2.1.length=s.2.2.1.length
 a3:y.2.2.2.length=s.2.2.2.length
 rd:∀ l∈y.1,l.2.length<=n+1
theorem AP.toSB {n:Nat} {s y:SY} (h:AP n s y) (hs:SB n s) (hn:n+1<=100000):SB (n+1) y:=
 ⟨hn,by rw[h.a1];exact hs.lk,h.rd,by rw[h.a2];exact hs.dn,by rw[h.a3];exact hs.th⟩
theorem AP.same {n:Nat} {s:SY} (hs:SB n s) (x:Int) (d:List Bool) (t:List (Int×Int×Bool)) (hd:d.length=s.2.2.1.length) (ht:t.length=s.2.2.2.length):AP n s (s.1,x,d,t):=
 ⟨rfl,hd,ht,λl hl=>iD (hs.rd l hl)⟩
theorem AP.set {n:Nat} {s:SY} (hs:SB n s) (j a:Int) (r:List Int) (hr:r.length<=n+1) (x:Int) (d:List Bool) (t:List (Int×Int×Bool)) (hd:d.length=s.2.2.1.length) (ht:t.length=s.2.2.2.length):AP n s (cq s.1 j (a,r),x,d,t):=
 ⟨bT _ _ _,hd,ht,λl hl=>by
   rcases Cw hl with h|rfl
   .exact iD (hs.rd l h)
   .exact hr⟩
def ya (th:List (Int×Int×Bool)) (t st:Int):List (Int×Int×Bool):=cq th t (st,(aJ (T:=jE) th t).2)
def owP (lk:List (Int×List Int)) (o t:Int):List (Int×List Int):=cq lk o (t,(aJ (T:=Ax) lk o).2)
def rdP (lk:List (Int×List Int)) (o:Int) (l:List Int):List (Int×List Int):=cq lk o ((aJ (T:=Ax) lk o).1,l)
def cdP (th:List (Int×Int×Bool)) (t c:Int):List (Int×Int×Bool):=cq th t ((aJ (T:=jE) th t).1,c,(aJ (T:=jE) th t).2.2)
def atP (th:List (Int×Int×Bool)) (t:Int) (b:Bool):List (Int×Int×Bool):=cq th t ((aJ (T:=jE) th t).1,(aJ (T:=jE) th t).2.1,b)
def CO (th:List (Int×Int×Bool)) (l:List Int):List (Int×Int×Bool):=l.foldl (λx u=>ya x u 4) th
def Bq (l:List Int) (u:Int):Int:=if l.length=0 then -1 else if l.contains u then u else aJ (T:=.int .i64) l 0
def muP (w:WT) (o:Int):Int:=(aJ (T:=Tw) w.2.2.1 o).2
def qX (w:WT) (s:SY) (t k o u:Int):SY×Int:=
 if k=1 then ((s.1,s.2.1,s.2.2.1,ya s.2.2.2 t 2),0)
 else if k=2 then ((s.1,s.2.1,s.2.2.1,ya s.2.2.2 t 5),0)
 else if k=6\/k=10 then ((owP s.1 o t,s.2),0)
 else if k=7\/k=11 then ((owP s.1 o (-1),s.2),0)
 else if k=8 then ((rdP s.1 o (xj (aJ (T:=Ax) s.1 o).2 [t]),s.2),0)
 else if k=9 then ((rdP s.1 o (wo (aJ (T:=Ax) s.1 o).2 t),s.2),0)
 else if k=12 then ((s.1,t,s.2.2),0)
 else if k=13 then ((s.1,-1,s.2.2),0)
 else if k=14 then ((s.1,s.2.1,s.2.2.1,atP s.2.2.2 t ai),0)
 else if k=15 then ((s.1,s.2.1,s.2.2.1,atP s.2.2.2 t aj),0)
 else if k=16 then ((owP s.1 (muP w o) (-1),s.2.1,s.2.2.1,cdP (ya s.2.2.2 t 3) t o),0)
 else if k=17 then ((owP s.1 (muP w o) t,s.2.1,s.2.2.1,cdP (ya s.2.2.2 t 2) t 0),0)
 else if k=18 then (if (wl s.2.2.2 o s.2.2.2.length).length=0 then (s,-1) else ((s.1,s.2.1,s.2.2.1,ya s.2.2.2 (Bq (wl s.2.2.2 o s.2.2.2.length) u) 4),Bq (wl s.2.2.2 o s.2.2.2.length) u))
 else if k=19 then ((s.1,s.2.1,s.2.2.1,CO s.2.2.2 (wl s.2.2.2 o s.2.2.2.length)),((wl s.2.2.2 o s.2.2.2.length).length:Int))
 else if k=20 then ((s.1,s.2.1,s.2.2.1,ya s.2.2.2 o 1),0)
 else if k=22 then ((s.1,s.2.1,cq s.2.2.1 o ai,s.2.2.2),0)
 else (s,0)
theorem HQ (l:List Int):∀ th,(CO th l).length=th.length:=by
 induction l with
 |nil=>intro th;rfl
 |cons x r I=>intro th;unfold CO;rw[xh];exact (I _).trans (bT ..)
theorem aaa {th:List (Int×Int×Bool)} {l:List Int} {i:Nat} (hi:i<l.length):CO th (l.take (i+1))=ya (CO th (l.take i)) (aJ (T:=.int .i64) l (i:Int)) 4:=by
 unfold CO;rw[oV hi,fK,OL,ax,aB hi];rfl
theorem Tt {n:Nat} (w:WT) (s:SY) (hs:SB n s) (U:w.2.2.1.length<=1000) (t k o u:Int):Ok (pl (w,s,t,k,o,u)) λy=>(y.2.2=ai->EN w s t k o/\V4 w s t k o/\AP n s y.1/\(y.1,y.2.1)=qX w s t k o u)/\(y.2.2=aj->y.1=([],0,[],[]))/\(kl (w,s,t,k,o)=af ai->y.2.2=ai):=by
 unfold pl aV bh bw ct bL dc cN eZ ck bd bB bI kF aY cK aF cC;obtain⟨b,J,hb⟩:=K7 w s hs U t k o;refine aU J ?_;refine dS (λh=>ar ⟨λh=>(by cases h),λ_=>rfl,λh2=>(by rw[J,h] at h2;cases h2)⟩) (λh=>?_);obtain⟨he,hry⟩:=hb h;refine aU (qM s hs) ?_;suffices hmain:Ok _ _ from aX (λx=>AP n s (x.2.2.2.1,x.2.1,x.2.2.2.2)/\((x.2.2.2.1,x.2.1,x.2.2.2.2),x.1)=qX w s t k o u) hmain λx M=>ar ⟨λ_=>⟨he,hry,M⟩,λh=>(by cases h),λ_=>rfl⟩
 obtain⟨nm,t0,t1,cd,e1,e2,e3⟩:=id he;obtain⟨_,_,ce,lk,cn,th,fu⟩:=nm;have hn:=hs.n1;have hlk:=hs.lk;have hm:16<=k/\k<=19->0<=(aJ (T:=Tw) w.2.2.1 o).2/\(aJ (T:=Tw) w.2.2.1 o).2<w.2.1.length:=λh=>cd _ (bH (cn h).1 (cn h).2)
 have hr:∀ j:Int,0<=j->j<s.1.length->(aJ (T:=Ax) s.1 j).2.length<=n:=λj h0 h1=>hs.rd _ (bH (T:=Ax) h0 h1)
 rcases @IV k with rfl|rfl|rfl|rfl|rfl|rfl|rfl|rfl|rfl|rfl|rfl|rfl|rfl|rfl|rfl|rfl|rfl|rfl|rfl|rfl|rfl|rfl|rfl|⟨hk,Y⟩
 case inr.inr.inr.inr.inr.inr.inr.inr.inr.inr.inr.inr.inr.inr.inr.inr.inr.inr.inr.inr.inr.inr.inr=>omega
 all_goals simp only[aZ,bp,s8]
 all_goals with_reducible repeat' first|(refine OS.ok ?_;constructor)|refine IM.mk λ_=>?_
 all_goals try simp only[au,qT] at*
 all_goals try rw[bT]
 all_goals first|omega|exact (hm ⟨by decide,by decide⟩).1|exact e1▸(hm ⟨by decide,by decide⟩).2|exact⟨AP.same hs _ _ _ rfl rfl,rfl⟩|exact⟨AP.same hs _ _ _ rfl (bT _ _ _),rfl⟩|exact⟨AP.same hs _ _ _ (bT _ _ _) rfl,rfl⟩|skip
 all_goals try exact⟨AP.set hs _ _ _ (iD (hr o (by omega) (by omega))) _ _ _ rfl rfl,rfl⟩
 .have:=hr o (by omega) (by omega);refine aU (S5 _ _ (dk this (by have:=hs.n1;omega)) (by simp)) ?_;with_reducible repeat' first|(refine OS.ok ?_;constructor)|refine IM.mk λ_=>?_
  all_goals try simp only[au,qT] at*
  all_goals first|omega|skip
  exact⟨AP.set hs _ _ _ (by have:=ZL (aJ (T:=Ax) s.1 o).2 [t];simp at this;omega) _ _ _ rfl rfl,rfl⟩
 .have:=hr o (by omega) (by omega);have hl:(wo (aJ (T:=Ax) s.1 o).2 t).length<=(aJ (T:=Ax) s.1 o).2.length:=List.length_filter_le ..;refine aU (TD _ _ (by omega)) ?_;with_reducible repeat' first|(refine OS.ok ?_;constructor)|refine IM.mk λ_=>?_
  all_goals try simp only[au,qT] at*
  all_goals first|omega|skip
  exact⟨AP.set hs _ _ _ (dk hl (by omega)) _ _ _ rfl rfl,rfl⟩
 .exact⟨AP.set hs _ _ _ (iD (hr _ (hm ⟨by decide,by decide⟩).1 (by rw[e1];exact (hm ⟨by decide,by decide⟩).2))) _ _ _ rfl (by rw[bT,bT]),rfl⟩
 .exact⟨AP.set hs _ _ _ (iD (hr _ (hm ⟨by decide,by decide⟩).1 (by rw[e1];exact (hm ⟨by decide,by decide⟩).2))) _ _ _ rfl (by rw[bT,bT]),rfl⟩
 .refine aU (GZ s o hs.th) ?_;have hth:=hs.th;have hll:=vI s.2.2.2 o s.2.2.2.length;have hml:∀ u∈wl s.2.2.2 o s.2.2.2.length,0<=u/\u<s.2.2.2.length:=λu hu=>⟨(q_.1 hu).1,(q_.1 hu).2.1⟩
  have hap:qX w s t 18 o u=if (wl s.2.2.2 o s.2.2.2.length).length=0 then (s,-1) else ((s.1,s.2.1,s.2.2.1,ya s.2.2.2 (Bq (wl s.2.2.2 o s.2.2.2.length) u) 4),Bq (wl s.2.2.2 o s.2.2.2.length) u):=rfl
  unfold Bq at hap;revert hll hml hap;generalize wl s.2.2.2 o s.2.2.2.length=l;intro hll hml hap;with_reducible repeat' first|(refine OS.ok ?_;constructor)|refine IM.mk λ_=>?_
  all_goals try simp only[au,qT] at*
  all_goals first|omega|skip
  .have I:=hml _ (bH (T:=.int .i64) (xs:=l) (j:=0) (by omega) (by omega));rw[aA (by omega),aA (by omega)] at hap;simp only[V9 l u (by omega),WE];refine aP (λhc=>?_) λhc=>?_
   .have hu:=hml u (s5.1 hc);rw[hc,aE rfl] at hap;refine ar (aR hu.1 hu.2 (aR hu.1 hu.2 (ar ⟨AP.same hs _ _ _ rfl (bT ..),?_⟩)));rw[hap];rfl
   .rw[hc,aA (by decide)] at hap;refine ar (aR I.1 I.2 (aR I.1 I.2 (ar ⟨AP.same hs _ _ _ rfl (bT ..),?_⟩)));rw[hap];rfl
  .rw[aE (by omega)] at hap;exact⟨AP.same hs _ _ _ rfl rfl,hap.symm⟩
 .refine aU (GZ s o hs.th) ?_;have hth:=hs.th;have hll:=vI s.2.2.2 o s.2.2.2.length;have hml:∀ u∈wl s.2.2.2 o s.2.2.2.length,0<=u/\u<s.2.2.2.length:=λu hu=>⟨(q_.1 hu).1,(q_.1 hu).2.1⟩
  have hap:qX w s t 19 o u=((s.1,s.2.1,s.2.2.1,CO s.2.2.2 (wl s.2.2.2 o s.2.2.2.length)),((wl s.2.2.2 o s.2.2.2.length).length:Int)):=rfl;rw[hap];clear hap;generalize wl s.2.2.2 o s.2.2.2.length=l at hll hml ⊢;refine cr l.length (λi x=>x=((i:Int),s.2.1,0,s.1,s.2.2.1,CO s.2.2.2 (l.take i))) ?_ ?_ rfl
  .rintro i x hi rfl;have I:=hml _ (bH (T:=.int .i64) (xs:=l) (j:=(i:Int)) (by omega) (by omega));have hq:=HQ (l.take i) s.2.2.2;with_reducible repeat' first|(refine OS.ok ?_;constructor)|refine IM.mk λ_=>?_
   all_goals try simp only[au,qT] at*
   all_goals first|omega|skip
   rw[gM (by omega),aaa hi];rfl
  .rintro x rfl;rw[cR];with_reducible repeat' first|(refine OS.ok ?_;constructor)|refine IM.mk λ_=>?_
   all_goals try simp only[au,qT] at*
   all_goals first|omega|skip
   exact AP.same hs _ _ _ rfl (HQ ..)
abbrev SN:Type:=SY×List Int×List Int×List Int
abbrev ET:Type:=Int×Int×Int×Int×Int×List Int×List Int
theorem alo (a b:Int):CP (a,b)=af (decide (0<=a/\a<b)):=aap a b
structure NB (n:Nat) (s:SN):Prop where
 sb:SB n s.1
 c:s.2.1.length<=1000
 f:s.2.2.1.length<=1000
 k:s.2.2.2.length<=1000
structure SP (n:Nat) (s y:SN):Prop where
 ap:AP n s.1 y.1
 c:y.2.1.length=s.2.1.length
 f:y.2.2.1.length=s.2.2.1.length
 k:y.2.2.2.length=s.2.2.2.length
theorem SP.NB {n:Nat} {s y:SN} (h:SP n s y) (hs:NB n s) (hn:n+1<=100000):NB (n+1) y:=
 ⟨h.ap.toSB hs.sb hn,by rw[h.c];exact hs.c,by rw[h.f];exact hs.f,by rw[h.k];exact hs.k⟩
def sn0:SN:=(([],0,[],[]),[],[],[])
structure F16 (w:WT) (s:SN):Prop where
 c:s.2.1.length=w.1.length
 f:s.2.2.1.length=w.2.2.2.1.length
 k:s.2.2.2.length=w.2.2.2.2.1.length
theorem Zk (w:WT) (s:SN) (I:w.2.2.1.length<=1000):Ok (wq (w,s)) λb=>b=ai->F16 w s:=by
 unfold wq aV bh bw dc bd aY aF;refine gA (ay (PO w s.1 (by omega)) λb hb=>?_);with_reducible repeat' first|(refine OS.ok ?_;constructor)|refine IM.mk λ_=>?_
 all_goals try simp only[au,qT] at*
 all_goals first|(intro h;constructor<;>omega)|(intro h;cases h;done)
theorem Xs:∀ (l:List Int),(∀ k:Nat,k+1<l.length->l.getD k 0<l.getD (k+1) 0)->HA l
 |[],_=>trivial
 |[x],_=>⟨λy M=>(by cases M),trivial⟩
 |x::y::r,h=>by
  have J:=Xs (y::r) λk hk=>by have:=h (k+1) (by simpa using hk);simpa using this
  have h0:=h 0 (by simp);simp at h0;refine ⟨λz I=>?_,J⟩;rcases bl.1 I with rfl|I
  .exact h0
  .have:=J.1 z I;omega
structure AN (c:Int) (l:List Int):Prop where
 a:HA l
 m:∀ x:Int,x∈l->1<=x/\x<c
theorem ID (l:List Int) (c:Int) (hl:l.length<=1000000000):Ok (nI (l,c)) λb=>b=ai->AN c l:=by
 unfold nI bB jZ bI aY cK aF cC;refine cr l.length (λi x=>x=(i:Int)/\(∀ k:Nat,k<i->1<=aJ (T:=.int .i64) l (k:Int)/\aJ (T:=.int .i64) l (k:Int)<c)/\∀ k:Nat,k+1<i->l.getD k 0<l.getD (k+1) 0) ?_ ?_ ⟨rfl,λk hk=>by omega,λk hk=>by omega⟩
 .rintro i x hi ⟨rfl,I,J⟩;have M:0<(i:Int)->bn .i64 ((i:Int)-1)=((i-1:Nat):Int):=λh=>by rw[io (by omega) (by omega)];omega
  have hq:(0<i->l.getD (i-1) 0<l.getD i 0)->1<=aJ (T:=.int .i64) l (i:Int)/\aJ (T:=.int .i64) l (i:Int)<c->bn .i64 ((i:Int)+1)=((i+1:Nat):Int)/\(∀ k:Nat,k<i+1->1<=aJ (T:=.int .i64) l (k:Int)/\aJ (T:=.int .i64) l (k:Int)<c)/\∀ k:Nat,k+1<i+1->l.getD k 0<l.getD (k+1) 0:=λg1 Z=>by
   refine ⟨gM (by omega),λk hk=>?_,λk hk=>?_⟩
   .rcases b7 k i with h1|h1
    .exact I k h1
    .rw[show k=i by omega];exact Z
   .rcases b7 (k+1) i with h1|h1
    .exact J k h1
    .have:=g1 (by omega);rw[show k=i-1 by omega,show i-1+1=i by omega];exact this
  with_reducible repeat' first|(refine OS.ok ?_;constructor)|refine IM.mk λ_=>?_
  all_goals try simp only[au,qT] at*
  all_goals first|omega|(intro h;cases h;done)|(rw [M (by omega)];omega)|skip
  .rename_i h1 h2 Y U;rw[M Y,OL,OL] at U;exact hq (λ_=>U) ⟨by omega,by omega⟩
  .exact hq (λh=>by omega) ⟨by omega,by omega⟩
 .rintro x ⟨rfl,I,J⟩;with_reducible repeat' first|(refine OS.ok ?_;constructor)|refine IM.mk λ_=>?_
  all_goals try simp only[au,qT] at*
  all_goals first|omega|skip
  exact⟨Xs l λk hk=>J k hk,iy (T:=.int .i64) I⟩
structure VA (w:WT) (sy:SY) (ce fu:List Int) (t k o v:Int):Prop where
 ld:k=3->v=aJ (T:=.int .i64) ce o
 gt:k=23->v=aJ (T:=.int .i64) fu o
 br:k=5->v=0\/v=1
 el:¬k=3->¬k=23->¬k=5->¬k=4->¬k=22->v=(qX w sy t k o v).2
theorem ite2 {c:Prop} [Decidable c] {a b:SY×Int} (I:a.2=0) (hb:b.2=0):(if c then a else b).2=0:=by by_cases h:c<;>simp[h,I,hb]
theorem ahd (w:WT) (sy:SY) (t k o u:Int) (h1:¬k=18) (h2:¬k=19):(qX w sy t k o u).2=0:=by
 unfold qX;rw[aA h1,aA h2];repeat (first|exact rfl|refine ite2 rfl ?_)
theorem Xw (w:WT) (sy:SY) (t k o u I:Int) (h1:¬k=18):qX w sy t k o u=qX w sy t k o I:=by
 unfold qX;rw[aA h1,aA h1]
theorem Ft (w:WT) (sy:SY) (t o u:Int):qX w sy t 18 o u=if (wl sy.2.2.2 o sy.2.2.2.length).length=0 then (sy,-1) else ((sy.1,sy.2.1,sy.2.2.1,ya sy.2.2.2 (Bq (wl sy.2.2.2 o sy.2.2.2.length) u) 4),Bq (wl sy.2.2.2 o sy.2.2.2.length) u):=rfl
theorem aiz (w:WT) (sy:SY) (t o u:Int):(qX w sy t 19 o u).2=((wl sy.2.2.2 o sy.2.2.2.length).length:Int):=rfl
theorem ZK {n:Nat} (w:WT) (s:SN) (hs:NB n s) (hf:F16 w s) (e:ET) (he:EN w s.1 e.1 e.2.1 e.2.2.1):Ok (ue (s,e)) λb=>b=ai->VA w s.1 s.2.1 s.2.2.1 e.1 e.2.1 e.2.2.1 e.2.2.2.1:=by
 obtain⟨t,k,o,v,si,de,fr⟩:=e;obtain⟨s1,s2,s3,s4⟩:=s;obtain⟨nm,t0,t1,cd,e1,e2,e3⟩:=he;obtain⟨_,_,ce,lk,cn,th,fu,_,_,_⟩:=nm;obtain⟨f1,f2,f3⟩:=hf;have hth:=hs.sb.th;dsimp only at*
 unfold ue aV bh bw ct bL bd bB jZ bI aY aF;have hW:=VX s1 o hth;have hWl:=vI s1.2.2.2 o s1.2.2.2.length;refine aK (λh=>?_) λn3=>?_
 .have h:k=3:=h;obtain⟨Z,Y⟩:=ce (.inl h);exact aR Z (by rw[f1];exact Y) (aT (ar λh2=>⟨λ_=>bf h2,λI=>by omega,λI=>by omega,λI=>(I h).elim⟩))
 refine aK (λh=>?_) λJ=>?_
 .have h:k=23:=h;obtain⟨Z,Y⟩:=fu (.inr h);exact aR Z (by rw[f2];exact Y) (aT (ar λh2=>⟨λI=>by omega,λ_=>bf h2,λI=>by omega,λ_ I=>(I h).elim⟩))
 refine aK (λh=>?_) λn5=>?_
 .have h:k=5:=h;exact gA (aK (λh2=>ar (ar λ_=>⟨λI=>by omega,λI=>by omega,λ_=>.inl h2,λ_ _ I=>(I h).elim⟩)) λ_=>ar (ar λh2=>⟨λI=>by omega,λI=>by omega,λ_=>.inr (bf h2),λ_ _ I=>(I h).elim⟩))
 refine aX (λx=>x.2=((s1,s2,s3,s4),t,k,o,v,si,de,fr)/\(x.1=ai->k=4\/k=22)) (aK (λh=>ar ⟨rfl,λ_=>.inl h⟩) λ_=>ar ⟨rfl,λh=>.inr (bf h)⟩) ?_;rintro⟨b,x⟩ ⟨e,hb⟩;dsimp only at e hb;subst e;refine aP (λh=>ar λ_=>⟨λI=>(n3 I).elim,λI=>(J I).elim,λI=>(n5 I).elim,λ_ _ _ h4 h5=>(hb h).elim (λh=>(h4 h).elim) λh=>(h5 h).elim⟩) λ_=>?_
 have fin:v=(qX w s1 t k o v).2->VA w s1 s2 s3 t k o v:=λh=>⟨λI=>(n3 I).elim,λI=>(J I).elim,λI=>(n5 I).elim,λ_ _ _ _ _=>h⟩
 refine aK (λh=>?_) λU=>?_
 .have h:k=18:=h;subst h;rw[Ft] at fin;refine aU hW ?_;revert fin hWl;generalize wl s1.2.2.2 o s1.2.2.2.length=l;intro hWl fin;refine aK (λh=>ar λh2=>fin ?_) λh=>?_
  .dsimp only[au] at h;rw[aE (by omega)];exact bf h2
  .dsimp only[au] at h;have hne:¬l.length=0:=by omega
   refine gA (gg (λ_=>bK (λ_=>?_) λ_=>ar (ar λh=>(by cases h))) λ_=>ar (ar λh=>(by cases h)));refine aU (V9 _ _ (by omega)) (ar (ar λh2=>fin ?_));rw[aA hne];unfold Bq;rw[aA hne,aE h2]
 refine aK (λh=>?_) λM=>?_
 .have h:k=19:=h;subst h;exact aU hW (ar λh2=>fin (bf h2))
 exact ar λh2=>fin (by rw[ahd _ _ _ _ _ _ U M];exact bf h2)
structure S16 (w:WT) (s:SN) (e:ET):Prop where
 rd:V4 w s.1 e.1 e.2.1 e.2.2.1
 s1:e.2.1=1\/e.2.1=2->e.2.2.2.2.1= -1
 s2:¬(e.2.1=1\/e.2.1=2)->0<=e.2.2.2.2.1/\e.2.2.2.2.1<w.2.2.2.2.2.length/\(aJ (T:=x_) w.2.2.2.2.2 e.2.2.2.2.1).1=e.1
 de:0<e.2.2.2.2.2.1.length->e.2.1=5\/(e.2.1=3\/e.2.1=4)/\¬(aJ (T:=NK) w.1 e.2.2.1).2.2.1=0
 fr:0<e.2.2.2.2.2.2.length->e.2.1=4\/e.2.1=22
 nd:AN (aJ (T:=.int .i64) s.2.2.2 e.1) e.2.2.2.2.2.1
 nf:AN (aJ (T:=.int .i64) s.2.2.2 e.1) e.2.2.2.2.2.2
 va:VA w s.1 s.2.1 s.2.2.1 e.1 e.2.1 e.2.2.1 e.2.2.2.1
def YO (ce:List Int) (e:ET):List Int:=if e.2.1=4 then cq ce e.2.2.1 e.2.2.2.1 else ce
def ZB (fu:List Int) (e:ET):List Int:=if e.2.1=22 then cq fu e.2.2.1 e.2.2.2.1 else fu
def nxP (w:WT) (s:SN) (e:ET):SN:=((qX w s.1 e.1 e.2.1 e.2.2.1 e.2.2.2.1).1,YO s.2.1 e,ZB s.2.2.1 e,cq s.2.2.2 e.1 (bn .i64 (aJ (T:=.int .i64) s.2.2.2 e.1+1)))
theorem Fx {n:Nat} (w:WT) (s:SN) (hs:NB n s) (hw:w.2.2.1.length<=1000) (e:ET) (hd:e.2.2.2.2.2.1.length<=1000000000) (hf:e.2.2.2.2.2.2.length<=1000000000):Ok (rh (w,s,e)) λy=>(y.2=ai->EN w s.1 e.1 e.2.1 e.2.2.1/\SP n s y.1/\S16 w s e/\y.1=nxP w s e)/\(y.2=aj->y.1=sn0):=by
 have Z:∀ {Q:SN×Bool->Prop},Q (sn0,aj)->Ok (af (sn0,aj)) Q:=λh=>ar h
 have z0:((sn0,aj).2=ai->EN w s.1 e.1 e.2.1 e.2.2.1/\SP n s (sn0,aj).1/\S16 w s e/\(sn0,aj).1=nxP w s e)/\((sn0,aj).2=aj->(sn0,aj).1=sn0):=⟨λh=>(by cases h),λ_=>rfl⟩
 unfold rh aV bh bw ct dQ bL dc cN eZ mq ck bd bB iF bF bI kF aY cK aF cC;refine aX (λx=>x.2=(w,s,e,0)/\(x.1=aj->F16 w s/\(EN w s.1 e.1 e.2.1 e.2.2.1/\V4 w s.1 e.1 e.2.1 e.2.2.1)/\kl (w,s.1,e.1,e.2.1,e.2.2.1)=af ai)) ?_ ?_
 .refine ay (Zk w s hw) λb hb=>?_
  with_reducible repeat' first|(refine OS.ok ?_;constructor)|refine IM.mk λ_=>?_
  .exact⟨rfl,λh=>(by cases h)⟩
  simp only[alo,WE];with_reducible repeat' first|(refine OS.ok ?_;constructor)|refine IM.mk λ_=>?_
  .exact⟨rfl,λh=>(by cases h)⟩
  .exact⟨rfl,λh=>(by cases h)⟩
  .exact⟨rfl,λh=>(by cases h)⟩
  obtain⟨c,hc0,hc⟩:=K7 w s.1 hs.sb hw e.1 e.2.1 e.2.2.1;refine aU hc0 (ar ⟨rfl,λh=>?_⟩);have h:c=ai:=by simpa using h
  exact⟨hb (by assumption),hc h,h▸hc0⟩
 rintro⟨J,M⟩ ⟨I,hx⟩;dsimp only at I hx;subst I;refine aP (λ_=>Z z0) λh1=>?_
 obtain⟨hF,⟨hE,hR⟩,hEn⟩:=hx h1;clear hx h1;refine aX (λx=>x=(w,s,e,0)/\(e.2.1=1\/e.2.1=2->e.2.2.2.2.1= -1)/\(¬(e.2.1=1\/e.2.1=2)->0<=e.2.2.2.2.1/\e.2.2.2.2.1<w.2.2.2.2.2.length/\(aJ (T:=x_) w.2.2.2.2.2 e.2.2.2.2.1).1=e.1)) ?_ ?_
 .refine aX (λx=>x.2=(w,s,e,0)/\(x.1=ai->e.2.1=1\/e.2.1=2)/\(x.1=aj->¬(e.2.1=1\/e.2.1=2))) ?_ ?_
  .refine aK (λh=>ar ⟨rfl,λ_=>.inl h,λh=>(by cases h)⟩) λh=>ar ⟨rfl,λh2=>.inr (bf h2),λh2=>?_⟩
   have:=By h2;exact λY=>Y.elim h this
  rintro⟨J,M⟩ ⟨I,hy1,hy2⟩;dsimp only at I hy1 hy2;subst I;refine aP (λhk=>?_) λhk=>?_
  .exact b8 (λ_=>ar z0) λh=>ar ⟨rfl,λ_=>h,λY=>(Y (hy1 hk)).elim⟩
  .refine aX (λx=>x.2=(w,s,e,0)/\(x.1=aj->0<=e.2.2.2.2.1/\e.2.2.2.2.1<w.2.2.2.2.2.length/\(aJ (T:=x_) w.2.2.2.2.2 e.2.2.2.2.1).1=e.1)) ?_ ?_
   .simp only[alo,WE];refine b8 (λ_=>ar ⟨rfl,λh=>(by cases h)⟩) λh=>aR h.1 h.2 (aT (ar ⟨rfl,λh2=>⟨h.1,h.2,?_⟩⟩))
    simpa using h2
   rintro⟨J,M⟩ ⟨I,Z⟩;dsimp only at I Z;subst I;exact aP (λ_=>ar z0) λh=>ar ⟨rfl,λY=>((hy2 hk) Y).elim,λ_=>Z h⟩
 rintro x ⟨rfl,hS1,hS2⟩;obtain⟨nm,t0,t1,cd,e1,e2,e3⟩:=id hE;obtain⟨_,_,ce,lk,cn,th,fu,_,_,_⟩:=nm;obtain⟨f1,f2,f3⟩:=id hF;refine aX (λx=>x.2=(w,s,e,0)/\(x.1=ai->e.2.1=3\/e.2.1=4)) ?_ ?_
 .with_reducible repeat' first|(refine OS.ok ?_;constructor)|refine IM.mk λ_=>?_
  .exact⟨rfl,λ_=>.inl (by assumption)⟩
  .exact⟨rfl,λh=>.inr (bf h)⟩
 rintro⟨J,M⟩ ⟨I,U⟩;dsimp only at I U;subst I;refine aX (λx=>x.2=(w,s,e,0)/\(x.1=aj->0<e.2.2.2.2.2.1.length->e.2.1=5\/(e.2.1=3\/e.2.1=4)/\¬(aJ (T:=NK) w.1 e.2.2.1).2.2.1=0)) ?_ ?_
 .refine bK (λ_=>b8 (λ_=>aP (λh=>?_) λ_=>ar ⟨rfl,λh=>(by cases h)⟩) λh5=>ar ⟨rfl,λ_ _=>.inl h5⟩) λh=>ar ⟨rfl,λ_ h2=>?_⟩
  .refine aR (ce (U h)).1 (ce (U h)).2 (aT (ar ⟨rfl,λh2 _=>.inr ⟨U h,?_⟩⟩));simpa using h2
  .dsimp only[au] at h;omega
 rintro⟨J,M⟩ ⟨I,hDe⟩;dsimp only at I hDe;subst I;refine aP (λ_=>Z z0) λhde=>?_
 refine aX (λx=>x.2=(w,s,e,0)/\(x.1=aj->0<e.2.2.2.2.2.2.length->e.2.1=4\/e.2.1=22)) ?_ ?_
 .refine bK (λ_=>b8 (λ_=>ar ⟨rfl,λh _=>.inr (by simpa using h)⟩) λh4=>ar ⟨rfl,λ_ _=>.inl h4⟩) λh=>ar ⟨rfl,λ_ h2=>?_⟩
  dsimp only[au] at h;omega
 rintro⟨J,M⟩ ⟨I,hFr⟩;dsimp only at I hFr;subst I;refine aP (λ_=>Z z0) λhfr=>?_
 have hk:=hs.k;have hc:=hs.c;have hfu:=hs.f;refine aX (λx=>x.2=(w,s,e,0)/\(x.1=aj->AN (aJ (T:=.int .i64) s.2.2.2 e.1) e.2.2.2.2.2.1/\AN (aJ (T:=.int .i64) s.2.2.2 e.1) e.2.2.2.2.2.2/\VA w s.1 s.2.1 s.2.2.1 e.1 e.2.1 e.2.2.1 e.2.2.2.1)) ?_ ?_
 .have hv:=ZK w s hs hF e hE;refine aR t0 (by rw[f3];exact t1) (aT (ay (ID _ _ hd) λb hb=>?_));refine dS (λ_=>ar ⟨rfl,λh=>(by cases h)⟩) λb1=>?_
  refine aR t0 (by rw[f3];exact t1) (aT (ay (ID _ _ hf) λb hb2=>?_));refine dS (λ_=>ar ⟨rfl,λh=>(by cases h)⟩) λb2=>?_
  exact ay hv λb hb3=>ar ⟨rfl,λh=>⟨hb b1,hb2 b2,hb3 (by simpa using h)⟩⟩
 rintro⟨J,M⟩ ⟨I,hNum⟩;dsimp only at I hNum;subst I;refine aP (λ_=>Z z0) λhnu=>?_
 obtain⟨hN1,hN2,hVA⟩:=hNum hnu;have hS:S16 w s e:=⟨hR,hS1,hS2,hDe hde,hFr hfr,hN1,hN2,hVA⟩
 refine bi (by simp;omega) (by omega) (bi (by simp;omega) (by omega) (bi (by simp;omega) (by omega) ?_));refine aX (λx=>x.2=(w,s,e,0,0,s.2.1,s.2.2.1,s.2.2.2)/\qX w s.1 e.1 e.2.1 e.2.2.1 x.1=qX w s.1 e.1 e.2.1 e.2.2.1 e.2.2.2.1) ?_ ?_
 .exact aK (λ_=>ar ⟨rfl,rfl⟩) λh=>ar ⟨rfl,Xw _ _ _ _ _ _ _ h⟩
 rintro⟨J,M⟩ ⟨I,hxu⟩;dsimp only at I hxu;subst I;refine ay (Tt w s.1 hs.sb hw e.1 e.2.1 e.2.2.1 J) λy hy=>?_
 obtain⟨_,_,hap,hyq⟩:=hy.1 (hy.2.2 hEn);rw[hxu] at hyq;refine aX (λx=>x.1=e/\x.2.2.1=y.1/\x.2.2.2.1=YO s.2.1 e/\x.2.2.2.2=(s.2.2.1,s.2.2.2)) ?_ ?_
 .unfold YO;refine aK (λh=>?_) λh=>ar ⟨rfl,rfl,(aA h).symm,rfl⟩
  have hc4:=ce (.inr h);with_reducible repeat' first|(refine OS.ok ?_;constructor)|refine IM.mk λ_=>?_
  all_goals try simp only[au,qT] at*
  all_goals first|omega|exact (aE h).symm
 rintro⟨J,M,x3,x4,x5,x6⟩ ⟨h1,h2,Y,h4⟩;simp only[aD] at h1 h2 Y h4;obtain⟨rfl,rfl⟩:=h4;subst h1;subst h2;subst Y;refine aX (λx=>x.1=J/\x.2.2.1=y.1/\x.2.2.2.1=YO s.2.1 J/\x.2.2.2.2.1=ZB s.2.2.1 J/\x.2.2.2.2.2=s.2.2.2) ?_ ?_
 .unfold ZB;refine aK (λh=>?_) λh=>ar ⟨rfl,rfl,rfl,(aA h).symm,rfl⟩
  have hc4:=fu (.inl h);with_reducible repeat' first|(refine OS.ok ?_;constructor)|refine IM.mk λ_=>?_
  all_goals try simp only[au,qT] at*
  all_goals first|omega|exact (aE h).symm
 rintro⟨J,M,x3,x4,x5,x6⟩ ⟨h1,h2,h4,h5,h6⟩;simp only at h1 h2 h4 h5 h6;subst h1;subst h2;subst h4;subst h5;subst h6;have l1:(YO s.2.1 J).length=s.2.1.length:=by unfold YO;split<;>simp[bT]
 have l2:(ZB s.2.2.1 J).length=s.2.2.1.length:=by unfold ZB;split<;>simp[bT]
 with_reducible repeat' first|(refine OS.ok ?_;constructor)|refine IM.mk λ_=>?_
 all_goals try simp only[au,qT] at*
 all_goals first|omega|skip
 exact⟨⟨hE,⟨hap,l1,l2,by rw[bT]⟩,hS,by unfold nxP;rw[<- hyq]⟩,λh=>(by cases h)⟩
theorem Tc:Ok (kx ()) λl=>l.length=22:=by
 unfold kx;with_reducible repeat' first|(refine OS.ok ?_;constructor)|refine IM.mk λ_=>?_
 all_goals rfl
theorem PL (s:List UInt8):Ok (jJ s) λ_=>True:=by
 unfold jJ bB bI aY cK aF cC;refine ay Tc λl hl=>?_
 refine cr l.length (λi x=>x=(i:Int)) ?_ ?_ rfl
 .rintro i x hi rfl;with_reducible repeat' first|(refine OS.ok ?_;constructor)|refine IM.mk λ_=>?_
  all_goals try simp only[au,qT] at*
  all_goals first|omega|exact gM (by omega)
 .rintro x rfl;with_reducible repeat' first|(refine OS.ok ?_;constructor)|refine IM.mk λ_=>?_
  all_goals try simp only[au,qT] at*
  all_goals omega
theorem Np (c:Int):Ok (lq c) λ_=>True:=by
 unfold lq jZ aF;with_reducible repeat' first|(refine OS.ok ?_;constructor)|refine IM.mk λ_=>?_
 all_goals exact trivial
theorem aan (c:Int):Ok (pq c) λ_=>True:=by
 unfold pq rq jZ aF;refine gA (ay (Np c) λ_ _=>?_);with_reducible repeat' first|(refine OS.ok ?_;constructor)|refine IM.mk λ_=>?_
 all_goals try exact trivial
 refine ay (P:=λ_=>True) ?_ λ_ _=>?_
 .with_reducible repeat' first|(refine OS.ok ?_;constructor)|refine IM.mk λ_=>?_
  all_goals exact trivial
 .with_reducible repeat' first|(refine OS.ok ?_;constructor)|refine IM.mk λ_=>?_
  all_goals exact trivial
theorem iB (s:List UInt8):Ok (fh s) λ_=>True:=by
 unfold fh bB v9 aY cK aF cC;refine aX (λb=>b=aj->s.length<=12) ?_ ?_
 .with_reducible repeat' first|(refine OS.ok ?_;constructor)|refine IM.mk λ_=>?_
  .exact λh=>(by cases h)
  .exact λh=>(by cases h)
  .omega
  .simp only[au] at *;omega
  refine ay (Np _) λ_ _=>?_
  with_reducible repeat' first|(refine OS.ok ?_;constructor)|refine IM.mk λ_=>?_
  .exact λh=>(by cases h)
  refine ay (PL _) λ_ _=>ar λ_=>?_
  simp only[au] at *;omega
 .rintro b hb;refine aP (λ_=>ar trivial) λh=>?_
  have hb:=hb h;refine cr s.length (λi x=>x=(i:Int)) ?_ ?_ rfl
  .rintro i x hi rfl;with_reducible repeat' first|(refine OS.ok ?_;constructor)|refine IM.mk λ_=>?_
   all_goals try simp only[au,qT] at*
   all_goals first|omega|skip
   refine ay (aan _) λ_ _=>?_
   with_reducible repeat' first|(refine OS.ok ?_;constructor)|refine IM.mk λ_=>?_
   .exact trivial
   .exact gM (by omega)
  .rintro x rfl;with_reducible repeat' first|(refine OS.ok ?_;constructor)|refine IM.mk λ_=>?_
   all_goals try simp only[au,qT] at*
   all_goals first|omega|exact trivial
theorem yI (l:List (List UInt8)) (s:List UInt8) (hl:l.length<=1000000000):Ok (jb (l,s)) λr=> -1<=r/\r<l.length/\(0<=r->aJ (T:=.str) l r=s)/\(r<0->s∉l):=by
 unfold jb bB bI aY cK aF cC;refine cr l.length (λi x=>x=(i:Int)/\∀ k:Nat,k<i->aJ (T:=.str) l (k:Int)≠s) ?_ ?_ ⟨rfl,λk hk=>by omega⟩
 .rintro i x hi ⟨rfl,I⟩;with_reducible repeat' first|(refine OS.ok ?_;constructor)|refine IM.mk λ_=>?_
  all_goals try simp only[au,qT] at*
  all_goals first|omega|skip
  .exact⟨by omega,by omega,λ_=>by assumption,λh=>by omega⟩
  .refine ⟨gM (by omega),λk hk=>?_⟩;rcases b7 k i with h1|h1
   .exact I k h1
   .rw[show k=i by omega];assumption
 .rintro x ⟨rfl,I⟩;with_reducible repeat' first|(refine OS.ok ?_;constructor)|refine IM.mk λ_=>?_
  all_goals try simp only[au,qT] at*
  all_goals first|omega|skip
  exact⟨by omega,by omega,λh=>by omega,λ_ h=>iy (T:=.str) (p:=λc=>c≠s) I s h rfl⟩
structure VL (w:WT):Prop where
 c:w.1.length<=12
 l:w.2.1.length<=4
 d:w.2.2.1.length<=2
 f:w.2.2.2.1.length<=2
 t0:1<=w.2.2.2.2.1.length
 t:w.2.2.2.2.1.length<=4
 s:w.2.2.2.2.2.length<=60
theorem aa7 (w:WT) (h:VL w):Ok (pm w) λy=>y.1.length<=100:=by
 obtain⟨I,U,M,w4,Z,Y⟩:=w;obtain⟨h1,h2,h3,h4,_,h5,h6⟩:=h;dsimp only at*
 unfold pm aV bh bw ct dc mq bd bB iF bF bI aY cK aF cC;refine qc (λx=>((I.length:Int)-x.1).toNat) (λx=>x.2.1=(I,U,M,w4,Z,Y)/\0<=x.1/\x.1<=(I.length:Int)/\(x.2.2.length:Int)<=x.1) ?_ ⟨rfl,by simp,by simp,by simp⟩;rintro⟨x1,x2,x3⟩ ⟨e,g1,g2,g3⟩;dsimp only at e g1 g2 g3;subst e;refine bK (λg4=>?_) λg4=>?_
 .dsimp only[au] at g4;refine aX (λx=>x.2.1=(I,U,M,w4,Z,Y)/\x1<x.1/\x.1<=(I.length:Int)/\(x.2.2.length:Int)<=x.1) ?_ ?_
  .refine cE (aT (bi (by simp;omega) (by omega) ?_));refine aK (λ_=>?_) λ_=>?_
   .with_reducible repeat' first|(refine OS.ok ?_;constructor)|refine IM.mk λ_=>?_
    .exact jX _
    .rw[io (by omega) (by omega)];exact⟨rfl,by dsimp only;omega,by dsimp only;omega,by simp;omega⟩
   .generalize hz:aJ _ x1=z;obtain⟨z1,(z2:Int),(J:Int),z4,z5⟩:=z;dsimp only;refine aX (λx=>x.2=((I,U,M,w4,Z,Y),x3++[z1],z1,z2,J,z4,z5)/\(x.1=aj->1<=J/\J<=4/\x1+J<=I.length)) ?_ ?_
    .with_reducible repeat' first|(refine OS.ok ?_;constructor)|refine IM.mk λ_=>?_
     .exact⟨rfl,λh=>(by cases h)⟩
     .exact⟨rfl,λh=>(by cases h)⟩
     .refine ⟨rfl,λh=>?_⟩;dsimp only[au] at*
      rw[io (by omega) (by omega),gh] at h;omega
    .rintro⟨b,y⟩ ⟨e,hb⟩;dsimp only at e hb;subst e;refine aP (λ_=>ar (jX _)) λh=>?_
     obtain⟨q1,q2,q3⟩:=hb h;refine qc (λx=>(J-x.1).toNat) (λx=>x.2=((I,U,M,w4,Z,Y),x3++[z1],z1,z2,J,z4,z5)/\0<=x.1/\x.1<=J) ?_ ⟨rfl,by simp,by dsimp only;omega⟩;rintro⟨k,y⟩ ⟨e,k0,k1⟩;dsimp only at e k0 k1;subst e;refine bK (λk2=>?_) λk2=>?_
     .dsimp only at k2;have e1:bn .i64 (x1+k)=x1+k:=io (by omega) (by omega);refine aR (by dsimp only;rw[e1];omega) (by dsimp only;rw[e1];omega) (aT ?_);refine aX (λx=>x.2=((I,U,M,w4,Z,Y),x3++[z1],z1,z2,J,z4,z5)) ?_ ?_
      .with_reducible repeat' first|(refine OS.ok ?_;constructor)|refine IM.mk λ_=>?_
       all_goals rfl
      .rintro⟨b,y⟩ e;dsimp only at e;subst e;refine aP (λ_=>ar (jX _)) λ_=>ar ?_
       dsimp only;rw[io (by omega) (by omega)];exact⟨⟨rfl,by omega,by omega⟩,by omega⟩
     .dsimp only at k2;refine ar ?_;dsimp only;rw[io (by omega) (by omega)];exact⟨rfl,by omega,by omega,by simp;omega⟩
  .rintro⟨y1,y2,y3⟩ ⟨e,g5,g6,g7⟩;dsimp only at e g5 g6 g7;subst e;refine ar ⟨⟨rfl,by dsimp only;omega,g6,g7⟩,?_⟩;dsimp only;omega
 .dsimp only[au] at g4;refine ay (P:=λy=>y.1.length<=100) ?_ λy hy=>ar hy
  refine cr U.length (λi x=>x.1=(i:Int)/\x.2.1=(I,U,M,w4,Z,Y)/\x.2.2.length<=12+i) ?_ ?_ ⟨rfl,rfl,by dsimp only;omega⟩
  .rintro i ⟨a,b,c⟩ hi ⟨e1,e2,e3⟩;dsimp only at e1 e2 e3;subst e1;subst e2;with_reducible repeat' first|(refine OS.ok ?_;constructor)|refine IM.mk λ_=>?_
   all_goals try simp only[au,qT] at*
   all_goals first|omega|(simp;omega)|skip
   exact⟨gM (by omega),by simp;omega⟩
  .rintro⟨a,b,c⟩ ⟨e1,e2,e3⟩;dsimp only at e1 e2 e3;subst e1;subst e2;refine bK (λg4=>(by dsimp only[au] at g4;omega)) λ_=>?_
   refine ay (P:=λy=>y.1.length<=100) ?_ λy hy=>ar hy
   refine cr M.length (λi x=>x.1=(i:Int)/\x.2.1=(I,U,M,w4,Z,Y)/\x.2.2.length<=16+i) ?_ ?_ ⟨rfl,rfl,by dsimp only;omega⟩
   .rintro i ⟨a,b,c⟩ hi ⟨e1,e2,e3⟩;dsimp only at e1 e2 e3;subst e1;subst e2;with_reducible repeat' first|(refine OS.ok ?_;constructor)|refine IM.mk λ_=>?_
    all_goals try simp only[au,qT] at*
    all_goals first|omega|(simp;omega)|skip
    exact⟨gM (by omega),by simp;omega⟩
   .rintro⟨a,b,c⟩ ⟨e1,e2,e3⟩;dsimp only at e1 e2 e3;subst e1;subst e2;refine bK (λg4=>(by dsimp only[au] at g4;omega)) λ_=>?_
    refine ay (P:=λy=>y.1.length<=100) ?_ λy hy=>ar hy
    with_reducible repeat' first|(refine OS.ok ?_;constructor)|refine IM.mk λ_=>?_
    all_goals try simp only[au,qT] at*
    all_goals first|omega|(simp;omega)
def Tx (T:Int) (o:Option (Int×Int)) (s:Int×Int×Int):Option (Int×Int):=
 match o with
 |none=>ah
 |some (t,n)=>if s.1=t/\s.2.1=n then af (t,n+1) else if t<s.1/\s.1<T/\s.2.1=0 then af (s.1,1) else ah
def Li (T:Int) (l:List (Int×Int×Int)):Option (Int×Int):=l.foldl (Tx T) (af (0,0))
def SV0 (w:WT):Prop:=Li w.2.2.2.2.1.length w.2.2.2.2.2≠ah
theorem Ik {T:Int} {l:List (Int×Int×Int)} {i:Nat} (hi:i<l.length):Li T (l.take (i+1))=Tx T (Li T (l.take i)) (aJ (T:=x_) l (i:Int)):=by
 rw[oe (T:=x_) hi];unfold Li;rw[fK];rfl
theorem Br (w:WT):Ok (h_ w) λb=>b=ai->VL w/\SV0 w:=by
 unfold h_ aV bh bw ct cN eZ bd bB jZ iF bF bI aY cK aF cC;refine aX (λx=>x.2=w/\(x.1=aj->VL w)) ?_ ?_
 .with_reducible repeat' first|(refine OS.ok ?_;constructor)|refine IM.mk λ_=>?_
  all_goals first|exact⟨rfl,λh=>(by cases h)⟩|skip
  dsimp only[au] at*
  refine ⟨rfl,λh=>?_⟩;rw[gh] at h;constructor<;>omega
 rintro⟨b,x⟩ ⟨e,hb⟩;dsimp only at e hb;subst e;refine aP (λ_=>ar λh=>(by cases h)) λh=>?_
 have hv:=hb h;refine ay (aa7 _ hv) λy hy=>?_
 refine dS (λ_=>ar λh=>(by cases h)) λ_=>?_
 obtain⟨w1,w2,U,Z,J,I⟩:=x;have h6:=hv.s;have h3:=hv.d;dsimp only at h6 h3;refine cr y.1.length (λi x=>x.1=(i:Int)/\x.2=(w1,w2,U,Z,J,I)) ?_ ?_ ⟨rfl,rfl⟩
 .rintro i ⟨a,b⟩ hi ⟨e1,e2⟩;dsimp only at e1 e2;subst e1;subst e2;refine bK (λY=>?_) λY=>(by dsimp only[au] at Y;omega)
  refine aX (λx=>x.2=(w1,w2,U,Z,J,I)) ?_ ?_
  .refine cE (aT (ay (iB _) λ_ _=>?_));refine dS (λ_=>ar rfl) λ_=>?_
   with_reducible repeat' first|(refine OS.ok ?_;constructor)|refine IM.mk λ_=>?_
   all_goals try simp only[au,qT] at*
   all_goals first|omega|skip
   refine ay (yI _ _ (by simp;omega)) λ_ _=>ar rfl
  .rintro⟨a,b⟩ e;dsimp only at e;subst e;with_reducible repeat' first|(refine OS.ok ?_;constructor)|refine IM.mk λ_=>?_
   .exact λh=>(by cases h)
   .dsimp only;exact⟨gM (by omega),rfl⟩
 rintro⟨a,b⟩ ⟨e1,e2⟩;dsimp only at e1 e2;subst e1;subst e2;refine bK (λY=>(by dsimp only[au] at Y;omega)) λ_=>?_
 refine ay (P:=λb=>b=ai->VL (w1,w2,U,Z,J,I)/\SV0 (w1,w2,U,Z,J,I)) ?_ λy hy=>ar hy
 refine cr U.length (λi x=>x.1=(i:Int)/\x.2=(w1,w2,U,Z,J,I)) ?_ ?_ ⟨rfl,rfl⟩
 .rintro i ⟨a,b⟩ hi ⟨e1,e2⟩;dsimp only at e1 e2;subst e1;subst e2;refine bK (λY=>?_) λY=>(by dsimp only[au] at Y;omega)
  refine cE (aT ?_);refine aX (λx=>x.2=(w1,w2,U,Z,J,I)) ?_ ?_
  .with_reducible repeat' first|(refine OS.ok ?_;constructor)|refine IM.mk λ_=>?_
   all_goals try simp only[au,qT] at*
   all_goals first|omega|rfl
  .rintro⟨a,b⟩ e;dsimp only at e;subst e;with_reducible repeat' first|(refine OS.ok ?_;constructor)|refine IM.mk λ_=>?_
   .exact λh=>(by cases h)
   .dsimp only;exact⟨gM (by omega),rfl⟩
 rintro⟨a,b⟩ ⟨e1,e2⟩;dsimp only at e1 e2;subst e1;subst e2;refine bK (λY=>(by dsimp only[au] at Y;omega)) λ_=>?_
 refine ay (P:=λb=>b=ai->VL (w1,w2,U,Z,J,I)/\SV0 (w1,w2,U,Z,J,I)) ?_ λy hy=>ar hy
 refine cr I.length (λi x=>x.1=(i:Int)/\x.2=(w1,w2,U,Z,J,I)/\Li J.length (I.take i)=af (if i=0 then (0,0) else ((aJ (T:=x_) I ((i-1:Nat):Int)).1,(aJ (T:=x_) I ((i-1:Nat):Int)).2.1+1))/\(¬i=0->(0:Int)<=(aJ (T:=x_) I ((i-1:Nat):Int)).2.1/\(i:Int)>(aJ (T:=x_) I ((i-1:Nat):Int)).2.1)) ?_ ?_ ⟨rfl,rfl,rfl,λh=>(h rfl).elim⟩
 .rintro i ⟨a,b⟩ hi ⟨e1,e2,e3,hpb⟩;dsimp only at e1 e2;subst e1;subst e2;have hw:¬(i:Int)=0->bn .i64 ((i:Int)-1)=((i-1:Nat):Int):=λh=>by rw[io (by omega) (by omega)];omega
  have hnx:=Ik (T:=J.length) hi;rw[e3] at hnx;clear e3;refine bK (λY=>?_) λY=>(by dsimp only[au] at Y;omega)
  refine aX (λx=>x=(w1,w2,U,Z,J,I)/\Li J.length (I.take (i+1))=af (((aJ (T:=x_) I (i:Int)).1,(aJ (T:=x_) I (i:Int)).2.1+1))/\(0:Int)<=(aJ (T:=x_) I (i:Int)).2.1/\((i+1:Nat):Int)>(aJ (T:=x_) I (i:Int)).2.1) ?_ ?_
  .refine cE (aT ?_);rw[hnx];generalize hz:aJ (T:=x_) I (i:Int)=z;obtain⟨(z1:Int),(z2:Int),(z3:Int)⟩:=z;dsimp only;refine aX (λx=>x.2=((w1,w2,U,Z,J,I),z1,z2,z3)/\(x.1=aj->0<=z1/\z1<J.length)) ?_ ?_
   .refine bK (λ_=>ar ⟨rfl,λh=>(by cases h)⟩) λg=>ar ⟨rfl,λh=>⟨g,?_⟩⟩
    rw[l7] at h;exact h
   rintro⟨c,y⟩ ⟨e,hzr⟩;dsimp only at e hzr;subst e;refine aP (λ_=>ar λh=>(by cases h)) λhzb=>?_
   obtain⟨z0,zT⟩:=hzr hzb;refine aX (λx=>x.2=((w1,w2,U,Z,J,I),z1,z2,z3)/\(x.1=ai->i=0\/¬(aJ (T:=x_) I ((i-1:Nat):Int)).1=z1)/\(x.1=aj->¬(i:Int)=0/\(aJ (T:=x_) I ((i-1:Nat):Int)).1=z1)) ?_ ?_
   .refine aK (λh=>ar ⟨rfl,λ_=>.inl (by have h:((i:Nat):Int)=0:=h;omega),λh=>(by cases h)⟩) λh=>?_
    rw[hw h];refine cE (aT (ar ⟨rfl,λh2=>.inr (by simpa using h2),λh2=>⟨h,by simpa using h2⟩⟩))
   rintro⟨c,y⟩ ⟨e,hc1,hc⟩;dsimp only at e hc1 hc;subst e;refine aP (λhct=>?_) λhcf=>?_
   .refine aX (λx=>x.2=(w1,w2,U,Z,J,I)/\(x.1=aj->z2=0/\(¬i=0->((aJ (T:=x_) I ((i-1:Nat):Int)).1:Int)<z1))) ?_ ?_
    .refine b8 (λ_=>ar ⟨rfl,λh=>(by cases h)⟩) λhz2=>?_
     refine bK (λh=>?_) λM=>ar ⟨rfl,λ_=>⟨hz2,λh=>by have M:((i:Nat):Int)<=0:=M;omega⟩⟩
     have h:(0:Int)<((i:Nat):Int):=h;rw[hw (by omega)];refine cE (aT (ar ⟨rfl,λh2=>⟨hz2,λh3=>?_⟩⟩));rw[gh] at h2;have h4:=(hc1 hct).resolve_left h3;have h2:(aJ (T:=x_) I ((i-1:Nat):Int)).1<=z1:=h2;exact Int.lt_iff_le_and_ne.2 ⟨h2,h4⟩
    rintro⟨c,y⟩ ⟨e,hy⟩;dsimp only at e hy;subst e;refine aP (λ_=>ar λh=>(by cases h)) λh=>ar ⟨rfl,?_⟩
    obtain⟨q1,q2⟩:=hy h;have q1:z2=0:=q1;subst q1;refine ⟨?_,eD 0,by show _>(0:Int);omega⟩;unfold Tx;by_cases M:i=0
    .subst M;rw[aE rfl];dsimp only;by_cases hz1:z1=0
     .subst hz1;rfl
     .rw[aA (λh=>hz1 h.1),aE ⟨by omega,zT,rfl⟩];rfl
    .have:=q2 M;rw[aA M];dsimp only;rw[aA (λh=>by omega),aE ⟨this,zT,rfl⟩];rfl
   .obtain⟨M,hpr⟩:=hc hcf;rw[hw M];refine cE (aT ?_);refine b8 (λ_=>ar λh=>(by cases h)) λh=>ar ⟨rfl,?_⟩
    obtain⟨b0,b1⟩:=hpb (by omega);have h:z2=bn .i64 ((aJ (T:=x_) I ((i-1:Nat):Int)).2.1+1):=h;rw[io (by omega) (by omega)] at h;refine ⟨?_,by omega,by omega⟩;rw[aA (by omega)];unfold Tx;dsimp only;rw[aE ⟨hpr.symm,h⟩,hpr,h]
  .rintro x ⟨rfl,hx,hx2⟩;refine ar ?_;dsimp only;refine ⟨gM (by omega),rfl,?_,λ_=>hx2⟩;rw[aA (by omega)];exact hx
 .rintro⟨a,b⟩ ⟨e1,e2,e3,_⟩;dsimp only at e1 e2;subst e1;subst e2;refine bK (λY=>(by dsimp only[au] at Y;omega)) λ_=>?_
  rw[cR] at e3;exact ar λ_=>⟨hv,by unfold SV0;dsimp only;rw[e3];simp⟩
def tD (e:ET):Bool:=decide (e.2.1=3)||decide (e.2.1=23)
def fl (l:List ET) (t:Int):List Bool:=(l.filter λe=>decide (e.1=t)).map tD
def K5 (l:List ET) (t y:Int):Prop:=0<=y/\(fl l t).getD y.toNat aj=ai
theorem uD (l m:List ET) (t:Int):fl (l++m) t=fl l t++fl m t:=by unfold fl;rw[List.filter_append,cP]
theorem zC {e:ET} {t:Int} (h:e.1=t):fl [e] t=[tD e]:=by unfold fl;simp[h]
theorem wJ {e:ET} {t:Int} (h:¬e.1=t):fl [e] t=[]:=by unfold fl;simp[h]
theorem K5.app {l:List ET} {t y:Int} (h:K5 l t y) (m:List ET):K5 (l++m) t y:=by
 obtain⟨h0,h1⟩:=h;refine ⟨h0,?_⟩;rw[uD];rw[ax] at h1 ⊢;rcases b7 y.toNat (fl l t).length with g|g
 .rw[bJ g];exact h1
 .rw[bR g] at h1;cases h1
theorem K5.lt {l:List ET} {t y:Int} (h:K5 l t y):y<(fl l t).length:=by
 obtain⟨h0,h1⟩:=h;rcases b7 y.toNat (fl l t).length with g|g
 .omega
 .rw[ax,bR g] at h1;cases h1
theorem K5.last {l:List ET} {e:ET} {y:Int} (h:tD e=ai) (I:y=(fl l e.1).length):K5 (l++[e]) e.1 y:=by
 subst I;refine ⟨by omega,?_⟩;rw[uD,zC rfl,ax,bV (by simp),h];simp
theorem W1 (l:List ET) (t:Int):(fl l t).length<=l.length:=by unfold fl;rw[bY];exact List.length_filter_le ..
structure SCx (w:WT) (l:List ET) (sy:SY) (ce fu:List Int) (e:ET):Prop where
 en:EN w sy e.1 e.2.1 e.2.2.1
 rd:V4 w sy e.1 e.2.1 e.2.2.1
 s1:e.2.1=1\/e.2.1=2->e.2.2.2.2.1= -1
 s2:¬(e.2.1=1\/e.2.1=2)->0<=e.2.2.2.2.1/\e.2.2.2.2.1<w.2.2.2.2.2.length/\(aJ (T:=x_) w.2.2.2.2.2 e.2.2.2.2.1).1=e.1
 de:0<e.2.2.2.2.2.1.length->e.2.1=5\/(e.2.1=3\/e.2.1=4)/\¬(aJ (T:=NK) w.1 e.2.2.1).2.2.1=0
 fr:0<e.2.2.2.2.2.2.length->e.2.1=4\/e.2.1=22
 nd:AN (fl l e.1).length e.2.2.2.2.2.1
 nf:AN (fl l e.1).length e.2.2.2.2.2.2
 rd1:∀ y∈e.2.2.2.2.2.1,K5 l e.1 y
 rd2:∀ y∈e.2.2.2.2.2.2,K5 l e.1 y
 va:VA w sy ce fu e.1 e.2.1 e.2.2.1 e.2.2.2.1
def XM:Nat->List (Int×Int×Bool)
 |0=>[]
 |n+1=>(1,0,aj)::aG n (0,0,aj)
def PP (w:WT):SY:=(aG w.2.1.length (-1,[]),-1,aG w.2.2.2.1.length aj,XM w.2.2.2.2.1.length)
def ce0 (w:WT):List Int:=w.1.map λc=>c.2.2.2.2
def fu0 (w:WT):List Int:=aG w.2.2.2.1.length 0
inductive Acw (w:WT):List ET->SY->List Int->List Int->Prop
 |nil:Acw w [] (PP w) (ce0 w) (fu0 w)
 |snoc {l:List ET} {sy:SY} {ce fu:List Int} {e:ET} (h:Acw w l sy ce fu) (hs:SCx w l sy ce fu e):Acw w (l++[e]) (qX w sy e.1 e.2.1 e.2.2.1 e.2.2.2.1).1 (YO ce e) (ZB fu e)
theorem ZQ (i:Nat):XM (i+2)=XM (i+1)++[(0,0,aj)]:=by
 show (1,0,aj)::aG (i+1) (0,0,aj)=(1,0,aj)::aG i (0,0,aj)++[(0,0,aj)]
 rw[D_,gr]
theorem HK:∀ n,(XM n).length=n
 |0=>rfl
 |n+1=>by simp[XM]
theorem KV (w:WT) (h:VL w):ri w=af (PP w):=by
 obtain⟨w1,I,Z,J,U,Y⟩:=w;obtain⟨h1,h2,h3,h4,_,h5,h6⟩:=h;dsimp only at*
 refine cD ?_;unfold ri aV bh bw ct dc cN eZ bd bB bF aY cK aF cC;refine cr I.length (λi x=>x.1=(i:Int)/\x.2.1=(w1,I,Z,J,U,Y)/\x.2.2.2=(-1,aG i (-1,[]))) ?_ ?_ ⟨rfl,rfl,rfl⟩
 .rintro i ⟨a,b,c,d,e⟩ hi ⟨e1,e2,e3⟩;simp only[aD] at e1 e2 e3;obtain⟨rfl,rfl⟩:=e3;subst e1;subst e2;with_reducible repeat' first|(refine OS.ok ?_;constructor)|refine IM.mk λ_=>?_
  all_goals try simp only[au,qT] at*
  all_goals first|omega|(simp;omega)|skip
  exact⟨gM (by omega),by rw[D_]⟩
 rintro⟨a,b,c,d,e⟩ ⟨e1,e2,e3⟩;simp only[aD] at e1 e2 e3;obtain⟨rfl,rfl⟩:=e3;subst e1;subst e2;refine bK (λM=>(by dsimp only[au] at M;omega)) λ_=>?_
 refine ay (P:=λs=>s=PP (w1,I,Z,J,U,Y)) ?_ λy hy=>ar hy
 refine cr J.length (λi x=>x.1=(i:Int)/\x.2.1=(w1,I,Z,J,U,Y)/\x.2.2.2=(-1,aG I.length (-1,[]),aG i aj)) ?_ ?_ ⟨rfl,rfl,rfl⟩
 .rintro i ⟨a,b,c,d,e',f⟩ hi ⟨e1,e2,e3⟩;simp only[aD] at e1 e2 e3;obtain⟨rfl,rfl,rfl⟩:=e3;subst e1;subst e2;with_reducible repeat' first|(refine OS.ok ?_;constructor)|refine IM.mk λ_=>?_
  all_goals try simp only[au,qT] at*
  all_goals first|omega|(simp;omega)|skip
  exact⟨gM (by omega),by rw[D_]⟩
 rintro⟨a,b,c,d,e',f⟩ ⟨e1,e2,e3⟩;simp only[aD] at e1 e2 e3;obtain⟨rfl,rfl,rfl⟩:=e3;subst e1;subst e2;refine bK (λM=>(by dsimp only[au] at M;omega)) λ_=>?_
 refine ay (P:=λs=>s=PP (w1,I,Z,J,U,Y)) ?_ λy hy=>ar hy
 refine cr U.length (λi x=>x.1=(i:Int)/\x.2.1=(w1,I,Z,J,U,Y)/\x.2.2.2=(-1,aG I.length (-1,[]),aG J.length aj,XM i)) ?_ ?_ ⟨rfl,rfl,rfl⟩
 .rintro i ⟨a,b,c,d,e'',f',g⟩ hi ⟨e1,e2,e3⟩;simp only[aD] at e1 e2 e3;obtain⟨rfl,rfl,rfl,rfl⟩:=e3;subst e1;subst e2;have hl:=HK i;refine bK (λ_=>?_) λM=>(by dsimp only[au] at M;omega)
  refine gA (aK (λh0=>ar ?_) λh0=>ar ?_)
  .have h0:((i:Nat):Int)=0:=h0;have h0:i=0:=by omega
   subst h0;exact bi (by simp[XM]) (by omega) (ar ⟨rfl,rfl,rfl⟩)
  .have h0:¬((i:Nat):Int)=0:=h0;obtain⟨j,rfl⟩:∃ j,i=j+1:=⟨i-1,by omega⟩
   refine bi (by dsimp only;rw[hl];simp;omega) (by omega) (ar ⟨gM (by omega),rfl,?_⟩);dsimp only;rw[ZQ]
 rintro⟨a,b,c,d,e'',f',g⟩ ⟨e1,e2,e3⟩;simp only[aD] at e1 e2 e3;obtain⟨rfl,rfl,rfl,rfl⟩:=e3;subst e1;subst e2;refine bK (λM=>(by dsimp only[au] at M;omega)) λ_=>ar rfl
theorem T2 {w:WT} (h:VL w):SB 0 (PP w):=by
 obtain⟨h1,h2,U,M,_,J,I⟩:=h;refine ⟨by omega,by simp[PP];omega,λl hl=>?_,by simp[PP];omega,by simp[PP,HK];omega⟩;rw[pB hl];simp
theorem KU (w:WT) (h:VL w):mM w=af (PP w,ce0 w,fu0 w,aG w.2.2.2.2.1.length 0):=by
 have hs:=KV w h;have hd:(PP w)=PP w:=rfl;obtain⟨I,Z,Y,M,J,U⟩:=w;obtain⟨h1,h2,h3,h4,_,h5,h6⟩:=h;dsimp only at*
 refine cD ?_;unfold mM aV bh bw bL cN bB bF bI aY cK aF cC;refine aU hs ?_;with_reducible repeat' first|(refine OS.ok ?_;constructor)|refine IM.mk λ_=>?_
 all_goals try simp only[au,qT] at*
 all_goals first|omega|skip
 refine cr I.length (λi x=>x.1=(i:Int)/\x.2.1=(I,Z,Y,M,J,U)/\x.2.2.2=(PP (I,Z,Y,M,J,U),(I.take i).map (λc=>c.2.2.2.2),aG M.length 0,aG J.length 0)) ?_ ?_ ⟨rfl,rfl,rfl⟩
 .rintro i ⟨a,b,c,d,e,f,g⟩ hi ⟨e1,e2,e3⟩;simp only[aD] at e1 e2 e3;obtain⟨rfl,rfl,rfl,rfl⟩:=e3;subst e1;subst e2;with_reducible repeat' first|(refine OS.ok ?_;constructor)|refine IM.mk λ_=>?_
  all_goals try simp only[au,qT] at*
  all_goals first|omega|(simp;omega)|skip
  exact⟨gM (by omega),by rw[oe (T:=NK) hi,cP];rfl⟩
 rintro⟨a,b,c,d,e,f,g⟩ ⟨e1,e2,e3⟩;simp only[aD] at e1 e2 e3;obtain⟨rfl,rfl,rfl,rfl⟩:=e3;subst e1;subst e2;refine bK (λg4=>(by dsimp only[au] at g4;omega)) λ_=>ar ?_
 rw[cR];rfl
theorem V0 (w:WT) (h:VL w):Ok (mM w) λs=>NB 0 s/\s.2.1.length=w.1.length/\s.2.2.1.length=w.2.2.2.1.length/\s.2.2.2.length=w.2.2.2.2.1.length:=
 alh (KU w h) ⟨⟨T2 h,by have:=h.c;simp[ce0];omega,by have:=h.f;simp[fu0];omega,by have:=h.t;simp;omega⟩,by simp[ce0],by simp[fu0],by simp⟩
theorem Qn (l:List ET) (i t:Int) (I:List Int) (hl:l.length<=1000000000) (hi:0<=i/\i<=l.length) (hn:I.length<=1000000000):Ok (rf (l,i,t,I)) λb=>b=ai->∀ y∈I,K5 (l.take i.toNat) t y:=by
 unfold rf aV bL bd bB iF bI aY cK aF cC;refine cr I.length (λk x=>x=(k:Int)/\∀ j:Nat,j<k->K5 (l.take i.toNat) t (aJ (T:=.int .i64) I (j:Int))) ?_ ?_ ⟨rfl,λj hj=>(by omega)⟩
 .rintro k x hk ⟨rfl,Y⟩;refine bK (λM=>?_) λM=>(by dsimp only[au] at M;omega)
  refine qc (λx=>(i-x.2.2).toNat) (λx=>0<=x.2.2/\x.2.2<=i/\x.1=((fl (l.take x.2.2.toNat) t).length:Int)/\(x.2.1=ai->K5 (l.take x.2.2.toNat) t (aJ (T:=.int .i64) I (k:Int)))) ?_ ⟨by simp,hi.1,by simp[fl],λh=>(by cases h)⟩;rintro⟨a,b,(c:Int)⟩ ⟨U,c1,Z,hb⟩;dsimp only at U c1 Z hb;subst Z;obtain⟨c,rfl⟩:∃ n:Nat,c=(n:Int):=⟨c.toNat,by omega⟩
  rw[dx] at hb;dsimp only;rw[dx];have hfl:=W1 (l.take c) t;have htl:=qa c l;refine bK (λJ=>?_) λJ=>?_
  .have J:(c:Int)<i:=J;have htk:l.take (c+1)=l.take c++[aJ (T:=tE) l (c:Int)]:=oe (T:=tE) (by omega);refine aX (λy=>y.1=((fl (l.take (c+1)) t).length:Int)/\(y.2=ai->K5 (l.take (c+1)) t (aJ (T:=.int .i64) I (k:Int)))) ?_ ?_
   .rw[htk,uD];refine aR U (by first|omega|(dsimp only;omega)) (aT ?_);refine b8 (λhne=>ar ⟨by rw[wJ hne];simp,λh=>(hb h).app _⟩) λhe=>?_
    have he:(aJ (T:=tE) l (c:Int)).1=t:=he;refine aX (λy=>y=ai->K5 (l.take c++[aJ (T:=tE) l (c:Int)]) t (aJ (T:=.int .i64) I (k:Int))) ?_ λy hy=>ar ⟨?_,hy⟩
    .refine aP (λh=>ar λ_=>(hb h).app _) λ_=>?_
     refine aR (by omega) (by first|omega|(dsimp only;omega)) (aT ?_);refine aK (λhn=>?_) λ_=>ar λh=>(by cases h)
     have hq:tD (aJ (T:=tE) l (c:Int))=ai->K5 (l.take c++[aJ (T:=tE) l (c:Int)]) t (aJ (T:=.int .i64) I (k:Int)):=λh=>by
      rw[<- he] at hn ⊢;exact K5.last h hn.symm
     refine aR U (by first|omega|(dsimp only;omega)) (aT ?_);refine aK (λh=>ar λ_=>hq (by unfold tD;rw[aO h];rfl)) λ_=>?_
     exact aR U (by first|omega|(dsimp only;omega)) (aT (ar λh=>hq (by unfold tD;rw[h];simp)))
    .dsimp only;rw[zC he,gM (by omega)];simp
   .rintro⟨p,q⟩ ⟨hp,hq⟩;refine ar ?_;dsimp only at hp hq ⊢;rw[gM (by omega),dx];exact⟨⟨by omega,by omega,hp,hq⟩,by omega⟩
  .refine ay (P:=λr=>match r with|.inl y=>y=((k+1:Nat):Int)/\∀ j:Nat,j<k+1->K5 (l.take i.toNat) t (aJ (T:=.int .i64) I (j:Int))|.inr r=>r=ai->∀ y∈I,K5 (l.take i.toNat) t y) ?_ λr hr=>ar ?_
   .refine dS (λ_=>ar λh=>(by cases h)) λh=>ar ⟨gM (by omega),λj hj=>?_⟩
    rcases b7 j k with h1|h1
    .exact Y j h1
    .have:=hb h;have hci:c=i.toNat:=by have J:i<=(c:Int):=J;omega
     rw[show j=k by omega,<-hci];exact this
   .cases r with
    |inl y=>exact hr
    |inr r=>exact hr
 .rintro x ⟨rfl,Y⟩;refine bK (λM=>(by dsimp only[au] at M;omega)) λ_=>ar λ_=>iy (T:=.int .i64) Y
def CN (l:List ET) (c:List Int):Prop:=∀ t:Int,0<=t->t<c.length->aJ (T:=.int .i64) c t=((fl l t).length:Int)
theorem rG {T:Ty} (xs:List T.den) (j k:Int) (x:T.den) (hj:0<=j) (I:j<xs.length) (hk:0<=k):aJ (cq xs j x) k=if k=j then x else aJ xs k:=by
 unfold aJ cq;rw[ax,ax,oW];by_cases h:k=j
 .subst h;rw[aE rfl,aE rfl,aE (by omega)];rfl
 .rw[aA (by omega),aA h]
theorem CN.next {l:List ET} {c:List Int} (h:CN l c) (e:ET) (h0:0<=e.1) (h1:e.1<c.length) (hl:l.length<1000000):CN (l++[e]) (cq c e.1 (bn .i64 (aJ (T:=.int .i64) c e.1+1))):=λt t0 t1=>by
 rw[bT] at t1;have:=W1 l e.1;rw[rG (T:=.int .i64) _ _ _ _ h0 h1 t0,uD];split
 .rename_i h2;subst h2;rw[zC rfl,h _ h0 h1,gM (by omega)];simp
 .rename_i h2;rw[wJ λI=>h2 I.symm,h _ t0 t1];simp
structure EvF (w:WT) (e:ET):Prop where
 nm:NM w e.2.1 e.2.2.1
 t0:0<=e.1
 t1:e.1<w.2.2.2.2.1.length
 cd:∀ c∈w.2.2.1,0<=c.2/\c.2<w.2.1.length
theorem ad0 (w:WT) (l:List ET) (hd:∀ e∈l,e.2.2.2.2.2.1.length<=1000000000/\e.2.2.2.2.2.2.length<=1000000000):Ok (uf (w,l)) λy=>y.2=0->(VL w/\SV0 w)/\(∀ e∈l,EvF w e)/\∃ sy ce fu,Acw w l sy ce fu:=by
 unfold uf ct bL eZ bB bI aY cK aF cC;refine bK (λ_=>ar λh=>(by cases h)) λhl=>?_
 dsimp only[au] at hl;refine ay (Br w) λb hb=>?_
 refine dS (λ_=>ar λh=>(by cases h)) λh=>?_
 obtain⟨hv,hsv⟩:=hb h;refine aU (KU w hv) ?_;have hs:NB 0 (PP w,ce0 w,fu0 w,aG w.2.2.2.2.1.length 0):=⟨T2 hv,by have:=hv.c;simp[ce0];omega,by have:=hv.f;simp[fu0];omega,by have:=hv.t;simp;omega⟩
 have hw:w.2.2.1.length<=1000:=by have:=hv.d;omega
 refine cr l.length (λi x=>x.1=(i:Int)/\x.2.1=(w,l)/\NB i x.2.2/\(∀ k:Nat,k<i->EvF w (aJ (T:=tE) l (k:Int)))/\Acw w (l.take i) x.2.2.1 x.2.2.2.1 x.2.2.2.2.1/\CN (l.take i) x.2.2.2.2.2/\x.2.2.2.2.2.length=w.2.2.2.2.1.length) ?_ ?_ ⟨rfl,rfl,hs,λk hk=>(by omega),.nil,λt t0 t1=>?_,by simp⟩
 .rintro i ⟨a,b,s⟩ hi ⟨e1,e2,e3,Y,U,e6,Z⟩;dsimp only at e1 e2 e3 Y U e6 Z;subst e1;subst e2;refine bK (λI=>?_) λI=>(by dsimp only[au] at I;omega)
  refine cE (aT ?_);have hmem:=bH (T:=tE) (xs:=l) (j:=(i:Int)) (by omega) (by omega);obtain⟨d1,d2⟩:=hd _ hmem;refine ay (Fx w s e3 hw _ d1 d2) λy hy=>?_
  refine aX (λx=>x.2.1=(w,l)/\x.2.2.2=y.1/\(x.1=aj->y.2=ai/\(∀ z∈(aJ (T:=tE) l (i:Int)).2.2.2.2.2.1,K5 (l.take i) (aJ (T:=tE) l (i:Int)).1 z)/\∀ z∈(aJ (T:=tE) l (i:Int)).2.2.2.2.2.2,K5 (l.take i) (aJ (T:=tE) l (i:Int)).1 z)) ?_ ?_
  .refine dS (λ_=>ar ⟨rfl,rfl,λh=>(by cases h)⟩) λh=>?_
   refine ay (Qn l _ _ _ (by omega) ⟨by dsimp only;omega,by dsimp only;omega⟩ d1) λb1 hr1=>?_
   refine dS (λ_=>ar ⟨rfl,rfl,λh=>(by cases h)⟩) λhb1=>?_
   refine ay (Qn l _ _ _ (by omega) ⟨by dsimp only;omega,by dsimp only;omega⟩ d2) λb2 hr2=>ar ⟨rfl,rfl,λhb2=>⟨h,hr1 hb1,hr2 (by simpa using hb2)⟩⟩
  .rintro⟨c,p,q,r⟩ ⟨f1,f2,f3⟩;dsimp only at f1 f2 f3;subst f1;subst f2;refine aP (λ_=>ar λh=>(by cases h)) λh=>?_
   obtain⟨f4,r1,r2⟩:=f3 h;obtain⟨J,g2,M,I⟩:=hy.1 f4;refine ar ?_;dsimp only;have htk:l.take (i+1)=l.take i++[aJ (T:=tE) l (i:Int)]:=oe (T:=tE) hi;have hc:=e6 _ J.t0 (by rw[Z];exact J.t1);have hnx:=gx Prod.fst I;have hac:=U.snoc (e:=aJ (T:=tE) l (i:Int)) ⟨J,M.rd,M.s1,M.s2,M.de,M.fr,by rw[<- hc];exact M.nd,by rw[<- hc];exact M.nf,r1,r2,M.va⟩;refine ⟨gM (by omega),rfl,g2.NB e3 (by omega),λk hk=>?_,by rw[htk,I];exact hac,by rw[htk,I];exact e6.next _ J.t0 (by rw[Z];exact J.t1) (by rw[bA];omega),by rw[I];unfold nxP;rw[bT];exact Z⟩;rcases b7 k i with h1|h1
   .exact Y k h1
   .rw[show k=i by omega];exact⟨J.nm,J.t0,J.t1,J.cd⟩
 .rintro⟨a,b,s⟩ ⟨e1,e2,e3,Y,U,_⟩;dsimp only at e1 e2 e3 Y U;subst e1;subst e2;rw[cR] at U;refine bK (λI=>(by dsimp only[au] at I;omega)) λ_=>ar λ_=>⟨⟨hv,hsv⟩,iy (T:=tE) Y,_,_,_,U⟩
 .rw[eR] at t1;obtain⟨t,rfl⟩:∃ n:Nat,t=(n:Int):=⟨t.toNat,by omega⟩
  rw[OL,ax,lw];split<;>simp[fl]
structure TP (t:List Int×Int):Prop where
 l0:t.1.length<=9223372036854775807
 by_:∀ x∈t.1,0<=x/\x<=255
 a0:0<=t.2
 a1:t.2<=t.1.length
structure uT (t t':List Int×Int):Prop where
 e:t'.1=t.1
 m:t.2<=t'.2
 p:TP t'
theorem uT.refl {t:List Int×Int} (h:TP t):uT t t:=⟨rfl,eD _,h⟩
theorem uT.trans {a b c:List Int×Int} (h:uT a b) (g:uT b c):uT a c:=⟨g.e.trans h.e,Int.le_trans h.m g.m,g.p⟩
theorem gp (n:Int) (t:List Int×Int) (h:TP t):Ok (bx (n,t)) λy=>uT t y.2/\0<=y.1/\(1<=n->y.1<n)/\(t.2<t.1.length->1<=n->t.2<y.2.2):=by
 obtain⟨L,a⟩:=t;have U:=h;obtain⟨l0,hb,a0,a1⟩:=h;dsimp only at l0 hb a0 a1;unfold bx jZ bF bI aY aF cC;refine aX (λx=>x.2=(L,a)/\(x.1=ai->a=L.length\/n<1)/\(x.1=aj->a<L.length/\1<=n)) ?_ ?_
 .refine gg (λh=>ar ⟨rfl,λ_=>?_,λh=>(by cases h)⟩) λh=>ar ⟨rfl,λh2=>?_,λh2=>?_⟩
  .dsimp only[au] at h;omega
  .rw[tL] at h2;exact .inr h2
  .rw[gh] at h2;dsimp only[au] at h h2;omega
 rintro⟨b,x⟩ ⟨e,h1,h2⟩;dsimp only at e h1 h2;subst e;refine aP (λh=>ar ⟨uT.refl U,eD _,λM=>(by dsimp only;omega),λM Z=>?_⟩) λh=>?_
 .have:=h1 h;dsimp only at M;omega
 obtain⟨J,Y⟩:=h2 h;refine aT ?_;have e1:bn .i64 (a+1)=a+1:=io (by omega) (by omega);dsimp only;rw[e1,io (n:=a+1-1) (by omega) (by omega),show a+1-1=a by omega];have I:=hb _ (bH (T:=.int .u8) (xs:=L) (j:=a) a0 J);refine aR a0 J (aT ?_);generalize (aJ _ a)=z at I;have I:0<=z/\z<=255:=I;rw[io (n:=z) (by omega) (by omega)];refine yZ (by omega) (ar ?_);dsimp only;refine ⟨⟨rfl,by dsimp only;omega,⟨l0,hb,by dsimp only;omega,by dsimp only;omega⟩⟩,Int.tmod_nonneg _ I.1,λ_=>?_,λ_ _=>by omega⟩;exact Int.tmod_lt_of_pos _ (by omega)
theorem TI (s:SY) (hs:s.2.2.2.length<=1000) (y:List Int×List Int×List Int):Ok (kY (s,y)) λl=>l.length<=s.2.2.2.length:=by
 unfold kY bL bd bB bF bI aY cK aF cC;refine cr s.2.2.2.length (λi x=>x.1=(i:Int)/\x.2.length<=i) ?_ ?_ ⟨rfl,by simp⟩
 .rintro i ⟨a,b⟩ hi ⟨e1,e2⟩;dsimp only at e1 e2;subst e1;with_reducible repeat' first|(refine OS.ok ?_;constructor)|refine IM.mk λ_=>?_
  all_goals try simp only[au,qT] at*
  all_goals first|omega|(simp;omega)|skip
  .exact⟨gM (by omega),by simp;omega⟩
  .exact⟨gM (by omega),by omega⟩
 .rintro⟨a,b⟩ ⟨e1,e2⟩;dsimp only at e1 e2;subst e1;refine bK (λI=>(by dsimp only[au] at I;omega)) λ_=>ar e2
theorem X0 (k u:Int) (t:List Int×Int) (h:TP t):Ok (oH ((k,u),t)) λy=>uT t y.2/\(k=3\/k=4->0<=y.1/\y.1<5):=by
 unfold oH bd kF aF cC;rcases @IV k with rfl|rfl|rfl|rfl|rfl|rfl|rfl|rfl|rfl|rfl|rfl|rfl|rfl|rfl|rfl|rfl|rfl|rfl|rfl|rfl|rfl|rfl|rfl|⟨hk,J⟩
 case inr.inr.inr.inr.inr.inr.inr.inr.inr.inr.inr.inr.inr.inr.inr.inr.inr.inr.inr.inr.inr.inr.inr=>
  simp only[hk 1 (by decide) (by decide),hk 2 (by decide) (by decide),hk 3 (by decide) (by decide),hk 4 (by decide) (by decide),hk 5 (by decide) (by decide),hk 6 (by decide) (by decide),hk 7 (by decide) (by decide),hk 8 (by decide) (by decide),hk 9 (by decide) (by decide),hk 10 (by decide) (by decide),hk 11 (by decide) (by decide),hk 12 (by decide) (by decide),hk 13 (by decide) (by decide),hk 14 (by decide) (by decide),hk 15 (by decide) (by decide),hk 16 (by decide) (by decide),hk 17 (by decide) (by decide),hk 18 (by decide) (by decide),hk 19 (by decide) (by decide),hk 20 (by decide) (by decide),hk 21 (by decide) (by decide),hk 22 (by decide) (by decide),hk 23 (by decide) (by decide),aZ,bp,s8];exact ar ⟨uT.refl h,λh=>(by first|omega|(simp at h;done)|(rcases h with h|h<;>cases h;done))⟩
 all_goals simp only[aZ,bp,s8]
 all_goals first
  |exact ar ⟨uT.refl h,λh=>(by first|omega|(simp at h;done)|(rcases h with h|h<;>cases h;done))⟩
  |exact ay (gp 2 t h) λy I=>ar ⟨I.1,λh=>(by first|omega|(simp at h;done)|(rcases h with h|h<;>cases h;done))⟩
  |exact ay (gp 3 t h) λy I=>ar ⟨I.1,λh=>(by first|omega|(simp at h;done)|(rcases h with h|h<;>cases h;done))⟩
  |skip
 all_goals
  refine ay (gp 8 t h) λy I=>?_
  have h1:=I.2.1;have h2:=I.2.2.1 (by omega);refine aR h1 (by simp;omega) (aR h1 (by simp;omega) (aT (ar ⟨I.1,λ_=>?_⟩)));have:∀ z:Int,z∈([0,0,0,1,1,2,3,4]:List Int)->0<=z/\z<5:=by decide
  exact this _ (bH (T:=.int .i64) h1 (by simp;omega))
structure SZ (n:Nat) (s:SN):Prop where
 nb:NB n s
 c:s.2.1.length=5
 f:s.2.2.1.length=1
 k:s.2.2.2.length=4
theorem SZ.step {n:Nat} {s y:SN} (h:SZ n s) (hp:SP n s y) (hn:n+1<=100000):SZ (n+1) y:=
 ⟨hp.NB h.nb hn,by rw[hp.c];exact h.c,by rw[hp.f];exact h.f,by rw[hp.k];exact h.k⟩
theorem XO {n:Nat} (s:SN) (hs:SZ n s) (k o:Int) (M:k=3->0<=o/\o<5) (t:List Int×Int) (h:TP t):Ok (qh ((s,k,o),t)) λy=>uT t y.2:=by
 obtain⟨s1,s2,Y,U⟩:=s;have hc:=hs.c;have hf:=hs.f;have hth:=hs.nb.sb.th;dsimp only at hc hf hth;have J:=TI s1 hth (s2,Y,U);unfold qh aV bd bB bI aY aF;rcases @IV k with rfl|rfl|rfl|rfl|rfl|rfl|rfl|rfl|rfl|rfl|rfl|rfl|rfl|rfl|rfl|rfl|rfl|rfl|rfl|rfl|rfl|rfl|rfl|⟨hk,Z⟩
 case inr.inr.inr.inr.inr.inr.inr.inr.inr.inr.inr.inr.inr.inr.inr.inr.inr.inr.inr.inr.inr.inr.inr=>
  simp only[hk 1 (by decide) (by decide),hk 2 (by decide) (by decide),hk 3 (by decide) (by decide),hk 4 (by decide) (by decide),hk 5 (by decide) (by decide),hk 6 (by decide) (by decide),hk 7 (by decide) (by decide),hk 8 (by decide) (by decide),hk 9 (by decide) (by decide),hk 10 (by decide) (by decide),hk 11 (by decide) (by decide),hk 12 (by decide) (by decide),hk 13 (by decide) (by decide),hk 14 (by decide) (by decide),hk 15 (by decide) (by decide),hk 16 (by decide) (by decide),hk 17 (by decide) (by decide),hk 18 (by decide) (by decide),hk 19 (by decide) (by decide),hk 20 (by decide) (by decide),hk 21 (by decide) (by decide),hk 22 (by decide) (by decide),hk 23 (by decide) (by decide),aZ,bp,s8];exact ar (uT.refl h)
 all_goals simp only[aZ,bp,s8]
 all_goals first
  |exact ar (uT.refl h)
  |exact ay (gp 2 t h) λy I=>ar I.1
  |exact ay (gp 3 t h) λy I=>ar I.1
  |exact ay J λy I=>ar (uT.refl h)
  |exact aR (by decide) (by omega) (aT (ar (uT.refl h)))
  |exact aR (M rfl).1 (by have:=(M rfl).2;omega) (aT (ar (uT.refl h)))
  |skip
 refine ay J λl hl=>?_
 refine bK (λh1=>?_) λ_=>ar (uT.refl h)
 refine ay (gp _ t h) λy I=>?_
 dsimp only[au] at h1;have h2:=I.2.2.1 (by dsimp only[au];omega);exact aR I.2.1 h2 (aT (ar I.1))
theorem ads (t:List Int×Int) (h:TP t) (r:List Int) (hr:r.length<=1000000):Ok (gB (t,r)) λy=>y.1.length<=r.length/\uT t y.2.1/\y.2.2=r:=by
 unfold gB aV bL bB jZ bF kF aY cK aF cC;refine cr r.length (λi x=>x.1=(i:Int)/\uT t x.2.1/\x.2.2.1=r/\x.2.2.2.length<=i) ?_ ?_ ⟨rfl,uT.refl h,rfl,by simp⟩
 .rintro i ⟨a,b,c,d⟩ hi ⟨e1,e2,e3,U⟩;dsimp only at e1 e2 e3 U;subst e1;subst e3;refine bK (λM=>?_) λM=>(by dsimp only[au] at M;omega)
  refine aX (λx=>uT t x.1/\x.2.1=c/\x.2.2.length<=i+1) ?_ ?_
  .refine cE (cE (aT ?_));refine aX (λx=>uT t x.2.1/\x.2.2=(c,d)) ?_ ?_
   .refine aP (λ_=>?_) λ_=>ar ⟨e2,rfl⟩
    exact ay (gp 2 b e2.p) λy Z=>ar ⟨e2.trans Z.1,rfl⟩
   .rintro⟨p,q,u⟩ ⟨I,J⟩;dsimp only at I J;subst J;refine aP (λ_=>?_) λ_=>ar ⟨I,rfl,by dsimp only;omega⟩
    exact bi (by simp;omega) (by omega) (ar ⟨I,rfl,by simp;omega⟩)
  .rintro⟨p,q,u⟩ ⟨I,J,Y⟩;dsimp only at I J Y;subst J;refine ar ?_;dsimp only;exact⟨gM (by omega),I,rfl,Y⟩
 .rintro⟨a,b,c,d⟩ ⟨e1,e2,e3,U⟩;dsimp only at e1 e2 e3 U;subst e1;subst e3;refine bK (λM=>(by dsimp only[au] at M;omega)) λ_=>ar ⟨U,e2,rfl⟩
theorem aai:tG ()=af [3,3,3,3,3,4,4,4,4,4,5,5,5,6,6,6,7,7,7,8,9,10,11,12,13,14,14,15,16,16,17,17,18,18,19,20,1,1,2,21,22,23,23]:=rfl
abbrev RR:Type:=List Int×List Int×List Int×List Int
structure RB4 (m:Nat) (r:RR):Prop where
 r0:r.1.length<=m
 r1:r.2.1.length<=m
 r2:r.2.2.1.length<=m
 r3:r.2.2.2.length<=m
theorem aba {n:Nat} (s:SN) (hs:SZ n s) (w:WT) (hw:w.1.length=5) (t:List Int×Int) (h:TP t) (r:RR) (hr:RB4 1000000 r):Ok (qi ((s,w),t,r)) λy=>uT t y.2.1/\y.2.2=r/\(t.2<t.1.length->t.2<y.2.1.2)/\y.1.2.2.2.2.2.1.length<=1000000/\y.1.2.2.2.2.2.2.length<=1000000:=by
 obtain⟨r0,r1,r2,r3⟩:=r;obtain⟨h0,h1,h2,h3⟩:=hr;dsimp only at h0 h1 h2 h3;unfold qi xd D9 Prod.p12 aV bh bw ct dQ iU uV xf Lb Prod.q12 cN eZ bd bF bI aY aF;refine ay (gp 4 t h) λy hy=>?_
 refine aU aai ?_;refine ay (gp _ y.2 hy.1.p) λz hz=>?_
 obtain⟨y1,yt⟩:=y;obtain⟨z1,zt⟩:=z;obtain⟨ty,yy0,yy1,yy2⟩:=hy;obtain⟨tz,zz0,zz1,_⟩:=hz;dsimp only at ty yy0 yy1 yy2 tz zz0 zz1;have yy1:=yy1 (by decide);have hzl:=zz1 (by decide);refine aR zz0 hzl (aT ?_);generalize (aJ _ z1)=k;refine ay (gp 6 zt tz.p) λv hv=>?_
 obtain⟨v1,vt⟩:=v;have tv:=hv.1;dsimp only at tv;have tt:=(ty.trans tz).trans tv;have hadv:t.2<t.1.length->t.2<vt.2:=λh=>by
  have:=yy2 h (by decide);have:=tz.m;have:=tv.m;omega
 refine aX (λx=>x.1=vt/\x.2.1=r0/\x.2.2.1=r1/\x.2.2.2.1=r2/\x.2.2.2.2.1=r3/\x.2.2.2.2.2.1=s/\x.2.2.2.2.2.2.1=w) ?_ ?_
 .refine aX (λx=>x.2.1=vt/\x.2.2.1=r0/\x.2.2.2.1=r1/\x.2.2.2.2.1=r2/\x.2.2.2.2.2.1=r3/\x.2.2.2.2.2.2.1=s/\x.2.2.2.2.2.2.2.1=w) ?_ ?_
  .with_reducible repeat' first|(refine OS.ok ?_;constructor)|refine IM.mk λ_=>?_
   all_goals exact⟨rfl,rfl,rfl,rfl,rfl,rfl,rfl⟩
  .rintro⟨p,q⟩ hq;dsimp only at hq;with_reducible repeat' first|(refine OS.ok ?_;constructor)|refine IM.mk λ_=>?_
   all_goals exact hq
 rintro⟨x1,x2,x3,x4,x5,x6,x7,x8,x9,x10⟩ ⟨J,U,f3,f4,Z,f6,f7⟩;dsimp only at J U f3 f4 Z f6 f7;subst J;subst U;subst f3;subst f4;subst Z;subst f6;subst f7;refine ay (X0 _ _ _ tv.p) λo Y=>?_
 obtain⟨o1,ot⟩:=o;obtain⟨to,Y⟩:=Y;dsimp only at to Y;refine ay (XO _ hs _ _ (λhk=>Y (.inl hk)) _ to.p) λq hq=>?_
 obtain⟨q1,qt⟩:=q;dsimp only at hq;have M:=(tt.trans to).trans hq;have hadv2:t.2<t.1.length->t.2<qt.2:=λh=>by have:=hadv h;have:=to.m;have:=hq.m;omega
 have row:∀ (T:List Int×Int) (c:List Int) {R:Type} (k:List Int×((List Int×Int)×List Int)->Option R) (Q:R->Prop),uT t T->c.length<=1000000->(∀ v T',uT T T'->v.length<=1000000->Ok (k (v,T',c)) Q)->Ok (obind (gB (T,c)) k) Q:=λT c R k Q I hc hk=>by
  refine ay (ads T I.p c hc) λy hy=>?_
  obtain⟨a,b,d⟩:=y;obtain⟨g1,g2,g3⟩:=hy;dsimp only at g1 g2 g3;subst g3;exact hk a b g2 (by omega)
 refine aX (λx=>uT t x.1/\(t.2<t.1.length->t.2<x.1.2)/\x.2.1=x2/\x.2.2.1=x3/\x.2.2.2.1=x4/\x.2.2.2.2.1=x5/\x.2.2.2.2.2.2.2.2.2.2.2.length<=1000000) ?_ ?_
 .refine aX (λx=>x.2.1=qt/\x.2.2.1=x2/\x.2.2.2.1=x3/\x.2.2.2.2.1=x4/\x.2.2.2.2.2.1=x5) ?_ ?_
  .refine aK (λ_=>ar ⟨rfl,rfl,rfl,rfl,rfl⟩) λ_=>?_
   refine aK (λhk=>?_) λ_=>aK (λhk=>?_) λ_=>ar ⟨rfl,rfl,rfl,rfl,rfl⟩
   .exact aR (Y (.inl hk)).1 (by dsimp only;rw[hw];exact (Y (.inl hk)).2) (aT (ar ⟨rfl,rfl,rfl,rfl,rfl⟩))
   .exact aR (Y (.inr hk)).1 (by dsimp only;rw[hw];exact (Y (.inr hk)).2) (aT (ar ⟨rfl,rfl,rfl,rfl,rfl⟩))
  .rintro⟨b,p1,p2,p3,p4,p5,p6⟩ ⟨J,U,f3,f4,Z⟩;dsimp only at J U f3 f4 Z;subst J;subst U;subst f3;subst f4;subst Z;refine aP (λ_=>?_) λ_=>ar ⟨M,hadv2,rfl,rfl,rfl,rfl,by simp⟩
   have adv3:∀ T',uT p1 T'->t.2<t.1.length->t.2<T'.2:=λT' I h=>by have:=hadv2 h;have:=I.m;omega
   refine aK (λ_=>?_) λ_=>aK (λ_=>?_) λ_=>aK (λ_=>?_) λ_=>aK (λ_=>?_) λ_=>?_
   .refine row p1 p2 _ _ M h0 λv T' I hv=>?_
    refine cW (ly rfl (AU ?_));exact ar ⟨M.trans I,adv3 T' I,rfl,rfl,rfl,rfl,hv⟩
   .refine row p1 p3 _ _ M h1 λv T' I hv=>?_
    refine cW (ly rfl (AU ?_));exact ar ⟨M.trans I,adv3 T' I,rfl,rfl,rfl,rfl,hv⟩
   .refine row p1 p4 _ _ M h2 λv T' I hv=>?_
    refine cW (ly rfl (AU ?_));exact ar ⟨M.trans I,adv3 T' I,rfl,rfl,rfl,rfl,hv⟩
   .refine row p1 p5 _ _ M h3 λv T' I hv=>?_
    refine cW (ly rfl (AU ?_));exact ar ⟨M.trans I,adv3 T' I,rfl,rfl,rfl,rfl,hv⟩
   .omega
 rintro⟨u1,u2,u3,u4,u5,u6,u7,u8,u9,u10,u11,u12⟩ ⟨J,U,f3,f4,Z,f6,f7⟩;dsimp only at J U f3 f4 Z f6 f7;subst f3;subst f4;subst Z;subst f6;refine aX (λx=>uT t x.1/\(t.2<t.1.length->t.2<x.1.2)/\x.2.1=u2/\x.2.2.1=u3/\x.2.2.2.1=u4/\x.2.2.2.2.1=u5/\x.2.2.2.2.2.2.2.2.2.2.2.1.length<=1000000/\x.2.2.2.2.2.2.2.2.2.2.2.2.length<=1000000) ?_ ?_
 .refine aX (λx=>x.2=(u1,u2,u3,u4,u5,u6,u7,u8,u9,u10,u11,u12)) ?_ ?_
  .with_reducible repeat' first|(refine OS.ok ?_;constructor)|refine IM.mk λ_=>?_
   all_goals rfl
  .rintro⟨b,x⟩ e;dsimp only at e;subst e;refine aP (λ_=>?_) λ_=>ar ⟨J,U,rfl,rfl,rfl,rfl,f7,by simp⟩
   have adv3:∀ T',uT u1 T'->t.2<t.1.length->t.2<T'.2:=λT' I h=>by have:=U h;have:=I.m;omega
   refine aK (λ_=>?_) λ_=>aK (λ_=>?_) λ_=>aK (λ_=>?_) λ_=>aK (λ_=>?_) λ_=>?_
   .refine row u1 u2 _ _ J h0 λv T' I hv=>?_
    refine cW (ly rfl (AU ?_));exact ar ⟨J.trans I,adv3 T' I,rfl,rfl,rfl,rfl,f7,hv⟩
   .refine row u1 u3 _ _ J h1 λv T' I hv=>?_
    refine cW (ly rfl (AU ?_));exact ar ⟨J.trans I,adv3 T' I,rfl,rfl,rfl,rfl,f7,hv⟩
   .refine row u1 u4 _ _ J h2 λv T' I hv=>?_
    refine cW (ly rfl (AU ?_));exact ar ⟨J.trans I,adv3 T' I,rfl,rfl,rfl,rfl,f7,hv⟩
   .refine row u1 u5 _ _ J h3 λv T' I hv=>?_
    refine cW (ly rfl (AU ?_));exact ar ⟨J.trans I,adv3 T' I,rfl,rfl,rfl,rfl,f7,hv⟩
   .omega
 rintro⟨a1,a2,a3,a4,a5,a6,a7⟩ ⟨g1,g2,g3,g4,g5,g6,g7,g8⟩;dsimp only at g1 g2 g3 g4 g5 g6 g7 g8;subst g3;subst g4;subst g5;subst g6;exact ar ⟨g1,rfl,g2,g7,g8⟩
def Zl (e:ET):Prop:=e.2.2.2.2.2.1.length<=1000000/\e.2.2.2.2.2.2.length<=1000000
theorem ady {m:Nat} (hm:m<=1000) (s:SN) (hs:SZ m s) (w:WT) (hw:w.1.length=5) (hwt:w.2.2.2.2.1.length=4) (hwc:w.2.2.1.length<=1000) (n:Int) (hn:n<=60) (t:List Int×Int) (h:TP t):Ok (sj ((s,w,n,aj),t)) λy=>(∀ e∈y.1,Zl e)/\y.1.length<=60:=by
 unfold sj aV bh bw ct dQ iU uV xf Prod.q10 bL cN eZ mq nF Ny bd bB bF bI aY cK aF;refine cW (cW (cW (dv (by dsimp only[au];omega) (dv (eD _) (bi (by dsimp only[au];omega) (by omega) (WD (by dsimp only[au];omega) ?_))))));refine aX (λx=>x=(t,s,w,[],[],[],[])) ⟨_,rfl,rfl⟩ ?_;rintro x rfl;refine qc (λx=>((t.1.length:Int)-x.1.2).toNat) (λx=>uT t x.1/\x.2.2.1=w/\SZ (m+x.2.2.2.1.length) x.2.1/\x.2.2.2.1.length<=60/\(∀ e∈x.2.2.2.1,Zl e)/\RB4 x.2.2.2.1.length x.2.2.2.2) ?_ ⟨uT.refl h,rfl,(by simpa using hs),by simp,λe he=>(by cases he),⟨by simp,by simp,by simp,by simp⟩⟩;rintro⟨I,s,w',out,r⟩ ⟨i1,i2,U,i4,i5,i6⟩;dsimp only at i1 i2 U i4 i5 i6;subst i2;refine aX (λx=>x.2=(I,s,w',out,r)/\(x.1=ai->out.length<60/\I.2<I.1.length)) ?_ ?_
 .refine bK (λh1=>ar ⟨rfl,λh2=>?_⟩) λ_=>ar ⟨rfl,λh=>(by cases h)⟩
  rw[tL] at h2;dsimp only[au] at h1 h2;exact⟨by omega,h2⟩
 rintro⟨b,x⟩ ⟨e,hb⟩;dsimp only at e hb;subst e;refine aP (λh1=>?_) λ_=>ar ⟨i5,i4⟩
 obtain⟨ho,ht⟩:=hb h1;obtain⟨q0,q1,q2,q3⟩:=id i6;refine aX (λx=>uT I x.1/\I.2<x.1.2/\x.2.2.1=w'/\SZ (m+x.2.2.2.1.length) x.2.1/\x.2.2.2.1.length<=60/\(∀ e∈x.2.2.2.1,Zl e)/\RB4 x.2.2.2.1.length x.2.2.2.2) ?_ ?_
 .refine ay (aba s U w' hw I i1.p r ⟨by omega,by omega,by omega,by omega⟩) λy hy=>?_
  obtain⟨ev,tp',r'⟩:=y;obtain⟨j1,j2,j3,M,J⟩:=hy;dsimp only at j1 j2 j3 M J;subst j2;have j3:=j3 ht;refine cW (ly rfl (cW (ly rfl (cW (ly rfl (cW (ly rfl (AU ?_))))))));refine ay (Fx w' s U.nb hwc ev (by omega) (by omega)) λz hz=>?_
  refine dS (λ_=>ar ⟨j1,j3,rfl,U,i4,i5,i6⟩) λh2=>?_
  obtain⟨z1,z2⟩:=z;obtain⟨hE,hS,_⟩:=hz.1 h2;have hS2:=U.step hS (by omega);refine aX (λx=>x.1=tp'/\x.2.2.1=w'/\x.2.2.2.1=out/\Zl x.2.2.2.2.1/\x.2.2.2.2.2.1=z1/\RB4 (out.length+1) x.2.2.2.2.2.2) ?_ ?_
  .refine aX (λx=>x.2=(tp',s,w',out,ev,z1,r')) ?_ ?_
   .refine aK (λ_=>ar rfl) λ_=>ar rfl
   .rintro⟨b,x⟩ e;dsimp only at e;subst e;have hk:=U.k;obtain⟨ev1,ev2⟩:=ev;have t0:=hE.t0;have t1:=hE.t1;rw[hwt] at t1;dsimp only at t0 t1;refine aP (λ_=>?_) λ_=>ar ⟨rfl,rfl,rfl,⟨M,J⟩,rfl,⟨by dsimp only;omega,by dsimp only;omega,by dsimp only;omega,by dsimp only;omega⟩⟩
    refine aK (λ_=>?_) λ_=>aK (λ_=>?_) λ_=>aK (λ_=>?_) λ_=>aK (λ_=>?_) λ_=>?_
    .exact aR (by decide) (by dsimp only;omega) (aT (bi (by simp;omega) (by omega) (ar ⟨rfl,rfl,rfl,⟨M,J⟩,rfl,⟨by simp;omega,by dsimp only;omega,by dsimp only;omega,by dsimp only;omega⟩⟩)))
    .exact aR (by decide) (by dsimp only;omega) (aT (bi (by simp;omega) (by omega) (ar ⟨rfl,rfl,rfl,⟨M,J⟩,rfl,⟨by dsimp only;omega,by simp;omega,by dsimp only;omega,by dsimp only;omega⟩⟩)))
    .exact aR (by decide) (by dsimp only;omega) (aT (bi (by simp;omega) (by omega) (ar ⟨rfl,rfl,rfl,⟨M,J⟩,rfl,⟨by dsimp only;omega,by dsimp only;omega,by simp;omega,by dsimp only;omega⟩⟩)))
    .exact aR (by decide) (by dsimp only;omega) (aT (bi (by simp;omega) (by omega) (ar ⟨rfl,rfl,rfl,⟨M,J⟩,rfl,⟨by dsimp only;omega,by dsimp only;omega,by dsimp only;omega,by simp;omega⟩⟩)))
    .dsimp only at *;omega
  .rintro⟨x1,x2,x3,x4,x5,x6,x7⟩ ⟨k1,k2,k3,k4,Z,Y⟩;dsimp only at k1 k2 k3 k4 Z Y;subst k1;subst k2;subst k3;subst Z;refine bi (by simp;omega) (by omega) (ar ⟨j1,j3,rfl,?_,by simp;omega,λe he=>?_,?_⟩)
   .dsimp only;rw[bm,dR,<-sP];exact hS2
   .rcases bQ.1 he with he|he
    .exact i5 e he
    .rw[aL] at he;subst he;exact k4
   .dsimp only;rw[bm,dR];exact Y
 rintro⟨tp',s',w'',out',r'⟩ ⟨k1,k2,k3,k4,Z,Y,k7⟩;dsimp only at k1 k2 k3 k4 Z Y k7;have e1:=i1.e;have a1:=k1.p.a1;have e2:=k1.e;refine ar ⟨⟨i1.trans k1,k3,k4,Z,Y,k7⟩,?_⟩;dsimp only;rw[e2,e1] at a1;omega
def C0:List (List UInt8×Int×Int×Bool×Int):=[([120],0,0,aj,0),([121],0,0,aj,1),([118],0,0,ai,0),([113],0,2,aj,0),([113],1,2,aj,0)]
def G0:List (List UInt8×Bool):=[([109],aj),([110],aj),([114],ai)]
def Mm:List (List UInt8×Int):=[([99],0)]
def Tg:List (List UInt8):=[[102]]
def v_:List (List UInt8):=[[109,97,105,110],[116,49],[116,50],[116,51]]
structure WX (w:WT):Prop where
 c:w.1=C0
 l:w.2.1=G0
 d:w.2.2.1=Mm
 f:w.2.2.2.1=Tg
 t:∃ n,1<=n/\n<=4/\w.2.2.2.2.1=v_.take n
 s:w.2.2.2.2.2.length<=60
 v:SV0 w
structure W0 (w:WT):Prop where
 c:w.1.length=5
 l:w.2.1.length=3
 d:w.2.2.1.length=1
 f:w.2.2.2.1.length=1
 t:w.2.2.2.2.1.length=4
 s:w.2.2.2.2.2.length<=24
 x:WX w
theorem W0.vl {w:WT} (h:W0 w):VL w:=⟨by rw[h.c];decide,by rw[h.l];decide,by rw[h.d];decide,by rw[h.f];decide,by rw[h.t];decide,by rw[h.t];decide,by have:=h.s;omega⟩
def nxS (i j:Nat):Int×Int:=if j=0 then (if i=0 then (0,0) else ((i:Int)-1,6)) else (i,j)
theorem Wk {T:Int} {l:List (Int×Int×Int)} {s:Int×Int×Int}:Li T (l++[s])=Tx T (Li T l) s:=by unfold Li;rw[fK];rfl
theorem S0:Ok (nG ()) W0:=by
 unfold nG aV bh bw ct eZ bB bF cK aF cC;refine cr 4 (λi x=>x.1=(i:Int)/\x.2.1=C0/\x.2.2.1=G0/\x.2.2.2.1=Mm/\x.2.2.2.2.1=Tg/\x.2.2.2.2.2.1=v_/\x.2.2.2.2.2.2.length<=6*i/\Li 4 x.2.2.2.2.2.2=af (nxS i 0)) ?_ ?_ ⟨rfl,rfl,rfl,rfl,rfl,rfl,by simp,rfl⟩
 .rintro i ⟨a,w1,w2,w3,w4,w5,w6⟩ hi ⟨e1,e2,e3,Z,Y,I,e7,U⟩;dsimp only at e1 e2 e3 Z Y I e7 U;subst e1;have hl5:w5.length=4:=by rw[I];rfl
  refine bK (λ_=>?_) λg=>(by dsimp only[au] at g;simp at g;omega)
  refine cr 6 (λj x=>x.1=(j:Int)/\x.2.1=w1/\x.2.2.1=w2/\x.2.2.2.1=w3/\x.2.2.2.2.1=w4/\x.2.2.2.2.2.1=w5/\x.2.2.2.2.2.2.length<=6*i+j/\Li 4 x.2.2.2.2.2.2=af (nxS i j)) ?_ ?_ ⟨rfl,rfl,rfl,rfl,rfl,rfl,by dsimp only;omega,U⟩
  .rintro j ⟨b,v1,v2,v3,v4,v5,v6⟩ hj ⟨d1,d2,d3,d4,d5,d6,d7,d8⟩;dsimp only at d1 d2 d3 d4 d5 d6 d7 d8;subst d1;refine dg ?_;refine bi (by simp;omega) (by omega) (ar ?_);dsimp only;refine ⟨gM (by omega),d2,d3,d4,d5,d6,by simp;omega,?_⟩;rw[Wk,d8];by_cases J:j=0
   .subst J;by_cases M:i=0
    .subst M;rfl
    .rw[show nxS i 0=((i:Int)-1,6) by unfold nxS;simp[M],show nxS i (0+1)=((i:Int),1) by unfold nxS;simp];unfold Tx;dsimp only;rw[aA (λh=>by have:=h.1;omega),aE ⟨by omega,by omega,rfl⟩]
   .rw[show nxS i j=((i:Int),(j:Int)) by unfold nxS;simp[J],show nxS i (j+1)=((i:Int),(j:Int)+1) by unfold nxS;simp];unfold Tx;dsimp only;rw[aE ⟨rfl,rfl⟩]
  .rintro⟨b,v1,v2,v3,v4,v5,v6⟩ ⟨d1,d2,d3,d4,d5,d6,d7,d8⟩;dsimp only at d1 d2 d3 d4 d5 d6 d7 d8;subst d1;subst d2;subst d3;subst d4;subst d5;subst d6;refine db (ar ?_);dsimp only;refine ⟨gM (by omega),e2,e3,Z,Y,I,by omega,?_⟩;rw[d8];unfold nxS;simp
 .rintro⟨a,w1,w2,w3,w4,w5,w6⟩ ⟨e1,e2,e3,Z,Y,I,e7,U⟩;dsimp only at e1 e2 e3 Z Y I e7 U;subst e1;subst e2;subst e3;subst Z;subst Y;subst I;refine bK (λg=>(by dsimp only[au] at g;simp[v_] at g)) λ_=>ar ?_
  refine ⟨rfl,rfl,rfl,rfl,rfl,by dsimp only;omega,rfl,rfl,rfl,rfl,⟨4,by decide,by decide,rfl⟩,by dsimp only;omega,?_⟩;unfold SV0;show Li 4 w6≠ah;rw[U];simp
theorem SZ.mono {n m:Nat} {s:SN} (h:SZ n s) (hnm:n<=m) (hm:m<=100000):SZ m s:=
 ⟨⟨⟨hm,h.nb.sb.lk,λl hl=>dk (h.nb.sb.rd l hl) hnm,h.nb.sb.dn,h.nb.sb.th⟩,h.nb.c,h.nb.f,h.nb.k⟩,h.c,h.f,h.k⟩
theorem VZ (w:WT) (I:W0 w):Ok (mM w) λs=>SZ 0 s:=by
 refine (V0 w I.vl).mono λs hs=>⟨hs.1,?_,?_,?_⟩
 .rw[hs.2.1,I.c]
 .rw[hs.2.2.1,I.f]
 .rw[hs.2.2.2,I.t]
structure WB (w:WT):Prop where
 c:w.1.length<=12
 l:w.2.1.length<=4
 d:w.2.2.1.length<=2
 f:w.2.2.2.1.length<=2
 t:w.2.2.2.2.1.length<=4
 s:w.2.2.2.2.2.length<=60
theorem VL.wb {w:WT} (h:VL w):WB w:=⟨h.c,h.l,h.d,h.f,h.t,h.s⟩
structure TR (y:WT×List ET):Prop where
 wb:WB y.1
 vl:VL y.1
 ev:∀ e∈y.2,EvF y.1 e
 len:y.2.length<=400
 ls:∀ e∈y.2,Zl e
 wx:WX y.1
 ac:∃ sy ce fu,Acw y.1 y.2 sy ce fu
theorem Im (L:List Int) (n:Int) (hl:L.length<=9223372036854775807) (hb:∀ x∈L,0<=x/\x<=255):Ok (qj (L,n)) TR:=by
 unfold qj aV bh bw dc cN bB jZ iF bF kF aY cK aF cC;refine aX (λx=>x.length<=600/\∀ z∈x,0<=z/\z<=255) ?_ ?_
 .refine bK (λg=>?_) λg=>?_
  .dsimp only[au] at g;refine cW (dv (by omega) (dv (by dsimp only;omega) (ar ⟨by dsimp only;rw[bA];simp;omega,λz I=>hb z (gY I)⟩)))
  .dsimp only[au] at g;exact ar ⟨by dsimp only;omega,hb⟩
 rintro L' ⟨hL,hB⟩;refine ay S0 λw J=>?_
 have hvl:=J.vl;refine ay (VZ w J) λs hs=>?_
 refine ay (gp 3 (L',0) ⟨by dsimp only;omega,hB,by dsimp only;omega,by dsimp only;omega⟩) λy hy=>?_
 obtain⟨y1,yt⟩:=y;obtain⟨ty,yy0,yy1,_⟩:=hy;have yy1:=yy1 (by decide);dsimp only at ty yy0 yy1;have ew:bn .i64 (1+y1)=1+y1:=io (by omega) (by omega);refine qc (λx=>(1+y1+1-x.1).toNat) (λx=>1<=x.1/\x.1<=2+y1/\x.2.1=yt/\x.2.2.1=w/\x.2.2.2.1=s/\((x.2.2.2.2.length:Nat):Int)<=2*x.1/\∀ e∈x.2.2.2.2,Zl e) ?_ ⟨by dsimp only;omega,by dsimp only;omega,rfl,rfl,rfl,by simp,λe he=>?_⟩
 .rintro⟨a,t,w',s',es⟩ ⟨e1,e2,e3,e4,e5,e6,e7⟩;dsimp only at e1 e2 e3 e4 e5 e6 e7;subst e3;subst e4;subst e5;refine gg (λg=>?_) λg=>?_
  .dsimp only at g;rw[ew] at g;refine bi (by simp;omega) (by omega) (ar ?_);dsimp only;rw[io (n:=a+1) (by omega) (by omega)];refine ⟨⟨by omega,by omega,rfl,rfl,rfl,by simp;omega,λe he=>?_⟩,by omega⟩;rcases bQ.1 he with he|he
   .exact e7 e he
   .simp only[bl,cw,gf] at he;rcases he with he|he<;>subst he<;>exact⟨by simp,by simp⟩
  .refine ay (P:=TR) ?_ λr hr=>ar hr
   refine cr es.length (λi x=>x.1=(i:Int)/\TP x.2.1/\x.2.2.1=w'/\SZ i x.2.2.2.1/\x.2.2.2.2.1=es/\x.2.2.2.2.2.length<=i/\∀ e∈x.2.2.2.2.2,Zl e) ?_ ?_ ⟨rfl,ty.p,rfl,hs,rfl,by simp,λe he=>(by cases he)⟩
   .rintro i ⟨b,t,w',s',es',out⟩ hi ⟨d1,U,Z,M,Y,d6,d7⟩;dsimp only at d1 U Z M Y d6 d7;subst d1;subst Z;subst Y;refine dg ?_;refine aX (λx=>TP x.1/\x.2.1=w'/\SZ (i+1) x.2.2.1/\x.2.2.2.1=es'/\x.2.2.2.2.length<=i+1/\∀ e∈x.2.2.2.2,Zl e) ?_ ?_
    .refine cE (cE (aT ?_));have I:=e7 _ (bH (T:=.st (.pr (.int .i64) (.pr (.int .i64) (.pr (.int .i64) (.pr (.int .i64) (.pr (.int .i64) (.pr (.sl (.int .i64)) (.sl (.int .i64))))))))) (xs:=es') (j:=(i:Int)) (by omega) (by omega));revert I;generalize (aJ _ _)=z;intro I;refine ay (Fx w' s' M.nb (by rw[J.d];decide) z (by have:=I.1;omega) (by have:=I.2;omega)) λv hv=>?_
     refine aP (λh=>?_) λh=>ar ⟨U,rfl,M.mono (by omega) (by omega),rfl,by dsimp only;omega,d7⟩
     refine bi (by simp;omega) (by omega) (ar ⟨U,rfl,M.step (hv.1 h).2.1 (by omega),rfl,by simp;omega,λe he=>?_⟩);rcases bQ.1 he with he|he
     .exact d7 e he
     .rw[aL] at he;subst he;exact I
    .rintro⟨t,w'',s'',es'',out'⟩ ⟨f1,f2,f3,f4,f5,f6⟩;dsimp only at f1 f2 f3 f4 f5 f6;refine ar ?_;dsimp only;exact⟨gM (by omega),f1,f2,f3,f4,f5,f6⟩
   .rintro⟨b,t,w',s',es',out⟩ ⟨d1,U,Z,M,Y,d6,d7⟩;dsimp only at d1 U Z M Y d6 d7;subst d1;subst Z;subst Y;refine db ?_;refine ay (P:=TR) ?_ λr hr=>ar hr
    have hmin:Ha (jL n 0) 60<=60:=by
     unfold Ha;split
     .omega
     .rename_i h;simp[fX] at h;exact h
    refine ay (ady (by omega) s' M w' J.c J.t (by rw[J.d];decide) _ hmin t U) λv hv=>?_
    refine bi (by have:=hv.2;dsimp only;omega) (by omega) ?_;have hall:∀ e∈out++v.1,Zl e:=λe he=>by
     rcases bQ.1 he with he|he
     .exact d7 e he
     .exact hv.1 e he
    refine ay (ad0 w' (out++v.1) λe he=>by have:=hall e he;exact⟨by have:=this.1;omega,by have:=this.2;omega⟩) λc hc=>?_
    refine b8 (λ_=>?_) λh=>?_
    .exact ay S0 λu hu=>ar ⟨hu.vl.wb,hu.vl,λe he=>(by cases he),by simp,λe he=>(by cases he),hu.x,_,_,_,.nil⟩
    .exact ar ⟨(hc h).1.1.wb,(hc h).1.1,(hc h).2.1,by have:=hv.2;simp;omega,hall,J.x,(hc h).2.2⟩
 .rw[aL] at he;subst he;exact⟨by simp,by simp⟩
abbrev IT:Type:=Int×Int×Int×Int×Int×Int
abbrev CT:Type:=WT×List (Int×List IT)
theorem rX (a b:Int):jq (a,b)=af (decide (0<=a/\a<b)):=by
 refine cD ?_;unfold jq jZ aF;with_reducible repeat' first|(refine OS.ok ?_;constructor)|refine IM.mk λ_=>?_
 .by_cases h:a<b<;>simp[*,fX]
 .simp;omega
theorem Fy (k:Int):pH k=af (decide (1<=k/\k<=5)):=by
 refine cD ?_;unfold pH jZ aF;with_reducible repeat' first|(refine OS.ok ?_;constructor)|refine IM.mk λ_=>?_
 .by_cases h:k<=5<;>simp[*,cY]
 .simp;omega
def iR (i:IT):List Int:=
 if i.1=1\/i.1=6\/i.1=10\/i.1=27 then [i.2.1]
 else if i.1=2\/i.1=3 then [i.2.1,i.2.2.1]
 else if i.1=4 then [i.2.1,i.2.2.1,i.2.2.2.1]
 else if i.1=7 then [i.2.1,i.2.2.2.1]
 else if i.1=8\/i.1=26 then [i.2.2.1]
 else if i.1=9 then [i.2.2.1,i.2.2.2.1]
 else []
theorem tP (i:IT):jI i=af (iR i):=by
 obtain⟨I,i2⟩:=i;unfold jI iR aV bh bw bd aF;by_cases h1:I=1
 .subst h1;rfl
 by_cases h2:I=6
 .subst h2;rfl
 by_cases h3:I=10
 .subst h3;rfl
 by_cases h4:I=27
 .subst h4;rfl
 by_cases h5:I=2
 .subst h5;rfl
 by_cases h6:I=3
 .subst h6;rfl
 by_cases Z:I=4
 .subst Z;rfl
 by_cases Y:I=7
 .subst Y;rfl
 by_cases U:I=8
 .subst U;rfl
 by_cases M:I=26
 .subst M;rfl
 by_cases J:I=9
 .subst J;rfl
 simp only[h1,h2,h3,h4,h5,h6,Z,Y,U,M,J,c_,bcF,jnr,gf,eo]
theorem CF (z:IT):(iR z).length<=3:=by
 unfold iR
 (repeat' split)<;>simp
theorem aah (l:List IT) (a:Int) (hl:l.length<=1000000):Ok (pn (l,a)) λ_=>True:=by
 unfold pn bd bB jZ bI aY cK aF cC;refine qc (λx=>((l.length:Int)+1-x.2).toNat) (λx=>0<=x.2/\x.2<=(l.length:Int)+1) ?_ ⟨by dsimp only;omega,by dsimp only;omega⟩;rintro⟨(a:Int),(n:Int)⟩ ⟨h0,h1⟩;dsimp only at h0 h1;refine gg (λg=>?_) λ_=>ar trivial
 dsimp only[au] at g;refine aX (λ_=>True) ?_ λb _=>ar ?_
 .refine aX (λb=>b=aj->0<=a/\a<(l.length:Int)) ?_ ?_
  .refine bK (λ_=>ar λh=>(by cases h)) λI=>ar λh=>?_
   rw[l7] at h;dsimp only[au] at h I;exact⟨I,h⟩
  .intro b hb;refine aP (λ_=>ar trivial) λh=>?_
   obtain⟨q0,J⟩:=hb h;refine aR q0 (by dsimp only;omega) (aT ?_);refine aU (Fy _) ?_;refine dS (λ_=>ar trivial) λ_=>?_
   refine aR q0 (by dsimp only;omega) (aT ?_);refine aK (λ_=>?_) λ_=>ar trivial
   exact aR q0 (by dsimp only;omega) (aT (ar trivial))
 .dsimp only;rw[io (by omega) (by omega)];exact⟨⟨by omega,by omega⟩,by omega⟩
structure AR (w:WT) (b n:Int):Prop where
 b0:0<=b
 b1:b<w.1.length
 ix:(aJ (T:=NK) w.1 b).2.1=0
 sz:¬(aJ (T:=NK) w.1 b).2.2.1=0
 sn:(aJ (T:=NK) w.1 b).2.2.1=n
theorem SE (w:WT) (b n:Int):Ok (m6 (w,b,n)) λr=>r=ai->AR w b n:=by
 unfold m6 bd iF bI aY aF;refine gA ?_;refine aU (rX _ _) ?_;refine aK (λh=>?_) λ_=>ar (ar λh=>(by cases h))
 refine aR h.1 h.2 (aT (aK (λh1=>?_) λ_=>ar (ar λh=>(by cases h))));refine aR h.1 h.2 (aT (b8 (λh2=>?_) λ_=>ar (ar λh=>(by cases h))));exact aR h.1 h.2 (aT (ar (ar λI=>⟨h.1,h.2,h1,h2,bf I⟩)))
theorem Ud (w:WT) (i:IT):Ok (lB (w,i)) λb=>b=ai->(i.1=7->AR w i.2.2.1 i.2.2.2.2.1)/\(i.1=9->AR w i.2.1 i.2.2.2.2.1):=by
 have tr:∀ {b:Bool},¬i.1=7->¬i.1=9->b=ai->(i.1=7->AR w i.2.2.1 i.2.2.2.2.1)/\(i.1=9->AR w i.2.1 i.2.2.2.2.1):=λh1 h2 _=>⟨λh=>(h1 h).elim,λh=>(h2 h).elim⟩
 unfold lB aV bh bw ct dQ bd jZ bI aY aF;simp only[rX,WE];refine aK (λM=>?_) λ_=>?_
 .refine aX (λ_=>True) ?_ λ_ _=>ar (tr (by have M:i.1=6:=M;omega) (by have M:i.1=6:=M;omega))
  refine aK (λh=>?_) λ_=>ar trivial
  exact aR h.1 h.2 (aT (ar trivial))
 refine aK (λI=>?_) λ_=>?_
 .refine aX (λ_=>True) ?_ λ_ _=>ar (tr (by have I:i.1=8:=I;omega) (by have I:i.1=8:=I;omega))
  refine aK (λh=>?_) λ_=>ar trivial
  exact aR h.1 h.2 (aT (ar trivial))
 refine aK (λJ=>?_) λU=>?_
 .exact ay (SE _ _ _) λ_ h=>ar λh2=>⟨λ_=>h h2,λZ=>by have J:i.1=7:=J;omega⟩
 refine aK (λZ=>?_) λY=>?_
 .exact ay (SE _ _ _) λ_ h=>ar λh2=>⟨λJ=>(U J).elim,λ_=>h h2⟩
 have tr:∀ {b:Bool},b=ai->(i.1=7->AR w i.2.2.1 i.2.2.2.2.1)/\(i.1=9->AR w i.2.1 i.2.2.2.2.1):=tr U Y;refine aX (λx=>x.2=(w,i)) (aK (λ_=>ar rfl) λ_=>ar rfl) ?_;rintro⟨b,x⟩ e;dsimp only at e;subst e;refine aP (λ_=>?_) λ_=>?_
 .refine aX (λ_=>True) ?_ λ_ _=>ar tr
  refine aK (λh=>?_) λ_=>ar trivial
  exact aR h.1 h.2 (aT (ar trivial))
 refine aX (λx=>x.2=(w,i)) (aK (λ_=>ar rfl) λ_=>aK (λ_=>ar rfl) λ_=>aK (λ_=>ar rfl) λ_=>ar rfl) ?_;rintro⟨b,x⟩ e;dsimp only at e;subst e;refine aP (λ_=>?_) λ_=>?_
 .refine aX (λ_=>True) ?_ λ_ _=>ar tr
  refine aK (λh=>?_) λ_=>ar trivial
  exact aR h.1 h.2 (aT (ar trivial))
 refine aX (λx=>x.2=(w,i)) (aK (λ_=>ar rfl) λ_=>aK (λ_=>ar rfl) λ_=>ar rfl) ?_;rintro⟨b,x⟩ e;dsimp only at e;subst e;refine aP (λ_=>ar tr) λ_=>?_
 refine aX (λx=>x.2=(w,i)) (aK (λ_=>ar rfl) λ_=>ar rfl) ?_;rintro⟨b,x⟩ e;dsimp only at e;subst e;with_reducible repeat' first|(refine OS.ok ?_;constructor)|refine IM.mk λ_=>?_
 all_goals exact tr
structure VI (n:Int) (i:IT):Prop where
 o1:1<=i.1
 o2:i.1<=28
 r:∀ j∈iR i,0<=j/\j<n
structure VT (t:Int×List IT):Prop where
 r0:0<=t.1
 r1:t.1<=32
 i:∀ i∈t.2,VI t.1 i
structure VJ (w:WT) (k:Int) (i:IT):Prop where
 a7:i.1=7->AR w i.2.2.1 i.2.2.2.2.1
 a9:i.1=9->AR w i.2.1 i.2.2.2.2.1
 se:i.1=28->i.2.2.2.2.2= -1
 si:¬i.1=28->0<=i.2.2.2.2.2/\i.2.2.2.2.2<w.2.2.2.2.2.length/\(aJ (T:=x_) w.2.2.2.2.2 i.2.2.2.2.2).1=k
theorem Ie (w:WT) (k:Int) (c:Int×List IT) (hc:c.2.length<=1000000):Ok (iu (w,k,c)) λb=>b=ai->VT c/\∀ i∈c.2,VJ w k i:=by
 unfold iu aV bh bw ct bL cN nF bd bB iF bI aY cK aF cC;refine aX (λx=>x.2=(w,c)/\(x.1=aj->0<=c.1/\c.1<=32)) ?_ ?_
 .refine bK (λ_=>ar ⟨rfl,λh=>(by cases h)⟩) λh0=>bK (λ_=>ar ⟨rfl,λh=>(by cases h)⟩) λh1=>ar ⟨rfl,λ_=>⟨h0,h1⟩⟩
 rintro⟨b,x⟩ ⟨e,hb⟩;dsimp only at e hb;subst e;refine aP (λ_=>ar λh=>(by cases h)) λh=>?_
 obtain⟨r0,r1⟩:=hb h;refine cr c.2.length (λi x=>x.1=(i:Int)/\x.2=(w,c)/\∀ q:Nat,q<i->VI c.1 (aJ (T:=BA) c.2 (q:Int))/\VJ w k (aJ (T:=BA) c.2 (q:Int))) ?_ ?_ ⟨rfl,rfl,λk hk=>by omega⟩
 .rintro i ⟨a,x⟩ hi ⟨e1,e2,e3⟩;dsimp only at e1 e2 e3;subst e1;subst e2;refine dg ?_;refine cE (aT ?_);generalize Y:(aJ _ _)=z;refine aX (λx=>x.2=(w,c,z)/\(x.1=aj->(1<=z.1/\z.1<=28)/\(z.1=7->AR w z.2.2.1 z.2.2.2.2.1)/\(z.1=9->AR w z.2.1 z.2.2.2.2.1))) ?_ ?_
  .refine bK (λ_=>ar ⟨rfl,λh=>(by cases h)⟩) λh0=>bK (λ_=>ar ⟨rfl,λh=>(by cases h)⟩) λh1=>?_
   refine aP (λ_=>ar ⟨rfl,λh=>(by cases h)⟩) λ_=>?_
   refine ay (Ud w z) λy Z=>?_
   refine dS (λ_=>ar ⟨rfl,λh=>(by cases h)⟩) λhyt=>?_
   exact ay (aah c.2 _ hc) λy _=>ar ⟨rfl,λ_=>⟨⟨h0,h1⟩,Z hyt⟩⟩
  rintro⟨b,x⟩ ⟨e,hb⟩;dsimp only at e hb;subst e;refine aP (λ_=>ar λh=>(by cases h)) λh=>?_
  obtain⟨⟨o1,o2⟩,a7,a9⟩:=hb h;refine aX (λx=>x.2=(w,c,z)/\(x.1=aj->(z.1=28->z.2.2.2.2.2= -1)/\(¬z.1=28->0<=z.2.2.2.2.2/\z.2.2.2.2.2<w.2.2.2.2.2.length/\(aJ (T:=x_) w.2.2.2.2.2 z.2.2.2.2.2).1=k))) ?_ ?_
  .simp only[rX,WE];refine aK (λI=>?_) λI=>?_
   .refine b8 (λ_=>ar ⟨rfl,λh=>(by cases h)⟩) λhm=>?_
    exact b8 (λh=>(h I).elim) λ_=>ar ⟨rfl,λ_=>⟨λ_=>hm,λh=>(h I).elim⟩⟩
   .refine b8 (λ_=>?_) λh=>(I h).elim
    refine b8 (λ_=>ar ⟨rfl,λh=>(by cases h)⟩) λh=>?_
    exact aR h.1 h.2 (aT (ar ⟨rfl,λh2=>⟨λh3=>(I h3).elim,λ_=>⟨h.1,h.2,by simpa using h2⟩⟩⟩))
  rintro⟨b,x⟩ ⟨e,hsi⟩;dsimp only at e hsi;subst e;refine aP (λ_=>ar λh=>(by cases h)) λhbs=>?_
  obtain⟨se,si⟩:=hsi hbs;refine aX (λx=>x.2=(w,c,z)) ?_ ?_
  .simp only[rX,WE];with_reducible repeat' first|(refine OS.ok ?_;constructor)|refine IM.mk λ_=>?_
   all_goals rfl
  rintro⟨b,x⟩ e;dsimp only at e;subst e;refine aP (λ_=>ar λh=>(by cases h)) λ_=>?_
  refine aU (tP z) ?_;refine cr (iR z).length (λj x=>x.1=(j:Int)/\x.2=(w,c)/\∀ k:Nat,k<j->0<=aJ (T:=.int .i64) (iR z) (k:Int)/\aJ (T:=.int .i64) (iR z) (k:Int)<c.1) ?_ ?_ ⟨rfl,rfl,λk hk=>by omega⟩
  .rintro j ⟨a,x⟩ hj ⟨U,M,J⟩;dsimp only at U M J;subst U;subst M;refine dg ?_;refine cE (aT ?_);refine aU (rX _ _) ?_;refine b8 (λ_=>ar λh=>(by cases h)) λh=>ar ?_
   dsimp only at h ⊢;have hj32:(iR z).length<=3:=CF z;refine ⟨gM (by omega),rfl,λk hk=>?_⟩;rcases b7 k j with h1|h1
   .exact J k h1
   .rw[show k=j by omega];exact h
  .rintro⟨a,x⟩ ⟨U,M,J⟩;dsimp only at U M J;subst U;subst M;refine db (ar ?_);dsimp only;refine ⟨gM (by omega),rfl,λk hk=>?_⟩;rcases b7 k i with h1|h1
   .exact e3 k h1
   .rw[show k=i by omega,Y];exact⟨⟨o1,o2,iy (T:=.int .i64) J⟩,⟨a7,a9,se,si⟩⟩
 .rintro⟨a,x⟩ ⟨e1,e2,e3⟩;dsimp only at e1 e2 e3;subst e1;subst e2;refine db (ar λ_=>⟨⟨r0,r1,iy (T:=BA) (p:=VI c.1) λq hq=>(e3 q hq).1⟩,iy (T:=BA) (p:=VJ w k) λq hq=>(e3 q hq).2⟩)
structure VC (c:CT):Prop where
 vl:VL c.1
 tl:c.2.length=c.1.2.2.2.2.1.length
 t:∀ t∈c.2,VT t
 sv:SV0 c.1
 j:∀ k:Nat,k<c.2.length->∀ i∈(aJ (T:=v8) c.2 (k:Int)).2,VJ c.1 (k:Int) i
structure CB (c:CT):Prop where
 th:c.2.length<=1000000
 ins:∀ t∈c.2,t.2.length<=1000000
 rg:∀ t∈c.2,1<=t.1
 wx:WX c.1
 ok:jH c=af ai
theorem S4 (c:CT) (h1:c.2.length<=1000000) (h2:∀ t∈c.2,t.2.length<=1000000):Ok (jH c) λb=>b=ai->VC c:=by
 obtain⟨w,l⟩:=c;dsimp only at h1 h2;unfold jH bw bB bI aY cK aF cC;refine aX (λx=>x.2=(w,l)/\(x.1=aj->(VL w/\SV0 w)/\l.length=w.2.2.2.2.1.length)) ?_ ?_
 .refine ay (Br w) λb hb=>?_
  refine dS (λ_=>ar ⟨rfl,λh=>(by cases h)⟩) λh=>ar ⟨rfl,λM=>⟨hb h,?_⟩⟩
  simp at M;omega
 rintro⟨b,x⟩ ⟨e,I⟩;dsimp only at e I;subst e;refine aP (λ_=>ar λh=>(by cases h)) λh=>?_
 obtain⟨⟨hv,hsv⟩,hl⟩:=I h;refine cr l.length (λi x=>x.1=(i:Int)/\x.2=(w,l)/\∀ k:Nat,k<i->VT (aJ (T:=v8) l (k:Int))/\∀ q∈(aJ (T:=v8) l (k:Int)).2,VJ w (k:Int) q) ?_ ?_ ⟨rfl,rfl,λk hk=>by omega⟩
 .rintro i ⟨a,x⟩ hi ⟨e1,e2,e3⟩;dsimp only at e1 e2 e3;subst e1;subst e2;refine dg ?_;refine cE (aT ?_);have hm:=bH (T:=v8) (xs:=l) (j:=(i:Int)) (by omega) (by omega);revert hm;generalize J:(aJ (T:=v8) l (i:Int))=z;intro hm;refine ay (Ie w _ z (h2 z hm)) λb hb=>?_
  refine dS (λ_=>ar λh=>(by cases h)) λh=>ar ?_
  dsimp only;refine ⟨gM (by omega),rfl,λk hk=>?_⟩;rcases b7 k i with h1|h1
  .exact e3 k h1
  .rw[show k=i by omega,J];exact hb h
 .rintro⟨a,x⟩ ⟨e1,e2,e3⟩;dsimp only at e1 e2 e3;subst e1;subst e2;refine db (ar λ_=>⟨hv,hl,iy (T:=v8) (p:=VT) λk hk=>(e3 k hk).1,hsv,λk hk=>(e3 k hk).2⟩)
abbrev TT:Type:=Int×List Int×List (List Int)×Int
structure TL (F:Int->Prop) (E:Nat) (l:List Int):Prop where
 a:HA l
 m:∀ y∈l,0<=y/\y<(E:Int)
 f:∀ y∈l,F y
theorem Pu:∀ (l:List Int) (lo hi:Int),HA l->(∀ y∈l,lo<=y/\y<hi)->(l.length:Int)<=max 0 (hi-lo)
 |[],lo,hi,_,_=>by simp;omega
 |x::r,lo,hi,h,hm=>by
  have h1:=hm x (dC ..);have h2:=Pu r (x+1) hi h.2 λy I=>⟨by have:=h.1 y I;omega,(hm y (cO _ I)).2⟩
  rw[bZ];omega
variable {F:Int->Prop}
theorem TL.len {E:Nat} {l:List Int} (h:TL F E l):l.length<=E:=by
 have:=Pu l 0 E h.a h.m;omega
theorem TL.nil (E:Nat):TL F E []:=⟨trivial,λy I=>(by cases I),λy I=>(by cases I)⟩
theorem TL.uni {E:Nat} {a b:List Int} (J:TL F E a) (hb:TL F E b):TL F E (xj a b):=
 ⟨P1 a b,λy I=>by
   rcases If.1 I with h|h
   .exact J.m y h
   .exact hb.m y h,λy I=>(If.1 I).elim (J.f y) (hb.f y)⟩
theorem TL.mono {E M:Nat} {J:Int->Prop} {l:List Int} (h:TL F E l) (hf:E<=M) (U:∀ y,F y->J y):TL J M l:=⟨h.a,λy I=>⟨(h.m y I).1,by have:=(h.m y I).2;omega⟩,λy I=>U y (h.f y I)⟩
structure TH (F:Int->Prop) (E:Nat) (s:TT):Prop where
 r:s.2.1.length<=32
 t:s.2.2.1.length<=32
 l:∀ l∈s.2.2.1,TL F E l
 e0:0<=s.2.2.2
 e1:s.2.2.2<=(E:Int)
theorem TH.zero (E:Nat):TH F E (0,[],[],0):=⟨by simp,by simp,λl hl=>(by cases hl),by simp,by simp⟩
theorem TH.mono {E J:Nat} {I:Int->Prop} {s:TT} (h:TH F E s) (hf:E<=J) (M:∀ y,F y->I y):TH I J s:=⟨h.r,h.t,λl hl=>(h.l l hl).mono hf M,h.e0,by have:=h.e1;omega⟩
theorem c8 (s:TT) (E:Nat) (Y:E<=100000) (h:TH F E s):cg s=af ((s.1,s.2.2.2),s.2.1,s.2.2.1):=by
 obtain⟨h1,h2,U,h4,Z⟩:=h;refine cD ?_;unfold cg aV bh bw bL cN bB bF bI aY cK aF cC;refine bi (by simp;omega) (by omega) ?_;refine cr s.2.2.1.length (λi x=>x.1=(i:Int)/\x.2.1=s/\x.2.2.2.1=(s.1,s.2.2.2)/\x.2.2.2.2.1=s.2.1/\x.2.2.2.2.2=s.2.2.1.take i) ?_ ?_ ⟨rfl,rfl,rfl,rfl,rfl⟩
 .rintro i ⟨a,b,c,d,e,f⟩ hi ⟨e1,e2,e3,J,I⟩;dsimp only at e1 e2 e3 J I;subst e1;subst e2;subst I;refine dg ?_;refine cE (aT ?_);have M:=(U _ (bH (T:=.sl (.int .i64)) (xs:=b.2.2.1) (j:=(i:Int)) (by omega) (by omega))).len;refine bi (by simp only[jY,bO];exact dk M (by omega)) (by omega) ?_;refine bi (by simp;omega) (by omega) (ar ?_);dsimp only;refine ⟨gM (by omega),rfl,e3,J,?_⟩;rw[oe (T:=.sl (.int .i64)) hi];rfl
 .rintro⟨a,b,c,d,e,f⟩ ⟨e1,e2,e3,J,I⟩;dsimp only at e1 e2 e3 J I;subst e1;subst e2;subst I;refine db (ar ?_);show (d,e,_)=_;rw[e3,J,cR]
theorem wg (b:Bool):Ok (fY b) λ_=>True:=by
 unfold fY;with_reducible repeat' first|(refine OS.ok ?_;constructor)|refine IM.mk λ_=>?_
 all_goals trivial
theorem FM (n:Int):Ok (mf n) λ_=>True:=by
 unfold mf bB aF;with_reducible repeat' first|(refine OS.ok ?_;constructor)|refine IM.mk λ_=>?_
 all_goals trivial
theorem aca (x:Int×Int):Ok (uk x) λ_=>True:=by
 unfold uk bd;refine aK (λ_=>ar trivial) λ_=>aK (λ_=>?_) λ_=>ar trivial
 exact ay (wg _) λ_ _=>ar trivial
theorem Zx (x:Int×Int×Int):Ok (sq x) λ_=>True:=by
 unfold sq bd iF bF aF;have t1:∀ b,Ok (obind (fY b) λy=>af (y,ai)) λ_=>True:=λb=>ay (wg _) λ_ _=>ar trivial
 refine aK (λ_=>ar trivial) λ_=>aK (λ_=>ar trivial) λ_=>aK (λ_=>ar trivial) λ_=>?_
 refine aK (λ_=>aK (λ_=>ar trivial) λh=>yZ h (ar trivial)) λ_=>?_
 refine aK (λ_=>aK (λ_=>ar trivial) λh=>yZ h (ar trivial)) λ_=>?_
 refine aK (λ_=>t1 _) λ_=>aK (λ_=>t1 _) λ_=>aK (λ_=>t1 _) λ_=>aK (λ_=>t1 _) λ_=>aK (λ_=>t1 _) λ_=>aK (λ_=>t1 _) λ_=>?_
 refine aK (λ_=>aX (λ_=>True) (b8 (λ_=>ay (wg _) λ_ _=>ar trivial) λ_=>ay (wg _) λ_ _=>ar trivial) λ_ _=>ar trivial) λ_=>?_
 exact aK (λ_=>aX (λ_=>True) (b8 (λ_=>ay (wg _) λ_ _=>ar trivial) λ_=>ay (wg _) λ_ _=>ar trivial) λ_ _=>ar trivial) λ_=>ar trivial
theorem XQ (E:Nat) (hE:E<=100000) (i:IT) (p:Int×Int) (R:List Int) (T:List (List Int)) (hr:∀ j∈iR i,0<=j/\j<(R.length:Int)) (o1:1<=i.1) (o2:i.1<=5) (hR:R.length<=32) (I:T.length=R.length) (hl:∀ l∈T,TL F E l):Ok (wy ((i,p),R,T)) λy=>y.1.1.2=p.2/\y.2.1.length=R.length/\y.2.2.length=T.length/\∀ l∈y.2.2,TL F E l:=by
 unfold wy aV bh bw ck bd bB bF bI kF aY cK aF cC;refine aU (tP i) ?_;have h3:=CF i;refine cr (iR i).length (λj x=>x.1=(j:Int)/\x.2.1=R/\x.2.2.1=T/\x.2.2.2.1=i/\x.2.2.2.2.1=p) ?_ ?_ ⟨rfl,rfl,rfl,rfl,rfl⟩
 .rintro j ⟨a,b,c,d,e⟩ hj ⟨e1,e2,e3,Z,M⟩;dsimp only at e1 e2 e3 Z M;subst e1;subst e2;subst e3;subst Z;refine dg ?_;have hz:=hr _ (bH (T:=.int .i64) (xs:=iR d) (j:=(j:Int)) (by omega) (by omega));refine aX (λx=>x.2=(b,c,d,e)/\x.1=aj) ?_ ?_
  .refine cE (aT ?_);refine bK (λg=>?_) λ_=>?_
   .dsimp only at g;omega
   refine cE (aT (ar ⟨rfl,?_⟩));dsimp only;rw[l7];exact hz.2
  rintro⟨b',x⟩ ⟨Y,U⟩;dsimp only at Y U;subst Y;subst U;refine aP (λh=>(by cases h)) λ_=>ar ?_
  dsimp only;exact⟨gM (by omega),rfl,rfl,rfl,M⟩
 .rintro⟨a,b,c,d,e⟩ ⟨e1,e2,e3,Z,M⟩;dsimp only at e1 e2 e3 Z M;subst e1;subst e2;subst e3;subst Z;refine db ?_;obtain⟨e,e'⟩:=e;dsimp only at M;subst M;refine ay (P:=λy=>y.1.1.2=e.2/\y.2.1.length=b.length/\y.2.2.length=c.length/\∀ l∈y.2.2,TL F E l) ?_ λr hr=>ar hr
  have hA:d.1≠5->0<=d.2.1/\d.2.1<(b.length:Int):=λh5=>hr _ (by
   unfold iR;(repeat' split)<;>simp<;>omega)
  have hB:2<=d.1->d.1≠5->0<=d.2.2.1/\d.2.2.1<(b.length:Int):=λh2 h5=>hr _ (by
   unfold iR;(repeat' split)<;>simp<;>omega)
  have hC:d.1=4->0<=d.2.2.2.1/\d.2.2.2.1<(b.length:Int):=λh5=>hr _ (by
   unfold iR;(repeat' split)<;>simp<;>omega)
  have hg:∀ {j:Int},0<=j->j<(b.length:Int)->TL F E (aJ (T:=.sl (.int .i64)) c j):=λh0 h1=>hl _ (bH (T:=.sl (.int .i64)) (xs:=c) h0 (by rw[I];exact h1))
  refine aX (λx=>x.2.1=b/\x.2.2.1=c/\x.2.2.2.1=d/\x.2.2.2.2.1=e/\TL F E x.1.2.2/\d.1≠5) ?_ ?_
  .refine aK (λ_=>ar ⟨rfl,rfl,rfl,hl⟩) λJ=>?_
   refine aK (λ_=>ar ⟨rfl,rfl,rfl,rfl,TL.nil E,J⟩) λn1=>?_
   dsimp only at n1 J;obtain⟨b0,b1⟩:=hB (by omega) J;refine aK (λ_=>?_) λn2=>?_
   .refine aR b0 b1 (aR b0 b1 (aT ?_));refine aR b0 (by dsimp only;rw[I];exact b1) (aR b0 (by dsimp only;rw[I];exact b1) (aT ?_));exact ar ⟨rfl,rfl,rfl,rfl,hg b0 b1,J⟩
   refine aK (λ_=>?_) λn3=>?_
   .refine ay (FM _) λy _=>?_
    refine aR b0 b1 (aR b0 b1 (aT ?_));refine ay (aca _) λy _=>?_
    refine aR b0 (by dsimp only;rw[I];exact b1) (aR b0 (by dsimp only;rw[I];exact b1) (aT ?_));exact ar ⟨rfl,rfl,rfl,rfl,hg b0 b1,J⟩
   dsimp only at n2 n3;obtain⟨c0,c1⟩:=hC (by omega);refine ay (FM _) λy _=>?_
   refine aR b0 b1 (aR b0 b1 (aT ?_));refine aR c0 c1 (aR c0 c1 (aT ?_));refine ay (Zx _) λy _=>?_
   refine aR b0 (by dsimp only;rw[I];exact b1) (aR b0 (by dsimp only;rw[I];exact b1) (aT ?_));refine aR c0 (by dsimp only;rw[I];exact c1) (aR c0 (by dsimp only;rw[I];exact c1) (aT ?_));have g1:=hg b0 b1;have g2:=hg c0 c1;refine aU (S5 _ _ (dk g1.len (by omega)) (dk g2.len (by omega))) ?_;exact ar ⟨rfl,rfl,rfl,rfl,g1.uni g2,J⟩
  rintro⟨⟨v,ok,tn⟩,b',c',d',e',e''⟩ ⟨Y,U,f3,f4,f5,f6⟩;dsimp only at Y U f3 f4 f5 f6;subst Y;subst U;subst f3;subst f4;obtain⟨a0,a1⟩:=hA f6;have ht:=f5.len;refine bi (by simp;omega) (by omega) ?_;refine aR a0 a1 (aR a0 a1 (aR a0 (by dsimp only;rw[I];exact a1) (aR a0 (by dsimp only;rw[I];exact a1) (ar ?_))));refine ⟨rfl,bT ..,bT ..,λl hm=>?_⟩;rcases Cw hm with h|h
  .exact hl l h
  .rw[h];exact f5
theorem Y9 (E:Nat) (Z:E<=100000) (c:Int×List IT) (hc:c.2.length<=1000000) (hv:VT c) (s:TT) (h:TH F E s):Ok (mZ (c,s)) λy=>TH F E y.1/\(y.1.2.1.length=0\/y.1.2.2.2=s.2.2.2):=by
 unfold mZ aV bh bw bL dc cN bd bB jZ iF bF bI aY cK aF cC;have J:=h;obtain⟨h1,h2,h3,h4,h5⟩:=h;refine aX (λx=>x.2.1=c/\x.2.2.1=s/\(x.1=aj->(s.2.1.length:Int)=c.1/\(s.2.2.1.length:Int)=c.1)) ?_ ?_
 .refine b8 (λ_=>ar ⟨rfl,rfl,λh=>(by cases h)⟩) λg=>ar ⟨rfl,rfl,λh=>?_⟩
  simp at h;exact⟨g,h⟩
 rintro⟨b,c',s',z⟩ ⟨e1,e2,e3⟩;dsimp only at e1 e2 e3;subst e1;subst e2;refine aP (λ_=>ar ⟨TH.zero E,.inl rfl⟩) λhb=>?_
 obtain⟨q1,q2⟩:=e3 hb;refine aU (c8 s' E Z J) ?_;refine qc (λx=>((c'.2.length:Int)+1-x.1).toNat) (λx=>0<=x.1/\x.1<=(c'.2.length:Int)+1/\x.2.1=c'/\x.2.2.1.2=s'.2.2.2/\x.2.2.2.2.1.length=s'.2.1.length/\x.2.2.2.2.2.length=s'.2.2.1.length/\∀ l∈x.2.2.2.2.2,TL F E l) ?_ ⟨by dsimp only;omega,by dsimp only;omega,rfl,rfl,rfl,rfl,h3⟩;rintro⟨(n:Int),c,⟨(I:Int),ev⟩,z',R,T⟩ ⟨n0,n1,e1,e2,e3,e4,M⟩;dsimp only at n0 n1 e1 e2 e3 e4 M;subst e1;subst e2;refine gg (λg=>?_) λ_=>ar ⟨TH.zero E,.inl rfl⟩
 dsimp only[au] at g;refine aX (λx=>x.2=(c,(I,s'.2.2.2),z',R,T)/\(x.1=aj->0<=I/\I<(c.2.length:Int))) ?_ ?_
 .refine bK (λ_=>ar ⟨rfl,λh=>(by cases h)⟩) λg1=>ar ⟨rfl,λh=>?_⟩
  dsimp only at g1 h;rw[l7] at h;exact⟨g1,h⟩
 rintro⟨b',x⟩ ⟨f1,f2⟩;dsimp only at f1 f2;subst f1;refine aP (λ_=>ar ⟨TH.zero E,.inl rfl⟩) λhb=>?_
 obtain⟨p0,p1⟩:=f2 hb;refine aR p0 p1 (aT ?_);have hi:=hv.i _ (bH (T:=BA) (xs:=c.2) (j:=I) p0 p1);revert hi;generalize (aJ (T:=BA) _ _)=i;intro hi;refine aU (Fy _) ?_;refine b8 (λ_=>ar ⟨⟨by dsimp only;omega,by dsimp only;omega,M,h4,h5⟩,.inr rfl⟩) λhsil=>?_
 refine aK (λ_=>ar ⟨TH.zero E,.inl rfl⟩) λhn=>?_
 dsimp only[au] at hn;refine ay (XQ E Z i (I,s'.2.2.2) R T (λj hj=>by have:=hi.r j hj;omega) hsil.1 hsil.2 (by omega) (by omega) M) λy hy=>?_
 obtain⟨⟨⟨pc',ev'⟩,ok⟩,R',T'⟩:=y;obtain⟨k1,k2,Y,U⟩:=hy;dsimp only at k1 k2 Y U;refine cW (ly Y.symm (cW (ly k2.symm (AU ?_))));refine dS (λ_=>ar ⟨TH.zero E,.inl rfl⟩) λ_=>ar ?_
 dsimp only;rw[io (by omega) (by omega)];exact⟨⟨by omega,by omega,rfl,k1,by omega,by omega,U⟩,by omega⟩
abbrev ST:Type:=SY×List Int×List Int×List TT
structure TF (c:Int×List IT) (t:TT):Prop where
 p0:0<=t.1
 p1:t.1<(c.2.length:Int)
 r:(t.2.1.length:Int)=c.1
 t:(t.2.2.1.length:Int)=c.1
structure FSx (c:CT) (s:ST):Prop where
 vc:VC c
 cd:∀ d∈c.1.2.2.1,0<=d.2/\d.2<(c.1.2.1.length:Int)
 e3:s.1.2.2.2.length=c.1.2.2.2.2.1.length
 ce:s.2.1.length=c.1.1.length
 fu:s.2.2.1.length=c.1.2.2.2.1.length
 th:s.2.2.2.length=c.2.length
 t:∀ k:Nat,k<c.2.length->TF (aJ (T:=v8) c.2 (k:Int)) (aJ (T:=uN) s.2.2.2 (k:Int))
def FQ (L:List ET) (k:Int) (y:Int):Prop:=1<=y/\K5 L k y
structure SV (n:Nat) (L:List ET) (s:ST):Prop where
 sb:SB n s.1
 ln:L.length=n
 t:∀ k:Nat,k<s.2.2.2.length->TH (FQ L k) n (aJ (T:=uN) s.2.2.2 (k:Int))
theorem SV.ti {n:Nat} {L:List ET} {s:ST} (h:SV n L s) {k:Int} (h0:0<=k) (h1:k<(s.2.2.2.length:Int)):TH (FQ L k) n (aJ (T:=uN) s.2.2.2 k):=by
 have:=h.t k.toNat (by omega);rw[show ((k.toNat:Nat):Int)=k by omega] at this;exact this
structure TG (c:CT) (L:List ET) (sy:SY) (k:Int) (t:TT):Prop where
 ev:t.2.2.2=((fl L k).length:Int)
 wi:(aJ (T:=jE) sy.2.2.2 k).1=3\/(aJ (T:=jE) sy.2.2.2 k).1=4->(aJ (T:=BA) (aJ (T:=v8) c.2 k).2 t.1).1=21
 nw:(fl L k).length=0->(aJ (T:=jE) sy.2.2.2 k).1=0\/(aJ (T:=jE) sy.2.2.2 k).1=1
structure Lk (c:CT) (L:List ET) (s:ST):Prop where
 ac:Acw c.1 L s.1 s.2.1 s.2.2.1
 t:∀ k:Nat,k<s.2.2.2.length->(aJ (T:=uN) s.2.2.2 (k:Int)).2.1.length=0\/TG c L s.1 (k:Int) (aJ (T:=uN) s.2.2.2 (k:Int))
theorem aev (c:CT) (s:ST) (hc:CB c):Ok (ww (c,s)) λb=>b=ai->FSx c s:=by
 unfold ww aV bh dc cN bB jZ iF bI aY cK aF cC;refine aX (λx=>x.2=(c,s)/\(x.1=aj->VC c/\(∀ d∈c.1.2.2.1,0<=d.2/\d.2<(c.1.2.1.length:Int))/\s.1.2.2.2.length=c.1.2.2.2.2.1.length/\s.2.1.length=c.1.1.length/\s.2.2.1.length=c.1.2.2.2.1.length/\s.2.2.2.length=c.2.length)) ?_ ?_
 .refine ay (S4 c hc.th hc.ins) λb hb=>?_
  refine dS (λ_=>ar ⟨rfl,λh=>(by cases h)⟩) λh=>?_
  have hv:=hb h;refine ay (PO c.1 s.1 (by have:=hv.vl.d;omega)) λb2 I=>?_
  refine dS (λ_=>ar ⟨rfl,λh=>(by cases h)⟩) λh2=>?_
  obtain⟨J,_,_,Z⟩:=I h2;refine b8 (λ_=>ar ⟨rfl,λh=>(by cases h)⟩) λk1=>?_
  refine b8 (λ_=>ar ⟨rfl,λh=>(by cases h)⟩) λk2=>ar ⟨rfl,λU=>⟨hv,J,Z,?_,?_,?_⟩⟩
  .dsimp only[au] at k1;omega
  .dsimp only[au] at k2;omega
  .simp at U;omega
 rintro⟨b,x⟩ ⟨e,hb⟩;dsimp only at e hb;subst e;refine aP (λ_=>ar λh=>(by cases h)) λh=>?_
 obtain⟨hv,hcd,Y,hce,hfu,hth⟩:=hb h;have hcl:=hc.th;refine cr c.2.length (λi x=>x.1=(i:Int)/\x.2=(c,s)/\∀ k:Nat,k<i->TF (aJ (T:=v8) c.2 (k:Int)) (aJ (T:=uN) s.2.2.2 (k:Int))) ?_ ?_ ⟨rfl,rfl,λk hk=>by omega⟩
 .rintro i ⟨a,x⟩ hi ⟨e1,e2,e3⟩;dsimp only at e1 e2 e3;subst e1;subst e2;refine dg ?_;have hin:((i:Nat):Int)<(c.2.length:Int):=by omega
  refine cE (aT ?_);refine aX (λx=>x.2=(c,s)/\(x.1=aj->TF (aJ (T:=v8) c.2 (i:Int)) (aJ (T:=uN) s.2.2.2 (i:Int)))) ?_ ?_
  .refine bK (λ_=>ar ⟨rfl,λh=>(by cases h)⟩) λg0=>?_
   refine aR (by dsimp only;omega) hin (aT ?_);refine gg (λ_=>ar ⟨rfl,λh=>(by cases h)⟩) λJ=>?_
   refine aR (by dsimp only;omega) hin (aT ?_);refine b8 (λ_=>ar ⟨rfl,λh=>(by cases h)⟩) λg2=>?_
   refine aR (by dsimp only;omega) hin (aT (ar ⟨rfl,λM=>⟨g0,J,g2,?_⟩⟩));simp at M;exact M
  rintro⟨b,x⟩ ⟨e,hb⟩;dsimp only at e hb;subst e;refine aP (λ_=>ar λh=>(by cases h)) λh=>ar ?_
  dsimp only;refine ⟨gM (by omega),rfl,λk hk=>?_⟩;rcases b7 k i with h1|h1
  .exact e3 k h1
  .rw[show k=i by omega];exact hb h
 .rintro⟨a,x⟩ ⟨e1,e2,e3⟩;dsimp only at e1 e2 e3;subst e1;subst e2;refine db (ar λ_=>⟨hv,hcd,Y,hce,hfu,hth,e3⟩)
theorem agt {i:IT} (h:i.1=6\/i.1=7\/i.1=27\/i.1=10):i.2.1∈iR i:=by
 unfold iR;(repeat' split)<;>simp<;>omega
theorem ags {i:IT} (h:i.1=8\/i.1=9\/i.1=26):i.2.2.1∈iR i:=by
 unfold iR;(repeat' split)<;>simp<;>omega
theorem alb {i:IT} (h:i.1=7\/i.1=9):i.2.2.2.1∈iR i:=by
 unfold iR;(repeat' split)<;>simp<;>omega
structure KD (op k:Int):Prop where
 ld:k=3->op=6\/op=7
 st:k=4->op=8\/op=9
 br:k=5->op=10
 se:k=22->op=26
 ge:k=23->op=27
 e1:k=2->op=28
 n1:¬k=1
 n17:¬k=17
 wt:k=16->op=21
 e2:¬k=0->op=28->k=2
 d7:¬k=0->op=7->k=3
 d8:¬k=0->op=8->k=4
 d9:¬k=0->op=9->k=4
 d10:¬k=0->op=10->k=5
 d26:¬k=0->op=26->k=22
theorem aec (op:Int):Ok (wu op) λk=>KD op k:=by
 unfold wu bB kF aF;refine aX (λx=>x.2=[3,3,4,4,5,6,7,8,9,10,11,12,13,14,15,16,18,19,20,21,22,23,2]/\(x.1=aj->6<=op/\op<=28)) ?_ ?_
 .refine bK (λ_=>ar ⟨rfl,λh=>(by cases h)⟩) λg=>ar ⟨rfl,λh=>?_⟩
  dsimp only at h;rw[gh] at h;exact⟨g,h⟩
 rintro⟨b,x⟩ ⟨e,hb⟩;dsimp only at e hb;subst e;refine aP (λ_=>ar (by constructor<;>first|decide|(intro h;first|(exact (h rfl).elim)|(cases h;done)))) λh=>?_
 obtain⟨h1,h2⟩:=hb h;dsimp only;rw[io (n:=op-6) (by omega) (by omega)];refine aR (by omega) (by simp;omega) (aR (by omega) (by simp;omega) (aT (ar ?_)));have:op=6\/op=7\/op=8\/op=9\/op=10\/op=11\/op=12\/op=13\/op=14\/op=15\/op=16\/op=17\/op=18\/op=19\/op=20\/op=21\/op=22\/op=23\/op=24\/op=25\/op=26\/op=27\/op=28:=by omega
 rcases this with rfl|rfl|rfl|rfl|rfl|rfl|rfl|rfl|rfl|rfl|rfl|rfl|rfl|rfl|rfl|rfl|rfl|rfl|rfl|rfl|rfl|rfl|rfl;all_goals (constructor<;>decide)
theorem Tf (a n:Int):Ok (rm (a,n)) λr=>n=2->r=0\/r=1:=by
 unfold rm bB bF aF;refine bK (λ_=>ar λh=>(by dsimp only at *;omega)) λh=>?_
 dsimp only at h;refine yZ (by dsimp only;omega) ?_;have t1:=Int.tmod_lt_of_pos a (b:=n) (by omega);have I:=Int.lt_tmod_of_pos a (b:=n) (by omega);refine aX (λr=>n=2->r=0\/r=1) (bK (λg=>ar λh2=>?_) λg=>ar λh2=>?_) λ_ h=>ar h
 .dsimp only at g ⊢;rw[io (by omega) (by omega)];omega
 .dsimp only at g ⊢;omega
theorem QD (i:IT) (t:TT) (hr:∀ j∈iR i,0<=j/\j<(t.2.1.length:Int)):Ok (sk (i,t)) λo=>(i.1=7->i.2.2.1=3->i.2.2.2.2.1=2->o=3\/o=4)/\(i.1=9->i.2.1=3->i.2.2.2.2.1=2->o=3\/o=4):=by
 unfold sk aV bh bw bd bI aF;have J:i.1=7\/i.1=9->0<=i.2.2.2.1/\i.2.2.2.1<(t.2.1.length:Int):=λh=>hr _ (by
  unfold iR;(repeat' split)<;>simp<;>omega)
 have tr:∀ {o:Int},¬i.1=7->¬i.1=9->(i.1=7->i.2.2.1=3->i.2.2.2.2.1=2->o=3\/o=4)/\(i.1=9->i.2.1=3->i.2.2.2.2.1=2->o=3\/o=4):=λh1 h2=>⟨λh=>(h1 h).elim,λh=>(h2 h).elim⟩
 have wk:∀ {b r n:Int},b=3->n=2->(n=2->r=0\/r=1)->bn .i64 (b+r)=3\/bn .i64 (b+r)=4:=λh1 h2 I=>by
  have:=I h2;rw[io (by omega) (by omega)];omega
 refine aX (λx=>x.2=(i,t)/\(x.1=ai->i.1=6\/i.1=27)) (aK (λh=>ar ⟨rfl,λ_=>.inl h⟩) λ_=>ar ⟨rfl,λh=>.inr (bf h)⟩) ?_;rintro⟨b,x⟩ ⟨e,hb⟩;dsimp only at e hb;subst e;refine aP (λh=>ar (tr (by have:=hb h;omega) (by have:=hb h;omega))) λ_=>?_
 refine aK (λh=>?_) λM=>?_
 .exact aR (J (.inl h)).1 (J (.inl h)).2 (aT (ay (Tf _ _) λy U=>ar ⟨λ_ I Y=>wk I Y U,λh9=>by dsimp only at h;omega⟩))
 refine aK (λh=>?_) λZ=>?_
 .exact aR (J (.inr h)).1 (J (.inr h)).2 (aT (ay (Tf _ _) λy U=>ar ⟨λh7=>(M h7).elim,λ_ I Y=>wk I Y U⟩))
 refine aX (λ_=>True) ?_ λx _=>aP (λ_=>ar (tr M Z)) λ_=>ar (tr M Z)
 with_reducible repeat' first|(refine OS.ok ?_;constructor)|refine IM.mk λ_=>?_
 all_goals trivial
theorem ahc {w:WT} (I:w.1=C0) {b n:Int} (h:AR w b n):b=3/\n=2:=by
 obtain⟨b0,b1,ix,sz,sn⟩:=h;rw[I] at b1 ix sz sn;have b1:b<5:=b1;rcases (by omega:b=0\/b=1\/b=2\/b=3\/b=4) with rfl|rfl|rfl|rfl|rfl
 .exact (sz rfl).elim
 .exact (sz rfl).elim
 .exact (sz rfl).elim
 .exact⟨rfl,sn.symm⟩
 .exact cV ix (by decide)
theorem agl {w:WT} (I:w.1=C0) {o:Int} (h:o=3\/o=4):¬(aJ (T:=NK) w.1 o).2.2.1=0:=by
 rw[I];rcases h with rfl|rfl<;>decide
structure PE (n:Nat) (c:CT) (s:ST) (t:Int) (e:ET):Prop where
 fs:FSx c s
 t0:0<=t
 t1:t<(c.2.length:Int)
 et:e.1=t
 d:e.2.2.2.2.2.1.length<=n
 f:e.2.2.2.2.2.2.length<=n
 a:e.2.1=3\/e.2.1=23\/e.2.1=5->0<=(aJ (T:=BA) (aJ (T:=v8) c.2 t).2 (aJ (T:=uN) s.2.2.2 t).1).2.1/\(aJ (T:=BA) (aJ (T:=v8) c.2 t).2 (aJ (T:=uN) s.2.2.2 t).1).2.1<((aJ (T:=uN) s.2.2.2 t).2.1.length:Int)
 b:e.2.1=4\/e.2.1=22->0<=(aJ (T:=BA) (aJ (T:=v8) c.2 t).2 (aJ (T:=uN) s.2.2.2 t).1).2.2.1/\(aJ (T:=BA) (aJ (T:=v8) c.2 t).2 (aJ (T:=uN) s.2.2.2 t).1).2.2.1<((aJ (T:=uN) s.2.2.2 t).2.1.length:Int)
structure PS (c:CT) (L:List ET) (s:ST) (t:Int) (e:ET):Prop where
 tg:TG c L s.1 t (aJ (T:=uN) s.2.2.2 t)
 s1:e.2.1=1\/e.2.1=2->e.2.2.2.2.1= -1
 s2:¬(e.2.1=1\/e.2.1=2)->0<=e.2.2.2.2.1/\e.2.2.2.2.1<c.1.2.2.2.2.2.length/\(aJ (T:=x_) c.1.2.2.2.2.2 e.2.2.2.2.1).1=t
 de:0<e.2.2.2.2.2.1.length->e.2.1=5\/(e.2.1=3\/e.2.1=4)/\¬(aJ (T:=NK) c.1.1 e.2.2.1).2.2.1=0
 fr:0<e.2.2.2.2.2.2.length->e.2.1=4\/e.2.1=22
 da:HA e.2.2.2.2.2.1
 dq:∀ y∈e.2.2.2.2.2.1,FQ L t y
 fa:HA e.2.2.2.2.2.2
 fq:∀ y∈e.2.2.2.2.2.2,FQ L t y
 wt:e.2.1=16->(aJ (T:=BA) (aJ (T:=v8) c.2 t).2 (aJ (T:=uN) s.2.2.2 t).1).1=21
theorem V5 (n:Nat) (hn:n<=100000) (c:CT) (L:List ET) (s:ST) (hc:CB c) (hs:SV n L s) (hI:Lk c L s) (t:Int):Ok (nJ (c,s,t)) λy=>y.2=ai->PE n c s t y.1/\PS c L s t y.1:=by
 unfold nJ aV bh bw bL dc cN bd bB bF bI aY aF;refine aX (λx=>x.2.1=c/\x.2.2.1=s/\(x.1=aj->FSx c s/\0<=t/\t<(c.2.length:Int))) ?_ ?_
 .refine ay (aev c s hc) λb hb=>?_
  refine dS (λ_=>ar ⟨rfl,rfl,λh=>(by cases h)⟩) λh=>?_
  refine bK (λ_=>ar ⟨rfl,rfl,λh=>(by cases h)⟩) λg0=>ar ⟨rfl,rfl,λg1=>?_⟩
  dsimp only at g0 g1;rw[l7] at g1;exact⟨hb h,g0,g1⟩
 rintro⟨b,c',s',z⟩ ⟨e1,e2,hb⟩;dsimp only at e1 e2 hb;subst e1;subst e2;refine aP (λ_=>ar λh=>(by cases h)) λh=>?_
 obtain⟨hf,t0,t1⟩:=hb h;have hk:((t.toNat:Nat):Int)=t:=by omega
 have htf:=hf.t t.toNat (by omega);rw[hk] at htf;have hvt:=hf.vc.t _ (bH (T:=v8) (xs:=c'.2) (j:=t) t0 t1);have hth:=hs.ti t0 (by rw[hf.th];exact t1);have key:∀ e:ET,e.1=t->e.2.2.2.2.2.1.length<=n->e.2.2.2.2.2.2.length<=n->(e.2.1=1\/e.2.1=17\/KD (aJ (T:=BA) (aJ (T:=v8) c'.2 t).2 (aJ (T:=uN) s'.2.2.2 t).1).1 e.2.1)->PE n c' s' t e:=by
  intro e h1 h2 h3 J;have hi:=hvt.i _ (bH (T:=BA) (xs:=(aJ (T:=v8) c'.2 t).2) (j:=(aJ (T:=uN) s'.2.2.2 t).1) htf.p0 htf.p1);refine ⟨hf,t0,t1,h1,h2,h3,λh5=>?_,λh5=>?_⟩
  .rw[htf.r];rcases J with J|J|J
   .omega
   .omega
   .refine hi.r _ ?_;have a1:=J.ld;have a2:=J.ge;have a3:=J.br;revert a1 a2 a3 h5;generalize (aJ (T:=BA) (aJ (T:=v8) c'.2 t).2 (aJ (T:=uN) s'.2.2.2 t).1)=i;intro h5 a1 a2 a3;exact agt (by omega)
  .rw[htf.r];rcases J with J|J|J
   .omega
   .omega
   .refine hi.r _ ?_;have a1:=J.st;have a2:=J.se;revert a1 a2 h5;generalize (aJ (T:=BA) (aJ (T:=v8) c'.2 t).2 (aJ (T:=uN) s'.2.2.2 t).1)=i;intro h5 a1 a2;exact ags (by omega)
 have hir:=(hvt.i _ (bH (T:=BA) (xs:=(aJ (T:=v8) c'.2 t).2) (j:=(aJ (T:=uN) s'.2.2.2 t).1) htf.p0 htf.p1)).r;rw[<- htf.r] at hir;have hrg:=hc.rg _ (bH (T:=v8) (xs:=c'.2) (j:=t) t0 t1);have htg:TG c' L s'.1 t (aJ (T:=uN) s'.2.2.2 t):=by
  have:=hI.t t.toNat (by rw[hf.th];omega);rw[hk] at this;refine this.resolve_left λh=>?_
  have:=htf.r;omega
 have hvj:=hf.vc.j t.toNat (by omega);rw[hk] at hvj;have hvj:=hvj _ (bH (T:=BA) (xs:=(aJ (T:=v8) c'.2 t).2) (j:=(aJ (T:=uN) s'.2.2.2 t).1) htf.p0 htf.p1);have hC0:=hc.wx.c;refine aR t0 (by dsimp only;rw[hf.th];exact t1) (aT ?_);refine aR t0 t1 (aT ?_);refine aR htf.p0 htf.p1 (aT ?_);have t4:t<(s'.1.2.2.2.length:Int):=by rw[hf.e3,<-hf.vc.tl];exact t1
 have tz:(aJ (T:=uN) s'.2.2.2 t).2.2.1.length=(aJ (T:=uN) s'.2.2.2 t).2.1.length:=by have:=htf.r;have:=htf.t;omega
 refine aR t0 t4 (aT ?_);refine aK (λ_=>ar λ_=>⟨key _ rfl (jX _) (jX _) (.inl rfl),⟨htg,λ_=>rfl,λh=>(h (.inl rfl)).elim,λh=>(by cases h),λh=>(by cases h),trivial,λy Z=>(by cases Z),trivial,λy Z=>(by cases Z),λh=>(by cases h)⟩⟩) λ_=>?_
 refine aK (λJ=>aR t0 t4 (aT (ar λ_=>⟨key _ rfl (jX _) (jX _) (.inr (.inl rfl)),⟨htg,λh=>(by rcases h with h|h<;>cases h),λ_=>hvj.si (by rw[htg.wi (.inr J)];decide),λh=>(by cases h),λh=>(by cases h),trivial,λy Z=>(by cases Z),trivial,λy Z=>(by cases Z),λh=>(by cases h)⟩⟩))) λ_=>?_
 refine aK (λ_=>?_) λ_=>ar λh=>(by cases h)
 refine ay (aec _) λk I=>?_
 refine ay (QD _ _ hir) λo ho=>?_
 refine aK (λ_=>ar λh=>(by cases h)) λM=>?_
 have fin:∀ e:ET,e.1=t->e.2.1=k->e.2.2.1=o->e.2.2.2.2.1=(aJ (T:=BA) (aJ (T:=v8) c'.2 t).2 (aJ (T:=uN) s'.2.2.2 t).1).2.2.2.2.2->(0<e.2.2.2.2.2.1.length->(aJ (T:=BA) (aJ (T:=v8) c'.2 t).2 (aJ (T:=uN) s'.2.2.2 t).1).1=10\/(aJ (T:=BA) (aJ (T:=v8) c'.2 t).2 (aJ (T:=uN) s'.2.2.2 t).1).1=7\/(aJ (T:=BA) (aJ (T:=v8) c'.2 t).2 (aJ (T:=uN) s'.2.2.2 t).1).1=9)->(0<e.2.2.2.2.2.2.length->(aJ (T:=BA) (aJ (T:=v8) c'.2 t).2 (aJ (T:=uN) s'.2.2.2 t).1).1=8\/(aJ (T:=BA) (aJ (T:=v8) c'.2 t).2 (aJ (T:=uN) s'.2.2.2 t).1).1=9\/(aJ (T:=BA) (aJ (T:=v8) c'.2 t).2 (aJ (T:=uN) s'.2.2.2 t).1).1=26)->TL (FQ L t) n e.2.2.2.2.2.1->TL (FQ L t) n e.2.2.2.2.2.2->PE n c' s' t e/\PS c' L s' t e:=by
  intro e h1 h2 h3 J h5 h6 h7 h8;refine ⟨key e h1 h7.len h8.len (.inr (.inr (h2▸I))),htg,λh=>?_,λh=>?_,λh=>?_,λh=>?_,h7.a,h7.f,h8.a,h8.f,λh=>I.wt (h2▸h)⟩
  .rw[J];rw[h2] at h;exact hvj.se (I.e1 (h.resolve_left I.n1))
  .rw[J];rw[h2] at h;exact hvj.si λh9=>h (.inr (I.e2 M h9))
  .rw[h2,h3];rcases h5 h with g|g|g
   .exact .inl (I.d10 M g)
   .obtain⟨q1,q2⟩:=ahc hC0 (hvj.a7 g);exact .inr ⟨.inl (I.d7 M g),agl hC0 (ho.1 g q1 q2)⟩
   .obtain⟨q1,q2⟩:=ahc hC0 (hvj.a9 g);exact .inr ⟨.inr (I.d9 M g),agl hC0 (ho.2 g q1 q2)⟩
  .rw[h2];rcases h6 h with g|g|g
   .exact .inl (I.d8 M g)
   .exact .inl (I.d9 M g)
   .exact .inr (I.d26 M g)
 clear key htg hvj ho hC0 hrg;revert fin htf hvt hth hir tz I;dsimp only;generalize (aJ (T:=uN) s'.2.2.2 t)=th;generalize (aJ (T:=BA) _ th.1)=i;intro htf hvt hth hir tz I fin;have hlen:∀ {j:Int},0<=j->j<(th.2.2.1.length:Int)->TL (FQ L t) n (aJ (T:=.sl (.int .i64)) th.2.2.1 j):=λh0 h1=>hth.l _ (bH (T:=.sl (.int .i64)) (xs:=th.2.2.1) h0 h1)
 have hA:i.1=10->0<=i.2.1/\i.2.1<(th.2.2.1.length:Int):=λh=>by
  rw[tz];exact hir _ (agt (.inr (.inr (.inr h))))
 have hB:i.1=8\/i.1=9\/i.1=26->0<=i.2.2.1/\i.2.2.1<(th.2.2.1.length:Int):=λh=>by
  rw[tz];exact hir _ (ags (h))
 have hC:i.1=7\/i.1=9->0<=i.2.2.2.1/\i.2.2.2.1<(th.2.2.1.length:Int):=λh=>by
  rw[tz];exact hir _ (alb (h))
 refine aX (λx=>x.2.1=th/\x.2.2.1=i/\(x.2.2.2.1.1=t/\x.2.2.2.1.2.1=k/\x.2.2.2.1.2.2.1=o/\x.2.2.2.1.2.2.2.2=i.2.2.2.2.2)/\TL (FQ L t) n x.2.2.2.2/\(0<x.2.2.2.2.length->i.1=10\/i.1=7\/i.1=9)) ?_ ?_
 .refine aK (λh=>?_) λ_=>?_
  .obtain⟨a0,a1⟩:=hA h;refine aR a0 a1 (aT ?_);have:=hlen a0 a1;exact bi (dk this.len (by omega)) (by omega) (ar ⟨rfl,rfl,⟨rfl,rfl,rfl,rfl⟩,this,λ_=>.inl h⟩)
  refine aX (λx=>x.2.2.1=th/\x.2.2.2.1=i/\(x.2.2.2.2.1=t/\x.2.2.2.2.2.1=k/\x.2.2.2.2.2.2.1=o/\x.2.2.2.2.2.2.2.2=i.2.2.2.2.2)/\(x.1=ai->i.1=7\/i.1=9)) ?_ ?_
  .refine aK (λh=>ar ⟨rfl,rfl,⟨rfl,rfl,rfl,rfl⟩,λ_=>.inl h⟩) λ_=>ar ⟨rfl,rfl,⟨rfl,rfl,rfl,rfl⟩,λh=>.inr (bf h)⟩
  rintro⟨b,z0,th',Y,t',k',z1⟩ ⟨e1,e2,e3,U⟩;dsimp only at e1 e2 e3 U;subst e1;subst e2;refine aP (λh=>?_) λ_=>ar ⟨rfl,rfl,e3,TL.nil n,λh=>(by cases h)⟩
  obtain⟨a0,a1⟩:=hC (U h);refine aR a0 a1 (aT ?_);have:=hlen a0 a1;exact bi (dk this.len (by omega)) (by omega) (ar ⟨rfl,rfl,e3,this,λ_=>.inr (U h)⟩)
 rintro⟨z0,th',Y,⟨t',k',z1⟩,ds⟩ ⟨e1,e2,e3,hd,hd2⟩;dsimp only at e1 e2 e3 hd hd2;subst e1;subst e2;refine aX (λx=>(x.2.1.1=t/\x.2.1.2.1=k/\x.2.1.2.2.1=o/\x.2.1.2.2.2.2=Y.2.2.2.2.2)/\x.2.2.1=ds/\TL (FQ L t) n x.2.2.2/\(0<x.2.2.2.length->Y.1=8\/Y.1=9\/Y.1=26)) ?_ ?_
 .refine aX (λx=>x.2=(z0,th',Y,(t',k',z1),ds)/\(x.1=ai->Y.1=8\/Y.1=9\/Y.1=26)) ?_ ?_
  .exact aK (λh=>ar ⟨rfl,λ_=>.inl h⟩) λ_=>aK (λh=>ar ⟨rfl,λ_=>.inr (.inl h)⟩) λ_=>ar ⟨rfl,λh=>.inr (.inr (bf h))⟩
  rintro⟨b,x⟩ ⟨e,U⟩;dsimp only at e U;subst e;refine aP (λh=>?_) λ_=>ar ⟨e3,rfl,TL.nil n,λh=>(by cases h)⟩
  obtain⟨a0,a1⟩:=hB (U h);refine aR a0 a1 (aT ?_);have:=hlen a0 a1;exact bi (dk this.len (by omega)) (by omega) (ar ⟨e3,rfl,this,λ_=>U h⟩)
 rintro⟨z2,⟨t2,k2,o2,z3,si⟩,d2,f2⟩ ⟨e1,e2,h1,h2⟩;dsimp only at e1 e2 h1 h2;subst e2;obtain⟨g1,g2,g3,g4⟩:=e1;exact ar λ_=>fin _ g1 g2 g3 g4 hd2 h2 hd h1
theorem ai1 {n:Nat} {k:Int} (h0:0<=k) (h1:k<n):(aJ (T:=jE) (XM n) k).1=0\/(aJ (T:=jE) (XM n) k).1=1:=by
 have hm:=bH (T:=jE) (xs:=XM n) h0 (by rw[HK];exact h1);revert hm;generalize aJ (T:=jE) (XM n) k=z;intro hm;cases n with
 |zero=>cases hm
 |succ n=>
  rcases bl.1 hm with rfl|hm
  .exact .inr rfl
  .rw[pB hm];exact .inl rfl
theorem V2 (c:CT) (hvt:jH c=af ai) (hv:VC c):Ok (ug c) λs=>SV 0 [] s/\Lk c [] s:=by
 unfold ug aV bh bw ct bL dc cN eZ bB v9 bF bI aY cK aF cC;refine aU hvt (dS (λh=>(by cases h)) λ_=>?_);obtain⟨vc,vl,vd,Z,_,Y,_⟩:=id hv.vl;have htl:=hv.tl;refine aU (KV c.1 hv.vl) ?_;refine cr c.1.1.length (λi x=>x.1=(i:Int)/\x.2.1=c/\x.2.2.2.1=PP c.1/\x.2.2.2.2=(c.1.1.take i).map λc=>c.2.2.2.2) ?_ ?_ ⟨rfl,rfl,rfl,rfl⟩
 .rintro i ⟨a,c',z,U,l⟩ hi ⟨e1,e2,e3,I⟩;dsimp only at e1 e2 e3 I;subst e1;subst e2;subst e3;subst I;refine dg ?_;refine cE (aT (bi (by simp;omega) (by omega) (ar ?_)));dsimp only;exact⟨gM (by omega),rfl,rfl,by rw[oe (T:=NK) hi,cP];rfl⟩
 rintro⟨a,c',z,U,l⟩ ⟨e1,e2,e3,I⟩;dsimp only at e1 e2 e3 I;subst e1;subst e2;subst e3;rw[cR] at I;subst I;refine db ?_;refine ay (P:=λs=>SV 0 [] s/\Lk c' [] s) ?_ λr hr=>ar hr
 refine cr c'.1.2.2.2.1.length (λi x=>x.1=(i:Int)/\x.2.1=c'/\x.2.2.2.1=PP c'.1/\x.2.2.2.2.1=ce0 c'.1/\x.2.2.2.2.2=aG i 0) ?_ ?_ ⟨rfl,rfl,rfl,rfl,rfl⟩
 .rintro i ⟨a,c,z,y,l,f⟩ hi ⟨e1,e2,e3,I,J⟩;dsimp only at e1 e2 e3 I J;subst e1;subst e2;subst e3;subst J;refine dg ?_;refine bi (by simp;omega) (by omega) (ar ?_);dsimp only;exact⟨gM (by omega),rfl,rfl,I,by rw[D_]⟩
 rintro⟨a,c,z,y,l,f⟩ ⟨e1,e2,e3,I,J⟩;dsimp only at e1 e2 e3 I J;subst e1;subst e2;subst e3;subst I;subst J;refine db ?_;refine ay (P:=λs=>SV 0 [] s/\Lk c [] s) ?_ λr hr=>ar hr
 refine cr c.2.length (λi x=>x.1=(i:Int)/\x.2.1=c/\x.2.2.2.1=PP c.1/\x.2.2.2.2.1=ce0 c.1/\x.2.2.2.2.2.1=fu0 c.1/\x.2.2.2.2.2.2.length=i/\∀ t∈x.2.2.2.2.2.2,(∀ F,TH F 0 t)/\t.2.2.2=0) ?_ ?_ ⟨rfl,rfl,rfl,rfl,rfl,rfl,λt ht=>(by cases ht)⟩
 .rintro i ⟨a,c,z,y,l,f,th⟩ hi ⟨e1,e2,e3,I,e4b,J,M⟩;dsimp only at e1 e2 e3 I e4b J M;subst e1;subst e2;subst e3;refine dg ?_;have hin:((i:Nat):Int)<(c.2.length:Int):=by omega
  have hvt:=hv.t _ (bH (T:=v8) (xs:=c.2) (j:=(i:Int)) (by omega) hin);have q0:=hvt.r0;have q1:=hvt.r1;refine aR (by dsimp only;omega) hin (aT ?_);refine cW (cW (dv q0 (dv (eD _) (bi (by dsimp only;omega) (by omega) ?_))));refine aR (by dsimp only;omega) hin (aT ?_);refine cW (cW (dv q0 (dv (eD _) (bi (by dsimp only;omega) (by omega) ?_))));refine bi (by simp;omega) (by omega) (ar ?_);dsimp only;refine ⟨gM (by omega),rfl,rfl,I,e4b,by simp;omega,λt ht=>?_⟩;rcases bQ.1 ht with h|h
  .exact M t h
  .rw[aL] at h;subst h;refine ⟨λF=>⟨?_,?_,λl hl=>?_,eD _,eD _⟩,rfl⟩
   .dsimp only;rw[eR];omega
   .dsimp only;rw[eR];omega
   .rw[pB hl];exact TL.nil 0
 .rintro⟨a,c,z,y,l,f,th⟩ ⟨e1,e2,e3,I,e4b,J,M⟩;dsimp only at e1 e2 e3 I e4b J M;subst e1;subst e2;subst e3;subst I;subst e4b;refine db (ar ?_);have hm:∀ k:Nat,k<th.length->_:=λk hk=>M _ (bH (T:=uN) (xs:=th) (j:=(k:Int)) (by omega) (by omega))
  refine ⟨⟨T2 hv.vl,rfl,λk hk=>(hm k hk).1 _⟩,⟨.nil,λk hk=>.inr ?_⟩⟩;dsimp only at hk;have hst:=ai1 (n:=c.1.2.2.2.2.1.length) (k:=(k:Int)) (by omega) (by omega);exact⟨(hm k hk).2,λh=>(by rcases hst with q|q<;>rcases h with h|h<;>exact cV (q.symm.trans h) (by decide)),λ_=>hst⟩
theorem Ii {th:List (Int×Int×Bool)} {t x j:Int} (h0:0<=t) (h1:t<th.length) (hj:0<=j):(aJ (T:=jE) (ya th t x) j).1=if j=t then x else (aJ (T:=jE) th j).1:=by
 unfold ya;rw[rG (T:=jE) _ _ _ _ h0 h1 hj];split<;>rfl
theorem ah5 {th:List (Int×Int×Bool)} {t x j:Int} (h0:0<=t) (h1:t<th.length) (hj:0<=j):(aJ (T:=jE) (cdP th t x) j).1=(aJ (T:=jE) th j).1:=by
 unfold cdP;rw[rG (T:=jE) _ _ _ _ h0 h1 hj];split
 .rename_i h;rw[h]
 .rfl
theorem ahb {th:List (Int×Int×Bool)} {t j:Int} {x:Bool} (h0:0<=t) (h1:t<th.length) (hj:0<=j):(aJ (T:=jE) (atP th t x) j).1=(aJ (T:=jE) th j).1:=by
 unfold atP;rw[rG (T:=jE) _ _ _ _ h0 h1 hj];split
 .rename_i h;rw[h]
 .rfl
theorem agw {j:Int} (hj:0<=j):∀ (l:List Int) (th:List (Int×Int×Bool)),(∀ u:Int,u∈l->0<=u/\u<th.length)->(aJ (T:=jE) (CO th l) j).1=if j∈l then 4 else (aJ (T:=jE) th j).1
 |[],th,_=>by simp[CO]
 |x::r,th,h=>by
  have I:=h x (dC ..);have J:=agw hj r (ya th x 4) λu hu=>by unfold ya;rw[bT];exact h u (cO _ hu)
  have e:CO th (x::r)=CO (ya th x 4) r:=rfl;rw[e,J,Ii I.1 I.2 hj];by_cases h1:j∈r
  .rw[aE h1,aE (cO _ h1)]
  .rw[aA h1];by_cases h2:j=x
   .rw[aE h2,aE (by rw[h2];exact dC ..)]
   .rw[aA h2,aA λh=>(bl.1 h).elim h2 h1]
theorem H4 {l:List Int} (u:Int) (hl:¬l.length=0):Bq l u∈l:=by
 unfold Bq;rw[aA hl];split
 .rename_i h;exact s5.1 h
 .exact bH (T:=.int .i64) (by omega) (by omega)
theorem SJ {w:WT} {s:SY} {t k o u v:Int} {sy:SY} (h:(sy,v)=qX w s t k o u):qX w s t k o v=(sy,v):=by
 by_cases hk:k=18
 .subst hk;rw[Ft] at h ⊢;by_cases hl:(wl s.2.2.2 o s.2.2.2.length).length=0
  .rw[aE hl] at h ⊢;exact h.symm
  .rw[aA hl] at h ⊢;have hm:=H4 u hl;generalize wl s.2.2.2 o s.2.2.2.length=l at h hl hm ⊢;obtain⟨rfl,rfl⟩:=Prod.mk.inj h;have:Bq l (Bq l u)=Bq l u:=by
    rw[Bq,aA hl,aE (s5.2 hm)]
   rw[this]
 .rw[Xw _ _ _ _ _ _ u hk,<-h]
theorem aiy {w:WT} {s:SY} {t k o:Int} (u:Int) (he:EN w s t k o) (hr:V4 w s t k o) {j:Int} (h0:0<=j):(¬j=t->(aJ (T:=jE) (qX w s t k o u).1.2.2.2 j).1=(aJ (T:=jE) s.2.2.2 j).1\/((aJ (T:=jE) s.2.2.2 j).1=3/\(aJ (T:=jE) (qX w s t k o u).1.2.2.2 j).1=4)\/((aJ (T:=jE) s.2.2.2 j).1=0/\(aJ (T:=jE) (qX w s t k o u).1.2.2.2 j).1=1))/\(j=t->¬k=16->¬(aJ (T:=jE) (qX w s t k o u).1.2.2.2 j).1=3/\¬(aJ (T:=jE) (qX w s t k o u).1.2.2.2 j).1=4):=by
 have t0:=he.t0;have t1:t<s.2.2.2.length:=by have:=he.t1;have:=he.e3;omega
 have M:=hr.r;have hml:∀ u:Int,u∈wl s.2.2.2 o s.2.2.2.length->0<=u/\u<s.2.2.2.length:=λu hu=>⟨(q_.1 hu).1,(q_.1 hu).2.1⟩
 have h3:∀ u:Int,u∈wl s.2.2.2 o s.2.2.2.length->(aJ (T:=jE) s.2.2.2 u).1=3:=λu hu=>by
  have:=(q_.1 hu).2.2;unfold H_ at this;rw[av] at this;exact bf this.1
 have same:¬k=1->¬k=17->∀ th:List (Int×Int×Bool),(aJ (T:=jE) th j).1=(aJ (T:=jE) s.2.2.2 j).1->(¬j=t->(aJ (T:=jE) th j).1=(aJ (T:=jE) s.2.2.2 j).1\/((aJ (T:=jE) s.2.2.2 j).1=3/\(aJ (T:=jE) th j).1=4)\/((aJ (T:=jE) s.2.2.2 j).1=0/\(aJ (T:=jE) th j).1=1))/\(j=t->¬k=16->¬(aJ (T:=jE) th j).1=3/\¬(aJ (T:=jE) th j).1=4):=λa b th h=>⟨λ_=>.inl h,λh2 _=>by rw[h,h2,M a b];decide⟩
 have st:∀ x:Int,¬x=3\/k=16->¬x=4->∀ th:List (Int×Int×Bool),(aJ (T:=jE) th j).1=(if j=t then x else (aJ (T:=jE) s.2.2.2 j).1)->(¬j=t->(aJ (T:=jE) th j).1=(aJ (T:=jE) s.2.2.2 j).1\/((aJ (T:=jE) s.2.2.2 j).1=3/\(aJ (T:=jE) th j).1=4)\/((aJ (T:=jE) s.2.2.2 j).1=0/\(aJ (T:=jE) th j).1=1))/\(j=t->¬k=16->¬(aJ (T:=jE) th j).1=3/\¬(aJ (T:=jE) th j).1=4):=λx hx hx4 th h=>⟨λhn=>.inl (by rw[h,aA hn]),λh2 h16=>by rw[h,aE h2];exact⟨hx.resolve_right h16,hx4⟩⟩
 have U:∀ x:Int,t<(ya s.2.2.2 t x).length:=λx=>by unfold ya;rw[bT];exact t1
 by_cases k1:k=1
 .subst k1;exact st 2 (.inl (by decide)) (by decide) _ (Ii t0 t1 h0)
 by_cases k2:k=2
 .subst k2;exact st 5 (.inl (by decide)) (by decide) _ (Ii t0 t1 h0)
 by_cases k16:k=16
 .subst k16;exact st 3 (.inr rfl) (by decide) _ ((ah5 t0 (U _) h0).trans (Ii t0 t1 h0))
 by_cases I:k=17
 .subst I;exact st 2 (.inl (by decide)) (by decide) _ ((ah5 t0 (U _) h0).trans (Ii t0 t1 h0))
 by_cases k14:k=14
 .subst k14;exact same k1 I _ (ahb t0 t1 h0)
 by_cases k15:k=15
 .subst k15;exact same k1 I _ (ahb t0 t1 h0)
 by_cases k18:k=18
 .subst k18;rw[Ft];by_cases hl:(wl s.2.2.2 o s.2.2.2.length).length=0
  .rw[aE hl];exact same k1 I _ rfl
  .rw[aA hl];have hc:=H4 u hl;have Y:=hml _ hc;have J:=h3 _ hc;dsimp only;rw[Ii Y.1 Y.2 h0];generalize Bq (wl s.2.2.2 o s.2.2.2.length) u=c at J;by_cases hj:j=c
   .rw[aE hj,hj];exact⟨λ_=>.inr (.inl ⟨J,rfl⟩),λh _=>by rw[h,M k1 I] at J;exact cV J (by decide)⟩
   .rw[aA hj];exact⟨λ_=>.inl rfl,λh _=>by rw[h,M k1 I];decide⟩
 by_cases k19:k=19
 .subst k19;show (_->(aJ (T:=jE) (CO _ _) j).1=_\/_/\(aJ (T:=jE) (CO _ _) j).1=_\/_/\(aJ (T:=jE) (CO _ _) j).1=_)/\(_->_->¬(aJ (T:=jE) (CO _ _) j).1=_/\¬(aJ (T:=jE) (CO _ _) j).1=_)
  rw[agw h0 _ _ hml];by_cases hj:j∈wl s.2.2.2 o s.2.2.2.length
  .rw[aE hj];have J:=h3 _ hj;exact⟨λ_=>.inr (.inl ⟨J,rfl⟩),λh _=>by rw[h,M k1 I] at J;exact cV J (by decide)⟩
  .rw[aA hj];exact⟨λ_=>.inl rfl,λh _=>by rw[h,M k1 I];decide⟩
 by_cases k20:k=20
 .subst k20;obtain⟨o0,o1⟩:=he.nm.th (.inl rfl);obtain⟨hot,ho0⟩:=hr.sp rfl;have Z:o<s.2.2.2.length:=by rw[he.e3];exact o1
  show (_->(aJ (T:=jE) (ya _ _ _) j).1=_\/_/\(aJ (T:=jE) (ya _ _ _) j).1=_\/_/\(aJ (T:=jE) (ya _ _ _) j).1=_)/\(_->_->¬(aJ (T:=jE) (ya _ _ _) j).1=_/\¬(aJ (T:=jE) (ya _ _ _) j).1=_)
  rw[Ii o0 Z h0];by_cases hj:j=o
  .rw[aE hj,hj];exact⟨λ_=>.inr (.inr ⟨ho0,rfl⟩),λh _=>(hot h).elim⟩
  .rw[aA hj];exact⟨λ_=>.inl rfl,λh _=>by rw[h,M k1 I];decide⟩
 refine same k1 I _ ?_;unfold qX;rw[aA k1,aA k2];repeat' split
 all_goals first|rfl|omega
theorem aeu {e e':ET} (h1:e'.1=e.1) (h2:e'.2.1=e.2.1) (t:Int):fl [e'] t=fl [e] t:=by
 by_cases h:e.1=t
 .rw[zC h,zC (h1.trans h)];unfold tD;rw[h2]
 .rw[wJ h,wJ (λg=>h (h1.symm.trans g))]
theorem agc {L:List ET} {e e':ET} (h1:e'.1=e.1) (h2:e'.2.1=e.2.1) {k y:Int} (h:FQ (L++[e]) k y):FQ (L++[e']) k y:=by
 unfold FQ K5 at h ⊢;rw[uD,aeu h1 h2,<-uD];exact h
theorem Jl {T:Ty} (xs:List T.den) (i k:Nat) (x:T.den) (hi:i<xs.length):aJ (xs.set i x) (k:Int)=if k=i then x else aJ xs (k:Int):=by
 refine (rG xs (i:Int) (k:Int) x (by omega) (by omega) (by omega)).trans ?_;by_cases h:k=i
 .rw[aE h,aE (by omega)]
 .rw[aA h,aA (by omega)]
def SQ (n:Nat) (c:CT) (L:List ET) (y:ST×ET×Bool):Prop:=y.2.2=ai->SV (n+1) (L++[y.2.1]) y.1/\Lk c (L++[y.2.1]) y.1/\EvF c.1 y.2.1/\Zl y.2.1
theorem afu {n:Nat} (hn:n+1<=100000) {c:CT} {L:List ET} {s:ST} {i:Nat} {kd o v0 si:Int} {ds fs:List Int} {sy:SY} (hs:SV n L s) (hI:Lk c L s) (hp:PE n c s (i:Int) ((i:Int),kd,o,v0,si,ds,fs)) (hm:PS c L s (i:Int) ((i:Int),kd,o,v0,si,ds,fs)) (he:EN c.1 s.1 (i:Int) kd o) (hr:V4 c.1 s.1 (i:Int) kd o) (ha:AP n s.1 sy) (I:Int) (ce fu:List Int) (t':TT) (hap:(qX c.1 s.1 (i:Int) kd o I).1=sy) (hva:VA c.1 s.1 s.2.1 s.2.2.1 (i:Int) kd o I) (hce:ce=YO s.2.1 ((i:Int),kd,o,I,si,ds,fs)) (hfu:fu=ZB s.2.2.1 ((i:Int),kd,o,I,si,ds,fs)) (ht:TH (FQ (L++[((i:Int),kd,o,v0,si,ds,fs)]) (i:Int)) (n+1) t') (hg:t'.2.1.length=0\/t'.2.2.2=bn .i64 ((aJ (T:=uN) s.2.2.2 (i:Int)).2.2.2+1)/\(kd=16->t'.1=(aJ (T:=uN) s.2.2.2 (i:Int)).1)):SQ n c L ((sy,ce,fu,s.2.2.2.set i t'),((i:Int),kd,o,I,si,ds,fs),ai):=by
 intro _;have q1:=hp.t1;have q2:=hp.fs.th;have q3:=hp.fs.e3;have q4:=hp.fs.vc.tl;have hil:i<s.2.2.2.length:=by omega
 have hln:=hs.ln;refine ⟨⟨ha.toSB hs.sb hn,by simp[hln],λk hk=>?_⟩,⟨?_,λk hk=>?_⟩,⟨he.nm,he.t0,he.t1,he.cd⟩,⟨dk hp.d (by omega),dk hp.f (by omega)⟩⟩
 .dsimp only at hk ⊢;rw[sL] at hk;rw[Jl (T:=uN) _ _ _ _ hil];split
  .rename_i h;subst h;exact ht.mono (bP _) λy J=>agc (e:=((k:Int),kd,o,v0,si,ds,fs)) (e':=((k:Int),kd,o,I,si,ds,fs)) rfl rfl J
  .exact (hs.t k hk).mono (by omega) λy J=>⟨J.1,J.2.app _⟩
 .rw[<- hap,hce,hfu];exact hI.ac.snoc (e:=((i:Int),kd,o,I,si,ds,fs)) ⟨he,hr,hm.s1,hm.s2,hm.de,hm.fr,⟨hm.da,λx U=>⟨(hm.dq x U).1,(hm.dq x U).2.lt⟩⟩,⟨hm.fa,λx U=>⟨(hm.fq x U).1,(hm.fq x U).2.lt⟩⟩,λy J=>(hm.dq y J).2,λy J=>(hm.fq y J).2,hva⟩
 .dsimp only at hk ⊢;rw[sL] at hk;rw[Jl (T:=uN) _ _ _ _ hil];obtain⟨Ij,ZU⟩:=aiy I he hr (j:=(k:Int)) (by omega);rw[hap] at Ij ZU;have hfl:=W1 L (i:Int);split
  .rename_i h;subst h;rcases hg with hg|⟨g1,g2⟩
   .exact .inl hg
   .refine .inr ⟨?_,λZ=>?_,λM=>?_⟩
    .rw[g1,hm.tg.ev,uD,zC rfl,gM (by omega)];simp
    .have Y:kd=16:=vH λh=>Z.elim (ZU rfl h).1 (ZU rfl h).2
     rw[g2 Y];exact hm.wt Y
    .rw[uD,zC rfl] at M;simp at M
  .rename_i h;have hki:¬(k:Int)=(i:Int):=by omega
   have hfo:∀ e:ET,e.1=(i:Int)->fl (L++[e]) (k:Int)=fl L (k:Int):=λe h=>by
    rw[uD,wJ (by rw[h];exact λh=>hki h.symm),hY]
   have Ij:=Ij hki;refine (hI.t k hk).imp id λg=>⟨by rw[hfo _ rfl];exact g.ev,λZ=>g.wi (by
    rcases Ij with h1|⟨h1,_⟩|⟨_,h1⟩
    .rw[<- h1];exact Z
    .exact .inl h1
    .exact Z.elim (λh=>cV (h1.symm.trans h) (by decide)) λh=>cV (h1.symm.trans h) (by decide)),λM=>?_⟩
   rw[hfo _ rfl] at M;have g2:=g.nw M;rcases Ij with h1|⟨h1,_⟩|⟨_,h1⟩
   .rw[h1];exact g2
   .exact (g2.elim (λh=>cV (h1.symm.trans h) (by decide)) λh=>cV (h1.symm.trans h) (by decide))
   .exact .inr h1
theorem kw {α R:Type} (o:Option α):obind o (λ_=>(ah:Option R))=ah:=by cases o<;>rfl
theorem oO {R:Type} (b:Bool):chk b (λ_=>(ah:Option R))=ah:=by cases b<;>rfl
theorem rW {α R:Type} (x:α):lt x (λ_=>(ah:Option R))=ah:=rfl
def PW {R:Type} (o:Option R) (Q:R->Prop):Prop:=o=ah\/Ok o Q
theorem PW.or {R:Type} {a b:Option R} {Q:R->Prop} (I:PW a Q) (hb:PW b Q):PW (orE a b) Q:=by
 rcases I with rfl|⟨y,rfl,h⟩
 .exact hb
 .exact .inr ⟨y,rfl,h⟩
theorem Ok.orL {R:Type} {a b:Option R} {Q:R->Prop} (I:Ok a Q):Ok (orE a b) Q:=by
 obtain⟨y,rfl,h⟩:=I;exact⟨y,rfl,h⟩
theorem PW.orR {R:Type} {a b:Option R} {Q:R->Prop} (I:PW a Q) (hb:Ok b Q):Ok (orE a b) Q:=by
 rcases I with rfl|⟨y,rfl,h⟩
 .exact hb
 .exact⟨y,rfl,h⟩
theorem Ih {n:Nat} (hn:n+1<=100000) {c:CT} {L:List ET} {s:ST} {t u:Int} (hc:CB c) (hs:SV n L s) (U:Lk c L s) (G:Option (ST×ET×Bool)->Prop) (Y:∀ y,SQ n c L y->G (af y)) (k:ET×Bool->SY×Int×Bool->Option (ST×ET×Bool))
 (hk:∀ e v sy,PE n c s t e->PS c L s t e->EN c.1 s.1 t e.2.1 e.2.2.1->V4 c.1 s.1 t e.2.1 e.2.2.1->AP n s.1 sy->(sy,v)=qX c.1 s.1 t e.2.1 e.2.2.1 u->G (k (e,ai) (sy,v,ai))):
 G (obind (nJ (c,s,t)) λI=>bcase (!I.2) (af ((([],0,[],[]),[],[],[]),(0,0,0,0,0,[],[]),aj)) (obind (pl (c.1,s.1,t,I.1.2.1,I.1.2.2.1,u)) λJ=>bcase (!J.2.2) (af ((([],0,[],[]),[],[],[]),(0,0,0,0,0,[],[]),aj)) (k I J))):=by
 have M:=Y ((([],0,[],[]),[],[],[]),(0,0,0,0,0,[],[]),aj) λh=>(by cases h)
 obtain⟨⟨e,b⟩,h1,h2⟩:=V5 n (by omega) c L s hc hs U t;rw[h1,WE];cases b with
 |false=>exact M
 |true=>
  obtain⟨hp,hm⟩:=h2 rfl;have hcd:c.1.2.2.1.length<=1000:=by have:=hp.fs.vc.vl.d;omega
  obtain⟨⟨sy,v,b⟩,h3,Z,_,_⟩:=Tt c.1 s.1 hs.sb hcd t e.2.1 e.2.2.1 u;have e0:∀ {R:Type} (a b:Option R),bcase (!ai) a b=b:=λ_ _=>rfl
  rw[e0,h3,WE];cases b with
  |false=>exact M
  |true=>
   obtain⟨g1,g2,g3,g4⟩:=Z rfl;exact hk e v sy hp hm g1 g2 g3 g4
theorem Zv {E:Nat} {L:List ET} (sy:SY) (ce fu:List Int) (a:TT) (h:SV E L (sy,ce,fu,[a])) (hce:ce.length<=1000) (hfu:fu.length<=1000):mY (sy,ce,fu,[a])=af ((sy.2.1,sy.1,sy.2.2.1,sy.2.2.2).1,(sy.2.1,sy.1,sy.2.2.1,sy.2.2.2).2.1,(sy.2.1,sy.1,sy.2.2.1,sy.2.2.2).2.2.1,(sy.2.1,sy.1,sy.2.2.1,sy.2.2.2).2.2.2,(([]:List Int)++ce),(([]:List Int)++fu),((a.1,a.2.2.2),a.2.1,a.2.2.1)):=by
 have J:=h.sb.n1;have I:TH (FQ L 0) E a:=h.t 0 (by simp);refine cD ?_;unfold mY aV bL bB bF bI aY;refine aU (qM sy h.sb) ?_;refine bi (by simp;omega) (by omega) (bi (by simp;omega) (by omega) ?_);refine fD rfl (be rfl (aT (aU (c8 a E J I) ?_)));exact fI rfl (ar rfl)
theorem Tr (sy:SY) (ce fu:List Int) (l:List TT) (h0:l.length<=4) (h:l.length≠1):mY (sy,ce,fu,l)=ah:=by
 unfold mY aV bL bB bF bI aY;rcases l with _|⟨a,_|⟨b,_|⟨c,_|⟨d,_|⟨e,l⟩⟩⟩⟩⟩;all_goals first|(simp at h;done)|(exfalso;simp only[bZ] at h0;omega)|simp[fX,kw,oO,rW,bcT,bcF]
theorem Zu {E:Nat} {L:List ET} (sy:SY) (ce fu:List Int) (a b:TT) (h:SV E L (sy,ce,fu,[a,b])) (hce:ce.length<=1000) (hfu:fu.length<=1000):mX (sy,ce,fu,[a,b])=af ((sy.2.1,sy.1,sy.2.2.1,sy.2.2.2).1,(sy.2.1,sy.1,sy.2.2.1,sy.2.2.2).2.1,(sy.2.1,sy.1,sy.2.2.1,sy.2.2.2).2.2.1,(sy.2.1,sy.1,sy.2.2.1,sy.2.2.2).2.2.2,(([]:List Int)++ce),(([]:List Int)++fu),(((a.1,a.2.2.2),a.2.1,a.2.2.1).1.1,((a.1,a.2.2.2),a.2.1,a.2.2.1).1.2,((b.1,b.2.2.2),b.2.1,b.2.2.1).1.1,((b.1,b.2.2.2),b.2.1,b.2.2.1).2.1,((b.1,b.2.2.2),b.2.1,b.2.2.1).2.2,((b.1,b.2.2.2),b.2.1,b.2.2.1).1.2),((a.1,a.2.2.2),a.2.1,a.2.2.1).2):=by
 have I:=h.sb.n1;have J:TH (FQ L 0) E a:=h.t 0 (by simp);have hb:TH (FQ L 1) E b:=h.t 1 (by simp);refine cD ?_;unfold mX aV bL bB bF bI aY;refine aU (qM sy h.sb) ?_;refine bi (by simp;omega) (by omega) (bi (by simp;omega) (by omega) ?_);refine fD rfl (be rfl (aT (aU (c8 a E I J) ?_)));refine fD rfl (be rfl (aT (aU (c8 b E I hb) ?_)));exact fI rfl (ar rfl)
theorem Tq (sy:SY) (ce fu:List Int) (l:List TT) (h0:l.length<=4) (h:l.length≠2):mX (sy,ce,fu,l)=ah:=by
 unfold mX aV bL bB bF bI aY;rcases l with _|⟨a,_|⟨b,_|⟨c,_|⟨d,_|⟨e,l⟩⟩⟩⟩⟩;all_goals first|(simp at h;done)|(exfalso;simp only[bZ] at h0;omega)|simp[fX,kw,oO,rW,bcT,bcF]
theorem Zt {E:Nat} {L:List ET} (sy:SY) (ce fu:List Int) (a b:TT) (h:SV E L (sy,ce,fu,[a,b])) (hce:ce.length<=1000) (hfu:fu.length<=1000):mW (sy,ce,fu,[a,b])=af ((sy.2.1,sy.1,sy.2.2.1,sy.2.2.2).1,(sy.2.1,sy.1,sy.2.2.1,sy.2.2.2).2.1,(sy.2.1,sy.1,sy.2.2.1,sy.2.2.2).2.2.1,(sy.2.1,sy.1,sy.2.2.1,sy.2.2.2).2.2.2,(([]:List Int)++ce),(([]:List Int)++fu),((((a.1,a.2.2.2),a.2.1,a.2.2.1).1.1,((a.1,a.2.2.2),a.2.1,a.2.2.1).2.1,((a.1,a.2.2.2),a.2.1,a.2.2.1).2.2,((a.1,a.2.2.2),a.2.1,a.2.2.1).1.2),((b.1,b.2.2.2),b.2.1,b.2.2.1).1),((b.1,b.2.2.2),b.2.1,b.2.2.1).2):=by
 have I:=h.sb.n1;have J:TH (FQ L 0) E a:=h.t 0 (by simp);have hb:TH (FQ L 1) E b:=h.t 1 (by simp);refine cD ?_;unfold mW aV bL bB bF bI aY;refine aU (qM sy h.sb) ?_;refine bi (by simp;omega) (by omega) (bi (by simp;omega) (by omega) ?_);refine fD rfl (be rfl (aT (aU (c8 a E I J) ?_)));refine fD rfl (be rfl (aT (aU (c8 b E I hb) ?_)));exact fI rfl (ar rfl)
theorem Tp (sy:SY) (ce fu:List Int) (l:List TT) (h0:l.length<=4) (h:l.length≠2):mW (sy,ce,fu,l)=ah:=by
 unfold mW aV bL bB bF bI aY;rcases l with _|⟨a,_|⟨b,_|⟨c,_|⟨d,_|⟨e,l⟩⟩⟩⟩⟩;all_goals first|(simp at h;done)|(exfalso;simp only[bZ] at h0;omega)|simp[fX,kw,oO,rW,bcT,bcF]
theorem Zs {E:Nat} {L:List ET} (sy:SY) (ce fu:List Int) (a b c:TT) (h:SV E L (sy,ce,fu,[a,b,c])) (hce:ce.length<=1000) (hfu:fu.length<=1000):mV (sy,ce,fu,[a,b,c])=af ((sy.2.1,sy.1,sy.2.2.1,sy.2.2.2).1,(sy.2.1,sy.1,sy.2.2.1,sy.2.2.2).2.1,(sy.2.1,sy.1,sy.2.2.1,sy.2.2.2).2.2.1,(sy.2.1,sy.1,sy.2.2.1,sy.2.2.2).2.2.2,(([]:List Int)++ce),(([]:List Int)++fu),(((a.1,a.2.2.2),a.2.1,a.2.2.1).1.1,((a.1,a.2.2.2),a.2.1,a.2.2.1).1.2,(((b.1,b.2.2.2),b.2.1,b.2.2.1).1.1,((b.1,b.2.2.2),b.2.1,b.2.2.1).2.1,((b.1,b.2.2.2),b.2.1,b.2.2.1).2.2,((b.1,b.2.2.2),b.2.1,b.2.2.1).1.2),((c.1,c.2.2.2),c.2.1,c.2.2.1).1.1,((c.1,c.2.2.2),c.2.1,c.2.2.1).2.1,((c.1,c.2.2.2),c.2.1,c.2.2.1).2.2,((c.1,c.2.2.2),c.2.1,c.2.2.1).1.2),((a.1,a.2.2.2),a.2.1,a.2.2.1).2):=by
 have I:=h.sb.n1;have J:TH (FQ L 0) E a:=h.t 0 (by simp);have hb:TH (FQ L 1) E b:=h.t 1 (by simp);have hc:TH (FQ L 2) E c:=h.t 2 (by simp);refine cD ?_;unfold mV aV bL bB bF bI aY;refine aU (qM sy h.sb) ?_;refine bi (by simp;omega) (by omega) (bi (by simp;omega) (by omega) ?_);refine fD rfl (be rfl (aT (aU (c8 a E I J) ?_)));refine fD rfl (be rfl (aT (aU (c8 b E I hb) ?_)));refine fD rfl (be rfl (aT (aU (c8 c E I hc) ?_)));exact fI rfl (ar rfl)
theorem To (sy:SY) (ce fu:List Int) (l:List TT) (h0:l.length<=4) (h:l.length≠3):mV (sy,ce,fu,l)=ah:=by
 unfold mV aV bL bB bF bI aY;rcases l with _|⟨a,_|⟨b,_|⟨c,_|⟨d,_|⟨e,l⟩⟩⟩⟩⟩;all_goals first|(simp at h;done)|(exfalso;simp only[bZ] at h0;omega)|simp[fX,kw,oO,rW,bcT,bcF]
theorem Zr {E:Nat} {L:List ET} (sy:SY) (ce fu:List Int) (a b c:TT) (h:SV E L (sy,ce,fu,[a,b,c])) (hce:ce.length<=1000) (hfu:fu.length<=1000):mU (sy,ce,fu,[a,b,c])=af ((sy.2.1,sy.1,sy.2.2.1,sy.2.2.2).1,(sy.2.1,sy.1,sy.2.2.1,sy.2.2.2).2.1,(sy.2.1,sy.1,sy.2.2.1,sy.2.2.2).2.2.1,(sy.2.1,sy.1,sy.2.2.1,sy.2.2.2).2.2.2,(([]:List Int)++ce),(([]:List Int)++fu),((((a.1,a.2.2.2),a.2.1,a.2.2.1).1.1,((a.1,a.2.2.2),a.2.1,a.2.2.1).2.1,((a.1,a.2.2.2),a.2.1,a.2.2.1).2.2,((a.1,a.2.2.2),a.2.1,a.2.2.1).1.2),((b.1,b.2.2.2),b.2.1,b.2.2.1).1.1,((b.1,b.2.2.2),b.2.1,b.2.2.1).1.2,((c.1,c.2.2.2),c.2.1,c.2.2.1).1.1,((c.1,c.2.2.2),c.2.1,c.2.2.1).2.1,((c.1,c.2.2.2),c.2.1,c.2.2.1).2.2,((c.1,c.2.2.2),c.2.1,c.2.2.1).1.2),((b.1,b.2.2.2),b.2.1,b.2.2.1).2):=by
 have I:=h.sb.n1;have J:TH (FQ L 0) E a:=h.t 0 (by simp);have hb:TH (FQ L 1) E b:=h.t 1 (by simp);have hc:TH (FQ L 2) E c:=h.t 2 (by simp);refine cD ?_;unfold mU aV bL bB bF bI aY;refine aU (qM sy h.sb) ?_;refine bi (by simp;omega) (by omega) (bi (by simp;omega) (by omega) ?_);refine fD rfl (be rfl (aT (aU (c8 a E I J) ?_)));refine fD rfl (be rfl (aT (aU (c8 b E I hb) ?_)));refine fD rfl (be rfl (aT (aU (c8 c E I hc) ?_)));exact fI rfl (ar rfl)
theorem Tn (sy:SY) (ce fu:List Int) (l:List TT) (h0:l.length<=4) (h:l.length≠3):mU (sy,ce,fu,l)=ah:=by
 unfold mU aV bL bB bF bI aY;rcases l with _|⟨a,_|⟨b,_|⟨c,_|⟨d,_|⟨e,l⟩⟩⟩⟩⟩;all_goals first|(simp at h;done)|(exfalso;simp only[bZ] at h0;omega)|simp[fX,kw,oO,rW,bcT,bcF]
theorem Zq {E:Nat} {L:List ET} (sy:SY) (ce fu:List Int) (a b c:TT) (h:SV E L (sy,ce,fu,[a,b,c])) (hce:ce.length<=1000) (hfu:fu.length<=1000):mT (sy,ce,fu,[a,b,c])=af ((sy.2.1,sy.1,sy.2.2.1,sy.2.2.2).1,(sy.2.1,sy.1,sy.2.2.1,sy.2.2.2).2.1,(sy.2.1,sy.1,sy.2.2.1,sy.2.2.2).2.2.1,(sy.2.1,sy.1,sy.2.2.1,sy.2.2.2).2.2.2,(([]:List Int)++ce),(([]:List Int)++fu),((((a.1,a.2.2.2),a.2.1,a.2.2.1).1.1,((a.1,a.2.2.2),a.2.1,a.2.2.1).2.1,((a.1,a.2.2.2),a.2.1,a.2.2.1).2.2,((a.1,a.2.2.2),a.2.1,a.2.2.1).1.2),(((b.1,b.2.2.2),b.2.1,b.2.2.1).1.1,((b.1,b.2.2.2),b.2.1,b.2.2.1).2.1,((b.1,b.2.2.2),b.2.1,b.2.2.1).2.2,((b.1,b.2.2.2),b.2.1,b.2.2.1).1.2),((c.1,c.2.2.2),c.2.1,c.2.2.1).1),((c.1,c.2.2.2),c.2.1,c.2.2.1).2):=by
 have I:=h.sb.n1;have J:TH (FQ L 0) E a:=h.t 0 (by simp);have hb:TH (FQ L 1) E b:=h.t 1 (by simp);have hc:TH (FQ L 2) E c:=h.t 2 (by simp);refine cD ?_;unfold mT aV bL bB bF bI aY;refine aU (qM sy h.sb) ?_;refine bi (by simp;omega) (by omega) (bi (by simp;omega) (by omega) ?_);refine fD rfl (be rfl (aT (aU (c8 a E I J) ?_)));refine fD rfl (be rfl (aT (aU (c8 b E I hb) ?_)));refine fD rfl (be rfl (aT (aU (c8 c E I hc) ?_)));exact fI rfl (ar rfl)
theorem Tl (sy:SY) (ce fu:List Int) (l:List TT) (h0:l.length<=4) (h:l.length≠3):mT (sy,ce,fu,l)=ah:=by
 unfold mT aV bL bB bF bI aY;rcases l with _|⟨a,_|⟨b,_|⟨c,_|⟨d,_|⟨e,l⟩⟩⟩⟩⟩;all_goals first|(simp at h;done)|(exfalso;simp only[bZ] at h0;omega)|simp[fX,kw,oO,rW,bcT,bcF]
theorem Zp {E:Nat} {L:List ET} (sy:SY) (ce fu:List Int) (a b c d:TT) (h:SV E L (sy,ce,fu,[a,b,c,d])) (hce:ce.length<=1000) (hfu:fu.length<=1000):mS (sy,ce,fu,[a,b,c,d])=af ((sy.2.1,sy.1,sy.2.2.1,sy.2.2.2).1,(sy.2.1,sy.1,sy.2.2.1,sy.2.2.2).2.1,(sy.2.1,sy.1,sy.2.2.1,sy.2.2.2).2.2.1,(sy.2.1,sy.1,sy.2.2.1,sy.2.2.2).2.2.2,(([]:List Int)++ce),(([]:List Int)++fu),(((a.1,a.2.2.2),a.2.1,a.2.2.1).1.1,((a.1,a.2.2.2),a.2.1,a.2.2.1).1.2,(((b.1,b.2.2.2),b.2.1,b.2.2.1).1.1,((b.1,b.2.2.2),b.2.1,b.2.2.1).2.1,((b.1,b.2.2.2),b.2.1,b.2.2.1).2.2,((b.1,b.2.2.2),b.2.1,b.2.2.1).1.2),(((c.1,c.2.2.2),c.2.1,c.2.2.1).1.1,((c.1,c.2.2.2),c.2.1,c.2.2.1).2.1,((c.1,c.2.2.2),c.2.1,c.2.2.1).2.2,((c.1,c.2.2.2),c.2.1,c.2.2.1).1.2),((d.1,d.2.2.2),d.2.1,d.2.2.1).1.1,((d.1,d.2.2.2),d.2.1,d.2.2.1).2.1,((d.1,d.2.2.2),d.2.1,d.2.2.1).2.2,((d.1,d.2.2.2),d.2.1,d.2.2.1).1.2),((a.1,a.2.2.2),a.2.1,a.2.2.1).2):=by
 have I:=h.sb.n1;have J:TH (FQ L 0) E a:=h.t 0 (by simp);have hb:TH (FQ L 1) E b:=h.t 1 (by simp);have hc:TH (FQ L 2) E c:=h.t 2 (by simp);have hd:TH (FQ L 3) E d:=h.t 3 (by simp);refine cD ?_;unfold mS aV bL bB bF bI aY;refine aU (qM sy h.sb) ?_;refine bi (by simp;omega) (by omega) (bi (by simp;omega) (by omega) ?_);refine fD rfl (be rfl (aT (aU (c8 a E I J) ?_)));refine fD rfl (be rfl (aT (aU (c8 b E I hb) ?_)));refine fD rfl (be rfl (aT (aU (c8 c E I hc) ?_)));refine fD rfl (be rfl (aT (aU (c8 d E I hd) ?_)));exact fI rfl (ar rfl)
theorem Tk (sy:SY) (ce fu:List Int) (l:List TT) (h0:l.length<=4) (h:l.length≠4):mS (sy,ce,fu,l)=ah:=by
 unfold mS aV bL bB bF bI aY;rcases l with _|⟨a,_|⟨b,_|⟨c,_|⟨d,_|⟨e,l⟩⟩⟩⟩⟩;all_goals first|(simp at h;done)|(exfalso;simp only[bZ] at h0;omega)|simp[fX,kw,oO,rW,bcT,bcF]
theorem Zo {E:Nat} {L:List ET} (sy:SY) (ce fu:List Int) (a b c d:TT) (h:SV E L (sy,ce,fu,[a,b,c,d])) (hce:ce.length<=1000) (hfu:fu.length<=1000):mR (sy,ce,fu,[a,b,c,d])=af ((sy.2.1,sy.1,sy.2.2.1,sy.2.2.2).1,(sy.2.1,sy.1,sy.2.2.1,sy.2.2.2).2.1,(sy.2.1,sy.1,sy.2.2.1,sy.2.2.2).2.2.1,(sy.2.1,sy.1,sy.2.2.1,sy.2.2.2).2.2.2,(([]:List Int)++ce),(([]:List Int)++fu),((((a.1,a.2.2.2),a.2.1,a.2.2.1).1.1,((a.1,a.2.2.2),a.2.1,a.2.2.1).2.1,((a.1,a.2.2.2),a.2.1,a.2.2.1).2.2,((a.1,a.2.2.2),a.2.1,a.2.2.1).1.2),((b.1,b.2.2.2),b.2.1,b.2.2.1).1.1,((b.1,b.2.2.2),b.2.1,b.2.2.1).1.2,(((c.1,c.2.2.2),c.2.1,c.2.2.1).1.1,((c.1,c.2.2.2),c.2.1,c.2.2.1).2.1,((c.1,c.2.2.2),c.2.1,c.2.2.1).2.2,((c.1,c.2.2.2),c.2.1,c.2.2.1).1.2),((d.1,d.2.2.2),d.2.1,d.2.2.1).1.1,((d.1,d.2.2.2),d.2.1,d.2.2.1).2.1,((d.1,d.2.2.2),d.2.1,d.2.2.1).2.2,((d.1,d.2.2.2),d.2.1,d.2.2.1).1.2),((b.1,b.2.2.2),b.2.1,b.2.2.1).2):=by
 have I:=h.sb.n1;have J:TH (FQ L 0) E a:=h.t 0 (by simp);have hb:TH (FQ L 1) E b:=h.t 1 (by simp);have hc:TH (FQ L 2) E c:=h.t 2 (by simp);have hd:TH (FQ L 3) E d:=h.t 3 (by simp);refine cD ?_;unfold mR aV bL bB bF bI aY;refine aU (qM sy h.sb) ?_;refine bi (by simp;omega) (by omega) (bi (by simp;omega) (by omega) ?_);refine fD rfl (be rfl (aT (aU (c8 a E I J) ?_)));refine fD rfl (be rfl (aT (aU (c8 b E I hb) ?_)));refine fD rfl (be rfl (aT (aU (c8 c E I hc) ?_)));refine fD rfl (be rfl (aT (aU (c8 d E I hd) ?_)));exact fI rfl (ar rfl)
theorem Tj (sy:SY) (ce fu:List Int) (l:List TT) (h0:l.length<=4) (h:l.length≠4):mR (sy,ce,fu,l)=ah:=by
 unfold mR aV bL bB bF bI aY;rcases l with _|⟨a,_|⟨b,_|⟨c,_|⟨d,_|⟨e,l⟩⟩⟩⟩⟩;all_goals first|(simp at h;done)|(exfalso;simp only[bZ] at h0;omega)|simp[fX,kw,oO,rW,bcT,bcF]
theorem Zn {E:Nat} {L:List ET} (sy:SY) (ce fu:List Int) (a b c d:TT) (h:SV E L (sy,ce,fu,[a,b,c,d])) (hce:ce.length<=1000) (hfu:fu.length<=1000):mQ (sy,ce,fu,[a,b,c,d])=af ((sy.2.1,sy.1,sy.2.2.1,sy.2.2.2).1,(sy.2.1,sy.1,sy.2.2.1,sy.2.2.2).2.1,(sy.2.1,sy.1,sy.2.2.1,sy.2.2.2).2.2.1,(sy.2.1,sy.1,sy.2.2.1,sy.2.2.2).2.2.2,(([]:List Int)++ce),(([]:List Int)++fu),((((a.1,a.2.2.2),a.2.1,a.2.2.1).1.1,((a.1,a.2.2.2),a.2.1,a.2.2.1).2.1,((a.1,a.2.2.2),a.2.1,a.2.2.1).2.2,((a.1,a.2.2.2),a.2.1,a.2.2.1).1.2),(((b.1,b.2.2.2),b.2.1,b.2.2.1).1.1,((b.1,b.2.2.2),b.2.1,b.2.2.1).2.1,((b.1,b.2.2.2),b.2.1,b.2.2.1).2.2,((b.1,b.2.2.2),b.2.1,b.2.2.1).1.2),((c.1,c.2.2.2),c.2.1,c.2.2.1).1.1,((c.1,c.2.2.2),c.2.1,c.2.2.1).1.2,((d.1,d.2.2.2),d.2.1,d.2.2.1).1.1,((d.1,d.2.2.2),d.2.1,d.2.2.1).2.1,((d.1,d.2.2.2),d.2.1,d.2.2.1).2.2,((d.1,d.2.2.2),d.2.1,d.2.2.1).1.2),((c.1,c.2.2.2),c.2.1,c.2.2.1).2):=by
 have I:=h.sb.n1;have J:TH (FQ L 0) E a:=h.t 0 (by simp);have hb:TH (FQ L 1) E b:=h.t 1 (by simp);have hc:TH (FQ L 2) E c:=h.t 2 (by simp);have hd:TH (FQ L 3) E d:=h.t 3 (by simp);refine cD ?_;unfold mQ aV bL bB bF bI aY;refine aU (qM sy h.sb) ?_;refine bi (by simp;omega) (by omega) (bi (by simp;omega) (by omega) ?_);refine fD rfl (be rfl (aT (aU (c8 a E I J) ?_)));refine fD rfl (be rfl (aT (aU (c8 b E I hb) ?_)));refine fD rfl (be rfl (aT (aU (c8 c E I hc) ?_)));refine fD rfl (be rfl (aT (aU (c8 d E I hd) ?_)));exact fI rfl (ar rfl)
theorem Ti (sy:SY) (ce fu:List Int) (l:List TT) (h0:l.length<=4) (h:l.length≠4):mQ (sy,ce,fu,l)=ah:=by
 unfold mQ aV bL bB bF bI aY;rcases l with _|⟨a,_|⟨b,_|⟨c,_|⟨d,_|⟨e,l⟩⟩⟩⟩⟩;all_goals first|(simp at h;done)|(exfalso;simp only[bZ] at h0;omega)|simp[fX,kw,oO,rW,bcT,bcF]
theorem Zm {E:Nat} {L:List ET} (sy:SY) (ce fu:List Int) (a b c d:TT) (h:SV E L (sy,ce,fu,[a,b,c,d])) (hce:ce.length<=1000) (hfu:fu.length<=1000):mP (sy,ce,fu,[a,b,c,d])=af ((sy.2.1,sy.1,sy.2.2.1,sy.2.2.2).1,(sy.2.1,sy.1,sy.2.2.1,sy.2.2.2).2.1,(sy.2.1,sy.1,sy.2.2.1,sy.2.2.2).2.2.1,(sy.2.1,sy.1,sy.2.2.1,sy.2.2.2).2.2.2,(([]:List Int)++ce),(([]:List Int)++fu),((((a.1,a.2.2.2),a.2.1,a.2.2.1).1.1,((a.1,a.2.2.2),a.2.1,a.2.2.1).2.1,((a.1,a.2.2.2),a.2.1,a.2.2.1).2.2,((a.1,a.2.2.2),a.2.1,a.2.2.1).1.2),(((b.1,b.2.2.2),b.2.1,b.2.2.1).1.1,((b.1,b.2.2.2),b.2.1,b.2.2.1).2.1,((b.1,b.2.2.2),b.2.1,b.2.2.1).2.2,((b.1,b.2.2.2),b.2.1,b.2.2.1).1.2),(((c.1,c.2.2.2),c.2.1,c.2.2.1).1.1,((c.1,c.2.2.2),c.2.1,c.2.2.1).2.1,((c.1,c.2.2.2),c.2.1,c.2.2.1).2.2,((c.1,c.2.2.2),c.2.1,c.2.2.1).1.2),((d.1,d.2.2.2),d.2.1,d.2.2.1).1),((d.1,d.2.2.2),d.2.1,d.2.2.1).2):=by
 have I:=h.sb.n1;have J:TH (FQ L 0) E a:=h.t 0 (by simp);have hb:TH (FQ L 1) E b:=h.t 1 (by simp);have hc:TH (FQ L 2) E c:=h.t 2 (by simp);have hd:TH (FQ L 3) E d:=h.t 3 (by simp);refine cD ?_;unfold mP aV bL bB bF bI aY;refine aU (qM sy h.sb) ?_;refine bi (by simp;omega) (by omega) (bi (by simp;omega) (by omega) ?_);refine fD rfl (be rfl (aT (aU (c8 a E I J) ?_)));refine fD rfl (be rfl (aT (aU (c8 b E I hb) ?_)));refine fD rfl (be rfl (aT (aU (c8 c E I hc) ?_)));refine fD rfl (be rfl (aT (aU (c8 d E I hd) ?_)));exact fI rfl (ar rfl)
theorem Th (sy:SY) (ce fu:List Int) (l:List TT) (h0:l.length<=4) (h:l.length≠4):mP (sy,ce,fu,l)=ah:=by
 unfold mP aV bL bB bF bI aY;rcases l with _|⟨a,_|⟨b,_|⟨c,_|⟨d,_|⟨e,l⟩⟩⟩⟩⟩;all_goals first|(simp at h;done)|(exfalso;simp only[bZ] at h0;omega)|simp[fX,kw,oO,rW,bcT,bcF]
theorem kdx (k:Int):k=1\/k=16\/k=2\/k=3\/k=23\/k=4\/k=22\/k=5\/((k=1)=False/\(k=16)=False/\(k=2)=False/\(k=3)=False/\(k=23)=False/\(k=4)=False/\(k=22)=False/\(k=5)=False):=by
 by_cases h:k=1\/k=16\/k=2\/k=3\/k=23\/k=4\/k=22\/k=5
 .omega
 .repeat (first|exact⟨eq_false (by omega),eq_false (by omega),eq_false (by omega),eq_false (by omega),eq_false (by omega),eq_false (by omega),eq_false (by omega),eq_false (by omega)⟩|refine Or.inr ?_)
def KR {Z:Type} (n:Nat) (I:CT) (L:List ET) (i:Nat) (u:Int) (l:List TT) (z:Z) (k:Int->(CT×SY×(Int×Int)×Int×(Int×Int×Int×Int×Int)×ET×(Int×Int)×(List Int)×(List Int)×Z×(List Int)×List (List Int))->Option (ST×ET×Bool)):Prop:=
 ∀ (F:Int->Prop) (p:Int) (sy:SY) (kd o v si:Int) (ds fs ce fu R:List Int) (T:List (List Int)) (ev:Int),
  (kd≠16->kd≠2->Ok (mZ (aJ (T:=v8) I.2 (i:Int),(p,R,T,bn .i64 (ev+1)))) λy=>TH F (n+1) y.1/\(y.1.2.1.length=0\/y.1.2.2.2=bn .i64 (ev+1)))->
  (kd=16\/kd=2->TH F (n+1) (p,R,T,bn .i64 (ev+1)))->
  (∀ t',TH F (n+1) t'->(t'.2.1.length=0\/t'.2.2.2=bn .i64 (ev+1)/\(kd=16->t'.1=p))->SQ n I L ((sy,ce,fu,l.set i t'),((i:Int),kd,o,v,si,ds,fs),ai))->(i:Int)<(I.2.length:Int)->
  ∀ J,Ok (k p (I,sy,((i:Int),u),0,(0,0,0,0,0),((i:Int),kd,o,v,si,ds,fs),(J,ev),ce,fu,z,R,T)) (SQ n I L)
theorem Bs {Z:Type} (N i:Nat) {M:SY×(List Int)×(List Int)×List TT->Option (Int×(List (Int×List Int))×(List Bool)×(List (Int×Int×Bool))×(List Int)×(List Int)×Z×(List Int)×List (List Int))} {pc ev:Z->Int} {k:Int->(CT×SY×(Int×Int)×Int×(Int×Int×Int×Int×Int)×ET×(Int×Int)×(List Int)×(List Int)×Z×(List Int)×List (List Int))->Option (ST×ET×Bool)} {n:Nat} (hn:n+1<=100000) (I:CT) (L:List ET) (s:ST) (t u:Int) (hc:CB I) (hs:SV n L s) (hI:Lk I L s)
 (h0:∀ sy ce fu (l:List TT),l.length<=4->l.length≠N->M (sy,ce,fu,l)=ah)
 (h1:∀ sy ce fu (l:List TT),SV n L (sy,ce,fu,l)->ce.length<=1000->fu.length<=1000->l.length=N->i<N/\∃ y,M (sy,ce,fu,l)=af y/\y.2.2.2.2.1=ce/\y.2.2.2.2.2.1=fu/\y.2.2.2.2.2.2.2.1=(aJ (T:=uN) l (i:Int)).2.1/\y.2.2.2.2.2.2.2.2=(aJ (T:=uN) l (i:Int)).2.2.1/\pc y.2.2.2.2.2.2.1=(aJ (T:=uN) l (i:Int)).1/\ev y.2.2.2.2.2.2.1=(aJ (T:=uN) l (i:Int)).2.2.2/\KR n I L i u l y.2.2.2.2.2.2.1 k):
 PW (SG (i:Int) M pc ev k (I,s,t,u)) (SQ n I L)/\(s.2.2.2.length=N->t=(i:Int)->Ok (SG (i:Int) M pc ev k (I,s,t,u)) (SQ n I L)):=by
 by_cases hz:s.2.2.2.length=N/\t=(i:Int)
 .obtain⟨U,rfl⟩:=hz;suffices h:Ok (SG (i:Int) M pc ev k (I,s,(i:Int),u)) (SQ n I L) from ⟨.inr h,λ_ _=>h⟩
  unfold SG xd D9 Prod.p12 aV bh bw ct dQ iU uV xf Prod.q10 Lb Prod.q13 bL dc mq Ny ck bd bI kF aF;refine Ih hn hc hs hI (λo=>Ok o (SQ n I L)) (λy h=>ar h) _ λe v sy hp hm he hr ha hq=>?_
  obtain⟨sy0,ce,fu,l⟩:=s;obtain⟨e1,kd,o,e4,site,ds,fs⟩:=e;have het:=hp.et;dsimp only at U he hr ha hq het;subst het;have vl:=hp.fs.vc.vl;have hce:=hp.fs.ce;have hfu:=hp.fs.fu;dsimp only at hce hfu;obtain⟨hiN,⟨q1,q2,q3,q4,ce',fu',z,R0,T0⟩,hcp,g1,g2,g3,g4,hpc,hve,hk⟩:=h1 sy0 ce fu l hs (by have:=vl.c;omega) (by have:=vl.f;omega) U;dsimp only at g1 g2 g3 g4 hpc hve hk;rw[g1,g2,g3,g4] at hcp;obtain⟨_,_,nmce,_,_,_,nmfu,_,_,_⟩:=id he.nm;have t1:(i:Int)<(I.2.length:Int):=hp.t1;have htf:TF (aJ (T:=v8) I.2 (i:Int)) (aJ (T:=uN) l (i:Int)):=hp.fs.t i (by omega);have hA:=hp.a;have Y:=hp.b;dsimp only at hA Y;have hvt:=hp.fs.vc.t _ (bH (T:=v8) (xs:=I.2) (j:=(i:Int)) (by omega) t1);have hci:=hc.ins _ (bH (T:=v8) (xs:=I.2) (j:=(i:Int)) (by omega) t1);have hth:TH (FQ L (i:Int)) n (aJ (T:=uN) l (i:Int)):=hs.t i (by dsimp only;omega);have done:=afu hn hs hI hp hm he hr ha;have htg:=hm.tg;have hrun:=hr.r;dsimp only at done htg;have hgv:kd=3\/kd=23->FQ (L++[((i:Int),kd,o,e4,site,ds,fs)]) (i:Int) (aJ (T:=uN) l (i:Int)).2.2.2:=λh3=>by
   have h2:=hrun (by omega) (by omega);have hn0:¬(fl L (i:Int)).length=0:=λh=>(htg.nw h).elim (λg=>cV (h2.symm.trans g) (by decide)) λg=>cV (h2.symm.trans g) (by decide)
   refine ⟨by rw[htg.ev];omega,K5.last (e:=((i:Int),kd,o,e4,site,ds,fs)) ?_ htg.ev⟩;unfold tD;rcases h3 with h|h
   .rw[aO h];rfl
   .simp[h]
  have vaA:¬kd=3->¬kd=23->¬kd=5->VA I.1 sy0 ce fu (i:Int) kd o v:=λa b c=>⟨λh=>(a h).elim,λh=>(b h).elim,λh=>(c h).elim,λ_ _ _ _ _=>by rw[SJ hq]⟩
  have apA:(qX I.1 sy0 (i:Int) kd o v).1=sy:=by rw[SJ hq]
  have apB:¬kd=18->∀ v',(qX I.1 sy0 (i:Int) kd o v').1=sy:=λh v'=>by rw[Xw _ _ _ _ _ _ u h,<-hq]
  have keep:∀ x∈(aJ (T:=uN) l (i:Int)).2.2.1,TL (FQ (L++[((i:Int),kd,o,e4,site,ds,fs)]) (i:Int)) (n+1) x:=λx hx=>(hth.l x hx).mono (by omega) λy J=>⟨J.1,J.2.app _⟩
  clear g3 g4 hm hI hrun htg;revert done hgv keep;generalize FQ (L++[((i:Int),kd,o,e4,site,ds,fs)]) (i:Int)=F;generalize aJ (T:=uN) l (i:Int)=th at hcp hpc hve htf hA Y hth ⊢;intro done hgv keep;refine aU hcp ?_;dsimp only;rw[hpc,hve];refine fD (aO rfl) ?_;refine aR (by omega) t1 (aT (aR htf.p0 htf.p1 (aT ?_)));have htz:th.2.2.1.length=th.2.1.length:=by have:=htf.r;have:=htf.t;omega
  have fin:∀ (p:Int) (R:List Int) (T:List (List Int)),R.length=th.2.1.length->T.length=th.2.2.1.length->(∀ x∈T,TL F (n+1) x)->Ok (mZ (aJ (T:=v8) I.2 (i:Int),(p,R,T,bn .i64 (th.2.2.2+1)))) λy=>TH F (n+1) y.1/\(y.1.2.1.length=0\/y.1.2.2.2=bn .i64 (th.2.2.2+1)):=λp R T h1 h2 h3=>by
   have a1:=hth.e0;have a2:=hth.e1;have a3:=hth.r;have a4:=hth.t;rw[io (n:=th.2.2.2+1) (by omega) (by omega)];exact Y9 (n+1) hn _ hci hvt _ ⟨by dsimp only;omega,by dsimp only;omega,h3,by dsimp only;omega,by dsimp only;omega⟩
  have mark:kd=3\/kd=23->∀ j:Int,∀ x∈cq th.2.2.1 j [th.2.2.2],TL F (n+1) x:=λh3 j x hx=>by
   rcases Cw hx with h|h
   .exact keep x h
   .rw[h];exact⟨⟨λy J=>(by cases J),trivial⟩,λy J=>by rw[aL] at J;have:=hth.e0;have:=hth.e1;rw[J];exact⟨by omega,by omega⟩,λy J=>by rw[aL] at J;rw[J];exact hgv h3⟩
  have nopark:TH F (n+1) (th.1,th.2.1,th.2.2.1,bn .i64 (th.2.2.2+1)):=by
   have a1:=hth.e0;have a2:=hth.e1;rw[io (n:=th.2.2.2+1) (by omega) (by omega)];exact⟨hth.r,hth.t,keep,by dsimp only;omega,by dsimp only;omega⟩
  clear hp hs hc h0 h1 hcp g1 g2 hr ha hq he;generalize (aJ (T:=BA) (aJ (T:=v8) I.2 (i:Int)).2 th.1)=ins at hA Y ⊢;rcases kdx kd with rfl|rfl|rfl|rfl|rfl|rfl|rfl|rfl|⟨k1,k2,k3,k4,k5,k6,k7,k8⟩
  case inr.inr.inr.inr.inr.inr.inr.inr=>
   simp only[k1,k2,k3,k4,k5,k6,k7,k8,aZ,bp,s8];refine hk F _ _ _ _ _ _ _ _ _ _ _ _ _ (λ_ _=>fin _ _ _ rfl rfl keep) (λh=>by rw[k2,k3] at h;exact (h.elim id id).elim) (λt' h g=>?_) t1 _;exact done v ce fu t' apA (vaA (of_eq_false k4) (of_eq_false k5) (of_eq_false k8)) (aA (of_eq_false k6)).symm (aA (of_eq_false k7)).symm h (g.imp id λh=>⟨h.1,λh2=>(of_eq_false k2 h2).elim⟩)
  all_goals simp only[aZ,bp,s8]
  .refine hk F _ _ _ _ _ _ _ _ _ _ _ _ _ (λ_ _=>fin _ _ _ rfl rfl keep) (λh=>by omega) (λt' h g=>?_) t1 _;exact done v ce fu t' apA (vaA (by decide) (by decide) (by decide)) rfl rfl h (g.imp id λh=>⟨h.1,λh2=>(by cases h2)⟩)
  .refine hk F _ _ _ _ _ _ _ _ _ _ _ _ _ (λh _=>(h rfl).elim) (λ_=>nopark) (λt' h g=>?_) t1 _;exact done v ce fu t' apA (vaA (by decide) (by decide) (by decide)) rfl rfl h g
  .refine hk F _ _ _ _ _ _ _ _ _ _ _ _ _ (λ_ h=>(h rfl).elim) (λ_=>nopark) (λt' h g=>?_) t1 _;exact done v ce fu t' apA (vaA (by decide) (by decide) (by decide)) rfl rfl h (g.imp id λh=>⟨h.1,λh2=>(by cases h2)⟩)
  .obtain⟨o0,o1⟩:=nmce (.inl rfl);rw[<- hce] at o1;obtain⟨a0,a1⟩:=hA (.inl rfl);have a2:ins.2.1<(th.2.2.1.length:Int):=by rw[htz];exact a1
   refine gA (aR o0 o1 (aR o0 o1 (ar ?_)));simp only[aZ,bp,s8];refine gA (aR a0 a1 (aR a0 a1 (aR a0 a2 (aR a0 a2 (ar ?_)))));refine hk F _ _ _ _ _ _ _ _ _ _ _ _ _ (λ_ _=>fin _ _ _ (bT ..) (bT ..) (mark (.inl rfl) _)) (λh=>by omega) (λt' h g=>?_) t1 _;exact done _ ce fu t' (apB (by decide) _) ⟨λ_=>rfl,λh=>(by cases h),λh=>(by cases h),λh=>(h rfl).elim⟩ rfl rfl h (g.imp id λh=>⟨h.1,λh2=>(by cases h2)⟩)
  .obtain⟨o0,o1⟩:=nmfu (.inr rfl);rw[<- hfu] at o1;obtain⟨a0,a1⟩:=hA (.inr (.inl rfl));have a2:ins.2.1<(th.2.2.1.length:Int):=by rw[htz];exact a1
   refine gA (aR o0 o1 (aR o0 o1 (ar ?_)));simp only[aZ,bp,s8];refine gA (aR a0 a1 (aR a0 a1 (aR a0 a2 (aR a0 a2 (ar ?_)))));refine hk F _ _ _ _ _ _ _ _ _ _ _ _ _ (λ_ _=>fin _ _ _ (bT ..) (bT ..) (mark (.inr rfl) _)) (λh=>by omega) (λt' h g=>?_) t1 _;exact done _ ce fu t' (apB (by decide) _) ⟨λh=>(by cases h),λ_=>rfl,λh=>(by cases h),λ_ h=>(h rfl).elim⟩ rfl rfl h (g.imp id λh=>⟨h.1,λh2=>(by cases h2)⟩)
  .obtain⟨o0,o1⟩:=nmce (.inr rfl);rw[<- hce] at o1;obtain⟨a0,a1⟩:=Y (.inl rfl);refine gA (aR a0 a1 (aR a0 a1 (aR o0 o1 (aR o0 o1 (ar ?_)))));simp only[aZ,bp,s8];refine hk F _ _ _ _ _ _ _ _ _ _ _ _ _ (λ_ _=>fin _ _ _ rfl rfl keep) (λh=>by omega) (λt' h g=>?_) t1 _;exact done _ _ fu t' (apB (by decide) _) ⟨λh=>(by cases h),λh=>(by cases h),λh=>(by cases h),λ_ _ _ h=>(h rfl).elim⟩ rfl rfl h (g.imp id λh=>⟨h.1,λh2=>(by cases h2)⟩)
  .obtain⟨o0,o1⟩:=nmfu (.inl rfl);rw[<- hfu] at o1;obtain⟨a0,a1⟩:=Y (.inr rfl);refine gA (aR a0 a1 (aR a0 a1 (aR o0 o1 (aR o0 o1 (ar ?_)))));simp only[aZ,bp,s8];refine hk F _ _ _ _ _ _ _ _ _ _ _ _ _ (λ_ _=>fin _ _ _ rfl rfl keep) (λh=>by omega) (λt' h g=>?_) t1 _;exact done _ ce _ t' (apB (by decide) _) ⟨λh=>(by cases h),λh=>(by cases h),λh=>(by cases h),λ_ _ _ _ h=>(h rfl).elim⟩ rfl rfl h (g.imp id λh=>⟨h.1,λh2=>(by cases h2)⟩)
  .obtain⟨a0,a1⟩:=hA (.inr (.inr rfl));refine gA (aR a0 a1 (aR a0 a1 (aK (λ_=>ar ?_) λ_=>ar ?_)));all_goals
    simp only[aZ,bp,s8];refine hk F _ _ _ _ _ _ _ _ _ _ _ _ _ (λ_ _=>fin _ _ _ rfl rfl keep) (λh=>by omega) (λt' h g=>?_) t1 _;exact done _ ce fu t' (apB (by decide) _) ⟨λh=>(by cases h),λh=>(by cases h),λ_=>(by decide),λ_ _ h=>(h rfl).elim⟩ rfl rfl h (g.imp id λh=>⟨h.1,λh2=>(by cases h2)⟩)
 .refine ⟨?_,λh1 h2=>(hz ⟨h1,h2⟩).elim⟩;unfold SG xd D9 Prod.p12 aV bh bw ct dQ iU uV xf Prod.q10 Lb Prod.q13 bL dc mq Ny ck bd bI kF aF;refine Ih hn hc hs hI (λo=>PW o (SQ n I L)) (λy h=>.inr (ar h)) _ λe v sy hp _ _ _ _ _=>.inl ?_
  obtain⟨sy0,ce,fu,l⟩:=s;have vl:=hp.fs.vc.vl;by_cases hl:l.length=N
  .have ht:¬t=(i:Int):=λh=>hz ⟨hl,h⟩
   dsimp only;cases M (sy0,ce,fu,l) with
   |none=>rfl
   |some y=>rw[WE,bz ht];rfl
  .show obind (M (sy0,ce,fu,l)) _=ah;rw[h0 sy0 ce fu l (by have h1:l.length=I.2.length:=hp.fs.th;have:=hp.fs.vc.tl;have:=vl.t;omega) hl];rfl
theorem Bt {Z W V:Type} {n:Nat} {U:CT} {L:List ET} {i:Nat} {u:Int} {l:List TT} {z:Z} {t1:Z->List Int->List (List Int)->W} {J:W->V} {I:V->TT->List TT} (Y:∀ R T t',I (J (t1 z R T)) t'=l.set i t'):KR n U L i u l z (KG (i:Int) t1 J I):=by
 intro F p sy kd o v si ds fs ce fu R T ev fin park done ht pc;unfold KG xd aV bh bw ct dQ iU uV xf Prod.q10 Lb nF bd iF bI aF cC;dsimp only;have done:∀ t',TH F (n+1) t'->(t'.2.1.length=0\/t'.2.2.2=bn .i64 (ev+1)/\(kd=16->t'.1=p))->SQ n U L ((sy,ce,fu,I (J (t1 z R T)) t'),((i:Int),kd,o,v,si,ds,fs),ai):=λt' h g=>by rw[Y];exact done t' h g
 by_cases h1:kd=16
 .subst h1;exact gA (gA (fI rfl (ar (fI rfl (ar (fD (aO rfl) (ar (done _ (park (.inl rfl)) (.inr ⟨rfl,λ_=>rfl⟩)))))))))
 by_cases h2:kd=2
 .subst h2;exact gA (gA (fD rfl (ar (fI rfl (ar (fD (aO rfl) (ar (done _ (park (.inr rfl)) (.inr ⟨rfl,λh=>(by cases h)⟩)))))))))
 rw[bz h1,bz h2];exact gA (gA (fD rfl (ar (fD rfl (aR (eM i) ht (aT (ay (fin h1 h2) λy M=>ar (fD (aO rfl) (ar (done _ M.1 (M.2.imp id λh=>⟨h,λh2=>(h1 h2).elim⟩)))))))))))
theorem Y0 {n:Nat} (hn:n+1<=100000) (I:CT) (L:List ET) (s:ST) (t u:Int) (hc:CB I) (hs:SV n L s) (J:Lk I L s):PW (mO (I,s,t,u)) (SQ n I L)/\(s.2.2.2.length=4->t=0->Ok (mO (I,s,t,u)) (SQ n I L)):=by
 refine Bs 4 0 hn I L s t u hc hs J Tk λsy ce fu l hs hce hfu hl=>⟨by decide,?_⟩
 obtain⟨a,b,c,d,rfl⟩:∃ a b c d,l=[a,b,c,d]:=by
  rcases l with _|⟨a,_|⟨b,_|⟨c,_|⟨d,_|⟨e,l⟩⟩⟩⟩⟩;all_goals first|exact⟨_,_,_,_,rfl⟩|(simp at hl;done)|(exfalso;simp only[bZ] at hl;omega)
 refine ⟨_,Zp sy ce fu a b c d hs hce hfu,rfl,rfl,rfl,rfl,rfl,rfl,Bt λR T t'=>rfl⟩
theorem YZ {n:Nat} (hn:n+1<=100000) (I:CT) (L:List ET) (s:ST) (t u:Int) (hc:CB I) (hs:SV n L s) (J:Lk I L s):PW (mN (I,s,t,u)) (SQ n I L)/\(s.2.2.2.length=4->t=1->Ok (mN (I,s,t,u)) (SQ n I L)):=by
 refine Bs 4 1 hn I L s t u hc hs J Tj λsy ce fu l hs hce hfu hl=>⟨by decide,?_⟩
 obtain⟨a,b,c,d,rfl⟩:∃ a b c d,l=[a,b,c,d]:=by
  rcases l with _|⟨a,_|⟨b,_|⟨c,_|⟨d,_|⟨e,l⟩⟩⟩⟩⟩;all_goals first|exact⟨_,_,_,_,rfl⟩|(simp at hl;done)|(exfalso;simp only[bZ] at hl;omega)
 refine ⟨_,Zo sy ce fu a b c d hs hce hfu,rfl,rfl,rfl,rfl,rfl,rfl,Bt λR T t'=>rfl⟩
theorem YY {n:Nat} (hn:n+1<=100000) (I:CT) (L:List ET) (s:ST) (t u:Int) (hc:CB I) (hs:SV n L s) (J:Lk I L s):PW (ll (I,s,t,u)) (SQ n I L)/\(s.2.2.2.length=4->t=2->Ok (ll (I,s,t,u)) (SQ n I L)):=by
 refine Bs 4 2 hn I L s t u hc hs J Ti λsy ce fu l hs hce hfu hl=>⟨by decide,?_⟩
 obtain⟨a,b,c,d,rfl⟩:∃ a b c d,l=[a,b,c,d]:=by
  rcases l with _|⟨a,_|⟨b,_|⟨c,_|⟨d,_|⟨e,l⟩⟩⟩⟩⟩;all_goals first|exact⟨_,_,_,_,rfl⟩|(simp at hl;done)|(exfalso;simp only[bZ] at hl;omega)
 refine ⟨_,Zn sy ce fu a b c d hs hce hfu,rfl,rfl,rfl,rfl,rfl,rfl,Bt λR T t'=>rfl⟩
theorem YX {n:Nat} (hn:n+1<=100000) (I:CT) (L:List ET) (s:ST) (t u:Int) (hc:CB I) (hs:SV n L s) (J:Lk I L s):PW (ki (I,s,t,u)) (SQ n I L)/\(s.2.2.2.length=4->t=3->Ok (ki (I,s,t,u)) (SQ n I L)):=by
 refine Bs 4 3 hn I L s t u hc hs J Th λsy ce fu l hs hce hfu hl=>⟨by decide,?_⟩
 obtain⟨a,b,c,d,rfl⟩:∃ a b c d,l=[a,b,c,d]:=by
  rcases l with _|⟨a,_|⟨b,_|⟨c,_|⟨d,_|⟨e,l⟩⟩⟩⟩⟩;all_goals first|exact⟨_,_,_,_,rfl⟩|(simp at hl;done)|(exfalso;simp only[bZ] at hl;omega)
 refine ⟨_,Zm sy ce fu a b c d hs hce hfu,rfl,rfl,rfl,rfl,rfl,rfl,Bt λR T t'=>rfl⟩
theorem Y3 {n:Nat} (hn:n+1<=100000) (I:CT) (L:List ET) (s:ST) (t u:Int) (hc:CB I) (hs:SV n L s) (J:Lk I L s):PW (ju (I,s,t,u)) (SQ n I L)/\(s.2.2.2.length=3->t=0->Ok (ju (I,s,t,u)) (SQ n I L)):=by
 refine Bs 3 0 hn I L s t u hc hs J To λsy ce fu l hs hce hfu hl=>⟨by decide,?_⟩
 obtain⟨a,b,c,rfl⟩:∃ a b c,l=[a,b,c]:=by
  rcases l with _|⟨a,_|⟨b,_|⟨c,_|⟨d,_|⟨e,l⟩⟩⟩⟩⟩;all_goals first|exact⟨_,_,_,rfl⟩|(simp at hl;done)|(exfalso;simp only[bZ] at hl;omega)
 refine ⟨_,Zs sy ce fu a b c hs hce hfu,rfl,rfl,rfl,rfl,rfl,rfl,Bt λR T t'=>rfl⟩
theorem Y2 {n:Nat} (hn:n+1<=100000) (I:CT) (L:List ET) (s:ST) (t u:Int) (hc:CB I) (hs:SV n L s) (J:Lk I L s):PW (iK (I,s,t,u)) (SQ n I L)/\(s.2.2.2.length=3->t=1->Ok (iK (I,s,t,u)) (SQ n I L)):=by
 refine Bs 3 1 hn I L s t u hc hs J Tn λsy ce fu l hs hce hfu hl=>⟨by decide,?_⟩
 obtain⟨a,b,c,rfl⟩:∃ a b c,l=[a,b,c]:=by
  rcases l with _|⟨a,_|⟨b,_|⟨c,_|⟨d,_|⟨e,l⟩⟩⟩⟩⟩;all_goals first|exact⟨_,_,_,rfl⟩|(simp at hl;done)|(exfalso;simp only[bZ] at hl;omega)
 refine ⟨_,Zr sy ce fu a b c hs hce hfu,rfl,rfl,rfl,rfl,rfl,rfl,Bt λR T t'=>rfl⟩
theorem Y1 {n:Nat} (hn:n+1<=100000) (I:CT) (L:List ET) (s:ST) (t u:Int) (hc:CB I) (hs:SV n L s) (J:Lk I L s):PW (hZ (I,s,t,u)) (SQ n I L)/\(s.2.2.2.length=3->t=2->Ok (hZ (I,s,t,u)) (SQ n I L)):=by
 refine Bs 3 2 hn I L s t u hc hs J Tl λsy ce fu l hs hce hfu hl=>⟨by decide,?_⟩
 obtain⟨a,b,c,rfl⟩:∃ a b c,l=[a,b,c]:=by
  rcases l with _|⟨a,_|⟨b,_|⟨c,_|⟨d,_|⟨e,l⟩⟩⟩⟩⟩;all_goals first|exact⟨_,_,_,rfl⟩|(simp at hl;done)|(exfalso;simp only[bZ] at hl;omega)
 refine ⟨_,Zq sy ce fu a b c hs hce hfu,rfl,rfl,rfl,rfl,rfl,rfl,Bt λR T t'=>rfl⟩
theorem Y5 {n:Nat} (hn:n+1<=100000) (I:CT) (L:List ET) (s:ST) (t u:Int) (hc:CB I) (hs:SV n L s) (J:Lk I L s):PW (gC (I,s,t,u)) (SQ n I L)/\(s.2.2.2.length=2->t=0->Ok (gC (I,s,t,u)) (SQ n I L)):=by
 refine Bs 2 0 hn I L s t u hc hs J Tq λsy ce fu l hs hce hfu hl=>⟨by decide,?_⟩
 obtain⟨a,b,rfl⟩:∃ a b,l=[a,b]:=by
  rcases l with _|⟨a,_|⟨b,_|⟨c,_|⟨d,_|⟨e,l⟩⟩⟩⟩⟩;all_goals first|exact⟨_,_,rfl⟩|(simp at hl;done)|(exfalso;simp only[bZ] at hl;omega)
 refine ⟨_,Zu sy ce fu a b hs hce hfu,rfl,rfl,rfl,rfl,rfl,rfl,Bt λR T t'=>rfl⟩
theorem Y4 {n:Nat} (hn:n+1<=100000) (I:CT) (L:List ET) (s:ST) (t u:Int) (hc:CB I) (hs:SV n L s) (J:Lk I L s):PW (f_ (I,s,t,u)) (SQ n I L)/\(s.2.2.2.length=2->t=1->Ok (f_ (I,s,t,u)) (SQ n I L)):=by
 refine Bs 2 1 hn I L s t u hc hs J Tp λsy ce fu l hs hce hfu hl=>⟨by decide,?_⟩
 obtain⟨a,b,rfl⟩:∃ a b,l=[a,b]:=by
  rcases l with _|⟨a,_|⟨b,_|⟨c,_|⟨d,_|⟨e,l⟩⟩⟩⟩⟩;all_goals first|exact⟨_,_,rfl⟩|(simp at hl;done)|(exfalso;simp only[bZ] at hl;omega)
 refine ⟨_,Zt sy ce fu a b hs hce hfu,rfl,rfl,rfl,rfl,rfl,rfl,Bt λR T t'=>rfl⟩
theorem Y6 {n:Nat} (hn:n+1<=100000) (I:CT) (L:List ET) (s:ST) (t u:Int) (hc:CB I) (hs:SV n L s) (J:Lk I L s):PW (gd (I,s,t,u)) (SQ n I L)/\(s.2.2.2.length=1->t=0->Ok (gd (I,s,t,u)) (SQ n I L)):=by
 refine Bs 1 0 hn I L s t u hc hs J Tr λsy ce fu l hs hce hfu hl=>⟨by decide,?_⟩
 obtain⟨a,rfl⟩:∃ a,l=[a]:=by
  rcases l with _|⟨a,_|⟨b,_|⟨c,_|⟨d,_|⟨e,l⟩⟩⟩⟩⟩;all_goals first|exact⟨_,rfl⟩|(simp at hl;done)|(exfalso;simp only[bZ] at hl;omega)
 refine ⟨_,Zv sy ce fu a hs hce hfu,rfl,rfl,rfl,rfl,rfl,rfl,Bt λR T t'=>rfl⟩
theorem Y7 {n:Nat} (hn:n+1<=100000) (c:CT) (L:List ET) (s:ST) (t u:Int) (hc:CB c) (hs:SV n L s) (Z:Lk c L s):Ok (Al (c,s,t,u)) (SQ n c L):=by
 unfold Al;have I:=Y0 hn c L s t u hc hs Z;have J:=YZ hn c L s t u hc hs Z;have M:=YY hn c L s t u hc hs Z;have U:=YX hn c L s t u hc hs Z;have Y:=Y3 hn c L s t u hc hs Z;have a31:=Y2 hn c L s t u hc hs Z;have a32:=Y1 hn c L s t u hc hs Z;have a20:=Y5 hn c L s t u hc hs Z;have a21:=Y4 hn c L s t u hc hs Z;have a10:=Y6 hn c L s t u hc hs Z;by_cases hz:s.2.2.2.length<=4/\0<=t/\t<(s.2.2.2.length:Int)
 .obtain⟨h1,h2,h3⟩:=hz;have:(s.2.2.2.length=4/\t=0)\/(s.2.2.2.length=4/\t=1)\/(s.2.2.2.length=4/\t=2)\/(s.2.2.2.length=4/\t=3)\/(s.2.2.2.length=3/\t=0)\/(s.2.2.2.length=3/\t=1)\/(s.2.2.2.length=3/\t=2)\/(s.2.2.2.length=2/\t=0)\/(s.2.2.2.length=2/\t=1)\/(s.2.2.2.length=1/\t=0):=by omega
  rcases this with h|h|h|h|h|h|h|h|h|h
  .exact (I.2 h.1 h.2).orL
  .exact I.1.orR (J.2 h.1 h.2).orL
  .exact I.1.orR (J.1.orR (M.2 h.1 h.2).orL)
  .exact I.1.orR (J.1.orR (M.1.orR (U.2 h.1 h.2).orL))
  .exact I.1.orR (J.1.orR (M.1.orR (U.1.orR (Y.2 h.1 h.2).orL)))
  .exact I.1.orR (J.1.orR (M.1.orR (U.1.orR (Y.1.orR (a31.2 h.1 h.2).orL))))
  .exact I.1.orR (J.1.orR (M.1.orR (U.1.orR (Y.1.orR (a31.1.orR (a32.2 h.1 h.2).orL)))))
  .exact I.1.orR (J.1.orR (M.1.orR (U.1.orR (Y.1.orR (a31.1.orR (a32.1.orR (a20.2 h.1 h.2).orL))))))
  .exact I.1.orR (J.1.orR (M.1.orR (U.1.orR (Y.1.orR (a31.1.orR (a32.1.orR (a20.1.orR (a21.2 h.1 h.2).orL)))))))
  .exact I.1.orR (J.1.orR (M.1.orR (U.1.orR (Y.1.orR (a31.1.orR (a32.1.orR (a20.1.orR (a21.1.orR (a10.2 h.1 h.2)))))))))
 .refine Ok.orL ?_;unfold mO aV bh dc;refine Ih hn hc hs Z (λo=>Ok o (SQ n c L)) (λy h=>ar h) _ λe v sy hp _ _ _ _ _=>(hz ?_).elim
  have h1:s.2.2.2.length=c.2.length:=hp.fs.th;have h2:c.2.length=c.1.2.2.2.2.1.length:=hp.fs.vc.tl;have h3:c.1.2.2.2.2.1.length<=4:=hp.fs.vc.vl.t;have h4:0<=t:=hp.t0;have h5:t<(c.2.length:Int):=hp.t1;exact⟨by omega,h4,by omega⟩
theorem aet (c:CT) (s:ST) (l:List (Int×Int)) (hc:CB c) (hs:SV 0 [] s) (hI:Lk c [] s) (hl:l.length<=9223372036854775806):Ok (wv (c,s,l)) λy=>y.1.length<=400/\(∀ e∈y.1,EvF c.1 e/\Zl e)/\∃ sy ce fu,Acw c.1 y.1 sy ce fu:=by
 unfold wv aV bh dc bB bF bI aY cK aF cC;refine qc (λx=>((l.length:Int)-x.1).toNat) (λx=>0<=x.1/\x.2.2.1=c/\SV x.2.1.length x.2.1 x.2.2.2.1/\Lk c x.2.1 x.2.2.2.1/\x.2.1.length<=400/\∀ e∈x.2.1,EvF c.1 e/\Zl e) ?_ ⟨eD _,rfl,hs,hI,by simp,λe he=>(by cases he)⟩;rintro⟨(i:Int),es,c',s',z⟩ ⟨U,e1,e2,eI,e3,I⟩;dsimp only at U e1 e2 eI e3 I;subst e1;refine aX (λx=>x.2=(es,c',s',z)/\(x.1=ai->i<(l.length:Int)/\es.length<400)) ?_ ?_
 .refine bK (λg=>ar ⟨rfl,λh=>⟨g,?_⟩⟩) λ_=>ar ⟨rfl,λh=>(by cases h)⟩
  dsimp only at h;rw[tL] at h;dsimp only[au] at h;omega
 rintro⟨b,x⟩ ⟨Z,Y⟩;dsimp only at Z Y;subst Z;refine aP (λh=>?_) λ_=>ar ⟨e3,I,_,_,_,eI.ac⟩
 obtain⟨g1,g2⟩:=Y h;refine aX (λx=>x.2.1=c'/\SV x.1.length x.1 x.2.2.1/\Lk c' x.1 x.2.2.1/\x.1.length<=400/\∀ e∈x.1,EvF c'.1 e/\Zl e) ?_ ?_
 .refine aR U g1 (aT ?_);refine ay (Y7 (n:=es.length) (by omega) c' es s' _ _ hc e2 eI) λy hy=>?_
  refine aP (λh=>?_) λ_=>ar ⟨rfl,e2,eI,e3,I⟩
  obtain⟨h1,hJ,h2,h3⟩:=hy h;refine bi (by simp;omega) (by omega) (ar ⟨rfl,?_,hJ,by simp;omega,λe he=>?_⟩)
  .dsimp only;rw[bm,dR];exact h1
  .rcases bQ.1 he with he|he
   .exact I e he
   .rw[aL] at he;subst he;exact⟨h2,h3⟩
 rintro⟨es',c2,s2,z2⟩ ⟨k1,k2,kI,M,J⟩;dsimp only at k1 k2 kI M J;subst k1;refine ar ?_;dsimp only;rw[io (n:=i+1) (by omega) (by omega)];exact⟨⟨by omega,rfl,k2,kI,M,J⟩,by omega⟩
theorem CB.vc {c:CT} (hc:CB c):VC c:=by
 obtain⟨b,h1,h2⟩:=S4 c hc.th hc.ins;rw[hc.ok] at h1;cases h1;exact h2 rfl
theorem ajh (c:CT) (l:List (Int×Int)) (hc:CB c) (hl:l.length<=9223372036854775806):Ok (ze (c,l)) λy=>TR y.1:=by
 unfold ze;refine aU hc.ok (dS (λh=>(by cases h)) λ_=>?_);have hv:=hc.vc;refine ay (V2 c hc.ok hv) λs hs=>?_
 refine ay (aet c s l hc hs.1 hs.2 hl) λy I=>ar ?_
 exact⟨hv.vl.wb,hv.vl,λe he=>(I.2.1 e he).1,by have:=I.1;dsimp only;omega,λe he=>(I.2.1 e he).2,hc.wx,I.2.2⟩
theorem V_ (l:List Int) (hl:l.length<=1000000):Ok (oL l) λy=>y.length=l.length:=by
 unfold oL bB bF bI aY cK aF cC;refine cr l.length (λi x=>x.1=(i:Int)/\x.2.length=i) ?_ ?_ ⟨rfl,rfl⟩
 .rintro i ⟨a,b⟩ hi ⟨e1,e2⟩;dsimp only at e1 e2;subst e1;refine dg ?_;refine cE (aT (cE (aT (bi (by simp;omega) (by omega) (ar ?_)))));dsimp only;exact⟨gM (by omega),by simp;omega⟩
 .rintro⟨a,b⟩ ⟨e1,e2⟩;dsimp only at e1 e2;subst e1;exact db (ar e2)
theorem fm (e:Xp):eh (Xp.op e,Xp.n e,Xp.name e,Xp.l e)=e:=by cases e;rfl
theorem yV (s:Sx):nO (Sx.op s,Sx.line s,Sx.name s,Sx.arg s,Sx.index s,Sx.expr s,Sx.body s,Sx.els s)=s:=by cases s;rfl
abbrev NV:List (List UInt8):=[[97],[98],[120],[121],[118]]
def GE:Nat->Xp->Prop
 |0,_=>False
 |d+1,e=>(e.op=3->e.name=[113])/\(e.op≠1->e.op≠2->1<=e.l.length)/\e.l.length<=2/\(∀ x∈e.l,GE d x)/\(e.op=2->e.name∈NV)/\(e.op≠1->e.op≠2->e.op≠3->2<=e.l.length/\6<=e.op/\e.op<=18)
theorem GE.mono:∀ {d:Nat} {e:Xp},GE d e->GE (d+1) e
 |0,_,h=>h.elim
 |_+1,_,h=>⟨h.1,h.2.1,h.2.2.1,λx I=>(h.2.2.2.1 x I).mono,h.2.2.2.2⟩
theorem GE.le {d k:Nat} {e:Xp} (h:GE d e) (hk:d<=k):GE k e:=by
 induction hk with
 |refl=>exact h
 |step _ I=>exact I.mono
theorem N' (n:Int):rx n=af (.mk 1 n [] []):=rfl
theorem HP (s:List UInt8):pt s=af (.mk 2 0 s []):=rfl
theorem Fr (o:Int) (a b:Xp):nN (o,a,b)=af (.mk o 0 [] [a,b]):=by
 cases a;cases b;rfl
theorem t7 (s:List UInt8) (e:Xp):jr (s,e)=af (.mk 1 0 s [] [] e [] []):=by
 cases e;rfl
abbrev MK:Type:=Int×Int×Bool×Bool×Bool×Bool
abbrev Py:Type:=List Int×Int
abbrev HD:Type:=Bool×List (List UInt8)
theorem GE.num (n:Int) (d:Nat):GE (d+1) (.mk 1 n [] []):=⟨λh=>(by cases h),λh=>(h rfl).elim,by simp[Xp.l],λx I=>(by cases I),λh=>(by cases h),λh=>(h rfl).elim⟩
theorem GE.nm {s:List UInt8} (hs:s∈NV) (d:Nat):GE (d+1) (.mk 2 0 s []):=⟨λh=>(by cases h),λ_ h=>(h rfl).elim,by simp[Xp.l],λx I=>(by cases I),λ_=>hs,λ_ h=>(h rfl).elim⟩
theorem GE.bin {o:Int} {a b:Xp} {d:Nat} (J:6<=o/\o<=18) (M:GE d a) (hb:GE d b):GE (d+1) (.mk o 0 [] [a,b]):=
 ⟨λh=>(by have h:o=3:=h;omega),λ_ _=>by simp[Xp.l],by simp[Xp.l],λx I=>by
   simp only[Xp.l,bl,cw,gf] at I;rcases I with rfl|rfl
   .exact M
   .exact hb,λh=>(by have h:o=2:=h;omega),λ_ _ _=>⟨by simp[Xp.l],J⟩⟩
theorem GE.ix {a:Xp} {d:Nat} (J:GE d a):GE (d+1) (.mk 3 0 [113] [a]):=
 ⟨λ_=>rfl,λ_ _=>by simp[Xp.l],by simp[Xp.l],λx I=>by
   simp only[Xp.l,bl,cw,gf] at I;rw[I];exact J,λh=>(by cases h),λ_ _ h=>(h rfl).elim⟩
theorem Dg:∀ (n d:Nat),d<n->d<=10->∀ (m:MK) (t:Py) (h:HD),TP t->Ok (iw n ((d:Int),m,t,h)) λy=>GE (d+1) y.1/\y.2.1=m/\uT t y.2.2.1/\y.2.2.2=h
 |0,d,hd,_,_,_,_,_=>by omega
 |n+1,d,hd,h10,m,t,h,ht=>by
  rw[yN];unfold nW aV bh bL dc cN bd bB bF kF aY aF;refine ay (gp 10 t ht) λy I=>?_
  obtain⟨k,t1⟩:=y;obtain⟨s1,k0,k1,_⟩:=I;have k1:=k1 (by decide);dsimp only at s1 k0 k1;refine aX (λx=>x.2=(m,t1,h,(0,0,[]),[[97],[98],[120],[121],[118],[120],[121]])/\(x.1=aj->2<=k/\(d=0->k<7))) ?_ ?_
  .refine bK (λ_=>ar ⟨rfl,λh=>(by cases h)⟩) λg=>aK (λg2=>ar ⟨rfl,λg3=>⟨g,λ_=>?_⟩⟩) λg2=>ar ⟨rfl,λ_=>⟨g,λh=>(g2 (by dsimp only;omega)).elim⟩⟩
   dsimp only at g3;rw[l7] at g3;exact g3
  rintro⟨b,x⟩ ⟨e,hb⟩;dsimp only at e hb;subst e;refine aP (λ_=>?_) λg=>?_
  .refine ay (gp 4 t1 s1.p) λy I=>?_
   refine aU (N' _) (ar ?_);exact⟨GE.num _ _,rfl,s1.trans I.1,rfl⟩
  obtain⟨q0,q1⟩:=hb g;refine bK (λg=>?_) λg=>?_
  .refine ay (gp _ t1 s1.p) λy I=>?_
   obtain⟨u1,M,J,_⟩:=I;have J:=J (show (1:Int)<=7 by decide);refine aR M J (aR M J (aT ?_));refine aU (HP _) (ar ?_);have hnv:∀ z∈([[97],[98],[120],[121],[118],[120],[121]]:List (List UInt8)),z∈NV:=by decide
   exact⟨GE.nm (hnv _ (bH (T:=.str) M J)) _,rfl,s1.trans u1,rfl⟩
  dsimp only at g;have hd0:d≠0:=λh=>by have:=q1 h;omega
  obtain⟨d,rfl⟩:∃ k,d=k+1:=⟨d-1,by omega⟩
  refine aK (λg=>?_) λg=>?_
  .refine ay (Dg n 0 (by omega) (by omega) m t1 h s1.p) λy I=>?_
   obtain⟨e,m',t',h'⟩:=y;obtain⟨v1,Z,U,Y⟩:=I;dsimp only at v1 Z U Y;subst Z;subst Y;refine be (by simp) (ar ?_);dsimp only;rw[fm];exact⟨(GE.ix (v1.le (by omega):GE (d+1) e)),rfl,s1.trans U,rfl⟩
  .refine ay (gp _ t1 s1.p) λy I=>?_
   obtain⟨k2,t2⟩:=y;obtain⟨u1,M,J,_⟩:=I;have J:=J (by decide);dsimp only at u1 M J;refine aR M J (aR M J (aT ?_));have ho:(6:Int)<=aJ (T:=.int .i64) [6,7,8,11,13,17] k2/\aJ (T:=.int .i64) [6,7,8,11,13,17] k2<=(18:Int):=by
    have h1:=bH (T:=.int .i64) (xs:=([6,7,8,11,13,17]:List Int)) M J;have:∀ z:Int,z∈([6,7,8,11,13,17]:List Int)->6<=z/\z<=18:=by decide
    exact this _ h1
   have ew:bn .i64 (((d+1:Nat):Int)-1)=(d:Int):=by rw[io (by omega) (by omega)];omega
   dsimp only;rw[ew];refine ay (Dg n d (by omega) (by omega) m t2 h u1.p) λy I=>?_
   obtain⟨e,m',t',h'⟩:=y;obtain⟨v1,Z,U,Y⟩:=I;dsimp only at v1 Z U Y;subst Z;subst Y;refine be (by simp) ?_;refine ay (Dg n d (by omega) (by omega) m' t' h' U.p) λy I=>?_
   obtain⟨e2,m2,t2',h2⟩:=y;obtain⟨w1,w2,w3,w4⟩:=I;dsimp only at w1 w2 w3 w4;subst w2;subst w4;refine be (by simp) ?_;refine aU (Fr _ _ _) (ar ?_);dsimp only;rw[fm];exact⟨GE.bin ho v1 w1,rfl,s1.trans (u1.trans (U.trans w3)),rfl⟩
theorem aad (d:Nat) (hd:d<=10) (m:MK) (t:Py) (h:HD) (ht:TP t):Ok (fg ((d:Int),m,t,h)) λy=>GE (d+1) y.1/\y.2.1=m/\uT t y.2.2.1/\y.2.2.2=h:=Dg fuel d (by rw[jV];omega) hd m t h ht
end
end Go.Proofs.YtgijlolllojpaaaGreatDoor.AI
