/-
  Texts of the proof, part 2 of 5: what is used to prove the statement. No condition.
-/
import Derived.Test.YtgijlolllojpaaaGreatDoorShbReadsQ0
namespace Go.Proofs.YtgijlolllojpaaaGreatDoor.AI
open Go.RowKit
set_option maxRecDepth 100000
set_option maxHeartbeats 4000000
set_option linter.unusedVariables false
set_option linter.unusedSimpArgs false
open _root_.Bool renaming true→ai,false→aj
open _root_.Int renaming ofNat_eq_natCast→au,ofNat→aO,toNat→aS,reduceEq→aZ,reduceNeg→bm,toNat_natCast→gz
open _root_.List renaming length→al,replicate→aG,length_cons→bZ,take→du,range→eS,cons_append→gh,length_singleton→gm,length_nil→jQ,take_succ_cons→vB,foldl_cons→EU
open _root_.Nat renaming beq→aB,blt→gd
open _root_.Option renaming some→af,none→ah,map_some→b_,getD_some→uz
open _root_.Prod renaming p2→aV,p3→bg,p4→bp,q3→bL,p5→cw,q5→cO,q4→db,p6→dN,q6→eP,p7→jd,q7→mg,q8→nh,p8→uy,p10→wH,p9→wJ,p11→Dr,q11→Kk,q9→MM
open _root_.Sum renaming inr→bU,inl→oE
noncomputable section
abbrev Kd0:Ty:=(.st (.pr ku (.pr ku (.pr ku (.pr ku (.pr ku (.pr ku (.pr (.sl aM) (.pr ku (.sl aM))))))))))
abbrev Kd1:Ty:=(.st (.pr .bool .bool))
abbrev Wm:=((List (List Int))×(List (List Int))×(List (List Int))×(List (List Int))×(List (List Int))×(List (List Int))×(List Int)×(List (List Int))×List Int)
abbrev Yd1:=((List Int)×(List (List Int))×(List (List Int))×(List (List Int))×(List (List Int))×(List (List Int))×(List (List Int))×(List (List Int))×(List Int)×List Int)
abbrev Yd2:=(Int×gx×(List Bool)×List dj)
abbrev Yd3:=(Int×gO×gy×(List fg)×ca×ca×List (Int×Int×Int))
abbrev Yd4:=(dG×Int×Int×Int×Int×Int×(List Int)×List Int)
abbrev OR:=(List (Int×Int))
abbrev Yd6:=(Int×(List Bool)×List dj)
def LL {α R:Type} [DecidableEq α] (a b:α) (r:Option R):Option R:=if a=b then r else ah
theorem Pa {α R:Type} [DecidableEq α] (a b:α) (r:Option R):LL a b r=same a b r:=by unfold LL same;by_cases h:a=b<;>simp[h]
theorem O_ {α R:Type} [DecidableEq α] {a b:α} (h:a=b) (r:Option R):LL a b r=r:=by unfold LL;rw[aF h]
def iT (x:(List Int)×Int):Option (Int):=
 (jn (α:=Bool) (bx x.2 0 (aE ai) (aE (cV (aX x.1) x.2))) λI=>(bcase I (af 0) (ve x.2 x.1 (af (aJ (T:=aM) x.1 x.2)))))
def uP (it:ye) (x:(List Int)×List Int):Option (List Int):=
 (bE (cV 0 (j9 (aX x.1) (aX x.2))&&cV (j9 (aX x.1) (aX x.2)) (j9 (aX x.1) (aX x.2))&&bc (aS (j9 (aX x.1) (aX x.2))) 8) (it (Int×List Int) _ (λI=>(bx I.1 (aO (al (aG (aS (j9 (aX x.1) (aX x.2))) (0:Int)))) (obind (iT (x.1,I.1)) λM=>(obind (iT (x.2,I.1)) λJ=>(ck (fe I.1 (al I.2)) (cK ((cB I.1),(cq I.2 I.1 (j9 M J))))))) (aE I.2))) (0,(aG (aS (j9 (aX x.1) (aX x.2))) (0:Int)))))
def yw (x:(List Int)×List Int):Option (List Int):=uP @iter x
def jm (x:(List Int)×List Int):Option (List Int):=uP @fX x
def Ca (x:(List Int)×Int):Option (Int):=
 (jn (α:=Bool) (bx x.2 0 (aE ai) (aE (cV (aX x.1) x.2))) λI=>(bcase I (af 0) (ve x.2 x.1 (af (aJ (T:=aM) x.1 x.2)))))
def Ni (x:List Int):Option (List Int):=
 (bcase (aB (al x) 0) (EB (af ([]:List Int)) (bE (bc (al ([]:List Int)+al x) 8) (af (([]:List Int)++x)))) (bE (bc (al ([]:List Int)+al x) 8) (af (([]:List Int)++x))))
def wX (x:List Int):Option (List Int):=chk (bc (al x) 8) λ_=>af x
def w_ (it:ye) (x:List (List Int)):Option (List (List Int)):=
 (bE (cV 0 (aX x)&&cV (aX x) (aX x)&&bc (aS (aX x)) 24) (it (Int×List (List Int)) _ (λI=>(bx I.1 (aX x) (ve I.1 x (obind (wX (aJ (T:=(.sl aM)) x I.1)) λJ=>(ck (fe I.1 (al I.2)) (cK ((cB I.1),(cq I.2 I.1 J)))))) (aE I.2))) (0,(aG (aS (aX x)) ([]:List Int)))))
def Be (x:List (List Int)):Option (List (List Int)):=w_ @iter x
def ij (x:List (List Int)):Option (List (List Int)):=w_ @fX x
def H5 (x:List Int):Option (List Int):=
 (bcase (aB (al x) 0) (EB (af ([]:List Int)) (bE (bc (al ([]:List Int)+al x) 8) (af (([]:List Int)++x)))) (bE (bc (al ([]:List Int)+al x) 8) (af (([]:List Int)++x))))
def oL (x:List Int):Option (List Int):=chk (bc (al x) 8) λ_=>af x
def q_ (x:(List (List Int))×(List (List Int))×(List (List Int))×(List (List Int))×(List (List Int))×(List (List Int))×(List Int)×(List (List Int))×List Int):Option ((List Int)×(List (List Int))×(List (List Int))×(List (List Int))×(List (List Int))×(List (List Int))×(List (List Int))×(List (List Int))×List Int):=
 (obind (ij x.1) λy1=>(obind (ij x.2.1) λy2=>(obind (ij x.p2) λy3=>(obind (ij x.p3) λZ=>(obind (ij x.p4) λY=>(obind (ij x.p5) λU=>(obind (oL x.p6) λM=>(obind (ij x.p7) λJ=>(obind (oL x.q8) λI=>(af (M,y1,y2,y3,Z,Y,U,J,I)))))))))))
def s_ (x:Int×List (List Int)):Option ((List Int)×List (List Int)):=
 (jn (α:=Bool×List (List Int)) (bx x.1 0 (aE (ai,x.2)) (aE ((cV (aX x.2) x.1),x.2))) λI=>(bcase I.1 (af (([]:List Int),I.2)) (ck (fe x.1 (al I.2)) (af ((aJ (T:=(.sl aM)) I.2 x.1),I.2)))))
def rc (x:gF×(List Int)×dG×(List (List Int))×(List (List Int))×(List (List Int))×(List (List Int))×(List (List Int))×(List (List Int))×(List (List Int))×List Int):Option ((List (List Int))×gF×(List Int)×dG×(List (List Int))×(List (List Int))×(List (List Int))×(List (List Int))×(List (List Int))×(List (List Int))×(List (List Int))×List Int):=
 (be x.1.2.1 1 (ck (fe x.1.1 (al x.p4)) (af ([(aJ (T:=(.sl aM)) x.p4 x.1.1)],(x.1.1,x.1.2.1,x.1.p2,x.1.p3,x.1.p4,x.1.p5,x.1.q6),x.2.1,(x.p2.1,x.p2.2.1,x.p2.p2,x.p2.p3,x.p2.p4,x.p2.q5),x.p3,x.p4,x.p5,x.p6,x.p7,x.p8,x.p9,x.q10))) (be x.1.2.1 21 (ck (fe x.1.p2 (al x.p3)) (af ([(aJ (T:=(.sl aM)) x.p3 x.1.p2)],(x.1.1,x.1.2.1,x.1.p2,x.1.p3,x.1.p4,x.1.p5,x.1.q6),x.2.1,(x.p2.1,x.p2.2.1,x.p2.p2,x.p2.p3,x.p2.p4,x.p2.q5),x.p3,x.p4,x.p5,x.p6,x.p7,x.p8,x.p9,x.q10))) (jn (α:=Bool×gF×(List Int)×dG×(List (List Int))×(List (List Int))×(List (List Int))×(List (List Int))×(List (List Int))×(List (List Int))×(List (List Int))×List Int) (be x.1.2.1 6 (aE ((decide ((x.1.2.1:Int)=6)),(x.1.1,x.1.2.1,x.1.p2,x.1.p3,x.1.p4,x.1.p5,x.1.q6),x.2.1,(x.p2.1,x.p2.2.1,x.p2.p2,x.p2.p3,x.p2.p4,x.p2.q5),x.p3,x.p4,x.p5,x.p6,x.p7,x.p8,x.p9,x.q10)) (aE ((decide ((x.1.2.1:Int)=10)),(x.1.1,x.1.2.1,x.1.p2,x.1.p3,x.1.p4,x.1.p5,x.1.q6),x.2.1,(x.p2.1,x.p2.2.1,x.p2.p2,x.p2.p3,x.p2.p4,x.p2.q5),x.p3,x.p4,x.p5,x.p6,x.p7,x.p8,x.p9,x.q10))) λI=>(bcase I.1 (ck (fe I.2.1.p2 (al I.p6)) (ck (fe I.2.1.p2 (al I.p7)) (af ([(aJ (T:=(.sl aM)) I.p6 I.2.1.p2),(aJ (T:=(.sl aM)) I.p7 I.2.1.p2)],(I.2.1.1,I.2.1.2.1,I.2.1.p2,I.2.1.p3,I.2.1.p4,I.2.1.p5,I.2.1.q6),I.p2,(I.p3.1,I.p3.2.1,I.p3.p2,I.p3.p3,I.p3.p4,I.p3.q5),I.p4,I.p5,I.p6,I.p7,I.p8,I.p9,I.p10,I.q11)))) (be x.1.2.1 8 (ck (fe I.2.1.p2 (al I.p6)) (af ([(aJ (T:=(.sl aM)) I.p6 I.2.1.p2)],(I.2.1.1,I.2.1.2.1,I.2.1.p2,I.2.1.p3,I.2.1.p4,I.2.1.p5,I.2.1.q6),I.p2,(I.p3.1,I.p3.2.1,I.p3.p2,I.p3.p3,I.p3.p4,I.p3.q5),I.p4,I.p5,I.p6,I.p7,I.p8,I.p9,I.p10,I.q11))) (be x.1.2.1 17 (ve I.2.1.p2 I.p3.p2 (obind (s_ ((aJ (T:=lY) I.p3.p2 I.2.1.p2).2,I.p6)) λM=>(bE (aB (al I.p6) (al M.2)&&ai) (obind (s_ ((aJ (T:=lY) I.p3.p2 I.2.1.p2).2,I.p7)) λJ=>(bE (aB (al I.p7) (al J.2)&&ai) (ck (fe I.2.1.1 (al I.p10)) (af ([M.1,J.1,(aJ (T:=(.sl aM)) I.p10 I.2.1.1)],(I.2.1.1,I.2.1.2.1,I.2.1.p2,I.2.1.p3,I.2.1.p4,I.2.1.p5,I.2.1.q6),I.p2,(I.p3.1,I.p3.2.1,I.p3.p2,I.p3.p3,I.p3.p4,I.p3.q5),I.p4,I.p5,M.2,J.2,I.p8,I.p9,I.p10,I.q11)))))))) (be x.1.2.1 3 (ck (fe I.2.1.p2 (al I.p8)) (af ([(aJ (T:=(.sl aM)) I.p8 I.2.1.p2)],(I.2.1.1,I.2.1.2.1,I.2.1.p2,I.2.1.p3,I.2.1.p4,I.2.1.p5,I.2.1.q6),I.p2,(I.p3.1,I.p3.2.1,I.p3.p2,I.p3.p3,I.p3.p4,I.p3.q5),I.p4,I.p5,I.p6,I.p7,I.p8,I.p9,I.p10,I.q11))) (be x.1.2.1 23 (ck (fe I.2.1.p2 (al I.p9)) (af ([(aJ (T:=(.sl aM)) I.p9 I.2.1.p2)],(I.2.1.1,I.2.1.2.1,I.2.1.p2,I.2.1.p3,I.2.1.p4,I.2.1.p5,I.2.1.q6),I.p2,(I.p3.1,I.p3.2.1,I.p3.p2,I.p3.p3,I.p3.p4,I.p3.q5),I.p4,I.p5,I.p6,I.p7,I.p8,I.p9,I.p10,I.q11))) (be x.1.2.1 12 (af ([I.p2],(I.2.1.1,I.2.1.2.1,I.2.1.p2,I.2.1.p3,I.2.1.p4,I.2.1.p5,I.2.1.q6),I.p2,(I.p3.1,I.p3.2.1,I.p3.p2,I.p3.p3,I.p3.p4,I.p3.q5),I.p4,I.p5,I.p6,I.p7,I.p8,I.p9,I.p10,I.q11)) (af (([]:List (List Int)),(I.2.1.1,I.2.1.2.1,I.2.1.p2,I.2.1.p3,I.2.1.p4,I.2.1.p5,I.2.1.q6),I.p2,(I.p3.1,I.p3.2.1,I.p3.p2,I.p3.p3,I.p3.p4,I.p3.q5),I.p4,I.p5,I.p6,I.p7,I.p8,I.p9,I.p10,I.q11)))))))))))
def zL (it:ye) (x:gO×gy×(List fg)×ca×ca×List (Int×Int×Int)):Option Wm:=
 (ck (cV 0 (aX x.p4)&&cV (aX x.p4) (aX x.p4)&&bc (aS (aX x.p4)) 24) (ck (cV 0 (aX x.2.1)&&cV (aX x.2.1) (aX x.2.1)&&bc (aS (aX x.2.1)) 24) (bE (cV 0 (aX x.1)&&cV (aX x.1) (aX x.1)&&bc (aS (aX x.1)) 24) (bE (cV 0 (aX x.p3)&&cV (aX x.p3) (aX x.p3)&&bc (aS (aX x.p3)) 24) (bE (cV 0 (aX x.p4)&&cV (aX x.p4) (aX x.p4)&&bc (aS (aX x.p4)) 24) (bE (cV 0 (aX x.p4)&&cV (aX x.p4) (aX x.p4)&&bc (aS (aX x.p4)) 8) (it (Int×(List (List Int))×(List (List Int))×(List (List Int))×(List (List Int))×(List (List Int))×(List (List Int))×(List (List Int))×List Int) _ (λI=>(bx I.1 (aO (al (aG (aS (aX x.p4)) (0:Int)))) (ck (fe I.1 (al I.q8)) (cK ((cB I.1),I.2.1,I.p2,I.p3,I.p4,I.p5,I.p6,I.p7,(cq I.q8 I.1 (-1))))) (aE (I.2.1,I.p2,I.p3,I.p4,I.p5,I.p6,([]:List Int),I.p7,I.q8)))) (0,(aG (aS (aX x.p4)) ([]:List Int)),(aG (aS (aX x.p4)) ([]:List Int)),(aG (aS (aX x.2.1)) ([]:List Int)),(aG (aS (aX x.2.1)) ([]:List Int)),(aG (aS (aX x.1)) ([]:List Int)),(aG (aS (aX x.p3)) ([]:List Int)),(aG (aS (aX x.p4)) ([]:List Int)),(aG (aS (aX x.p4)) (0:Int))))))))))
def DL (x:gO×gy×(List fg)×ca×ca×List (Int×Int×Int)):Option Wm:=zL @iter x
def nG (x:gO×gy×(List fg)×ca×ca×List (Int×Int×Int)):Option Wm:=zL @fX x
def pw (x:(List Int)×Int):Option (List Int):=
 (jn (α:=Bool) (jN 0 x.2 (aE (fP x.2 4)) (aE aj)) λM=>(jn (α:=Int) (bcase M (aE (j9 (aX x.1) (cB x.2))) (aE (aX x.1))) λI=>(bE (cV 0 I&&cV I I&&bc (aS I) 8) (jn (α:=List Int) (jn (α:=Bool×List Int) (bcase M (ck (fe x.2 (al (Sm (aG (aS I) (0:Int)) x.1))) (aE ((fP (aJ (T:=aM) (Sm (aG (aS I) (0:Int)) x.1) x.2) 9223372036854775807),(Sm (aG (aS I) (0:Int)) x.1)))) (aE (aj,(Sm (aG (aS I) (0:Int)) x.1)))) λJ=>(bcase J.1 (ck (fe x.2 (al J.2)) (ck (fe x.2 (al J.2)) (aE (cq J.2 x.2 (bl .i64 ((aJ (T:=aM) J.2 x.2)+1)))))) (aE J.2))) λU=>(af U)))))
def vT (x:List Int):Option ((List Int)×List Int):=
 (bE (bc (al ([]:List Int)+al x) 8) (af ((([]:List Int)++x),x)))
def uG (x:List Int):Option (List Int):=obind (vT x) λy=>LL y.2 x (af y.1)
def He (it:ye) (x:(List Int)×List Int):Option ((List Int)×List Int):=
 (bE (cV 0 (j9 (aX x.1) (aX x.2))&&cV (j9 (aX x.1) (aX x.2)) (j9 (aX x.1) (aX x.2))&&bc (aS (j9 (aX x.1) (aX x.2))) 8) (it (Int×(List Int)×List Int) _ (λI=>(bx I.1 (aO (al (aG (aS (j9 (aX x.1) (aX x.2))) (0:Int)))) (obind (iT (x.1,I.1)) λM=>(obind (iT (I.2.1,I.1)) λJ=>(ck (fe I.1 (al I.2.2)) (cK ((cB I.1),I.2.1,(cq I.2.2 I.1 (j9 M J))))))) (aE (I.2.2,I.2.1)))) (0,x.2,(aG (aS (j9 (aX x.1) (aX x.2))) (0:Int)))))
def Nd (x:(List Int)×List Int):Option ((List Int)×List Int):=He @iter x
def sU (x:(List Int)×List Int):Option ((List Int)×List Int):=He @fX x
def Bl (x:(List Int)×List Int):Option (List Int):=obind (sU x) λy=>LL y.2 x.2 (af y.1)
def lq (x:Int×(List (List Int))×List Int):Option ((List (List Int))×List Int):=
 (jn (α:=Bool×(List (List Int))×List Int) (jN 0 x.1 (aE ((fP x.1 (aX x.2.1)),x.2.1,x.2.2)) (aE (aj,x.2.1,x.2.2))) λI=>(bcase I.1 (ck (fe x.1 (al I.2.1)) (obind (Bl ((aJ (T:=(.sl aM)) I.2.1 x.1),I.2.2)) λJ=>(ck (fe x.1 (al I.2.1)) (af ((cq I.2.1 x.1 J),I.2.2))))) (af (I.2.1,I.2.2))))
def vQ (x:Int×(List Int)×(List (List Int))×(List (List Int))×(List (List Int))×(List (List Int))×(List (List Int))×(List (List Int))×(List (List Int))×(List Int)×List Int):Option Yd1:=
 (obind (uG x.q10) λI=>(ck (fe x.1 (al x.p8)) (ck (fe x.1 (al x.p9)) (af (x.2.1,x.p2,x.p3,x.p4,x.p5,x.p6,x.p7,(cq x.p8 x.1 I),(cq x.p9 x.1 (-1)),x.q10)))))
def zJ (it:ye) (x:Yd4×(List Int)×(List (List Int))×(List (List Int))×(List (List Int))×(List (List Int))×(List (List Int))×(List (List Int))×(List (List Int))×(List Int)×List Int):Option Yd1:=
 (obind (uG x.q10) λy1=>(ck (fe x.1.2.1 (al x.p2)) (jn (α:=(List Int)×(List (List Int))×(List (List Int))×(List (List Int))×(List (List Int))×(List (List Int))×(List (List Int))×(List (List Int))×(List Int)×List Int) (be x.1.p2 20 (obind (uG x.q10) λy3=>(ck (fe x.1.p3 (al x.p3)) (aE (x.2.1,(cq x.p2 x.1.2.1 y1),(cq x.p3 x.1.p3 y3),x.p4,x.p5,x.p6,x.p7,x.p8,x.p9,x.q10)))) (jn (α:=Bool×(List Int)×(List (List Int))×(List (List Int))×(List (List Int))×(List (List Int))×(List (List Int))×(List (List Int))×(List (List Int))×(List Int)×(List Int)×dG×Int×Int×Int×Int×Int×(List Int)×List Int) (be x.1.p2 7 (aE ((decide ((x.1.p2:Int)=7)),x.2.1,(cq x.p2 x.1.2.1 y1),x.p3,x.p4,x.p5,x.p6,x.p7,x.p8,x.p9,x.q10,(x.1.1.1,x.1.1.2.1,x.1.1.p2,x.1.1.p3,x.1.1.p4,x.1.1.q5),x.1.2.1,x.1.p2,x.1.p3,x.1.p4,x.1.p5,x.1.p6,x.1.q7)) (aE ((decide ((x.1.p2:Int)=11)),x.2.1,(cq x.p2 x.1.2.1 y1),x.p3,x.p4,x.p5,x.p6,x.p7,x.p8,x.p9,x.q10,(x.1.1.1,x.1.1.2.1,x.1.1.p2,x.1.1.p3,x.1.1.p4,x.1.1.q5),x.1.2.1,x.1.p2,x.1.p3,x.1.p4,x.1.p5,x.1.p6,x.1.q7))) λI=>(bcase I.1 (obind (lq (I.p14,I.p4,I.p10)) λy5=>(bE (aB (al I.p10) (al y5.2)&&(aB (al I.p4) (al y5.1)&&ai)) (aE (I.2.1,I.p2,I.p3,y5.1,I.p5,I.p6,I.p7,I.p8,I.p9,y5.2)))) (be x.1.p2 9 (obind (lq (I.p14,I.p5,I.p10)) λy6=>(bE (aB (al I.p10) (al y6.2)&&(aB (al I.p5) (al y6.1)&&ai)) (aE (I.2.1,I.p2,I.p3,I.p4,y6.1,I.p6,I.p7,I.p8,I.p9,y6.2)))) (be x.1.p2 16 (ck (fe I.p12 (al I.p9)) (ve I.p14 I.p11.p2 (obind (lq ((aJ (T:=lY) I.p11.p2 I.p14).2,I.p4,I.p10)) λy7=>(bE (aB (al I.p10) (al y7.2)&&(aB (al I.p4) (al y7.1)&&ai)) (aE (I.2.1,I.p2,I.p3,y7.1,I.p5,I.p6,I.p7,I.p8,(cq I.p9 I.p12 I.p14),y7.2)))))) (be x.1.p2 4 (ve I.p14 I.p11.1 (bcase (((((aJ (T:=kw) I.p11.1 I.p14).2).2).2).1) (obind (lq (I.p14,I.p6,I.p10)) λy8=>(bE (aB (al I.p10) (al y8.2)&&(aB (al I.p6) (al y8.1)&&ai)) (aE (I.2.1,I.p2,I.p3,I.p4,I.p5,y8.1,I.p7,I.p8,I.p9,y8.2)))) (aE (I.2.1,I.p2,I.p3,I.p4,I.p5,I.p6,I.p7,I.p8,I.p9,I.p10)))) (be x.1.p2 22 (obind (lq (I.p14,I.p7,I.p10)) λy9=>(bE (aB (al I.p10) (al y9.2)&&(aB (al I.p7) (al y9.1)&&ai)) (aE (I.2.1,I.p2,I.p3,I.p4,I.p5,I.p6,y9.1,I.p8,I.p9,y9.2)))) (be x.1.p2 13 (obind (Bl (I.2.1,I.p10)) λy10=>(aE (y10,I.p2,I.p3,I.p4,I.p5,I.p6,I.p7,I.p8,I.p9,I.p10))) (be x.1.p2 18 (jn (α:=Bool×(List Int)×(List (List Int))×(List (List Int))×(List (List Int))×(List (List Int))×(List (List Int))×(List (List Int))×(List (List Int))×(List Int)×(List Int)×Int×Int×Int×Int×Int×(List Int)×List Int) (jN 0 I.p15 (aE ((fP I.p15 (aX I.p8)),I.2.1,I.p2,I.p3,I.p4,I.p5,I.p6,I.p7,I.p8,I.p9,I.p10,I.p12,I.p13,I.p14,I.p15,I.p16,I.p17,I.q18)) (aE (aj,I.2.1,I.p2,I.p3,I.p4,I.p5,I.p6,I.p7,I.p8,I.p9,I.p10,I.p12,I.p13,I.p14,I.p15,I.p16,I.p17,I.q18))) λM=>(bcase M.1 (obind (vQ (M.p14,M.2.1,M.p2,M.p3,M.p4,M.p5,M.p6,M.p7,M.p8,M.p9,M.p10)) λY=>(bE (aB (al M.p10) (al Y.q9)&&(aB (al M.p9) (al Y.p8)&&(aB (al M.p8) (al Y.p7)&&(aB (al M.p7) (al Y.p6)&&(aB (al M.p6) (al Y.p5)&&(aB (al M.p5) (al Y.p4)&&(aB (al M.p4) (al Y.p3)&&(aB (al M.p3) (al Y.p2)&&(aB (al M.p2) (al Y.2.1)&&ai))))))))) (aE (Y.1,Y.2.1,Y.p2,Y.p3,Y.p4,Y.p5,Y.p6,Y.p7,Y.p8,Y.q9)))) (aE (M.2.1,M.p2,M.p3,M.p4,M.p5,M.p6,M.p7,M.p8,M.p9,M.p10)))) (be x.1.p2 19 (it (Int×(List Int)×(List (List Int))×(List (List Int))×(List (List Int))×(List (List Int))×(List (List Int))×(List (List Int))×(List (List Int))×(List Int)×(List Int)×Int×Int×Int×Int×Int×(List Int)×List Int) _ (λJ=>(bx J.1 (aX I.p9) (jn (α:=(List Int)×(List (List Int))×(List (List Int))×(List (List Int))×(List (List Int))×(List (List Int))×(List (List Int))×(List (List Int))×(List Int)×(List Int)×Int×Int×Int×Int×Int×(List Int)×List Int) (ck (fe J.1 (al J.p9)) (be (aJ (T:=aM) J.p9 J.1) J.p13 (obind (vQ (J.1,J.2.1,J.p2,J.p3,J.p4,J.p5,J.p6,J.p7,J.p8,J.p9,J.p10)) λU=>(bE (aB (al J.p10) (al U.q9)&&(aB (al J.p9) (al U.p8)&&(aB (al J.p8) (al U.p7)&&(aB (al J.p7) (al U.p6)&&(aB (al J.p6) (al U.p5)&&(aB (al J.p5) (al U.p4)&&(aB (al J.p4) (al U.p3)&&(aB (al J.p3) (al U.p2)&&(aB (al J.p2) (al U.2.1)&&ai))))))))) (aE (U.1,U.2.1,U.p2,U.p3,U.p4,U.p5,U.p6,U.p7,U.p8,U.q9,J.p11,J.p12,J.p13,J.p14,J.p15,J.p16,J.q17)))) (aE (J.2.1,J.p2,J.p3,J.p4,J.p5,J.p6,J.p7,J.p8,J.p9,J.p10,J.p11,J.p12,J.p13,J.p14,J.p15,J.p16,J.q17)))) λZ=>(cK ((cB J.1),Z.1,Z.2.1,Z.p2,Z.p3,Z.p4,Z.p5,Z.p6,Z.p7,Z.p8,Z.p9,Z.p10,Z.p11,Z.p12,Z.p13,Z.p14,Z.p15,Z.q16))) (aE (bU (J.2.1,J.p2,J.p3,J.p4,J.p5,J.p6,J.p7,J.p8,J.p9,J.p10))))) (0,I.2.1,I.p2,I.p3,I.p4,I.p5,I.p6,I.p7,I.p8,I.p9,I.p10,I.p12,I.p13,I.p14,I.p15,I.p16,I.p17,I.q18)) (aE (I.2.1,I.p2,I.p3,I.p4,I.p5,I.p6,I.p7,I.p8,I.p9,I.p10)))))))))))) λx2=>(af (x2.1,x2.2.1,x2.p2,x2.p3,x2.p4,x2.p5,x2.p6,x2.p7,x2.p8,x2.q9)))))
def DJ (x:Yd4×(List Int)×(List (List Int))×(List (List Int))×(List (List Int))×(List (List Int))×(List (List Int))×(List (List Int))×(List (List Int))×(List Int)×List Int):Option Yd1:=zJ @iter x
def pt (x:Yd4×(List Int)×(List (List Int))×(List (List Int))×(List (List Int))×(List (List Int))×(List (List Int))×(List (List Int))×(List (List Int))×(List Int)×List Int):Option Yd1:=zJ @fX x
def Cy (it:ye) (x:dG×Wm×Int×Int×Int×Int×Int×(List Int)×List Int):Option (Wm×List Int):=
 (obind (q_ (x.2.1.1,x.2.1.2.1,x.2.1.p2,x.2.1.p3,x.2.1.p4,x.2.1.p5,x.2.1.p6,x.2.1.p7,x.2.1.q8)) λU=>(ck (fe x.p2 (al U.2.1)) (obind (rc ((x.p2,x.p3,x.p4,x.p5,x.p6,x.p7,x.q8),U.1,(x.1.1,x.1.2.1,x.1.p2,x.1.p3,x.1.p4,x.1.q5),U.2.1,U.p2,U.p3,U.p4,U.p5,U.p6,U.p7,U.q8)) λJ=>(bE (aB (al U.q8) (al J.q11)&&(aB (al U.p7) (al J.p10)&&(aB (al U.p6) (al J.p9)&&(aB (al U.p5) (al J.p8)&&(aB (al U.p4) (al J.p7)&&(aB (al U.p3) (al J.p6)&&(aB (al U.p2) (al J.p5)&&(aB (al U.2.1) (al J.p4)&&ai)))))))) (it (Int×dG×gF×(List Int)×(List Int)×(List (List Int))×(List (List Int))×(List (List Int))×(List (List Int))×(List (List Int))×(List (List Int))×(List (List Int))×List Int) _ (λI=>(bx I.1 (aX J.1) (ve I.1 J.1 (obind (jm (I.p4,(aJ (T:=(.sl aM)) J.1 I.1))) λZ=>(cK ((cB I.1),(I.2.1.1,I.2.1.2.1,I.2.1.p2,I.2.1.p3,I.2.1.p4,I.2.1.q5),(I.p2.1,I.p2.2.1,I.p2.p2,I.p2.p3,I.p2.p4,I.p2.p5,I.p2.q6),I.p3,Z,I.p5,I.p6,I.p7,I.p8,I.p9,I.p10,I.p11,I.q12)))) (obind (obind (pw (I.p4,I.p2.1)) λY=>(obind (pt (((I.2.1.1,I.2.1.2.1,I.2.1.p2,I.2.1.p3,I.2.1.p4,I.2.1.q5),I.p2.1,I.p2.2.1,I.p2.p2,I.p2.p3,I.p2.p4,I.p2.p5,I.p2.q6),I.p3,I.p5,I.p6,I.p7,I.p8,I.p9,I.p10,I.p11,I.q12,Y)) λM=>(bE (aB (al Y) (al M.q9)&&(aB (al I.q12) (al M.p8)&&(aB (al I.p11) (al M.p7)&&(aB (al I.p10) (al M.p6)&&(aB (al I.p9) (al M.p5)&&(aB (al I.p8) (al M.p4)&&(aB (al I.p7) (al M.p3)&&(aB (al I.p6) (al M.p2)&&(aB (al I.p5) (al M.2.1)&&ai))))))))) (af ((M.2.1,M.p2,M.p3,M.p4,M.p5,M.p6,M.1,M.p7,M.p8),M.q9))))) λr=>af (bU r)))) (0,(J.p3.1,J.p3.2.1,J.p3.p2,J.p3.p3,J.p3.p4,J.p3.q5),(J.2.1.1,J.2.1.2.1,J.2.1.p2,J.2.1.p3,J.2.1.p4,J.2.1.p5,J.2.1.q6),J.p2,(aJ (T:=(.sl aM)) U.2.1 x.p2),J.p4,J.p5,J.p6,J.p7,J.p8,J.p9,J.p10,J.q11))))))
def HX (x:dG×Wm×Int×Int×Int×Int×Int×(List Int)×List Int):Option (Wm×List Int):=Cy @iter x
def rV (x:dG×Wm×Int×Int×Int×Int×Int×(List Int)×List Int):Option (Wm×List Int):=Cy @fX x
def Cx (it:ye) (x:(List Int)×List Int):Option (Bool):=
 (it (Int) _ (λI=>(bx I (j9 (aX x.1) (aX x.2)) (obind (Ca (x.1,I)) λM=>(obind (Ca (x.2,I)) λJ=>(bx J M (aE aj) (cK (cB I))))) (aE ai))) 0)
def HW (x:(List Int)×List Int):Option (Bool):=Cx @iter x
def tI (x:(List Int)×List Int):Option (Bool):=Cx @fX x
def rj (it:ye) (x:List UInt8):Option (Bool):=
 (lt (aJ (T:=(.st (.pr .str (.pr .str (.pr .str (.pr .str (.pr .str (.pr .str (.pr .str (.pr .str (.pr .str (.pr .str (.pr .str (.pr .str (.pr .str (.pr .str (.pr .str (.pr .str (.pr .str (.pr .str (.pr .str (.pr .str (.pr .str .str))))))))))))))))))))))) ([kwV]) 0) λI=>(it (Int) _ (λJ=>(bx J 22 (bE (cV 0 J&&fP J 22) (lt (aJ (T:=.str) [I.1,I.2.1,I.p2,I.p3,I.p4,I.p5,I.p6,I.p7,I.p8,I.p9,I.p10,I.p11,I.p12,I.p13,I.p14,I.p15,I.p16,I.p17,I.p18,I.p19,I.p20,I.q21] J) λM=>(bcase (decide ((x:List UInt8)=M)) (aE ai) (cK (cB J))))) (aE aj))) 0))
def qP (x:List UInt8):Option (Bool):=rj @iter x
def kM (x:List UInt8):Option (Bool):=rj @fX x
def vo (it:ye) (x:List UInt8):Option (Bool):=
 (jn (α:=Bool) (bx (aX x) 1 (aE ai) (bx 12 (aX x) (aE ai) (obind (kM x) λU=>(aE U)))) λZ=>(bcase Z (af aj) (it (List (fg×Unit)) _ (λI=>(bcase (gd (Nl I) (al (ON I))) (bE (fP (zS (ON I) (aO (Nl I))) 128) (jn (α:=List (fg×Unit)) (jn (α:=Bool×List (fg×Unit)) (jN 97 (zS (ON I) (aO (Nl I))) (jN (zS (ON I) (aO (Nl I))) 122 (aE (ai,[(((ON I),(aO ((Nl I)+1))),())])) (jN 65 (zS (ON I) (aO (Nl I))) (aE ((cV (zS (ON I) (aO (Nl I))) 90),[(((ON I),(aO ((Nl I)+1))),())])) (aE (aj,[(((ON I),(aO ((Nl I)+1))),())])))) (jN 65 (zS (ON I) (aO (Nl I))) (aE ((cV (zS (ON I) (aO (Nl I))) 90),[(((ON I),(aO ((Nl I)+1))),())])) (aE (aj,[(((ON I),(aO ((Nl I)+1))),())])))) λJ=>(bcase J.1 (aE J.2) (jn (α:=Bool×List (fg×Unit)) (bx 0 (aO (Nl I)) (be (zS (ON I) (aO (Nl I))) 95 (aE (ai,J.2)) (jN 48 (zS (ON I) (aO (Nl I))) (aE ((cV (zS (ON I) (aO (Nl I))) 57),J.2)) (aE (aj,J.2)))) (aE (aj,J.2))) λM=>(bcase M.1 (aE M.2) (cK (bU aj)))))) λY=>(cK Y))) (aE ai))) ([((x,0),())]))))
def vg (x:List UInt8):Option (Bool):=vo @iter x
def ou (x:List UInt8):Option (Bool):=vo @fX x
def xg (it:ye) (x:(List Int)×Int):Option (Int):=
 (it (Int) _ (λI=>(bx I (aX x.1) (bK aM x.1 I λJ=>(be x.2 J (aE I) (cK (cB I)))) (aE (-1)))) 0)
def Bg (x:(List Int)×Int):Option (Int):=xg @iter x
def re (x:(List Int)×Int):Option (Int):=xg @fX x
def km (x:(List Int)×Int):Option (Bool):=
 (obind (re x) λI=>(af (cV 0 I)))
def vm (x:(List Int)×Int×Int):Option (Bool):=
 (obind (iT (x.1,x.2.2)) λI=>(af (cV x.2.1 I)))
def sj (x:Int×Int):Option (Bool):=
 (jn (α:=Bool) (jN 0 x.1 (aE (fP x.1 x.2)) (aE aj)) λI=>(af I))
def sk (x:dG×Int×Bool):Option (Bool):=
 (jn (α:=Bool) (obind (sj (x.2.1,(aX x.1.2.1))) λJ=>(bcase J (bK ry x.1.2.1 x.2.1 λI=>(aE ((I.2==x.2.2) !=aj))) (aE aj))) λM=>(af M))
def oc (it:ye) (x:List RK):Option (ca×Bool):=
 (it (Int×List (List UInt8)) _ (λM=>(bx M.1 (aX x) (jn (α:=Int×List (List UInt8)) (bK kw x M.1 λI=>(bE (bc (al M.2+al ([I.1])) 16) (be I.p2 0 (iI I.2.1 0 (cK (bU (([]:List (List UInt8)),aj))) (aE ((cB M.1),(M.2++([I.1]))))) (jn (α:=Bool×ca×(List UInt8)×Int×Int×Bool×Int) (bx I.p2 1 (aE (ai,(M.2++([I.1])),I)) (bx 4 I.p2 (aE (ai,(M.2++([I.1])),I)) (bcase I.p3 (aE (ai,(M.2++([I.1])),I)) (aE ((fP (bl .i64 ((aX x)-M.1)) I.p2),(M.2++([I.1])),I))))) λY=>(bcase Y.1 (cK (bU (([]:List (List UInt8)),aj))) (it (Int×ca×(List UInt8)×Int×Int×Bool×Int) _ (λJ=>(bx J.1 Y.p4 (bK kw x (bl .i64 (M.1+J.1)) λU=>(bcase (OO (.pr .str (.pr aM (.pr aM (.pr .bool (.pr aM .un))))) (U.1,U.2.1,U.p2,U.p3,U.q4,()) (J.p2,J.1,J.p4,J.p5,J.q6,()) !=ai) (aE (oE (bU (([]:List (List UInt8)),aj)))) (cK ((cB J.1),J.2.1,J.p2,J.1,J.q4)))) (aE (bU ((bl .i64 (M.1+J.p4)),J.2.1))))) (0,Y.2))))))) λZ=>(cK Z)) (aE (M.2,ai)))) (0,([]:List (List UInt8))))
def nY (x:List RK):Option (ca×Bool):=oc @iter x
def gR (x:List RK):Option (ca×Bool):=oc @fX x
def oa (it:ye) (x:dG×List (List UInt8)):Option (Bool):=
 (bE (bc (al (x.2:List (List UInt8))) 16) (it (Int×dG×List (List UInt8)) _ (λJ=>(bx J.1 (aX x.1.2.1) (bK ry x.1.2.1 J.1 λz2=>(bE (bc (al J.2.2+al ([z2.1])) 16) (cK ((cB J.1),J.2.1,(J.2.2++([z2.1])))))) (obind (it (Int×dG×List (List UInt8)) _ (λI=>(bx I.1 (aX J.2.1.p2) (bK lY J.2.1.p2 I.1 λZ=>(bE (bc (al I.2.2+al ([Z.1])) 16) (cK ((cB I.1),I.2.1,(I.2.2++([Z.1])))))) (obind (bE (bc (al I.2.2+al I.2.1.p3) 16) (bE (bc (al (I.2.2++I.2.1.p3)+al I.2.1.p4) 16) (it (Int×gy×List (List UInt8)) _ (λM=>(bx M.1 (aO (al ((I.2.2++I.2.1.p3)++I.2.1.p4))) (kA (.str) M.2.2 M.1 λU=>(jn (α:=Bool×gy×List (List UInt8)) (obind (ou U) λy8=>(bcase (!y8) (aE (ai,M.2)) (aE ((E8 (K:=.str) (V:=.bool) U M.2.1 aj),M.2)))) λY=>(bcase Y.1 (aE aj) (cK ((cB M.1),(HZ (K:=.str) (V:=.bool) U ai Y.2.1),Y.2.2))))) (aE ai))) (0,([]:List ((List UInt8)×Bool)),((I.2.2++I.2.1.p3)++I.2.1.p4))))) λr=>af (bU r)))) (0,J.2)) λr=>af (bU r)))) (0,x)))
def nX (x:dG×List (List UInt8)):Option (Bool):=oa @iter x
def dI (x:dG×List (List UInt8)):Option (Bool):=oa @fX x
def kC (it:ye) (x:gO×gy×(List fg)×ca×ca×List (Int×Int×Int)):Option (Bool):=
 (it ((Int×Int×Int)×gO×gy×(List fg)×ca×ca×List (Int×Int×Int)) _ (λI=>(bx I.1.2.2 (aX x.q5) (bK oD x.q5 I.1.2.2 λU=>(jn (α:=Bool×dG×Int×Int×Int) (bx U.1 I.1.1 (aE (ai,I.2,U)) (aE ((cV (aX I.p5) U.1),I.2,U))) λM=>(bcase M.1 (aE aj) (jn (α:=(Int×Int)×dG×Int×Int×Int) (bx I.1.1 M.p2 (aE ((M.p2,0),M.2)) (aE ((I.1.1,I.1.2.1),M.2))) λJ=>(iI J.p3 J.1.2 (aE aj) (cK ((J.1.1,(cB J.1.2),(cB I.1.2.2)),J.2.1))))))) (aE ai))) ((0,0,0),x))
def nW (x:gO×gy×(List fg)×ca×ca×List (Int×Int×Int)):Option (Bool):=kC @iter x
def fR (x:gO×gy×(List fg)×ca×ca×List (Int×Int×Int)):Option (Bool):=kC @fX x
def kD (it:ye) (x:gO×gy×(List fg)×ca×ca×List (Int×Int×Int)):Option (Bool):=
 (jn (α:=Bool×gO×gy×(List fg)×ca×ca×List (Int×Int×Int)) (bx 12 (aX x.1) (aE (ai,x)) (bx 4 (aX x.2.1) (aE (ai,x)) (bx 2 (aX x.p2) (aE (ai,x)) (bx 2 (aX x.p3) (aE (ai,x)) (aE ((fP 60 (aX x.q5)),x)))))) λM=>(bcase M.1 (af aj) (jn (α:=Bool×gO×gy×(List fg)×ca×ca×List (Int×Int×Int)) (bx (aX M.p5) 1 (aE (ai,M.2)) (aE ((fP 4 (aX M.p5)),M.2))) λJ=>(bcase J.1 (af aj) (obind (gR J.2.1) λY=>(jn (α:=Bool×gO×gy×(List fg)×ca×ca×List (Int×Int×Int)) (bcase (!Y.2) (aE (ai,J.2)) (obind (dI (J.2,Y.1)) λy5=>(aE ((!y5),J.2)))) λU=>(bcase U.1 (af aj) (it Yd3 _ (λI=>(bx I.1 (aX U.p3) (bK lY U.p3 I.1 λZ=>(obind (sk (I.2,Z.2,aj)) λy8=>(bcase (!y8) (aE aj) (cK ((cB I.1),I.2))))) (obind (obind (fR I.2) λy9=>(af y9)) λr=>af (bU r)))) (0,U.2)))))))))
def nZ (x:gO×gy×(List fg)×ca×ca×List (Int×Int×Int)):Option (Bool):=kD @iter x
def dJ (x:gO×gy×(List fg)×ca×ca×List (Int×Int×Int)):Option (Bool):=kD @fX x
def vp (it:ye) (x:gO×gy×(List fg)×ca×ca×List (Int×Int×Int)):Option oR:=
 (bE (cV 0 (aX x.2.1)&&cV (aX x.2.1) (aX x.2.1)&&bc (aS (aX x.2.1)) 32) (bE (cV 0 (aX x.p3)&&cV (aX x.p3) (aX x.p3)&&bc (aS (aX x.p3)) 1) (bE (cV 0 (aX x.p4)&&cV (aX x.p4) (aX x.p4)&&bc (aS (aX x.p4)) 24) (it (Int×Int×Int×gx×(List Bool)×List dj) _ (λI=>(bx I.1 (aO (al (aG (aS (aX x.2.1)) ((0,[]):Int×List Int)))) (ck (fe I.1 (al I.p3)) (cK ((cB I.1),I.2.1,I.p2,(cq I.p3 I.1 ((-1),(aJ (T:=dS) I.p3 I.1).2)),I.q4))) (obind (jn (α:=Int×Int×gx×(List Bool)×List dj) (bx 0 (aX I.q5) (ck (fe 0 (al I.q5)) (aE (I.2.1,I.p2,I.p3,I.p4,(cq I.q5 0 (1,(aJ (T:=hX) I.q5 0).2))))) (aE I.2)) λJ=>(af (J.p2,J.2.1,J.q3))) λr=>af (bU r)))) (0,0,(-1),(aG (aS (aX x.2.1)) ((0,[]):Int×List Int)),(aG (aS (aX x.p3)) (aj:Bool)),(aG (aS (aX x.p4)) ((0,(0,aj)):Int×Int×Bool)))))))
def vi (x:gO×gy×(List fg)×ca×ca×List (Int×Int×Int)):Option oR:=vp @iter x
def oy (x:gO×gy×(List fg)×ca×ca×List (Int×Int×Int)):Option oR:=vp @fX x
def qd (it:ye) (x:gO×gy×(List fg)×ca×ca×List (Int×Int×Int)):Option ey:=
 (obind (oy x) λM=>(bE (cV 0 0&&cV 0 (aX x.1)&&bc (aS (aX x.1)) 8) (bE (cV 0 (aX x.p3)&&cV (aX x.p3) (aX x.p3)&&bc (aS (aX x.p3)) 8) (bE (cV 0 (aX x.p4)&&cV (aX x.p4) (aX x.p4)&&bc (aS (aX x.p4)) 8) (it (Int×Int×oR×(List Int)×(List Int)×List Int) _ (λI=>(bx I.1 (aX x.1) (bK kw x.1 I.1 λJ=>(bE (bc (al I.p3+al ([J.q4])) 8) (cK ((cB I.1),I.2.1,I.p2,(I.p3++([J.q4])),I.q4)))) (aE I.2.2))) (0,0,M,(aG (aS 0) (0:Int)),(aG (aS (aX x.p3)) (0:Int)),(aG (aS (aX x.p4)) (0:Int))))))))
def pP (x:gO×gy×(List fg)×ca×ca×List (Int×Int×Int)):Option ey:=qd @iter x
def c8 (x:gO×gy×(List fg)×ca×ca×List (Int×Int×Int)):Option ey:=qd @fX x
def ka (it:ye) (x:(List Bool)×Int×Int×Int×Int×Int×(List Int)×List Int):Option (Bool):=
 (it (Int) _ (λI=>(bx I 2 (bE (cV 0 I&&fP I 2) (lt (aJ (T:=(.sl aM)) [x.p6,x.q7] I) λU=>(it (Int) _ (λM=>(bx M (aX U) (bK aM U M λJ=>(jn (α:=Bool) (bx J 0 (aE ai) (jN (aX x.1) J (aE ai) (bK (.bool) x.1 J λY=>(aE (!Y))))) λZ=>(bcase Z (aE (bU aj)) (cK (cB M))))) (aE (oE (cB I))))) 0))) (aE ai))) 0)
def mB (x:(List Bool)×Int×Int×Int×Int×Int×(List Int)×List Int):Option (Bool):=ka @iter x
def cf (x:(List Bool)×Int×Int×Int×Int×Int×(List Int)×List Int):Option (Bool):=ka @fX x
def eU (x:Int×Int):Option (Bool):=
 (jn (α:=Bool) (jN 0 x.1 (aE (fP x.1 x.2)) (aE aj)) λI=>(af I))
def lK (x:dG×Int×Int):Option (Bool):=
 (jn (α:=Bool×gO×gy×(List fg)×ca×ca×List (Int×Int×Int)) (be x.2.1 1 (aE ((decide ((x.2.1:Int)=1)),x.1)) (be x.2.1 2 (aE ((decide ((x.2.1:Int)=2)),x.1)) (be x.2.1 5 (aE ((decide ((x.2.1:Int)=5)),x.1)) (be x.2.1 12 (aE ((decide ((x.2.1:Int)=12)),x.1)) (be x.2.1 13 (aE ((decide ((x.2.1:Int)=13)),x.1)) (be x.2.1 14 (aE ((decide ((x.2.1:Int)=14)),x.1)) (aE ((decide ((x.2.1:Int)=15)),x.1)))))))) λx1=>(bcase x1.1 (af (decide ((x.2.2:Int)=(-1)))) (jn (α:=Bool×gO×gy×(List fg)×ca×ca×List (Int×Int×Int)) (be x.2.1 3 (aE ((decide ((x.2.1:Int)=3)),x1.2)) (aE ((decide ((x.2.1:Int)=4)),x1.2))) λZ=>(bcase Z.1 (obind (eU (x.2.2,(aX Z.2.1))) λy3=>(af y3)) (jn (α:=Bool×gO×gy×(List fg)×ca×ca×List (Int×Int×Int)) (be x.2.1 6 (aE ((decide ((x.2.1:Int)=6)),Z.2)) (aE ((decide ((x.2.1:Int)=7)),Z.2))) λU=>(bcase U.1 (jn (α:=Bool) (obind (eU (x.2.2,(aX U.p2))) λy6=>(bcase y6 (bK ry U.p2 x.2.2 λz7=>(aE (!z7.2))) (aE aj))) λx5=>(af x5)) (jn (α:=Bool×gO×gy×(List fg)×ca×ca×List (Int×Int×Int)) (be x.2.1 8 (aE ((decide ((x.2.1:Int)=8)),U.2)) (be x.2.1 9 (aE ((decide ((x.2.1:Int)=9)),U.2)) (be x.2.1 10 (aE ((decide ((x.2.1:Int)=10)),U.2)) (aE ((decide ((x.2.1:Int)=11)),U.2))))) λM=>(bcase M.1 (jn (α:=Bool) (obind (eU (x.2.2,(aX M.p2))) λy10=>(bcase y10 (bK ry M.p2 x.2.2 λz11=>(aE z11.2)) (aE aj))) λx9=>(af x9)) (jn (α:=Bool×gO×gy×(List fg)×ca×ca×List (Int×Int×Int)) (be x.2.1 16 (aE ((decide ((x.2.1:Int)=16)),M.2)) (be x.2.1 17 (aE ((decide ((x.2.1:Int)=17)),M.2)) (be x.2.1 18 (aE ((decide ((x.2.1:Int)=18)),M.2)) (aE ((decide ((x.2.1:Int)=19)),M.2))))) λJ=>(bcase J.1 (obind (eU (x.2.2,(aX J.p3))) λy13=>(af y13)) (jn (α:=Bool×gO×gy×(List fg)×ca×ca×List (Int×Int×Int)) (be x.2.1 20 (aE ((decide ((x.2.1:Int)=20)),J.2)) (aE ((decide ((x.2.1:Int)=21)),J.2))) λI=>(bcase I.1 (obind (eU (x.2.2,(aX I.p5))) λy15=>(af y15)) (jn (α:=Bool×gO×gy×(List fg)×ca×ca×List (Int×Int×Int)) (be x.2.1 22 (aE ((decide ((x.2.1:Int)=22)),I.2)) (aE ((decide ((x.2.1:Int)=23)),I.2))) λY=>(bcase Y.1 (obind (eU (x.2.2,(aX Y.p4))) λy17=>(af y17)) (af aj)))))))))))))))
def sX (it:ye) (x:dG×gx×Int×(List Bool)×List dj):Option (Bool):=
 (jn (α:=Bool×gO×gy×(List fg)×ca×ca×List (Int×Int×Int)) (iI (aX x.2.1) (aX x.1.2.1) (aE (ai,x.1)) (iI (aX x.p3) (aX x.1.p3) (aE (ai,x.1)) (aE ((!decide (((aX x.q4):Int)=(aX x.1.p4))),x.1)))) λJ=>(bcase J.1 (af aj) (it Yd3 _ (λI=>(bx I.1 (aX J.p3) (bK lY J.p3 I.1 λM=>(obind (eU (M.2,(aX I.p2))) λU=>(bcase (!U) (aE aj) (cK ((cB I.1),I.2))))) (aE ai))) (0,J.2))))
def wU (x:dG×gx×Int×(List Bool)×List dj):Option (Bool):=sX @iter x
def j8 (x:dG×gx×Int×(List Bool)×List dj):Option (Bool):=sX @fX x
def ox (x:dG×oR×Int×Int×Int):Option (Bool):=
 (be x.p3 6 (bK dS x.2.1.1 x.q4 λz1=>(af (decide ((z1.1:Int)=(-1))))) (be x.p3 10 (jn (α:=Bool) (bK dS x.2.1.1 x.q4 λz3=>(be z3.1 (-1) (bK dS x.2.1.1 x.q4 λz4=>(aE (decide (((aX z4.2):Int)=0)))) (aE aj))) λx2=>(af x2)) (be x.p3 8 (jn (α:=Bool) (bK dS x.2.1.1 x.q4 λz6=>(be z6.1 (-1) (bK dS x.2.1.1 x.q4 λz7=>(obind (km (z7.2,x.p2)) λy8=>(aE (!y8)))) (aE aj))) λx5=>(af x5)) (jn (α:=Bool×dG×gx×Int×(List Bool)×List dj) (be x.p3 7 (aE ((decide ((x.p3:Int)=7)),x.1,x.2.1)) (aE ((decide ((x.p3:Int)=11)),x.1,x.2.1))) λJ=>(bcase J.1 (bK dS J.p2 x.q4 λz10=>(af (decide ((z10.1:Int)=x.p2)))) (be x.p3 9 (bK dS J.p2 x.q4 λz11=>(obind (km (z11.2,x.p2)) λy12=>(af y12))) (be x.p3 12 (af (decide ((J.p3:Int)=(-1)))) (be x.p3 13 (af (decide ((J.p3:Int)=x.p2))) (be x.p3 14 (bK hX J.q5 x.p2 λz13=>(af (!z13.2.2))) (be x.p3 15 (bK hX J.q5 x.p2 λz14=>(af z14.2.2)) (jn (α:=Bool×dG×gx×Int×(List Bool)×List dj) (be x.p3 16 (aE ((decide ((x.p3:Int)=16)),J.2)) (be x.p3 18 (aE ((decide ((x.p3:Int)=18)),J.2)) (aE ((decide ((x.p3:Int)=19)),J.2)))) λI=>(bcase I.1 (bK lY I.2.1.p2 x.q4 λz16=>(bK dS I.p2 z16.2 λz17=>(af (decide ((z17.1:Int)=x.p2))))) (be x.p3 20 (jn (α:=Bool) (iI x.q4 x.p2 (bK hX I.q5 x.q4 λZ=>(aE (decide ((Z.1:Int)=0)))) (aE aj)) λx18=>(af x18)) (be x.p3 21 (jn (α:=Bool) (iI x.q4 x.p2 (bK hX I.q5 x.q4 λY=>(aE (decide ((Y.1:Int)=5)))) (aE aj)) λx20=>(af x20)) (be x.p3 22 (bK (.bool) I.p4 x.q4 λU=>(af (!U))) (be x.p3 23 (bK (.bool) I.p4 x.q4 λM=>(af M)) (af ai)))))))))))))))))
def iX (x:dG×oR×Int×Int×Int):Option (Bool):=
 (jn (α:=Bool×dG×gx×Int×(List Bool)×List dj) (obind (j8 (x.1,x.2.1)) λy2=>(bcase (!y2) (aE (ai,x.1,x.2.1)) (obind (eU (x.p2,(aX x.1.p4))) λy3=>(bcase (!y3) (aE (ai,x.1,x.2.1)) (obind (lK (x.1,x.q3)) λZ=>(aE ((!Z),x.1,x.2.1))))))) λI=>(bcase I.1 (af aj) (bK hX I.q5 x.p2 λJ=>(be x.p3 1 (af (decide ((J.1:Int)=1))) (be x.p3 17 (jn (α:=Bool) (be J.1 4 (be J.2.1 x.q4 (bK lY I.2.1.p2 x.q4 λY=>(bK dS I.p2 Y.2 λU=>(aE (decide ((U.1:Int)=(-1)))))) (aE aj)) (aE aj)) λx6=>(af x6)) (jn (α:=Bool) (be J.1 2 (obind (ox (I.2.1,I.2.2,x.2.2)) λM=>(aE M)) (aE aj)) λx9=>(af x9)))))))
def kL (x:dG×oR×(List Int)×(List Int)×List Int):Option (Bool):=
 (jn (α:=Bool) (obind (j8 (x.1,x.2.1)) λI=>(bcase I (be (aX x.p2) (aX x.1.1) (be (aX x.p3) (aX x.1.p3) (aE (decide (((aX x.q4):Int)=(aX x.1.p4)))) (aE aj)) (aE aj)) (aE aj))) λJ=>(af J))
def jv (x:dG×Int×Int×Int×Int×Int×(List Int)×List Int):Option (Bool):=
 (jn (α:=Bool×dG×Int×Int×Int×Int×Int×(List Int)×List Int) (be x.p2 1 (aE (ai,x)) (aE ((decide ((x.p2:Int)=2)),x))) λI=>(bcase I.1 (af (decide ((I.p6:Int)=(-1)))) (jn (α:=Bool) (jN 0 I.p6 (bx I.p6 (aX I.2.1.q5) (bK oD I.2.1.q5 I.p6 λJ=>(aE (decide ((J.1:Int)=I.p2)))) (aE aj)) (aE aj)) λM=>(af M))))
def jh (it:ye) (x:dG×ey×Int×Int×Int×Int×Int×(List Int)×List Int):Option (Bool):=
 (jn (α:=Bool×ey×Int×Int×Int×Int×Int×(List Int)×List Int) (be x.p3 3 (bK kw x.1.1 x.p4 λz2=>(aE ((!decide ((z2.2.2.1:Int)=0)),x.2))) (be x.p3 4 (bK kw x.1.1 x.p4 λz3=>(aE ((!decide ((z3.2.2.1:Int)=0)),x.2))) (aE (aj,x.2)))) λI=>(jn (α:=ey×gF×Bool×Bool) (be I.p3 5 (be I.p3 4 (aE (I.2.1,I.2.2,ai,ai)) (aE (I.2.1,I.2.2,ai,(decide ((I.p3:Int)=22))))) (be I.p3 4 (aE (I.2.1,I.2.2,I.1,ai)) (aE (I.2.1,I.2.2,I.1,(decide ((I.p3:Int)=22)))))) λx4=>(it (Int×ey×gF×Bool×Bool) _ (λJ=>(bx J.1 2 (bE (cV 0 J.1&&fP J.1 2) (lt (aJ (T:=(.sl aM)) [x4.2.1.p5,x4.2.1.q6] J.1) λZ=>(jn (α:=Bool×ey×gF×Bool×Bool) (bx 0 (aX Z) (bE (cV 0 J.1&&fP J.1 2) (bE (fe J.1 2) (lt (aJ (T:=.bool) [J.p3,J.q4] J.1) λz8=>(aE ((!z8),J.2))))) (aE (aj,J.2))) λx7=>(bcase x7.1 (aE aj) (it ((Int×Int)×ey×gF×Bool×Bool) _ (λM=>(bx M.1.2 (aX Z) (bK aM Z M.1.2 λU=>(jn (α:=Bool×ey×gF×Bool×Bool) (jN U M.1.1 (aE (ai,M.2)) (bK aM M.2.1.q3 M.p2.1 λz12=>(aE ((cV z12 U),M.2)))) λY=>(bcase Y.1 (aE (bU aj)) (cK ((U,(cB M.1.2)),Y.2))))) (aE (oE ((cB J.1),M.2))))) ((0,0),x7.2)))))) (aE ai))) (0,x4))))
def lj (x:dG×ey×Int×Int×Int×Int×Int×(List Int)×List Int):Option (Bool):=jh @iter x
def eQ (x:dG×ey×Int×Int×Int×Int×Int×(List Int)×List Int):Option (Bool):=jh @fX x
def lx (it:ye) (x:ey×Int×Int×Int×Int×Int×(List Int)×List Int):Option (Bool):=
 (be x.p2 3 (bK aM x.1.2.1 x.p3 λz1=>(af (decide ((x.p4:Int)=z1)))) (be x.p2 23 (bK aM x.1.p2 x.p3 λz2=>(af (decide ((x.p4:Int)=z2)))) (be x.p2 5 (jn (α:=Bool) (be x.p4 0 (aE ai) (aE (decide ((x.p4:Int)=1)))) λx3=>(af x3)) (jn (α:=Bool×ey×Int×Int×Int×Int×Int×(List Int)×List Int) (be x.p2 4 (aE ((decide ((x.p2:Int)=4)),x)) (aE ((decide ((x.p2:Int)=22)),x))) λM=>(bcase M.1 (af ai) (be x.p2 18 (it ((Int×Bool×Int)×Int×Int×Int×Int×Int×(List Int)×List Int) _ (λJ=>(bx J.1.2.2 (aX M.2.1.1.q3) (jn (α:=(Int×Bool)×Int×Int×Int×Int×Int×(List Int)×List Int) (bK hX M.2.1.1.q3 J.1.2.2 λz7=>(jn (α:=Bool×Int×Int×Int×Int×Int×(List Int)×List Int) (be z7.1 3 (aE ((decide ((z7.2.1:Int)=J.p3)),J.2)) (aE (aj,J.2))) λZ=>(bcase Z.1 (bcase J.1.2.1 (aE (((cB J.1.1),ai),Z.2)) (aE (((cB J.1.1),(decide ((Z.p4:Int)=J.1.2.2))),Z.2))) (aE ((J.1.1,J.1.2.1),Z.2))))) λx6=>(cK ((x6.1.1,x6.1.2,(cB J.1.2.2)),x6.2))) (obind (jn (α:=Bool) (bcase J.1.2.1 (aE ai) (be J.1.1 0 (aE (decide ((J.p4:Int)=(-1)))) (aE aj))) λx9=>(af x9)) λr=>af (bU r)))) ((0,aj,0),M.2.2)) (be x.p2 19 (it ((Int×Int)×Int×Int×Int×Int×Int×(List Int)×List Int) _ (λI=>(bx I.1.2 (aX M.2.1.1.q3) (jn (α:=Int×Int×Int×Int×Int×Int×(List Int)×List Int) (bK hX M.2.1.1.q3 I.1.2 λY=>(jn (α:=Bool×Int×Int×Int×Int×Int×(List Int)×List Int) (be Y.1 3 (aE ((decide ((Y.2.1:Int)=I.p3)),I.2)) (aE (aj,I.2))) λU=>(bcase U.1 (aE ((cB I.1.1),U.2)) (aE (I.1.1,U.2))))) λx11=>(cK ((x11.1,(cB I.1.2)),x11.2))) (aE (decide ((I.p4:Int)=I.1.1))))) ((0,0),M.2.2)) (af (decide ((M.p5:Int)=0))))))))))
def oU (x:ey×Int×Int×Int×Int×Int×(List Int)×List Int):Option (Bool):=lx @iter x
def gk (x:ey×Int×Int×Int×Int×Int×(List Int)×List Int):Option (Bool):=lx @fX x
def mb (x:dj×Int):Option (Bool):=
 (jn (α:=Bool) (be x.1.1 3 (aE (decide ((x.1.2.1:Int)=x.2))) (aE aj)) λI=>(af I))
def H7 (x:List Bool):Option (List Bool):=
 (bcase (aB (al x) 0) (EB (af ([]:List Bool)) (bE (bc (al ([]:List Bool)+al x) 1) (af (([]:List Bool)++x)))) (bE (bc (al ([]:List Bool)+al x) 1) (af (([]:List Bool)++x))))
def Nh (x:List Bool):Option (List Bool):=chk (bc (al x) 1) λ_=>af x
def DP (x:List Bool):Option (List Bool):=
 (bcase (aB (al x) 0) (EB (af ([]:List Bool)) (bE (bc (al ([]:List Bool)+al x) 1) (af (([]:List Bool)++x)))) (bE (bc (al ([]:List Bool)+al x) 1) (af (([]:List Bool)++x))))
def H6 (x:List Bool):Option (List Bool):=chk (bc (al x) 1) λ_=>af x
def H4 (x:List dj):Option (List dj):=
 (bcase (aB (al x) 0) (EB (af ([]:List dj)) (bE (bc (al ([]:List dj)+al x) 24) (af (([]:List dj)++x)))) (bE (bc (al ([]:List dj)+al x) 24) (af (([]:List dj)++x))))
def Ng (x:List dj):Option (List dj):=chk (bc (al x) 24) λ_=>af x
def DN (x:List dj):Option (List dj):=
 (bcase (aB (al x) 0) (EB (af ([]:List dj)) (bE (bc (al ([]:List dj)+al x) 24) (af (([]:List dj)++x)))) (bE (bc (al ([]:List dj)+al x) 24) (af (([]:List dj)++x))))
def H3 (x:List dj):Option (List dj):=chk (bc (al x) 24) λ_=>af x
def DO (x:List Int):Option (List Int):=
 (bcase (aB (al x) 0) (EB (af ([]:List Int)) (bE (bc (al ([]:List Int)+al x) 8) (af (([]:List Int)++x)))) (bE (bc (al ([]:List Int)+al x) 8) (af (([]:List Int)++x))))
def yB (x:List Int):Option (List Int):=chk (bc (al x) 8) λ_=>af x
def rI (it:ye) (x:gx×Int×(List Bool)×List dj):Option Yd2:=
 (bE (cV 0 (aX x.1)&&cV (aX x.1) (aX x.1)&&bc (aS (aX x.1)) 32) (it (Int×oR×Int×List (Int×List Int)) _ (λI=>(bx I.1 (aX x.1) (bK dS x.1 I.1 λJ=>(obind (wX J.2) λY=>(ck (fe I.1 (al I.q3)) (cK ((cB I.1),I.2.1,I.p2,(cq I.q3 I.1 (J.1,Y))))))) (obind (obind (H6 I.2.1.p2) λU=>(obind (H3 I.2.1.q3) λM=>(af (I.2.1.2.1,I.q3,U,M)))) λr=>af (bU r)))) (0,x,0,(aG (aS (aX x.1)) ((0,[]):Int×List Int)))))
def vh (x:gx×Int×(List Bool)×List dj):Option Yd2:=rI @iter x
def kl (x:gx×Int×(List Bool)×List dj):Option Yd2:=rI @fX x
def qg (it:ye) (x:(Int×Int×Int)×gx×(List Bool)×List dj):Option Yd2:=
 (it ((Int×Int)×gx×(List Bool)×(List dj)×Int) _ (λI=>(bx I.1.2 (aX x.q3) (jn (α:=Int×gx×(List Bool)×(List dj)×Int) (kA hX I.p3 I.1.2 λU=>(jn (α:=Bool×gx×(List Bool)×(List dj)×Int) (obind (mb (U,x.1.2.1)) λY=>(bcase Y (bx I.1.1 0 (aE (ai,I.2)) (aE ((decide ((I.1.2:Int)=x.1.2.2)),I.2))) (aE (aj,I.2)))) λJ=>(bcase J.1 (aE (I.1.2,J.2)) (aE (I.1.1,J.2))))) λM=>(cK ((M.1,(cB I.1.2)),M.2))) (obind (jn (α:=gx×(List Bool)×List dj) (jN 0 I.1.1 (ck (fe I.1.1 (al I.p3)) (aE (I.2.1,I.p2,(cq I.p3 I.1.1 (4,(aJ (T:=hX) I.p3 I.1.1).2))))) (aE (I.2.1,I.p2,I.p3))) λZ=>(af (I.1.1,Z))) λr=>af (bU r)))) (((-1),0),x.2.1,x.p2,x.q3,x.1.1))
def tF (x:(Int×Int×Int)×gx×(List Bool)×List dj):Option Yd2:=qg @iter x
def jA (x:(Int×Int×Int)×gx×(List Bool)×List dj):Option Yd2:=qg @fX x
def ml (it:ye) (x:(Int×Int)×gx×(List Bool)×List dj):Option Yd2:=
 (it ((Int×Int)×gx×(List Bool)×(List dj)×Int) _ (λI=>(bx I.1.2 (aX x.q3) (jn (α:=Int×gx×(List Bool)×(List dj)×Int) (kA hX I.p3 I.1.2 λM=>(obind (mb (M,x.1.2)) λU=>(bcase U (ck (fe I.1.2 (al I.p3)) (aE ((cB I.1.1),I.2.1,I.p2,(cq I.p3 I.1.2 (4,(aJ (T:=hX) I.p3 I.1.2).2)),I.q4))) (aE (I.1.1,I.2))))) λJ=>(cK ((J.1,(cB I.1.2)),J.2))) (aE (I.1.1,I.2.1,I.p2,I.p3)))) ((0,0),x.2.1,x.p2,x.q3,x.1.1))
def pQ (x:(Int×Int)×gx×(List Bool)×List dj):Option Yd2:=ml @iter x
def gK (x:(Int×Int)×gx×(List Bool)×List dj):Option Yd2:=ml @fX x
def qb (x:Int):Option (Bool):=
 (af (!decide ((x:Int)=x)))
def vk (x:Int×Int):Option (Bool):=
 (jn (α:=Bool) (obind (qb x.1) λJ=>(bcase J (obind (qb x.2) λI=>(bcase (!I) (aE ai) (aE (fP x.1 x.2)))) (aE (fP x.1 x.2)))) λM=>(af M))
def qY (x:Int):Option (Int):=
 (jN 4294967296 x ah (jN 65536 x ah (jN 256 x ah (ve (bl .u8 x) ([0,1,2,2,3,3,3,3,4,4,4,4,4,4,4,4,5,5,5,5,5,5,5,5,5,5,5,5,5,5,5,5,6,6,6,6,6,6,6,6,6,6,6,6,6,6,6,6,6,6,6,6,6,6,6,6,6,6,6,6,6,6,6,6,7,7,7,7,7,7,7,7,7,7,7,7,7,7,7,7,7,7,7,7,7,7,7,7,7,7,7,7,7,7,7,7,7,7,7,7,7,7,7,7,7,7,7,7,7,7,7,7,7,7,7,7,7,7,7,7,7,7,7,7,7,7,7,7,8,8,8,8,8,8,8,8,8,8,8,8,8,8,8,8,8,8,8,8,8,8,8,8,8,8,8,8,8,8,8,8,8,8,8,8,8,8,8,8,8,8,8,8,8,8,8,8,8,8,8,8,8,8,8,8,8,8,8,8,8,8,8,8,8,8,8,8,8,8,8,8,8,8,8,8,8,8,8,8,8,8,8,8,8,8,8,8,8,8,8,8,8,8,8,8,8,8,8,8,8,8,8,8,8,8,8,8,8,8,8,8,8,8,8,8,8,8,8,8,8,8,8,8,8,8,8,8]) (af (bl .i64 (0+(bl .i64 (zS ([0,1,2,2,3,3,3,3,4,4,4,4,4,4,4,4,5,5,5,5,5,5,5,5,5,5,5,5,5,5,5,5,6,6,6,6,6,6,6,6,6,6,6,6,6,6,6,6,6,6,6,6,6,6,6,6,6,6,6,6,6,6,6,6,7,7,7,7,7,7,7,7,7,7,7,7,7,7,7,7,7,7,7,7,7,7,7,7,7,7,7,7,7,7,7,7,7,7,7,7,7,7,7,7,7,7,7,7,7,7,7,7,7,7,7,7,7,7,7,7,7,7,7,7,7,7,7,7,8,8,8,8,8,8,8,8,8,8,8,8,8,8,8,8,8,8,8,8,8,8,8,8,8,8,8,8,8,8,8,8,8,8,8,8,8,8,8,8,8,8,8,8,8,8,8,8,8,8,8,8,8,8,8,8,8,8,8,8,8,8,8,8,8,8,8,8,8,8,8,8,8,8,8,8,8,8,8,8,8,8,8,8,8,8,8,8,8,8,8,8,8,8,8,8,8,8,8,8,8,8,8,8,8,8,8,8,8,8,8,8,8,8,8,8,8,8,8,8,8,8,8,8,8,8,8,8]) (bl .u8 x))))))))))
def tQ (x:Int):Option (Int):=
 (obind (qY x) λI=>(af I))
def jS (it:ye) (x:(Int×Int)×List Int):Option (List Int):=
 (it (Int×List Int) _ (λM=>(bx M.1 x.1.2 (it (Int×List Int) _ (λI=>(jn (α:=Bool×List Int) (bx x.1.1 I.1 (kA aM I.2 I.1 λz4=>(kA aM I.2 (bl .i64 (I.1-1)) λZ=>(obind (vk (z4,Z)) λy6=>(aE (y6,I.2))))) (aE (aj,I.2))) λJ=>(bcase J.1 (kA aM J.2 (bl .i64 (I.1-1)) λU=>(kA aM J.2 I.1 λY=>(ck (fe I.1 (al J.2)) (ck (fe (bl .i64 (I.1-1)) (al (cq J.2 I.1 U))) (cK ((bl .i64 (I.1-1)),(cq (cq J.2 I.1 U) (bl .i64 (I.1-1)) Y))))))) (aE (oE ((cB M.1),J.2)))))) M) (aE M.2))) ((cB x.1.1),x.2))
def jR (x:(Int×Int)×List Int):Option (List Int):=jS @iter x
def fM (x:(Int×Int)×List Int):Option (List Int):=jS @fX x
def n_ (it:ye) (x:(Int×Int×Int)×List Int):Option (List Int):=
 (it ((Int×Int×Int×Bool×Bool)×List Int) _ (λI=>(jN (bl .i64 (I.1.2.1-I.1.1)) 12 (obind (fM ((I.1.1,I.1.2.1),I.2)) λJ=>(bE (aB (al I.2) (al J)&&ai) (aE J))) (be I.1.p2 0 ah (bcase (!I.1.p3) ah ah)))) ((x.1.1,x.1.2.1,x.1.2.2,ai,ai),x.2))
def nV (x:(Int×Int×Int)×List Int):Option (List Int):=n_ @iter x
def i_ (x:(Int×Int×Int)×List Int):Option (List Int):=n_ @fX x
def vS (x:List Int):Option (List Int):=
 (obind (tQ (bl .u64 (aX x))) λJ=>(obind (i_ ((0,(aX x),J),x)) λI=>(bE (aB (al x) (al I)&&ai) (af I))))
def xh (it:ye) (x:List Int):Option (List Int):=
 (bx (aX x) 2 (af x) (it (Int×List Int) _ (λI=>(bx I.1 (aX I.2) (kA aM I.2 I.1 λM=>(kA aM I.2 (bl .i64 (I.1-1)) λJ=>(be M J (bE (cV 0 I.1&&fP I.1 (al I.2)) ah) (cK ((cB I.1),I.2))))) (aE I.2))) (1,x)))
def wV (x:List Int):Option (List Int):=xh @iter x
def lw (x:List Int):Option (List Int):=xh @fX x
def oK (x:Int×Int):Option (Bool×Int):=
 (af ((decide ((x.1:Int)=x.2)),x.2))
def uc (it:ye) (x:(List Int)×Int):Option (Int×(List Int)×Int):=
 (it (Int×(List Int)×Int) _ (λI=>(bx I.1 (aX x.1) (kA aM I.2.1 I.1 λM=>(obind (oK (M,I.2.2)) λJ=>(bcase J.1 (aE (I.1,I.2.1,J.2)) (cK ((cB I.1),I.2.1,J.2))))) (aE ((-1),I.2)))) (0,x))
def tG (x:(List Int)×Int):Option (Int×(List Int)×Int):=uc @iter x
def mS (x:(List Int)×Int):Option (Int×(List Int)×Int):=uc @fX x
def su (it:ye) (x:(List Int)×Int):Option (Int×List Int):=
 (obind (mS x) λJ=>(bE (aB (al x.1) (al J.2.1)&&ai) (be J.1 (-1) ah (it ((Int×Int)×(List Int)×Int) _ (λI=>(bx I.1.2 (aX I.2.1) (jn (α:=Int×(List Int)×Int) (kA aM I.2.1 I.1.2 λU=>(obind (oK (U,I.2.2)) λM=>(bcase (!M.1) (ck (fe I.1.1 (al I.2.1)) (aE ((cB I.1.1),(cq I.2.1 I.1.1 U),M.2))) (aE (I.1.1,I.2.1,M.2))))) λY=>(cK ((Y.1,(cB I.1.2)),Y.2))) (obind (ck (cV 0 I.1.1&&fP I.1.1 (al I.2.1)) (bE (cV 0 I.1.1&&fP I.1.1 (al (du (aS I.1.1) I.2.1++aG (al I.2.1-aS I.1.1) (0:Int)))) (af (I.2.2,(du (aS I.1.1) (du (aS I.1.1) I.2.1++aG (al I.2.1-aS I.1.1) (0:Int))))))) λr=>af (bU r)))) ((J.1,(cB J.1)),J.2)))))
def sh (x:(List Int)×Int):Option (Int×List Int):=su @iter x
def iY (x:(List Int)×Int):Option (Int×List Int):=su @fX x
def gL (x:dG×oR×Int×Int×Int×Int):Option (oR×Int×Bool):=
 (obind (iX (x.1,x.2.1,x.p2,x.p3,x.p4)) λy1=>(bcase (!y1) (af ((([]:List (Int×List Int)),0,([]:List Bool),([]:List dj)),0,aj)) (obind (kl x.2.1) λJ=>(jn (α:=Int×Int×Int×gx×(List Bool)×List dj) (be x.p3 1 (ck (fe x.p2 (al J.q3)) (aE (0,J.1,0,J.2.1,J.p2,(cq J.q3 x.p2 (2,(aJ (T:=hX) J.q3 x.p2).2))))) (be x.p3 2 (ck (fe x.p2 (al J.q3)) (aE (0,J.1,0,J.2.1,J.p2,(cq J.q3 x.p2 (5,(aJ (T:=hX) J.q3 x.p2).2))))) (jn (α:=Bool×dG×Int×Int×Int×gx×(List Bool)×List dj) (be x.p3 6 (aE ((decide ((x.p3:Int)=6)),x.1,J.1,x.p2,0,J.2)) (aE ((decide ((x.p3:Int)=10)),x.1,J.1,x.p2,0,J.2))) λY=>(bcase Y.1 (ck (fe x.p4 (al Y.p5)) (aE (0,Y.p2,Y.p4,(cq Y.p5 x.p4 (Y.p3,(aJ (T:=dS) Y.p5 x.p4).2)),Y.q6))) (jn (α:=Bool×dG×Int×Int×Int×gx×(List Bool)×List dj) (be x.p3 7 (aE ((decide ((x.p3:Int)=7)),Y.2)) (aE ((decide ((x.p3:Int)=11)),Y.2))) λI=>(bcase I.1 (ck (fe x.p4 (al I.p5)) (aE (0,I.p2,I.p4,(cq I.p5 x.p4 ((-1),(aJ (T:=dS) I.p5 x.p4).2)),I.q6))) (be x.p3 8 (kA dS I.p5 x.p4 λz6=>ah) (be x.p3 9 (kA dS I.p5 x.p4 λz7=>ah) (be x.p3 12 (aE (0,I.q3)) (be x.p3 13 (aE (0,(-1),I.q4)) (be x.p3 14 (ck (fe I.p3 (al I.q7)) (aE (0,I.p2,I.p4,I.p5,I.p6,(cq I.q7 I.p3 ((aJ (T:=hX) I.q7 I.p3).1,((aJ (T:=hX) I.q7 I.p3).2).1,ai))))) (be x.p3 15 (ck (fe I.p3 (al I.q7)) (aE (0,I.p2,I.p4,I.p5,I.p6,(cq I.q7 I.p3 ((aJ (T:=hX) I.q7 I.p3).1,((aJ (T:=hX) I.q7 I.p3).2).1,aj))))) (be x.p3 16 (bK lY I.2.1.p2 x.p4 λz8=>(ck (fe z8.2 (al I.p5)) (ck (fe I.p3 (al I.q7)) (ck (fe I.p3 (al (cq I.q7 I.p3 (3,(aJ (T:=hX) I.q7 I.p3).2)))) (aE (0,I.p2,I.p4,(cq I.p5 z8.2 ((-1),(aJ (T:=dS) I.p5 z8.2).2)),I.p6,(cq (cq I.q7 I.p3 (3,(aJ (T:=hX) I.q7 I.p3).2)) I.p3 ((aJ (T:=hX) (cq I.q7 I.p3 (3,(aJ (T:=hX) I.q7 I.p3).2)) I.p3).1,x.p4,((aJ (T:=hX) (cq I.q7 I.p3 (3,(aJ (T:=hX) I.q7 I.p3).2)) I.p3).2).2)))))))) (be x.p3 17 (bK lY I.2.1.p2 x.p4 λz9=>(ck (fe z9.2 (al I.p5)) (ck (fe I.p3 (al I.q7)) (ck (fe I.p3 (al (cq I.q7 I.p3 (2,(aJ (T:=hX) I.q7 I.p3).2)))) (aE (0,I.p2,I.p4,(cq I.p5 z9.2 (I.p3,(aJ (T:=dS) I.p5 z9.2).2)),I.p6,(cq (cq I.q7 I.p3 (2,(aJ (T:=hX) I.q7 I.p3).2)) I.p3 ((aJ (T:=hX) (cq I.q7 I.p3 (2,(aJ (T:=hX) I.q7 I.p3).2)) I.p3).1,0,((aJ (T:=hX) (cq I.q7 I.p3 (2,(aJ (T:=hX) I.q7 I.p3).2)) I.p3).2).2)))))))) (be x.p3 18 (obind (jA ((I.p2,x.q4),I.q5)) λU=>(bE (aB (al I.q7) (al U.q3)&&(aB (al I.p6) (al U.p2)&&(aB (al I.p5) (al U.2.1)&&ai))) (aE (U.1,I.p2,I.p4,U.2)))) (be x.p3 19 (obind (gK ((I.p2,x.p4),I.q5)) λM=>(bE (aB (al I.q7) (al M.q3)&&(aB (al I.p6) (al M.p2)&&(aB (al I.p5) (al M.2.1)&&ai))) (aE (M.1,I.p2,I.p4,M.2)))) (be x.p3 20 (ck (fe x.p4 (al I.q7)) (aE (0,I.p2,I.p4,I.p5,I.p6,(cq I.q7 x.p4 (1,(aJ (T:=hX) I.q7 x.p4).2))))) (be x.p3 22 (ck (fe x.p4 (al I.p6)) (aE (0,I.p2,I.p4,I.p5,(cq I.p6 x.p4 ai),I.q7))) (aE (0,I.p2,I.q4)))))))))))))))))))) λZ=>(af ((Z.p3,Z.2.1,Z.q4),Z.1,ai))))))
def mR (x:gx×Int×(List Bool)×List dj):Option (Yd6×(Int×Int×Int)×(List Int)×(List Int)×List Int):=
 (bE (cV 0 (aX x.1)&&cV (aX x.1) (aX x.1)&&bc (aS (aX x.1)) 32&&decide (((aX x.1):Int)=3)) (jn (α:=oR×Int×(Int×Int×Int)×(List Int)×(List Int)×List Int) (bx 0 (aX x.1) (bK dS x.1 0 λI=>(obind (oL I.2) λU=>(bx 1 (aX x.1) (bK dS x.1 1 λM=>(obind (oL M.2) λy5=>(bx 2 (aX x.1) (bK dS x.1 2 λz6=>(obind (oL z6.2) λy7=>(bx 3 (aX x.1) (bK dS x.1 3 λz8=>(obind (oL z8.2) λy9=>ah)) (aE (x,0,(I.1,M.1,z6.1),U,y5,y7))))) (aE (x,0,(I.1,M.1,0),U,y5,([]:List Int)))))) (aE (x,0,(I.1,0,0),U,([]:List Int),([]:List Int)))))) (aE (x,0,(0,0,0),([]:List Int),([]:List Int),([]:List Int)))) λJ=>(obind (Nh J.1.p2) λZ=>(obind (Ng J.1.q3) λY=>(af ((J.1.2.1,Z,Y),J.2.2))))))
def kP (x:dG×oR×Int×Int×Int×Int):Option (oR×Int×Bool):=
 (obind (iX (x.1,x.2.1,x.p2,x.p3,x.p4)) λy1=>(bcase (!y1) (af ((([]:List (Int×List Int)),0,([]:List Bool),([]:List dj)),0,aj)) (obind (mR x.2.1) λM=>(jn (α:=Int×Yd6×Int×((Int×List Int)×(Int×List Int)×Int)×Bool×List Int) (be x.p3 1 (ve x.p2 M.1.2.2 ah) (be x.p3 2 (ve x.p2 M.1.2.2 ah) (jn (α:=Bool×dG×Yd6×Int×Int×(Int×Int×Int)×(List Int)×(List Int)×List Int) (be x.p3 6 (aE ((decide ((x.p3:Int)=6)),x.1,M.1,x.p2,0,M.2)) (aE ((decide ((x.p3:Int)=10)),x.1,M.1,x.p2,0,M.2))) λJ=>(bcase J.1 ah (jn (α:=Bool×dG×Yd6×Int×Int×(Int×(List Int)×Int×(List Int)×Int)×List Int) (be x.p3 7 (aE ((decide ((x.p3:Int)=7)),J.2.1,J.p2,J.p3,J.p4,(J.p5.1,J.p6,J.p5.2.1,J.p7,J.p5.2.2),J.q8)) (aE ((decide ((x.p3:Int)=11)),J.2.1,J.p2,J.p3,J.p4,(J.p5.1,J.p6,J.p5.2.1,J.p7,J.p5.2.2),J.q8))) λI=>(bcase I.1 ah (be x.p3 8 (be x.p4 0 ah (be x.p4 1 ah (be x.p4 2 (bE (bc (al I.q6+al ([I.p3])) 8) (obind (vS (I.q6++([I.p3]))) λY=>(bE (aB (al (I.q6++([I.p3]))) (al Y)&&ai) (obind (lw Y) λZ=>(bE (aB (al Y) (al Z)&&ai) (aE (0,I.p2,I.p4,((I.p5.1,I.p5.2.1),(I.p5.p2,I.p5.p3),I.p5.q4),ai,Z))))))) ah))) (be x.p3 9 (be x.p4 0 ah (be x.p4 1 ah (be x.p4 2 (obind (iY (I.q6,I.p3)) λy8=>(bE (aB (al I.q6) (al I.q6)&&ai) (aE (0,I.p2,I.p4,((I.p5.1,I.p5.2.1),(I.p5.p2,I.p5.p3),I.p5.q4),aj,y8.2)))) ah))) (be x.p3 12 (aE (0,(I.p3,I.p2.2),I.p4,((I.p5.1,I.p5.2.1),(I.p5.p2,I.p5.p3),I.p5.q4),ai,I.q6)) (be x.p3 13 (aE (0,((-1),I.p2.2),I.p4,((I.p5.1,I.p5.2.1),(I.p5.p2,I.p5.p3),I.p5.q4),ai,I.q6)) (be x.p3 14 (ve I.p3 I.p2.2.2 ah) (be x.p3 15 (ve I.p3 I.p2.2.2 ah) (be x.p3 16 ah (be x.p3 17 ah (be x.p3 18 ah (be x.p3 19 ah (be x.p3 20 (ve x.p4 I.p2.2.2 ah) (be x.p3 22 (ve x.p4 I.p2.2.1 ah) (aE (0,I.p2,I.p4,((I.p5.1,I.p5.2.1),(I.p5.p2,I.p5.p3),I.p5.q4),ai,I.q6)))))))))))))))))))) λU=>(af (([U.p3.1,U.p3.2.1,(U.p3.2.2,U.q5)],U.2.1),U.1,ai))))))
def rE (x:dG×oR×Int×Int×Int×Int):Option (oR×Int×Bool):=orE (gL x) (kP x)
def fJ (x:dG×ey×Int×Int×Int×Int×Int×(List Int)×List Int):Option (ey×Bool):=
 (jn (α:=Bool×dG×ey×gF×Int) (obind (kL (x.1,x.2.1)) λy2=>(bcase (!y2) (aE (ai,x.1,x.2.1,x.2.2,0)) (bx x.p2 0 (aE (ai,x.1,x.2.1,x.2.2,0)) (jN (aX x.1.p4) x.p2 (aE (ai,x.1,x.2.1,x.2.2,0)) (bx x.p3 1 (aE (ai,x.1,x.2.1,x.2.2,0)) (aE ((fP 23 x.p3),x.1,x.2.1,x.2.2,0))))))) λM=>(bcase M.1 (af (((([]:List (Int×List Int)),0,([]:List Bool),([]:List dj)),([]:List Int),([]:List Int),([]:List Int)),aj)) (jn (α:=Bool×dG×ey×gF×Int) (obind (iX (M.2.1,M.p2.1,M.p3.1,M.p3.2.1,M.p3.p2)) λy4=>(bcase (!y4) (aE (ai,M.2)) (obind (jv (M.2.1,M.p3)) λy5=>(bcase (!y5) (aE (ai,M.2)) (obind (eQ (M.2.1,M.p2,M.p3)) λy6=>(bcase (!y6) (aE (ai,M.2)) (obind (gk (M.p2,M.p3)) λy7=>(aE ((!y7),M.2))))))))) λx3=>(bcase x3.1 (af (((([]:List (Int×List Int)),0,([]:List Bool),([]:List dj)),([]:List Int),([]:List Int),([]:List Int)),aj)) (jn (α:=Int×dG×ey×gF×Int) (be x3.p3.2.1 18 (aE (x3.p3.p3,x3.2)) (aE ((-1),x3.2))) λI=>(obind (rE (I.2.1,I.p2.1,I.p3.1,I.p3.2.1,I.p3.p2,I.1)) λy9=>(bcase (!y9.2.2) (af (((([]:List (Int×List Int)),0,([]:List Bool),([]:List dj)),([]:List Int),([]:List Int),([]:List Int)),aj)) (obind (yB I.p2.2.1) λY=>(obind (yB I.p2.p2) λU=>(obind (oL I.p2.q3) λZ=>(jn (α:=gF×Int×oR×(List Int)×(List Int)×List Int) (be I.p3.2.1 4 (ck (fe I.p3.p2 (al Y)) (aE (I.p3,I.q4,y9.1,(cq Y I.p3.p2 I.p3.p3),U,Z))) (be I.p3.2.1 22 (ck (fe I.p3.p2 (al U)) (aE (I.p3,I.q4,y9.1,Y,(cq U I.p3.p2 I.p3.p3),Z))) (aE (I.p3,I.q4,y9.1,Y,U,Z)))) λJ=>(kA aM J.q5 J.1.1 λz14=>(ck (fe J.1.1 (al J.q5)) (af ((J.p2,J.p3,J.p4,(cq J.q5 J.1.1 (cB z14))),ai)))))))))))))))
def ly (it:ye) (x:dG×List gF):Option (Int×Int):=
 (bx 400 (aX x.2) (af (0,2)) (obind (dJ x.1) λy1=>(bcase (!y1) (af (0,1)) (obind (c8 x.1) λy2=>(bE (cV 0 (aX x.1.p4)&&cV (aX x.1.p4) (aX x.1.p4)&&bc (aS (aX x.1.p4)) 24&&decide (((aX x.1.p4):Int)=1)) (it (Int×(dG×List gF)×ey×List Bool) _ (λJ=>(bx J.1 (aX x.2) (bK jM x.2 J.1 λM=>(obind (fJ (J.2.1.1,J.p2,M)) λU=>(jn (α:=Bool×(dG×List gF)×ey×gF×ey×List Bool) (be M.1 0 (bcase (!U.2) (aE (ai,J.2.1,J.p2,(0,M.2),U.1,J.q3)) (obind (cf (J.q3,0,M.2)) λZ=>(aE ((!Z),J.2.1,J.p2,(0,M.2),U.1,J.q3)))) ah) λI=>(bcase I.1 (aE (J.1,12)) (jn (α:=(dG×List gF)×ey×ey×List Bool) (be I.p3.1 0 (be I.p3.2.1 3 (bE (bc (al I.q5+al ([ai])) 1) (aE (I.2.1,I.p2,I.p4,(I.q5++([ai]))))) (bE (bc (al I.q5+al ([(decide ((I.p3.2.1:Int)=23))])) 1) (aE (I.2.1,I.p2,I.p4,(I.q5++([(decide ((I.p3.2.1:Int)=23))])))))) ah) λY=>(cK ((cB J.1),Y.1,Y.2.2))))))) (aE (0,0)))) (0,x,y2,([]:List Bool))))))))
def oY (x:dG×List gF):Option (Int×Int):=ly @iter x
def dY (x:dG×List gF):Option (Int×Int):=ly @fX x
def jF (it:ye) (x:dG×List gF):Option (Int×Int):=
 (bx 400 (aX x.2) (af (0,2)) (obind (dJ x.1) λy1=>(bcase (!y1) (af (0,1)) (obind (c8 x.1) λy2=>(bE (cV 0 (aX x.1.p4)&&cV (aX x.1.p4) (aX x.1.p4)&&bc (aS (aX x.1.p4)) 24&&decide (((aX x.1.p4):Int)=2)) (it (Int×(dG×List gF)×ey×(List Bool)×List Bool) _ (λJ=>(bx J.1 (aX x.2) (bK jM x.2 J.1 λM=>(obind (fJ (J.2.1.1,J.p2,M)) λU=>(jn (α:=Bool×(dG×List gF)×ey×gF×ey×(List Bool)×List Bool) (be M.1 0 (bcase (!U.2) (aE (ai,J.2.1,J.p2,(0,M.2),U.1,J.q3)) (obind (cf (J.p3,0,M.2)) λy7=>(aE ((!y7),J.2.1,J.p2,(0,M.2),U.1,J.q3)))) (be M.1 1 (bcase (!U.2) (aE (ai,J.2.1,J.p2,(1,M.2),U.1,J.q3)) (obind (cf (J.q4,1,M.2)) λZ=>(aE ((!Z),J.2.1,J.p2,(1,M.2),U.1,J.q3)))) ah)) λI=>(bcase I.1 (aE (J.1,12)) (jn (α:=(dG×List gF)×ey×ey×(List Bool)×List Bool) (be I.p3.1 0 (be I.p3.2.1 3 (bE (bc (al I.p5+al ([ai])) 1) (aE (I.2.1,I.p2,I.p4,(I.p5++([ai])),I.q6))) (bE (bc (al I.p5+al ([(decide ((I.p3.2.1:Int)=23))])) 1) (aE (I.2.1,I.p2,I.p4,(I.p5++([(decide ((I.p3.2.1:Int)=23))])),I.q6)))) (be I.p3.1 1 (be I.p3.2.1 3 (bE (bc (al I.q6+al ([ai])) 1) (aE (I.2.1,I.p2,I.p4,I.p5,(I.q6++([ai]))))) (bE (bc (al I.q6+al ([(decide ((I.p3.2.1:Int)=23))])) 1) (aE (I.2.1,I.p2,I.p4,I.p5,(I.q6++([(decide ((I.p3.2.1:Int)=23))])))))) ah)) λY=>(cK ((cB J.1),Y.1,Y.2.2))))))) (aE (0,0)))) (0,x,y2,([]:List Bool),([]:List Bool))))))))
def oX (x:dG×List gF):Option (Int×Int):=jF @iter x
def c9 (x:dG×List gF):Option (Int×Int):=jF @fX x
def jE (it:ye) (x:dG×List gF):Option (Int×Int):=
 (bx 400 (aX x.2) (af (0,2)) (obind (dJ x.1) λy1=>(bcase (!y1) (af (0,1)) (obind (c8 x.1) λy2=>(bE (cV 0 (aX x.1.p4)&&cV (aX x.1.p4) (aX x.1.p4)&&bc (aS (aX x.1.p4)) 24&&decide (((aX x.1.p4):Int)=3)) (it (Int×(dG×List gF)×ey×(List Bool)×(List Bool)×List Bool) _ (λJ=>(bx J.1 (aX x.2) (bK jM x.2 J.1 λM=>(obind (fJ (J.2.1.1,J.p2,M)) λU=>(jn (α:=Bool×(dG×List gF)×ey×gF×ey×(List Bool)×(List Bool)×List Bool) (be M.1 0 (bcase (!U.2) (aE (ai,J.2.1,J.p2,(0,M.2),U.1,J.q3)) (obind (cf (J.p3,0,M.2)) λy7=>(aE ((!y7),J.2.1,J.p2,(0,M.2),U.1,J.q3)))) (be M.1 1 (bcase (!U.2) (aE (ai,J.2.1,J.p2,(1,M.2),U.1,J.q3)) (obind (cf (J.p4,1,M.2)) λy8=>(aE ((!y8),J.2.1,J.p2,(1,M.2),U.1,J.q3)))) (be M.1 2 (bcase (!U.2) (aE (ai,J.2.1,J.p2,(2,M.2),U.1,J.q3)) (obind (cf (J.q5,2,M.2)) λZ=>(aE ((!Z),J.2.1,J.p2,(2,M.2),U.1,J.q3)))) ah))) λI=>(bcase I.1 (aE (J.1,12)) (jn (α:=(dG×List gF)×ey×ey×(List Bool)×(List Bool)×List Bool) (be I.p3.1 0 (be I.p3.2.1 3 (bE (bc (al I.p5+al ([ai])) 1) (aE (I.2.1,I.p2,I.p4,(I.p5++([ai])),I.q6))) (bE (bc (al I.p5+al ([(decide ((I.p3.2.1:Int)=23))])) 1) (aE (I.2.1,I.p2,I.p4,(I.p5++([(decide ((I.p3.2.1:Int)=23))])),I.q6)))) (be I.p3.1 1 (be I.p3.2.1 3 (bE (bc (al I.p6+al ([ai])) 1) (aE (I.2.1,I.p2,I.p4,I.p5,(I.p6++([ai])),I.q7))) (bE (bc (al I.p6+al ([(decide ((I.p3.2.1:Int)=23))])) 1) (aE (I.2.1,I.p2,I.p4,I.p5,(I.p6++([(decide ((I.p3.2.1:Int)=23))])),I.q7)))) (be I.p3.1 2 (be I.p3.2.1 3 (bE (bc (al I.q7+al ([ai])) 1) (aE (I.2.1,I.p2,I.p4,I.p5,I.p6,(I.q7++([ai]))))) (bE (bc (al I.q7+al ([(decide ((I.p3.2.1:Int)=23))])) 1) (aE (I.2.1,I.p2,I.p4,I.p5,I.p6,(I.q7++([(decide ((I.p3.2.1:Int)=23))])))))) ah))) λY=>(cK ((cB J.1),Y.1,Y.2.2))))))) (aE (0,0)))) (0,x,y2,([]:List Bool),([]:List Bool),([]:List Bool))))))))
def oW (x:dG×List gF):Option (Int×Int):=jE @iter x
def dE (x:dG×List gF):Option (Int×Int):=jE @fX x
def jD (it:ye) (x:dG×List gF):Option (Int×Int):=
 (bx 400 (aX x.2) (af (0,2)) (obind (dJ x.1) λy1=>(bcase (!y1) (af (0,1)) (obind (c8 x.1) λy2=>(bE (cV 0 (aX x.1.p4)&&cV (aX x.1.p4) (aX x.1.p4)&&bc (aS (aX x.1.p4)) 24&&decide (((aX x.1.p4):Int)=4)) (it (Int×(dG×List gF)×ey×(List Bool)×(List Bool)×(List Bool)×List Bool) _ (λJ=>(bx J.1 (aX x.2) (bK jM x.2 J.1 λM=>(obind (fJ (J.2.1.1,J.p2,M)) λU=>(jn (α:=Bool×(dG×List gF)×ey×gF×ey×(List Bool)×(List Bool)×(List Bool)×List Bool) (be M.1 0 (bcase (!U.2) (aE (ai,J.2.1,J.p2,(0,M.2),U.1,J.q3)) (obind (cf (J.p3,0,M.2)) λy7=>(aE ((!y7),J.2.1,J.p2,(0,M.2),U.1,J.q3)))) (be M.1 1 (bcase (!U.2) (aE (ai,J.2.1,J.p2,(1,M.2),U.1,J.q3)) (obind (cf (J.p4,1,M.2)) λy8=>(aE ((!y8),J.2.1,J.p2,(1,M.2),U.1,J.q3)))) (be M.1 2 (bcase (!U.2) (aE (ai,J.2.1,J.p2,(2,M.2),U.1,J.q3)) (obind (cf (J.p5,2,M.2)) λy9=>(aE ((!y9),J.2.1,J.p2,(2,M.2),U.1,J.q3)))) (be M.1 3 (bcase (!U.2) (aE (ai,J.2.1,J.p2,(3,M.2),U.1,J.q3)) (obind (cf (J.q6,3,M.2)) λZ=>(aE ((!Z),J.2.1,J.p2,(3,M.2),U.1,J.q3)))) ah)))) λI=>(bcase I.1 (aE (J.1,12)) (jn (α:=(dG×List gF)×ey×ey×(List Bool)×(List Bool)×(List Bool)×List Bool) (be I.p3.1 0 (be I.p3.2.1 3 (bE (bc (al I.p5+al ([ai])) 1) (aE (I.2.1,I.p2,I.p4,(I.p5++([ai])),I.q6))) (bE (bc (al I.p5+al ([(decide ((I.p3.2.1:Int)=23))])) 1) (aE (I.2.1,I.p2,I.p4,(I.p5++([(decide ((I.p3.2.1:Int)=23))])),I.q6)))) (be I.p3.1 1 (be I.p3.2.1 3 (bE (bc (al I.p6+al ([ai])) 1) (aE (I.2.1,I.p2,I.p4,I.p5,(I.p6++([ai])),I.q7))) (bE (bc (al I.p6+al ([(decide ((I.p3.2.1:Int)=23))])) 1) (aE (I.2.1,I.p2,I.p4,I.p5,(I.p6++([(decide ((I.p3.2.1:Int)=23))])),I.q7)))) (be I.p3.1 2 (be I.p3.2.1 3 (bE (bc (al I.p7+al ([ai])) 1) (aE (I.2.1,I.p2,I.p4,I.p5,I.p6,(I.p7++([ai])),I.q8))) (bE (bc (al I.p7+al ([(decide ((I.p3.2.1:Int)=23))])) 1) (aE (I.2.1,I.p2,I.p4,I.p5,I.p6,(I.p7++([(decide ((I.p3.2.1:Int)=23))])),I.q8)))) (be I.p3.1 3 (be I.p3.2.1 3 (bE (bc (al I.q8+al ([ai])) 1) (aE (I.2.1,I.p2,I.p4,I.p5,I.p6,I.p7,(I.q8++([ai]))))) (bE (bc (al I.q8+al ([(decide ((I.p3.2.1:Int)=23))])) 1) (aE (I.2.1,I.p2,I.p4,I.p5,I.p6,I.p7,(I.q8++([(decide ((I.p3.2.1:Int)=23))])))))) ah)))) λY=>(cK ((cB J.1),Y.1,Y.2.2))))))) (aE (0,0)))) (0,x,y2,([]:List Bool),([]:List Bool),([]:List Bool),([]:List Bool))))))))
def oV (x:dG×List gF):Option (Int×Int):=jD @iter x
def dX (x:dG×List gF):Option (Int×Int):=jD @fX x
def mh (x:dG×List gF):Option (Int×Int):=orE (dX x) (orE (dE x) (orE (c9 x) (dY x)))
def xa (it:ye) (x:dG×List gF):Option ((List (List Int))×Int):=
 (obind (mh x) λY=>(iI Y.2 0 (af (([]:List (List Int)),12)) (obind (nG x.1) λU=>(bE (cV 0 (aX x.2)&&cV (aX x.2) (aX x.2)&&bc (aS (aX x.2)) 24) (it (Int×(dG×List gF)×Wm×List (List Int)) _ (λI=>(bx I.1 (aX x.2) (bK jM x.2 I.1 λM=>(obind (rV (I.2.1.1,I.p2,M)) λJ=>(ck (fe I.1 (al I.q3)) (cK ((cB I.1),I.2.1,J.1,(cq I.q3 I.1 J.2)))))) (aE (I.q3,0)))) (0,x,U,(aG (aS (aX x.2)) ([]:List Int))))))))
def Bf (x:dG×List gF):Option ((List (List Int))×Int):=xa @iter x
def pe (x:dG×List gF):Option ((List (List Int))×Int):=xa @fX x
def NI (it:ye) (x:Unit):Option dG:=
 (it Yd3 _ (λJ=>(bx J.1 (aO (al ([[109,97,105,110],[116,49],[116,50],[116,51]]))) (it Yd3 _ (λI=>(bx I.1 6 (bE (bc (al I.q6+al ([(J.1,I.1,(bl .i64 ((bl .i64 ((bl .i64 (10*J.1))+I.1))+1)))])) 24) (cK ((cB I.1),I.2.1,I.p2,I.p3,I.p4,I.p5,(I.q6++([(J.1,I.1,(bl .i64 ((bl .i64 ((bl .i64 (10*J.1))+I.1))+1)))]))))) (aE (oE ((cB J.1),I.2))))) (0,J.2)) (aE J.2))) (0,[([120],0,0,aj,0),([121],0,0,aj,1),([118],0,0,ai,0),([113],0,2,aj,0),([113],1,2,aj,0)],[([109],aj),([110],aj),([114],ai)],[([99],0)],[[102]],[[109,97,105,110],[116,49],[116,50],[116,51]],([]:List (Int×Int×Int))))
def Nc (x:Unit):Option dG:=NI @iter x
def Cd (x:Unit):Option dG:=NI @fX x
def wI:Nat:=1000000000
def jl (a b:List Int):List Int:=(eS (max a.length b.length)).map λi=>j9 (a.getD i 0) (b.getD i 0)
theorem vV (a b:List Int):(jl a b).length=max a.length b.length:=by simp[jl]
theorem yD (a b:List Int) (i:Nat):(jl a b).getD i 0=j9 (a.getD i 0) (b.getD i 0):=by
 unfold jl;simp only[ay,ba];by_cases h:i<max a.length b.length
 .rw[F7 h];rfl
 .rw[bO (by simp only[jI];omega),bO (l:=a) (by omega),bO (l:=b) (by omega)];rfl
theorem EQ (c:List Int) (i:Nat):iT (c,(i:Int))=af (c.getD i 0):=by
 unfold iT bx ve aX aE;simp only[];rw[uK (by omega)];simp only[dH,me];by_cases h:i<c.length
 .rw[Zo (by simp;omega)];simp only[dH];rw[cA (cY h),ua];rfl
 .rw[qI (by simp;omega)];simp only[dl];rw[ay,bO (by omega)];rfl
theorem aj0:Ca=iT:=rfl
theorem Wt (a b:List Int) (U:a.length<=wI) (hb:b.length<=wI):jm (a,b)=af (jl a b):=by
 unfold wI at U hb;unfold jm uP ck bx bE aX cK aE cB;have hm:max a.length b.length<=1000000000:=by omega
 rw[cA (by simp only[tR];rw[qI (by omega),qI (by omega),wP (by simp;omega) (by simp;omega)];rfl)];simp only[tR,gz,eC];have:=vW (σ:=Int×List Int) (R:=List Int) (max a.length b.length) (by omega) (λi=>((i:Int),(eS (max a.length b.length)).map λk=>if k<i then j9 (a.getD k 0) (b.getD k 0) else 0)) (f:=(λI=>(bcase (fP I.1 (aO (max a.length b.length))) (obind (iT (a,I.1)) λM=>(obind (iT (b,I.1)) λJ=>(chk (fe I.1 (al I.2)) λ_=>(chk (fe I.1 (al I.2)) λ_=>(af (oE ((bl .i64 (I.1+1)),(cq I.2 I.1 (j9 M J))))))))) (af (bU I.2))))) (r:=jl a b) ?_ ?_
 .refine Eq.trans ?_ this;congr 1;simp only[Int.natCast_zero,wK,dV,aD,AO];apply dw<;>simp
 .intro i hi;simp only[];rw[tV (by simp;omega),dl,EQ,EQ,cW,cW,cA (cY (by simpa using hi)),cA (cY (by simpa using hi)),nk hi (by omega),eM];congr 3;apply dw
  .simp
  .intro k h1 h2;simp only[bY,jI] at h2;simp only[uB,qB,m7];by_cases e:i=k
   .subst e;simp
   .by_cases h:k<i
    .rw[aC e,aF h,aF (by omega)]
    .rw[aC e,aC h,aC (by omega)]
 .simp only[];rw[uK (by simp),dH];congr 2;unfold jl;apply pI;intro k hk;rw[aF (m6.1 hk)]
theorem Yb (a b:List Int) (U:a.length<=wI) (hb:b.length<=wI):sU (a,b)=af (jl a b,b):=by
 unfold wI at U hb;unfold sU He ck bx bE aX cK aE cB;have hm:max a.length b.length<=1000000000:=by omega
 rw[cA (by simp only[tR];rw[qI (by omega),qI (by omega),wP (by simp;omega) (by simp;omega)];rfl)];simp only[tR,gz,eC];have:=vW (σ:=Int×List Int×List Int) (R:=List Int×List Int) (max a.length b.length) (by omega) (λi=>((i:Int),b,(eS (max a.length b.length)).map λk=>if k<i then j9 (a.getD k 0) (b.getD k 0) else 0)) (f:=(λI=>(bcase (fP I.1 (aO (max a.length b.length))) (obind (iT (a,I.1)) λM=>(obind (iT (I.2.1,I.1)) λJ=>(chk (fe I.1 (al I.2.2)) λ_=>(chk (fe I.1 (al I.2.2)) λ_=>(af (oE ((bl .i64 (I.1+1)),I.2.1,(cq I.2.2 I.1 (j9 M J))))))))) (af (bU (I.2.2,I.2.1)))))) (r:=(jl a b,b)) ?_ ?_
 .refine Eq.trans ?_ this;congr 1;simp only[Int.natCast_zero,wK,dV,aD,AO];apply dw<;>simp
 .intro i hi;simp only[];rw[tV (by simp;omega),dl,EQ,EQ,cW,cW,cA (cY (by simpa using hi)),cA (cY (by simpa using hi)),nk hi (by omega),eM];congr 4;apply dw
  .simp
  .intro k h1 h2;simp only[bY,jI] at h2;simp only[uB,qB,m7];by_cases e:i=k
   .subst e;simp
   .by_cases h:k<i
    .rw[aC e,aF h,aF (by omega)]
    .rw[aC e,aC h,aC (by omega)]
 .simp only[];rw[uK (by simp),dH];congr 3;unfold jl;apply pI;intro k hk;rw[aF (m6.1 hk)]
theorem R3 (a b:List Int) (I:a.length<=wI) (hb:b.length<=wI):Bl (a,b)=af (jl a b):=by
 unfold Bl;rw[Yb a b I hb,cW];exact O_ rfl _
def tk (c:List Int) (t:Nat):List Int:=(c++aG (t+1-c.length) 0).set t (c.getD t 0+1)
theorem LG (c:List Int) (t:Nat):(tk c t).length=max c.length (t+1):=by simp[tk];omega
theorem aj4 (c:List Int) (n i:Nat):(c++aG n 0).getD i 0=c.getD i 0:=by
 simp only[ay];by_cases h:i<c.length
 .rw[bG h]
 .rw[bT (by omega),bO (l:=c) (by omega),k_];split<;>rfl
theorem Ht (c:List Int) (t i:Nat):(tk c t).getD i 0=if i=t then c.getD t 0+1 else c.getD i 0:=by
 unfold tk;rw[ay,oH];by_cases h:t=i
 .subst h;rw[aF rfl,aF (by simp;omega),aF rfl];rfl
 .rw[aC h,aC (λe=>h e.symm),<-ay,aj4]
theorem ZQ (c:List Int) (n:Nat) (h:c.length<=n):Sm (aG n 0) c=c++aG (n-c.length) 0:=by
 unfold Sm;rw[eC,eV h,List.drop_replicate]
theorem Wn (c:List Int) (t:Nat) (hc:c.length<=wI) (ht:t<4) (h0:0<=c.getD t 0) (h1:c.getD t 0<9223372036854775807):pw (c,(t:Int))=af (tk c t):=by
 unfold wI at hc;unfold pw ck jN bE aX aE cB;simp only[];rw[qI (by omega),dl,me,tV (by omega)];simp only[dl,me];have e1:j9 (aO c.length) (bl .i64 ((t:Int)+1))=((max c.length (t+1):Nat):Int):=by
  rw[nk ht (by omega)];exact tR _ _
 rw[e1];rw[cA (by rw[qI (by omega),qI (by omega),wP (by simp;omega) (by simp;omega)];rfl)];rw[gz];have e2:Sm (aG (max c.length (t+1)) (0:Int)) c=c++aG (t+1-c.length) 0:=by
  rw[ZQ c _ (by omega)];rw[show max c.length (t+1)-c.length=t+1-c.length from by omega]
 rw[e2];have hl:t<(c++aG (t+1-c.length) (0:Int)).length:=by simp;omega
 rw[cA (cY hl),cA (cY hl),me];have e3:aJ (T:=.int .i64) (c++aG (t+1-c.length) (0:Int)) (t:Int)=c.getD t 0:=by
  rw[ua];exact aj4 c _ t
 simp only[];rw[e3,tV h1,dl,cA (cY hl),cA (cY hl),cA (cY hl),cA (cY hl),me,aea (by omega) (by omega),eM];rfl
theorem Dp (c:List Int) (hc:c.length<=wI):wX c=af c:=by
 unfold wI at hc;unfold wX;rw[cA (wP (by omega) (by omega))]
theorem MH (c:List Int) (hc:c.length<=wI):uG c=af c:=by
 unfold wI at hc;unfold uG vT bE;rw[cA (wP (by simp;omega) (by simp;omega)),cW];exact O_ rfl _
theorem MI (c:List Int) (hc:c.length<=wI):oL c=af c:=Dp c hc
def GL (l:List (List Int)):Prop:=l.length<=wI/\∀ c∈l,c.length<=wI
abbrev HTp:Type:=List (List Int)×List (List Int)×List (List Int)×List (List Int)×List (List Int)×List (List Int)×List Int×List (List Int)×List Int
def GH (h:HTp):Prop:=GL h.1/\GL h.2.1/\GL h.2.2.1/\GL h.2.2.2.1/\GL h.2.2.2.2.1/\GL h.2.2.2.2.2.1/\h.2.2.2.2.2.2.1.length<=wI/\GL h.2.2.2.2.2.2.2.1/\h.2.2.2.2.2.2.2.2.length<=wI
theorem CA {l:List (List Int)} {i:Nat} (h:i<l.length):l.getD i []∈l:=by
 rw[ay,aA h];exact uC h
theorem GL.at {l:List (List Int)} (h:GL l) (i:Nat):(l.getD i []).length<=wI:=by
 by_cases hi:i<l.length
 .exact h.2 _ (CA hi)
 .rw[ay,bO (by omega)];simp
theorem XB (g:List Int->Option (List Int)) (l:List (List Int)) (hl:l.length<=wI) (hg:∀ c∈l,g c=af c):
 fX (σ:=Int×List (List Int)) (λI=>(bcase (fP I.1 (aO (al l))) (chk (fe I.1 (al l)) λ_=>(obind (g (aJ (T:=(.sl (.int .i64))) l I.1)) λJ=>(chk (fe I.1 (al I.2)) λ_=>(chk (fe I.1 (al I.2)) λ_=>(af (oE ((bl .i64 (I.1+1)),(cq I.2 I.1 J)))))))) (af (bU I.2)))) (0,(aG (aS (aO (al l))) ([]:List Int)))=af l:=by
 unfold wI at hl;have:=vW (σ:=Int×List (List Int)) (R:=List (List Int)) l.length (by omega) (λi=>((i:Int),(eS l.length).map λk=>if k<i then l.getD k [] else [])) (f:=(λI=>(bcase (fP I.1 (aO (al l))) (chk (fe I.1 (al l)) λ_=>(obind (g (aJ (T:=(.sl (.int .i64))) l I.1)) λJ=>(chk (fe I.1 (al I.2)) λ_=>(chk (fe I.1 (al I.2)) λ_=>(af (oE ((bl .i64 (I.1+1)),(cq I.2 I.1 J)))))))) (af (bU I.2))))) (r:=l) ?_ ?_
 .refine Eq.trans ?_ this;congr 1;simp only[Int.natCast_zero,wK,dV,aD,AO,au,gz];apply dw<;>simp
 .intro i hi;simp only[];rw[tV (by simp;omega),dl,cA (cY hi),ua,show (l.getD i (Ty.zero (.sl (.int .i64))))=l.getD i [] from rfl,hg _ (CA hi),cW,cA (cY (by simpa using hi)),cA (cY (by simpa using hi)),nk hi (by omega),eM];congr 3;apply dw
  .simp
  .intro k h1 h2;simp only[bY,jI] at h2;simp only[uB,qB,m7];by_cases e:i=k
   .subst e;simp
   .by_cases h:k<i
    .rw[aC e,aF h,aF (by omega)]
    .rw[aC e,aC h,aC (by omega)]
 .simp only[];rw[uK (by simp),dH];congr 2;apply dw
  .simp
  .intro k h1 h2;simp only[qB,m7];rw[aF h2,ay,aA h2];rfl
theorem rq (l:List (List Int)) (h:GL l):ij l=af l:=by
 have hl:=h.1;unfold wI at hl;unfold ij w_ ck bx ve bE aX cK aE cB;rw[cA (by rw[qI (by simp),qI (by omega),wP (by simp;omega) (by simp;omega)];rfl)];exact XB wX l h.1 λc hc=>Dp c (h.2 c hc)
theorem Mw (h:HTp) (g:GH h):q_ h=af (h.2.2.2.2.2.2.1,h.1,h.2.1,h.2.2.1,h.2.2.2.1,h.2.2.2.2.1,h.2.2.2.2.2.1,h.2.2.2.2.2.2.2.1,h.2.2.2.2.2.2.2.2):=by
 obtain⟨g1,g2,g3,Z,Y,U,M,J,I⟩:=g;unfold q_ aV bg bp cw dN jd nh;rw[rq _ g1,cW,rq _ g2,cW,rq _ g3,cW,rq _ Z,cW,rq _ Y,cW,rq _ U,cW,MI _ M,cW,rq _ J,cW,MI _ I,cW]
theorem ah5 (a b:List Int) (I:a.length<=wI) (hb:b.length<=wI) (h:∀ i,a.getD i 0<=b.getD i 0):tI (a,b)=af ai:=by
 unfold wI at I hb;unfold tI Cx bx aX cK aE cB;refine vW (σ:=Int) (max a.length b.length) (by omega) (λi=>(i:Int)) (λi hi=>?_) ?_
 .simp only[tR];rw[tV (by omega),dl,aj0,EQ,EQ,cW,cW,uK (h i),dH,nk hi (by omega)]
 .simp only[tR];rw[uK (by omega),dH]
abbrev vw:Type:=List (List UInt8×Int×Int×Bool×Int)×List (List UInt8×Bool)×List (List UInt8×Int)×List (List UInt8)×List (List UInt8)×List (Int×Int×Int)
def h0 (w:vw):HTp:=(aG w.2.2.2.2.1.length [],aG w.2.2.2.2.1.length [],aG w.2.1.length [],aG w.2.1.length [],aG w.1.length [],aG w.2.2.2.1.length [],[],aG w.2.2.2.2.1.length [],aG w.2.2.2.2.1.length (-1))
theorem aaa (w:vw) (h1:w.1.length<=wI) (h2:w.2.1.length<=wI) (M:w.2.2.2.1.length<=wI) (J:w.2.2.2.2.1.length<=wI):nG w=af (h0 w):=by
 unfold wI at h1 h2 M J;have c:∀ n b:Nat,n<=1000000000->b<=24->(cV 0 (aO n)&&cV (aO n) (aO n)&&bc (aS (aO n)) b)=ai:=λn b hn hb=>by
  have:n*b<=n*24:=Nat.mul_le_mul_left n hb;rw[qI (by simp),qI (by omega),wP (by simp;omega) (by simp;omega)];rfl
 unfold nG zL aV bg bp cw dN jd nh ck bx bE aX cK aE cB;rw[cA (c _ 24 J (by omega)),cA (c _ 24 J (by omega)),cA (c _ 24 h2 (by omega)),cA (c _ 24 h2 (by omega)),cA (c _ 24 h1 (by omega)),cA (c _ 24 M (by omega)),cA (c _ 24 J (by omega)),cA (c _ 8 J (by omega))];simp only[au,gz,eC];have:=vW (σ:=Int×(List (List Int))×(List (List Int))×(List (List Int))×(List (List Int))×(List (List Int))×(List (List Int))×(List (List Int))×List Int) (R:=HTp) w.2.2.2.2.1.length (by omega) (λi=>((i:Int),aG w.2.2.2.2.1.length [],aG w.2.2.2.2.1.length [],aG w.2.1.length [],aG w.2.1.length [],aG w.1.length [],aG w.2.2.2.1.length [],aG w.2.2.2.2.1.length [],(eS w.2.2.2.2.1.length).map λk=>if k<i then -1 else 0)) (f:=(λI=>(bcase (fP I.1 (w.2.2.2.2.1.length:Int)) (chk (fe I.1 (al I.2.2.2.2.2.2.2.2)) λ_=>(chk (fe I.1 (al I.2.2.2.2.2.2.2.2)) λ_=>(af (oE ((bl .i64 (I.1+1)),I.2.1,I.2.2.1,I.2.2.2.1,I.2.2.2.2.1,I.2.2.2.2.2.1,I.2.2.2.2.2.2.1,I.2.2.2.2.2.2.2.1,(cq I.2.2.2.2.2.2.2.2 I.1 (-1))))))) (af (bU (I.2.1,I.2.2.1,I.2.2.2.1,I.2.2.2.2.1,I.2.2.2.2.2.1,I.2.2.2.2.2.2.1,([]:List Int),I.2.2.2.2.2.2.2.1,I.2.2.2.2.2.2.2.2)))))) (r:=h0 w) ?_ ?_
 .refine Eq.trans ?_ this;congr 1;simp only[Int.natCast_zero,wK,dV,aD,AO];apply dw<;>simp
 .intro i hi;simp only[];rw[tV (by omega),dl,cA (cY (by simpa using hi)),cA (cY (by simpa using hi)),nk hi (by omega),eM];congr 3;simp only[aD,AO];apply dw
  .simp
  .intro k h1 h2;simp only[bY,jI] at h2;simp only[uB,qB,m7];by_cases e:i=k
   .subst e;simp
   .by_cases h:k<i
    .rw[aC e,aF h,aF (by omega)]
    .rw[aC e,aC h,aC (by omega)]
 .simp only[];rw[uK (by omega),dH];unfold h0;congr 3;simp only[aD,AO];apply dw
  .simp
  .intro k h1 h2;simp only[eC] at h2;simp only[qB,m7,List.getElem_replicate];rw[aF h2]
theorem tU (x y:Int):j9 x y=max x y:=by
 unfold j9;by_cases h:x<y
 .rw[tV h,aF rfl];omega
 .rw[uK (by omega)];simp;omega
theorem LZ {a b:List Int} (hl:a.length=b.length) (h:∀ i,a.getD i 0=b.getD i 0):a=b:=by
 apply dw hl;intro i h1 h2;have:=h i;simpa[ay,aA h1,aA h2] using this
def En (n:Int) (c:List Int):Prop:=c.length<=4/\∀ i,0<=c.getD i 0/\c.getD i 0<=n
theorem En.nil {n:Int} (h:0<=n):En n []:=⟨by simp,λi=>by simp;exact h⟩
theorem En.mono {n m:Int} {c:List Int} (h:En n c) (hm:n<=m):En m c:=⟨h.1,λi=>⟨(h.2 i).1,Int.le_trans (h.2 i).2 hm⟩⟩
theorem En.jl {n:Int} {a b:List Int} (I:En n a) (hb:En n b):En n (jl a b):=⟨by rw[vV];have:=I.1;have:=hb.1;omega,λi=>by
 rw[yD];obtain⟨h1,h2⟩:=I.2 i;obtain⟨M,J⟩:=hb.2 i;unfold j9;split<;>exact⟨by assumption,by assumption⟩⟩
theorem En.tk {n:Int} {c:List Int} {t:Nat} (h:En n c) (ht:t<4):En (n+1) (tk c t):=⟨by rw[LG];have:=h.1;omega,λi=>by
 rw[Ht];obtain⟨h1,h2⟩:=h.2 i;obtain⟨J,I⟩:=h.2 t;split<;>omega⟩
theorem afx {n:Int} {c:List Int} (h:En n c):jl [] c=c:=LZ (by simp[vV]) λi=>by
 rw[yD,tU];have:=(h.2 i).1;simp only[List.getD_nil];omega
def AK (n:Int) (l:List (List Int)):Prop:=∀ i,En n (l.getD i [])
theorem AK.mono {n m:Int} {l:List (List Int)} (h:AK n l) (hm:n<=m):AK m l:=λi=>(h i).mono hm
theorem AK.set {n:Int} {l:List (List Int)} (h:AK n l) {c:List Int} (hc:En n c) (j:Nat):AK n (l.set j c):=λi=>by
 rw[ay,oH];by_cases e:j=i
 .subst e;rw[aF rfl];split
  .exact hc
  .have:=h j;simp only[ay] at this;rename_i hj;rw[bO (by omega)] at this;exact this
 .rw[aC e,<-ay];exact h i
theorem AK.repl {n:Int} (h:0<=n) (k:Nat):AK n (aG k []):=λi=>by
 rw[ay,k_];split<;>exact En.nil h
structure HS where
 T:List (List Int)
 S:List (List Int)
 L:List (List Int)
 R:List (List Int)
 C:List (List Int)
 F:List (List Int)
 X:List Int
 N:List (List Int)
 W:List Int
def HS.t (h:HS):HTp:=(h.T,h.S,h.L,h.R,h.C,h.F,h.X,h.N,h.W)
structure EV where
 th:Nat
 k:Nat
 ob:Nat
 va:Int
abbrev WTc:=List (List UInt8×Int)
def Vu (I:WTc) (o:Nat):Nat:=((I.getD o ([],0)).2).toNat
def OX (I:List (List UInt8×Int×Int×Bool×Int)) (o:Nat):Bool:=(I.getD o ([],0,0,aj,0)).2.2.2.1
def yi (w:vw) (h:HS) (e:EV):List (List Int):=
 if e.k=1 then [h.S.getD e.th []]
 else if e.k=21 then [h.T.getD e.ob []]
 else if e.k=6\/e.k=10 then [h.L.getD e.ob [],h.R.getD e.ob []]
 else if e.k=8 then [h.L.getD e.ob []]
 else if e.k=17 then [h.L.getD (Vu w.2.2.1 e.ob) [],h.R.getD (Vu w.2.2.1 e.ob) [],h.N.getD e.th []]
 else if e.k=3 then [h.C.getD e.ob []]
 else if e.k=23 then [h.F.getD e.ob []]
 else if e.k=12 then [h.X]
 else []
def xt (w:vw) (h:HS) (e:EV):List Int:=tk ((yi w h e).foldl jl (h.T.getD e.th [])) e.th
def jat (l:List (List Int)) (i:Nat) (c:List Int):List (List Int):=l.set i (jl (l.getD i []) c)
def BQ (p:Nat->Bool) (c:List Int) (h:HS):HS:={h with N:=h.N.mapIdx λu x=>if p u then c else x,W:=h.W.mapIdx λu x=>if p u then -1 else x}
def h_ (w:vw) (h:HS) (e:EV) (c:List Int):HS:=
 let h:={h with T:=h.T.set e.th c}
 if e.k=20 then {h with S:=h.S.set e.ob c}
 else if e.k=7\/e.k=11 then {h with L:=jat h.L e.ob c}
 else if e.k=9 then {h with R:=jat h.R e.ob c}
 else if e.k=16 then {h with L:=jat h.L (Vu w.2.2.1 e.ob) c,W:=h.W.set e.th e.ob}
 else if e.k=4 then (if OX w.1 e.ob then {h with C:=jat h.C e.ob c} else h)
 else if e.k=22 then {h with F:=jat h.F e.ob c}
 else if e.k=13 then {h with X:=jl h.X c}
 else if e.k=18 then (if 0<=e.va/\e.va<h.N.length then {h with N:=h.N.set e.va.toNat c,W:=h.W.set e.va.toNat (-1)} else h)
 else if e.k=19 then BQ (λu=>decide (h.W.getD u 0=(e.ob:Int))) c h
 else h
def EW (w:vw) (h:HS) (e:EV):HS×List Int:=(h_ w h e (xt w h e),xt w h e)
structure EOK (w:vw) (h:HS) (e:EV):Prop where
 th4:e.th<4
 th:e.th<h.T.length
 k1:1<=e.k
 k2:e.k<=23
 sp:e.k=20\/e.k=21->e.ob<h.T.length
 lk:6<=e.k/\e.k<=11->e.ob<h.L.length
 cd:e.k=16\/e.k=17->e.ob<w.2.2.1.length/\0<=(w.2.2.1.getD e.ob ([],0)).2/\Vu w.2.2.1 e.ob<h.L.length
 ce:e.k=3\/e.k=4->e.ob<h.C.length/\e.ob<w.1.length
 fu:e.k=22\/e.k=23->e.ob<h.F.length
structure OJ (n:Int) (h:HS):Prop where
 n0:0<=n
 n1:n<=1000000
 T:AK n h.T
 S:AK n h.S
 L:AK n h.L
 R:AK n h.R
 C:AK n h.C
 F:AK n h.F
 X:En n h.X
 N:AK n h.N
 lT:h.T.length<=1000
 lS:h.S.length=h.T.length
 lN:h.N.length=h.T.length
 lW:h.W.length=h.T.length
 lL:h.L.length<=1000
 lR:h.R.length=h.L.length
 lC:h.C.length<=1000
 lF:h.F.length<=1000
theorem En.lb {n:Int} {c:List Int} (h:En n c):c.length<=wI:=by have:=h.1;unfold wI;omega
theorem AK.GL {n:Int} {l:List (List Int)} (h:AK n l) (hl:l.length<=1000):GL l:=⟨by unfold wI;omega,λc hc=>by
 obtain⟨i,hi⟩:=eX hc;have:=(h i).lb
 rwa [ay,hi] at this⟩
theorem OJ.GH {n:Int} {h:HS} (o:OJ n h):GH h.t:=
 ⟨o.T.GL o.lT,o.S.GL (by rw[o.lS];exact o.lT),o.L.GL o.lL,o.R.GL (by rw[o.lR];exact o.lL),o.C.GL o.lC,o.F.GL o.lF,o.X.lb,o.N.GL (by rw[o.lN];exact o.lT),by show h.W.length<=wI;have:=o.lT;rw[o.lW];unfold wI;omega⟩
theorem En.join {n:Int} {a b:List Int} (I:En n a) (hb:En n b):jm (a,b)=af (AI.jl a b):=Wt a b I.lb hb.lb
theorem M1 {n:Int} {w:vw} {h:HS} (o:OJ n h) (e:EV):∀ c∈yi w h e,En n c:=by
 intro c hc;unfold yi at hc;repeat' (split at hc)
 all_goals simp only[bi,cr,fY] at hc
 .subst hc;exact o.S _
 .subst hc;exact o.T _
 .rcases hc with rfl|rfl
  .exact o.L _
  .exact o.R _
 .subst hc;exact o.L _
 .rcases hc with rfl|rfl|rfl
  .exact o.L _
  .exact o.R _
  .exact o.N _
 .subst hc;exact o.C _
 .subst hc;exact o.F _
 .subst hc;exact o.X
theorem xi {n:Int}:∀ (l:List (List Int)) (c:List Int),En n c->(∀ x∈l,En n x)->En n (l.foldl jl c)
 |[],_,hc,_=>hc
 |x::r,c,hc,h=>xi r _ (hc.jl (h x (dv ..))) λy I=>h y (cL _ I)
theorem JN {n:Int} {w:vw} {h:HS} (o:OJ n h) {e:EV} (he:e.th<4):En (n+1) (xt w h e):=(xi _ _ (o.T _) (M1 o e)).tk he
theorem AK.jat {n:Int} {l:List (List Int)} {c:List Int} (h:AK n l) (hc:En n c) (i:Nat):AK n (jat l i c):=h.set ((h i).jl hc) i
theorem AK.mapIdx {n:Int} {l:List (List Int)} {c:List Int} (h:AK n l) (hc:En n c) (p:Nat->Bool):AK n (l.mapIdx λu x=>if p u then c else x):=λi=>by
 rw[ay,Dt];have:=h i;rw[ay] at this;cases I:l[i]? with
 |none=>rw[I] at this;exact this
 |some x=>
  rw[I] at this;simp only[b_,uz];split
  .exact hc
  .exact this
theorem VW {n:Int} {w:vw} {h:HS} (o:OJ n h) (hn:n+1<=1000000) {e:EV} {c:List Int} (hc:En (n+1) c):OJ (n+1) (h_ w h e c):=by
 have m:n<=n+1:=by omega
 have oT:AK (n+1) (h.T.set e.th c):=(o.T.mono m).set hc _;have b:OJ (n+1) {h with T:=h.T.set e.th c}:=⟨by have:=o.n0;omega,hn,oT,o.S.mono m,o.L.mono m,o.R.mono m,o.C.mono m,o.F.mono m,o.X.mono m,o.N.mono m,by simpa using o.lT,by simpa using o.lS,by simpa using o.lN,by simpa using o.lW,o.lL,o.lR,o.lC,o.lF⟩
 unfold h_;simp only[];repeat' split
 .exact {b with S:=(o.S.mono m).set hc _,lS:=by simpa using b.lS}
 .exact {b with L:=(o.L.mono m).jat hc _,lL:=by simpa[jat] using b.lL,lR:=by simpa[jat] using b.lR}
 .exact {b with R:=(o.R.mono m).jat hc _,lR:=by simpa[jat] using b.lR}
 .exact {b with L:=(o.L.mono m).jat hc _,lL:=by simpa[jat] using b.lL,lR:=by simpa[jat] using b.lR,lW:=by simpa using b.lW}
 .exact {b with C:=(o.C.mono m).jat hc _,lC:=by simpa[jat] using b.lC}
 .exact b
 .exact {b with F:=(o.F.mono m).jat hc _,lF:=by simpa[jat] using b.lF}
 .exact {b with X:=(o.X.mono m).jl hc}
 .exact {b with N:=(o.N.mono m).set hc _,lN:=by simpa using b.lN,lW:=by simpa using b.lW}
 .exact b
 .exact {b with N:=(o.N.mono m).mapIdx hc _,lN:=by simpa[BQ] using b.lN,lW:=by simpa[BQ] using b.lW}
 .exact b
theorem YG {n:Int} {w:vw} {h:HS} (o:OJ n h) (hn:n+1<=1000000) {e:EV} (he:e.th<4):OJ (n+1) (EW w h e).1:=VW o hn (JN o he)
theorem UL {a b:Nat} (h:a=b):aB a b=ai:=by subst h;exact rA a
theorem Qy (l:List (List Int)) (i:Nat) (h:i<l.length):s_ ((i:Int),l)=af (l.getD i [],l):=by
 unfold s_ ck bx aX aE;simp only[];rw[uK (by omega)];simp only[dH,me];rw[Zo (by simp;omega)];simp only[dH];rw[cA (cY h),cA (cY h),mf]
theorem tj {n:Int} (l:List (List Int)) (i:Nat) (c:List Int) (h:i<l.length) (hl:AK n l) (hc:En n c):lq ((i:Int),l,c)=af (jat l i c,c):=by
 unfold lq ck jN aX aE;simp only[];rw[qI (by omega)];simp only[dl,me];rw[tV (by simp;omega)];simp only[dl];rw[cA (cY h),cA (cY h),mf,R3 _ _ (hl i).lb hc.lb,cW,cA (cY h),cA (cY h),eM];rfl
theorem rh (l:List (List Int)) (i:Nat) (c:List Int):(jat l i c).length=l.length:=by simp[jat]
theorem U5 {n:Int} (h:HS) (u:Nat) (c:List Int) (h1:u<h.N.length) (h2:u<h.W.length) (hc:En n c):vQ ((u:Int),h.X,h.T,h.S,h.L,h.R,h.C,h.F,h.N,h.W,c)=af (h.X,h.T,h.S,h.L,h.R,h.C,h.F,h.N.set u c,h.W.set u (-1),c):=by
 unfold vQ aV bg bp cw dN jd uy wJ Prod.q10 ck;simp only[];rw[MH c hc.lb,cW,cA (cY h1),cA (cY h1),cA (cY h2),cA (cY h2),eM,eM]
theorem VM (I:WTc) (i:Nat):aJ (T:=.st (.pr .str (.int .i64))) I (i:Int)=I.getD i ([],0):=ua (T:=.st (.pr .str (.int .i64))) I i
theorem aci (I:List (List UInt8×Int×Int×Bool×Int)) (i:Nat):aJ (T:=.st (.pr .str (.pr (.int .i64) (.pr (.int .i64) (.pr .bool (.int .i64)))))) I (i:Int)=I.getD i ([],0,0,aj,0):=ua (T:=.st (.pr .str (.pr (.int .i64) (.pr (.int .i64) (.pr .bool (.int .i64)))))) I i
abbrev ETp:Type:=Int×Int×Int×Int×Int×List Int×List Int
structure EvT (e:EV) (x:ETp):Prop where
 th:x.1=(e.th:Int)
 k:x.2.1=(e.k:Int)
 ob:e.k∈[3,4,6,7,8,9,10,11,16,17,18,19,20,21,22,23]->x.2.2.1=(e.ob:Int)
 va:x.2.2.2.1=e.va
theorem Vy {k:Nat} {z:Int} (I:z=(k:Int)) (h1:1<=k) (h2:k<=23):(k=1/\z=1)\/(k=2/\z=2)\/(k=3/\z=3)\/(k=4/\z=4)\/(k=5/\z=5)\/(k=6/\z=6)\/(k=7/\z=7)\/(k=8/\z=8)\/(k=9/\z=9)\/(k=10/\z=10)\/(k=11/\z=11)\/(k=12/\z=12)\/(k=13/\z=13)\/(k=14/\z=14)\/(k=15/\z=15)\/(k=16/\z=16)\/(k=17/\z=17)\/(k=18/\z=18)\/(k=19/\z=19)\/(k=20/\z=20)\/(k=21/\z=21)\/(k=22/\z=22)\/(k=23/\z=23):=by
 have h:k=1\/k=2\/k=3\/k=4\/k=5\/k=6\/k=7\/k=8\/k=9\/k=10\/k=11\/k=12\/k=13\/k=14\/k=15\/k=16\/k=17\/k=18\/k=19\/k=20\/k=21\/k=22\/k=23:=by omega
 subst I;rcases h with rfl|rfl|rfl|rfl|rfl|rfl|rfl|rfl|rfl|rfl|rfl|rfl|rfl|rfl|rfl|rfl|rfl|rfl|rfl|rfl|rfl|rfl|rfl<;>simp
theorem UK (a:Nat):(aB a a&&ai)=ai:=by rw[UL rfl];rfl
theorem RQ {n:Int} {w:vw} {h:HS} (o:OJ n h) {e:EV} (ok:EOK w h e) {x:ETp} (hx:EvT e x):rc (x,h.X,w,h.T,h.S,h.L,h.R,h.C,h.F,h.N,h.W)=af (yi w h e,x,h.X,w,h.T,h.S,h.L,h.R,h.C,h.F,h.N,h.W):=by
 obtain⟨x1,x2,M,x4,x5,x6,x7⟩:=x;obtain⟨w1,w2,U,w4,w5,w6⟩:=w;obtain⟨th,k,ob,va⟩:=e;obtain⟨q1,Y,q3,q4⟩:=hx;simp only at q1 Y q3 q4;subst q1 q4;have t1:=ok.th;simp only at t1;have fS:fe (th:Int) h.S.length=ai:=cY (by rw[o.lS];exact t1);have fN:fe (th:Int) h.N.length=ai:=cY (by rw[o.lN];exact t1);have fT:k=21->fe (ob:Int) h.T.length=ai/\M=(ob:Int):=λe=>by
  subst e;have:=ok.sp (.inr rfl);exact⟨cY this,q3 (by decide)⟩
 have fL:(k=6\/k=10\/k=8)->fe (ob:Int) h.L.length=ai/\fe (ob:Int) h.R.length=ai/\M=(ob:Int):=λe=>by
  have h1:ob<h.L.length:=ok.lk (by rcases e with rfl|rfl|rfl<;>(simp only[];omega));exact⟨cY h1,cY (by rw[o.lR];exact h1),q3 (by rcases e with rfl|rfl|rfl<;>decide)⟩
 have fC:k=3->fe (ob:Int) h.C.length=ai/\M=(ob:Int):=λe=>by
  subst e;have:=(ok.ce (.inl rfl)).1;exact⟨cY this,q3 (by decide)⟩
 have fF:k=23->fe (ob:Int) h.F.length=ai/\M=(ob:Int):=λe=>by
  subst e;have:=ok.fu (.inr rfl);exact⟨cY this,q3 (by decide)⟩
 unfold rc yi wH aV bg bp cw dN jd uy wJ Prod.q10 Kk cO eP ck be ve bE aE;rcases Vy Y ok.k1 ok.k2 with ⟨e,e'⟩|⟨e,e'⟩|⟨e,e'⟩|⟨e,e'⟩|⟨e,e'⟩|⟨e,e'⟩|⟨e,e'⟩|⟨e,e'⟩|⟨e,e'⟩|⟨e,e'⟩|⟨e,e'⟩|⟨e,e'⟩|⟨e,e'⟩|⟨e,e'⟩|⟨e,e'⟩|⟨e,e'⟩|⟨e,e'⟩|⟨e,e'⟩|⟨e,e'⟩|⟨e,e'⟩|⟨e,e'⟩|⟨e,e'⟩|⟨e,e'⟩<;>clear Y<;>subst e<;>subst e'
 case inr.inr.inr.inr.inr.inr.inr.inr.inr.inr.inr.inr.inr.inr.inr.inr.inl=>
  have q3:=q3 (by decide);subst q3;obtain⟨d1,d2,Z⟩:=ok.cd (.inr rfl);simp only at d1 d2 Z;have d4:Vu U ob<h.R.length:=by rw[o.lR];exact Z
  have e1:(U.getD ob ([],0)).2=((Vu U ob:Nat):Int):=by unfold Vu;omega
  simp only[aZ,c7,dL,dl,dH,me,cA,cY d1,VM,e1,Qy _ _ Z,Qy _ _ d4,cW,UK,fN,mf];rfl
 case inr.inr.inl=>
  obtain⟨I,rfl⟩:=fC rfl;simp only[aZ,c7,dL,dl,dH,me,cA,I,mf];rfl
 case inr.inr.inr.inr.inr.inr.inr.inr.inr.inr.inr.inr.inr.inr.inr.inr.inr.inr.inr.inr.inr.inr=>
  obtain⟨I,rfl⟩:=fF rfl;simp only[aZ,c7,dL,dl,dH,me,cA,I,mf];rfl
 case inr.inr.inr.inr.inr.inr.inr.inr.inr.inr.inr.inr.inr.inr.inr.inr.inr.inr.inr.inr.inl=>
  obtain⟨I,rfl⟩:=fT rfl;simp only[aZ,c7,dL,dl,dH,me,cA,I,mf];rfl
 case inl=>
  simp only[aZ,c7,dL,dl,dH,me,cA,fS,mf];rfl
 case inr.inr.inr.inr.inr.inl=>
  obtain⟨I,J,rfl⟩:=fL (by decide);simp only[aZ,c7,dL,dl,dH,me,cA,I,J,mf];rfl
 case inr.inr.inr.inr.inr.inr.inr.inr.inr.inl=>
  obtain⟨I,J,rfl⟩:=fL (by decide);simp only[aZ,c7,dL,dl,dH,me,cA,I,J,mf];rfl
 case inr.inr.inr.inr.inr.inr.inr.inl=>
  obtain⟨I,J,rfl⟩:=fL (by decide);simp only[aZ,c7,dL,dl,dH,me,cA,I,J,mf];rfl
 all_goals
  simp only[aZ,c7,dL,dl,dH,me];rfl
theorem DU {σ R:Type} {f:σ->Option (σ⊕R)} {x0:σ} {r:R} (n:Nat) (hn:n<18446744073709551616) (st:Nat->σ) (I:x0=st 0) (h0:∀ i,i<n->f (st i)=af (.inl (st (i+1)))) (h1:f (st n)=af (.inr r)):fX f x0=af r:=by
 subst I;exact vW n hn st h0 h1
def Ko {α:Type} (p:Nat->Bool) (c:α) (u:Nat) (l:List α):List α:=l.mapIdx λk x=>if decide (k<u)&&p k then c else x
theorem Yw {α:Type} (p:Nat->Bool) (c:α) (l:List α):Ko p c 0 l=l:=by
 unfold Ko;apply dw
 .simp
 .intro i h1 h2;simp
theorem Hq {α:Type} (p:Nat->Bool) (c:α) (u:Nat) (l:List α):(Ko p c u l).length=l.length:=by simp[Ko]
theorem OW {α:Type} (p:Nat->Bool) (c:α) (u:Nat) (l:List α) (h:l.length<=u):Ko p c u l=l.mapIdx λk x=>if p k then c else x:=by
 unfold Ko;apply dw
 .simp
 .intro i h1 h2;simp only[List.length_mapIdx] at h1;simp only[List.getElem_mapIdx];rw[show decide (i<u)=ai from aQ (by omega)];rfl
theorem U3 {α:Type} (p:Nat->Bool) (c:α) (u:Nat) (l:List α) (hp:p u=ai):(Ko p c u l).set u c=Ko p c (u+1) l:=by
 unfold Ko;apply dw
 .simp
 .intro i h1 h2;simp only[uB,List.getElem_mapIdx];by_cases e:u=i
  .subst e;simp[hp]
  .rw[aC e];by_cases h:i<u
   .rw[aQ h,aQ (show i<u+1 by omega)]
   .rw[bF h,bF (show ¬i<u+1 by omega)]
theorem OV {α:Type} (p:Nat->Bool) (c:α) (u:Nat) (l:List α) (hp:p u=aj):Ko p c u l=Ko p c (u+1) l:=by
 unfold Ko;apply dw
 .simp
 .intro i h1 h2;simp only[List.getElem_mapIdx];by_cases e:u=i
  .subst e;simp[hp]
  .by_cases h:i<u
   .rw[aQ h,aQ (show i<u+1 by omega)]
   .rw[bF h,bF (show ¬i<u+1 by omega)]
theorem afm (p:Nat->Bool) (c:Int) (u:Nat) (l:List Int):(Ko p c u l).getD u 0=l.getD u 0:=by
 unfold Ko;rw[ay,Dt,ay];cases l[u]? with
 |none=>rfl
 |some x=>simp
def HS.e (h:HS) (c:List Int):List Int×List (List Int)×List (List Int)×List (List Int)×List (List Int)×List (List Int)×List (List Int)×List (List Int)×List Int×List Int:=(h.X,h.T,h.S,h.L,h.R,h.C,h.F,h.N,h.W,c)
theorem Qz {n:Int} {w:vw} {h:HS} (o:OJ n h) (hn:n+1<=1000000) {e:EV} (ok:EOK w h e) {x:ETp} (hx:EvT e x) {c:List Int} (hc:En (n+1) c):pt ((w,x),h.e c)=af ((h_ w h e c).e c):=by
 obtain⟨x1,x2,x3,I,x5,x6,x7⟩:=x;obtain⟨J,w2,M,w4,w5,w6⟩:=w;obtain⟨th,k,ob,va⟩:=e;obtain⟨q1,q2,q3,q4⟩:=hx;simp only at q1 q2 q3 q4;subst q1 q4;have t1:=ok.th;simp only at t1;have m:n<=n+1:=by omega
 have fT:fe (th:Int) h.T.length=ai:=cY t1;have fW:fe (th:Int) h.W.length=ai:=cY (by rw[o.lW];exact t1);have cl:=MH c hc.lb;unfold pt zJ HS.e wH Dr Prod.p12 Prod.p13 Prod.p14 Prod.p15 Prod.p16 Prod.p17 aV bg bp cw dN jd uy wJ Prod.q10 Prod.q16 Prod.q17 Prod.q18 cO mg MM ck be bx jN ve bE aX cK aE cB;rcases Vy q2 ok.k1 ok.k2 with ⟨e,e'⟩|⟨e,e'⟩|⟨e,e'⟩|⟨e,e'⟩|⟨e,e'⟩|⟨e,e'⟩|⟨e,e'⟩|⟨e,e'⟩|⟨e,e'⟩|⟨e,e'⟩|⟨e,e'⟩|⟨e,e'⟩|⟨e,e'⟩|⟨e,e'⟩|⟨e,e'⟩|⟨e,e'⟩|⟨e,e'⟩|⟨e,e'⟩|⟨e,e'⟩|⟨e,e'⟩|⟨e,e'⟩|⟨e,e'⟩|⟨e,e'⟩<;>clear q2<;>subst e<;>subst e'
 case inr.inr.inr.inr.inr.inr.inr.inr.inr.inr.inr.inr.inr.inr.inr.inr.inr.inr.inr.inl=>
  obtain rfl:=q3 (by decide);have f:fe (ob:Int) h.S.length=ai:=cY (by rw[o.lS];exact ok.sp (.inl rfl));simp only[aZ,c7,dL,dl,dH,me,cW,cA,cl,fT,f,eM];rfl
 case inr.inr.inr.inr.inr.inr.inl=>
  obtain rfl:=q3 (by decide);have f:ob<h.L.length:=ok.lk (by simp only[];omega);simp only[aZ,c7,dL,dl,dH,me,cW,cA,cl,fT,eM,tj _ _ _ f (o.L.mono m) hc,rh,UK];rfl
 case inr.inr.inr.inr.inr.inr.inr.inr.inr.inr.inl=>
  obtain rfl:=q3 (by decide);have f:ob<h.L.length:=ok.lk (by simp only[];omega);simp only[aZ,c7,dL,dl,dH,me,cW,cA,cl,fT,eM,tj _ _ _ f (o.L.mono m) hc,rh,UK];rfl
 case inr.inr.inr.inr.inr.inr.inr.inr.inl=>
  obtain rfl:=q3 (by decide);have f:ob<h.R.length:=by rw[o.lR];exact ok.lk (by simp only[];omega)
  simp only[aZ,c7,dL,dl,dH,me,cW,cA,cl,fT,eM,tj _ _ _ f (o.R.mono m) hc,rh,UK];rfl
 case inr.inr.inr.inr.inr.inr.inr.inr.inr.inr.inr.inr.inr.inr.inr.inl=>
  obtain rfl:=q3 (by decide);obtain⟨Y,Z,d3⟩:=ok.cd (.inl rfl);simp only at Y Z d3;have e1:(M.getD ob ([],0)).2=((Vu M ob:Nat):Int):=by unfold Vu;omega
  simp only[aZ,c7,dL,dl,dH,me,cW,cA,cl,fT,fW,eM,cY Y,VM,e1,tj _ _ _ d3 (o.L.mono m) hc,rh,UK];rfl
 case inr.inr.inr.inl=>
  obtain rfl:=q3 (by decide);obtain⟨Y,Z⟩:=ok.ce (.inr rfl);simp only at Y Z;simp only[aZ,c7,dL,dl,dH,me,cW,cA,cl,fT,eM,cY Z,aci];cases hv:(J.getD ob ([],0,0,aj,0)).2.2.2.1 with
  |true=>
   simp only[dl,cW,cA,tj _ _ _ Y (o.C.mono m) hc,rh,UK,me];have U:h_ (J,w2,M,w4,w5,w6) h ⟨th,4,ob,I⟩ c=if OX J ob then {h with T:=h.T.set th c,C:=jat h.C ob c} else {h with T:=h.T.set th c}:=rfl
   rw[U,show OX J ob=ai from hv];rfl
  |false=>
   simp only[dH,me];have U:h_ (J,w2,M,w4,w5,w6) h ⟨th,4,ob,I⟩ c=if OX J ob then {h with T:=h.T.set th c,C:=jat h.C ob c} else {h with T:=h.T.set th c}:=rfl
   rw[U,show OX J ob=aj from hv];rfl
 case inr.inr.inr.inr.inr.inr.inr.inr.inr.inr.inr.inr.inr.inr.inr.inr.inr.inr.inr.inr.inr.inl=>
  obtain rfl:=q3 (by decide);have f:ob<h.F.length:=ok.fu (.inl rfl);simp only[aZ,c7,dL,dl,dH,me,cW,cA,cl,fT,eM,tj _ _ _ f (o.F.mono m) hc,rh,UK];rfl
 case inr.inr.inr.inr.inr.inr.inr.inr.inr.inr.inr.inr.inl=>
  simp only[aZ,c7,dL,dl,dH,me,cW,cA,cl,fT,eM,R3 _ _ (o.X.mono m).lb hc.lb];rfl
 case inr.inr.inr.inr.inr.inr.inr.inr.inr.inr.inr.inr.inr.inr.inr.inr.inr.inl=>
  simp only[aZ,c7,dL,dl,dH,me,cW,cA,cl,fT,eM];have U:h_ (J,w2,M,w4,w5,w6) h ⟨th,18,ob,I⟩ c=if 0<=I/\I<h.N.length then {h with T:=h.T.set th c,N:=h.N.set I.toNat c,W:=h.W.set I.toNat (-1)} else {h with T:=h.T.set th c}:=rfl
  rw[U];by_cases h0:0<=I
  .by_cases h1:I<h.N.length
   .rw[qI h0];simp only[dl,me];rw[tV (show I<aO h.N.length from h1)];obtain⟨v,rfl⟩:∃ v:Nat,I=(v:Int):=⟨I.toNat,by omega⟩
    have v1:v<h.N.length:=by omega
    have v2:v<h.W.length:=by rw[o.lW,<-o.lN];exact v1
    have:=U5 {h with T:=h.T.set th c} v c v1 v2 hc;simp only[] at this;simp only[dl,this,cW,sd,cA,UL rfl,iH,me];rw[aF ⟨h0,h1⟩];rfl
   .rw[qI h0];simp only[dl,me];rw[uK (show aO h.N.length<=I from BJ.1 h1)];simp only[dH,me];rw[aC (λq=>h1 q.2)]
  .rw[Zo (by omega)];simp only[dH,me];rw[aC (λq=>h0 q.1)]
 case inr.inr.inr.inr.inr.inr.inr.inr.inr.inr.inr.inr.inr.inr.inr.inr.inr.inr.inl=>
  obtain rfl:=q3 (by decide);simp only[aZ,c7,dL,dl,dH,me,cW,cA,cl,fT,eM];rw[DU (r:=bU (h.X,h.T.set th c,h.S,h.L,h.R,h.C,h.F,Ko (λu=>decide (h.W.getD u 0=(ob:Int))) c h.W.length h.N,Ko (λu=>decide (h.W.getD u 0=(ob:Int))) (-1) h.W.length h.W,c)) h.W.length (by have:=o.lW;have:=o.lT;omega)
   (λi=>((i:Int),h.X,h.T.set th c,h.S,h.L,h.R,h.C,h.F,Ko (λu=>decide (h.W.getD u 0=(ob:Int))) c i h.N,Ko (λu=>decide (h.W.getD u 0=(ob:Int))) (-1) i h.W,c,(th:Int),(19:Int),(ob:Int),I,x5,x6,x7)) ?_ ?_ ?_]
  .simp only[me];rw[OW _ _ _ h.W (bV _),OW _ _ _ h.N (by rw[o.lN,o.lW];exact bV _)];rfl
  .simp only[Yw];rfl
  .intro i hi;simp only[];have hN:i<(Ko (λu=>decide (h.W.getD u 0=(ob:Int))) c i h.N).length:=by rw[Hq,o.lN,<-o.lW];exact hi
   have hW:i<(Ko (λu=>decide (h.W.getD u 0=(ob:Int))) (-1) i h.W).length:=by rw[Hq];exact hi
   rw[tV (by simp;omega),dl,cA (cY hW),cA (cY hW),ag4,afm];have ws:=nk hi (show h.W.length<=1099511627776 by have:=o.lW;have:=o.lT;omega);by_cases hp:h.W.getD i 0=(ob:Int)
   .rw[aQ hp,dl];have:=U5 {h with T:=h.T.set th c,N:=Ko (λu=>decide (h.W.getD u 0=(ob:Int))) c i h.N,W:=Ko (λu=>decide (h.W.getD u 0=(ob:Int))) (-1) i h.W} i c hN hW hc;simp only[] at this;rw[this,cW,cA (by simp only[sd,UL rfl,iH]),me,ws,U3 _ _ _ _ (aQ hp),U3 _ _ _ _ (aQ hp)]
   .rw[bF hp,dH,me,ws,<-OV _ _ _ _ (bF hp),<-OV _ _ _ _ (bF hp)]
  .simp only[];rw[uK (by simp),dH]
 all_goals
  simp only[aZ,c7,dL,dl,dH,me,cW,cA,cl,fT,eM];rfl
theorem IJ (l:List (List Int)) (c:List Int) (i:Nat) (hi:i<l.length):(l.take (i+1)).foldl jl c=jl ((l.take i).foldl jl c) (l.getD i []):=by
 rw[List.take_add_one,fG,aA hi,ay,aA hi];rfl
theorem EX (w:vw) (h:HS) (e:EV):(yi w h e).length<=3:=by
 unfold yi;repeat' split
 all_goals simp
theorem ZV {n:Int} {w:vw} {h:HS} (o:OJ n h) (e:EV) (i:Nat):0<=((yi w h e).foldl jl (h.T.getD e.th [])).getD i 0/\((yi w h e).foldl jl (h.T.getD e.th [])).getD i 0<9223372036854775807:=by
 have:=(xi _ _ (o.T e.th) (M1 (w:=w) o e)).2 i;have:=o.n1;omega
theorem uR (w:vw) (h:HS) (e:EV) (c:List Int):(h_ w h e c).T.length=h.T.length/\(h_ w h e c).S.length=h.S.length/\(h_ w h e c).L.length=h.L.length/\(h_ w h e c).R.length=h.R.length/\(h_ w h e c).C.length=h.C.length/\(h_ w h e c).F.length=h.F.length/\(h_ w h e c).N.length=h.N.length/\(h_ w h e c).W.length=h.W.length:=by
 unfold h_;simp only[];repeat' split
 all_goals simp[jat,BQ]
theorem adn {n:Int} {w:vw} {h:HS} (o:OJ n h) (hn:n+1<=1000000) {e:EV} (ok:EOK w h e) {x:ETp} (hx:EvT e x):rV (w,h.t,x)=af ((EW w h e).1.t,(EW w h e).2):=by
 have s2:=RQ o ok hx;have hce:En (n+1) (xt w h e):=JN o ok.th4;have en:=Qz o hn ok hx hce;have cp:=Mw h.t o.GH;have sl:=EX w h e;have sE:=M1 (w:=w) o e;have hlen:=uR w h e (xt w h e);obtain⟨x1,x2,x3,x4,x5,x6,x7⟩:=x;obtain⟨Z,Y,U,M,J,I⟩:=w;have t1:=hx.th;simp only at t1;subst t1;unfold HS.t at cp;simp only[] at cp;have fT:fe (e.th:Int) h.T.length=ai:=cY ok.th;unfold rV Cy HS.t wH Dr aV bg bp cw dN jd uy wJ Kk Prod.q12 cO eP nh MM ck bx ve bE aX cK cB;simp only[];rw[cp,cW];simp only[];rw[cA fT,cA fT,s2,cW];simp only[];rw[cA (by simp only[UL rfl,iH])];refine DU (yi (Z,Y,U,M,J,I) h e).length (by omega) (λi=>((i:Int),(Z,Y,U,M,J,I),((e.th:Int),x2,x3,x4,x5,x6,x7),h.X,((yi (Z,Y,U,M,J,I) h e).take i).foldl jl (h.T.getD e.th []),h.T,h.S,h.L,h.R,h.C,h.F,h.N,h.W)) ?_ ?_ ?_
 .simp only[mf,List.take_zero,List.foldl_nil];rfl
 .intro i hi;simp only[];rw[tV (by simp;omega),dl,cA (cY hi),mf,(xi _ _ (o.T e.th) (λy hy=>sE y (gP hy))).join (sE _ (CA hi)),cW,nk hi (by omega),IJ _ _ _ hi]
 .simp only[];rw[uK (by simp),dH,eV (bV _)];have hl:=ZV (w:=(Z,Y,U,M,J,I)) o e e.th;rw[Wn _ e.th (xi _ _ (o.T e.th) sE).lb ok.th4 hl.1 hl.2,cW];unfold HS.e at en;unfold xt at en hlen;rw[en,cW];simp only[];rw[cA (by rw[hlen.1,hlen.2.1,hlen.2.2.1,hlen.2.2.2.1,hlen.2.2.2.2.1,hlen.2.2.2.2.2.1,hlen.2.2.2.2.2.2.1,hlen.2.2.2.2.2.2.2];simp only[UL rfl,iH])];rfl
abbrev vD:Ty:=(.st (.pr (.int .i64) (.sl (.st (.pr (.int .i64) (.pr (.int .i64) (.pr (.int .i64) (.pr (.int .i64) (.pr (.int .i64) (.int .i64))))))))))
abbrev AS:Ty:=(.st (.pr (.int .i64) (.pr (.int .i64) (.pr (.int .i64) (.pr (.int .i64) (.pr (.int .i64) (.int .i64)))))))
abbrev um:Ty:=(.st (.pr (.int .i64) (.pr (.sl (.int .i64)) (.pr (.sl (.sl (.int .i64))) (.int .i64)))))
abbrev yh:Ty:=(.st (.pr .str (.pr (.int .i64) (.pr (.sl .str) (.sl .sm)))))
abbrev tDc:Ty:=(.st (.pr (.int .i64) (.pr (.int .i64) (.pr .str (.pr (.int .i64) (.pr (.int .i64) .str))))))
abbrev tE:Ty:=(.st (.pr (.int .i64) (.pr (.int .i64) (.pr (.int .i64) (.pr (.int .i64) (.pr (.int .i64) (.pr (.sl (.int .i64)) (.sl (.int .i64)))))))))
abbrev Su:Ty:=(.st (.pr .str .bool))
abbrev OZ:Ty:=(.st (.pr .str (.pr (.int .i64) (.pr (.int .i64) (.pr .bool (.int .i64))))))
abbrev xy:Ty:=(.st (.pr (.int .i64) (.pr (.int .i64) (.int .i64))))
abbrev Sk:Ty:=(.st (.pr .str (.int .i64)))
abbrev zR:Ty:=(.st (.pr (.int .i64) (.sl (.int .i64))))
abbrev ju:Ty:=(.st (.pr (.int .i64) (.pr (.int .i64) .bool)))
def Ok {R:Type} (o:Option R) (Q:R->Prop):Prop:=∃ y,o=af y/\Q y
theorem Ok.mono {R:Type} {o:Option R} {Q Q':R->Prop} (h:Ok o Q) (hq:∀ y,Q y->Q' y):Ok o Q':=by obtain⟨y,h1,h2⟩:=h;exact⟨y,h1,hq y h2⟩
theorem ar {R:Type} {y:R} {Q:R->Prop} (h:Q y):Ok (af y) Q:=⟨y,rfl,h⟩
theorem aj6 {R:Type} {o:Option R} {y:R} {Q:R->Prop} (e:o=af y) (h:Q y):Ok o Q:=⟨y,e,h⟩
theorem bd {R:Type} {b:Bool} {k:Option R} {Q:R->Prop} (h:b=ai) (hk:Ok k Q):Ok (chk b λ_=>k) Q:=by subst h;exact hk
theorem aP {R:Type} {b:Bool} {t f:Option R} {Q:R->Prop} (ht:b=ai->Ok t Q) (hf:b=aj->Ok f Q):Ok (bcase b t f) Q:=by
 cases b with
 |true=>exact ht rfl
 |false=>exact hf rfl
theorem fx {R:Type} {b:Bool} {t f:Option R} {Q:R->Prop} (h:b=ai) (ht:Ok t Q):Ok (bcase b t f) Q:=by subst h;exact ht
theorem fD {R:Type} {b:Bool} {t f:Option R} {Q:R->Prop} (h:b=aj) (hf:Ok f Q):Ok (bcase b t f) Q:=by subst h;exact hf
theorem ax {α R:Type} {o:Option α} {k:α->Option R} {P:α->Prop} {Q:R->Prop} (h:Ok o P) (hk:∀ x,P x->Ok (k x) Q):Ok (obind o k) Q:=by
 obtain⟨x,rfl,I⟩:=h;exact hk x I
theorem aU {α R:Type} {o:Option α} {k:α->Option R} {x:α} {Q:R->Prop} (h:o=af x) (hk:Ok (k x) Q):Ok (obind o k) Q:=by subst h;exact hk
theorem aT {α R:Type} {x:α} {k:α->Option R} {Q:R->Prop} (h:Ok (k x) Q):Ok (lt x k) Q:=h
theorem aY {α R:Type} {o:Option (R⊕α)} {k:α->Option R} {Q:R->Prop} (P:α->Prop) (h:Ok o λr=>match r with|.inl r=>Q r|.inr x=>P x) (hk:∀ x,P x->Ok (k x) Q):Ok (jn o k) Q:=by
 obtain⟨r,rfl,hr⟩:=h;cases r with
 |inl r=>exact⟨r,rfl,hr⟩
 |inr x=>exact hk x hr
theorem gJ {α R:Type} {o:Option (R⊕α)} {k:α->Option R} {Q:R->Prop} (h:Ok o λr=>match r with|.inl r=>Q r|.inr x=>Ok (k x) Q):Ok (jn o k) Q:=aY (λx=>Ok (k x) Q) h λ_ h=>h
theorem abt {α R:Type} {a b:α} {r:Option R} {Q:R->Prop} (e:a=b) (h:Ok r Q):Ok (same a b r) Q:=by unfold same;rw[aF e];exact h
theorem pM {σ R:Type} {f:σ->Option (σ⊕R)} {Q:R->Prop} (μ:σ->Nat) (I:σ->Prop) (h:∀ x,I x->Ok (f x) λr=>match r with|.inl y=>I y/\μ y<μ x|.inr r=>Q r) {x:σ} (J:I x):Ok (iter f x) Q:=by
 have key:∀ n x,μ x<n->I x->∃ m r,iterN f m x=af r/\Q r:=by
  intro n;induction n with
  |zero=>intro x hm;omega
  |succ n M=>
   intro x hm J;obtain⟨r,h1,h2⟩:=h x J;cases r with
   |inl y=>
    obtain⟨m,r,Y,U⟩:=M y (by have:=h2.2;omega) h2.1;exact⟨m+1,r,by rw[iterN,h1];exact Y,U⟩
   |inr r=>exact⟨1,r,by rw[iterN,h1],h2⟩
 obtain⟨m,r,h1,h2⟩:=key (μ x+1) x (qA _) J;exact⟨r,yE h1,h2⟩
theorem ch {σ R:Type} {f:σ->Option (σ⊕R)} {Q:R->Prop} (n:Nat) (I:Nat->σ->Prop) (h0:∀ i x,i<n->I i x->Ok (f x) λr=>match r with|.inl y=>I (i+1) y|.inr r=>Q r) (h1:∀ x,I n x->Ok (f x) λr=>match r with|.inl _=>False|.inr r=>Q r) {x:σ} (U:I 0 x):Ok (iter f x) Q:=by
 have key:∀ m i x,i+m=n->I i x->∃ k r,iterN f k x=af r/\Q r:=by
  intro m;induction m with
  |zero=>
   intro i x hi U;have:i=n:=by omega
   subst this;obtain⟨r,M,J⟩:=h1 x U;cases r with
   |inl y=>exact J.elim
   |inr r=>exact⟨1,r,by rw[iterN,M],J⟩
  |succ m Y=>
   intro i x hi U;obtain⟨r,M,J⟩:=h0 i x (by omega) U;cases r with
   |inl y=>
    obtain⟨k,r,g3,Z⟩:=Y (i+1) y (by omega) J;exact⟨k+1,r,by rw[iterN,M];exact g3,Z⟩
   |inr r=>exact⟨1,r,by rw[iterN,M],J⟩
 obtain⟨m,r,M,J⟩:=key n 0 x (by omega) U;exact⟨r,yE M,J⟩
def itQ {σ R:Type} (f:σ->Option (σ⊕R)) (Q:R->Prop):σ⊕R->Prop
 |.inl y=>Ok (iter f y) Q
 |.inr r=>Q r
def jnQ {α R:Type} (k:α->Option R) (Q:R->Prop):R⊕α->Prop
 |.inl r=>Q r
 |.inr x=>Ok (k x) Q
theorem abs {σ R:Type} {f:σ->Option (σ⊕R)} {x:σ} {Q:R->Prop} (h:Ok (f x) (itQ f Q)):Ok (iter f x) Q:=by
 obtain⟨r,h1,h2⟩:=h;cases r with
 |inr r=>exact⟨r,yE (n:=1) (by rw[iterN,h1]),h2⟩
 |inl y=>
  obtain⟨z,I,J⟩:=h2;unfold iter at I;split at I
  .exact⟨z,yE (n:=_+1) (by rw[iterN,h1];exact I),J⟩
  .cases I
theorem Vq {σ R:Type} {f:σ->Option (σ⊕R)} {y:σ} {Q:R->Prop} (h:Ok (iter f y) Q):Ok (af (.inl y)) (itQ f Q):=⟨_,rfl,h⟩
theorem Vp {σ R:Type} {f:σ->Option (σ⊕R)} {r:R} {Q:R->Prop} (h:Ok (af r) Q):Ok (af (.inr r)) (itQ f Q):=by
 obtain⟨_,h1,h2⟩:=h;cases h1;exact⟨_,rfl,h2⟩
theorem Vn {α R:Type} {o:Option (R⊕α)} {k:α->Option R} {Q:R->Prop} (h:Ok o (jnQ k Q)):Ok (jn o k) Q:=by
 obtain⟨r,rfl,hr⟩:=h;cases r with
 |inl r=>exact⟨r,rfl,hr⟩
 |inr x=>exact hr
theorem Vo {α R:Type} {r:R} {k:α->Option R} {Q:R->Prop} (h:Ok (af r) Q):Ok (af (.inl r)) (jnQ k Q):=by
 obtain⟨_,h1,h2⟩:=h;cases h1;exact⟨_,rfl,h2⟩
theorem Vm {α R:Type} {x:α} {k:α->Option R} {Q:R->Prop} (h:Ok (k x) Q):Ok (af (.inr x)) (jnQ k Q):=⟨_,rfl,h⟩
def oQ {α R:Type} (k:α->Option R) (Q:R->Prop) (x:α):Prop:=Ok (k x) Q
theorem Ps {α R:Type} {o:Option α} {k:α->Option R} {Q:R->Prop} (h:Ok o (oQ k Q)):Ok (obind o k) Q:=ax h λ_ h=>h
theorem Pr {α R:Type} {x:α} {k:α->Option R} {Q:R->Prop} (h:Ok (k x) Q):Ok (af x) (oQ k Q):=⟨_,rfl,h⟩
theorem ac8 {j:Int} {n:Nat}:fe j n=ai↔0<=j/\j<n:=by simp[fe,cV,fP]
theorem Nn {a b:Int}:cV a b=ai↔a<=b:=by simp[cV]
theorem sW {a b:Int}:fP a b=ai↔a<b:=by simp[fP]
theorem fZ {a b:Int}:fP a b=aj↔b<=a:=by simp[fP]
theorem lP {a b:Int}:cV a b=aj↔b<a:=by simp[cV]
theorem WE {n b:Nat}:bc n b=ai↔n<=1099511627776/\n*b<=1099511627776:=by simp[bc]
theorem cJ {R:Type} {o:Option R} {v:R} (h:Ok o (·=v)):o=af v:=by obtain⟨y,h1,h2⟩:=h;rw[h1,h2]
section steps
variable {R:Type} {k t f:Option R} {Q:R->Prop}
theorem aR {j:Int} {n:Nat} (h0:0<=j) (h1:j<n) (hk:Ok k Q):Ok (chk (fe j n) λ_=>k) Q:=bd (ac8.2 ⟨h0,h1⟩) hk
theorem bk {n b:Nat} (h0:n<=1073741824) (h1:b<=1024) (hk:Ok k Q):Ok (chk (bc n b) λ_=>k) Q:=
 bd (WE.2 ⟨by omega,dc (Nat.mul_le_mul h0 h1) (by omega)⟩) hk
theorem c6 {a b:Bool} (h:Ok (chk a λ_=>chk b λ_=>k) Q):Ok (chk (a&&b) λ_=>k) Q:=by
 cases a with
 |true=>exact h
 |false=>obtain⟨y,h,_⟩:=h;cases h
theorem dZ {a b:Int} (h:a<=b) (hk:Ok k Q):Ok (chk (cV a b) λ_=>k) Q:=bd (Nn.2 h) hk
theorem zF {a b:Int} (h:a<b) (hk:Ok k Q):Ok (chk (fP a b) λ_=>k) Q:=bd (sW.2 h) hk
theorem Vr {p:Prop} {i:Decidable p} (h:p) (hk:Ok k Q):Ok (chk (decide p) λ_=>k) Q:=bd (aQ h) hk
theorem yp {p:Prop} {i:Decidable p} (h:¬p) (hk:Ok k Q):Ok (chk (!decide p) λ_=>k) Q:=bd (by simp[h]) hk
theorem li {a b:Nat} (h:a=b) (hk:Ok k Q):Ok (chk (aB a b) λ_=>k) Q:=bd (by subst h;exact rA a) hk
theorem Ak (hk:Ok k Q):Ok (chk ai λ_=>k) Q:=hk
theorem bH {a b:Int} (ht:a<b->Ok t Q) (hf:b<=a->Ok f Q):Ok (bcase (fP a b) t f) Q:=aP (λh=>ht (sW.1 h)) (λh=>hf (fZ.1 h))
theorem fw {a b:Int} (ht:a<=b->Ok t Q) (hf:b<a->Ok f Q):Ok (bcase (cV a b) t f) Q:=aP (λh=>ht (Nn.1 h)) (λh=>hf (lP.1 h))
theorem aK {p:Prop} {i:Decidable p} (ht:p->Ok t Q) (hf:¬p->Ok f Q):Ok (bcase (decide p) t f) Q:=aP (λh=>ht (bt h)) (λh=>hf (Sn h))
theorem b8 {p:Prop} {i:Decidable p} (ht:¬p->Ok t Q) (hf:p->Ok f Q):Ok (bcase (!decide p) t f) Q:=aP (λh=>ht (by simpa using h)) (λh=>hf (by simpa using h))
theorem d_ {b:Bool} (ht:b=aj->Ok t Q) (hf:b=ai->Ok f Q):Ok (bcase (!b) t f) Q:=aP (λh=>ht (by simpa using h)) (λh=>hf (by simpa using h))
theorem Vs (ht:Ok t Q):Ok (bcase ai t f) Q:=ht
theorem fE (hf:Ok f Q):Ok (bcase aj t f) Q:=hf
theorem cD {j:Int} {n:Nat} (hk:Ok k Q) (h0:0<=j:=by first|omega|(dsimp only;omega)) (h1:j<n:=by first|omega|(dsimp only;omega)):Ok (chk (fe j n) λ_=>k) Q:=aR h0 h1 hk
theorem dC {a b:Int} (ht:Ok t Q) (h:a<b:=by first|omega|(dsimp only[au];omega)):Ok (bcase (fP a b) t f) Q:=bH (λ_=>ht) λg=>cU h (BJ.2 g)
theorem dx {a b:Int} (hf:Ok f Q) (h:b<=a:=by first|omega|(dsimp only[au];omega)):Ok (bcase (fP a b) t f) Q:=bH (λg=>cU g (BJ.2 h)) λ_=>hf
end steps
theorem qG:(∀ (p:Prop) [Decidable p],(decide p=ai)=p)/\(∀ p:Prop,(True\/p)=True)/\(∀ p:Prop,(p\/True)=True)/\(∀ p:Prop,(True->p)=p)/\(∀ p:Prop,(True/\p)=p)/\∀ p:Prop,(p/\True)=p:=⟨λ_=>bP,true_or,or_true,λ_=>true_implies _,AO,and_true⟩
theorem sG:(∀ i:Decidable True,@decide True i=ai)/\(∀ i:Decidable False,@decide False i=aj)/\(∀ {R:Type} (t f:Option R),bcase ai t f=t)/\(∀ {R:Type} (t f:Option R),bcase aj t f=f)/\(∀ {α R:Type} (x:α) (k:α->Option R),jn (af (.inr x)) k=k x)/\(∀ {α R:Type} (r:R) (k:α->Option R),jn (af (.inl r)) k=af r)/\(∀ {α R:Type} (x:α) (k:α->Option R),obind (af x) k=k x)/\(∀ {α R:Type} (x:α) (k:α->Option R),lt x k=k x)/\(!ai)=aj/\(!aj)=ai:=⟨dL,c7,λ_ _=>rfl,λ_ _=>rfl,λ_ _=>rfl,λ_ _=>rfl,λ_ _=>rfl,λ_ _=>rfl,rfl,rfl⟩
structure IM (p q:Prop):Prop where
 h:p->q
inductive OS {R:Type}:Option R->(R->Prop)->Prop where
 |cand {a b:Bool} {k:Option R} {Q:R->Prop} (h:Ok (chk a λ_=>chk b λ_=>k) Q):OS (chk (a&&b) λ_=>k) Q
 |fe {j:Int} {n:Nat} {k:Option R} {Q:R->Prop} (h0:0<=j) (h1:j<n) (hk:Ok k Q):OS (chk (fe j n) λ_=>k) Q
 |room {n b:Nat} {k:Option R} {Q:R->Prop} (h0:n<=1073741824) (h1:b<=1024) (hk:Ok k Q):OS (chk (bc n b) λ_=>k) Q
 |cile {a b:Int} {k:Option R} {Q:R->Prop} (h:a<=b) (hk:Ok k Q):OS (chk (cV a b) λ_=>k) Q
 |cilt {a b:Int} {k:Option R} {Q:R->Prop} (h:a<b) (hk:Ok k Q):OS (chk (fP a b) λ_=>k) Q
 |cdec {p:Prop} {i:Decidable p} {k:Option R} {Q:R->Prop} (h:p) (hk:Ok k Q):OS (chk (decide p) λ_=>k) Q
 |cndec {p:Prop} {i:Decidable p} {k:Option R} {Q:R->Prop} (h:¬p) (hk:Ok k Q):OS (chk (!decide p) λ_=>k) Q
 |cbeq {a b:Nat} {k:Option R} {Q:R->Prop} (h:a=b) (hk:Ok k Q):OS (chk (aB a b) λ_=>k) Q
 |cT {k:Option R} {Q:R->Prop} (hk:Ok k Q):OS (chk ai λ_=>k) Q
 |lt {α:Type} {x:α} {k:α->Option R} {Q:R->Prop} (h:Ok (k x) Q):OS (lt x k) Q
 |b1 {t f:Option R} {Q:R->Prop} (h:Ok t Q):OS (bcase ai t f) Q
 |b0 {t f:Option R} {Q:R->Prop} (h:Ok f Q):OS (bcase aj t f) Q
 |fP {a b:Int} {t f:Option R} {Q:R->Prop} (ht:IM (a<b) (Ok t Q)) (hf:IM (b<=a) (Ok f Q)):OS (bcase (fP a b) t f) Q
 |cV {a b:Int} {t f:Option R} {Q:R->Prop} (ht:IM (a<=b) (Ok t Q)) (hf:IM (b<a) (Ok f Q)):OS (bcase (cV a b) t f) Q
 |dec {p:Prop} {i:Decidable p} {t f:Option R} {Q:R->Prop} (ht:IM p (Ok t Q)) (hf:IM (¬p) (Ok f Q)):OS (bcase (decide p) t f) Q
 |ndec {p:Prop} {i:Decidable p} {t f:Option R} {Q:R->Prop} (ht:IM (¬p) (Ok t Q)) (hf:IM p (Ok f Q)):OS (bcase (!decide p) t f) Q
 |not {b:Bool} {t f:Option R} {Q:R->Prop} (ht:IM (b=aj) (Ok t Q)) (hf:IM (b=ai) (Ok f Q)):OS (bcase (!b) t f) Q
 |bcase {b:Bool} {t f:Option R} {Q:R->Prop} (ht:IM (b=ai) (Ok t Q)) (hf:IM (b=aj) (Ok f Q)):OS (bcase b t f) Q
 |jc {α:Type} {o:Option (R⊕α)} {k:α->Option R} {Q:R->Prop} (h:Ok o λr=>match r with|.inl r=>Q r|.inr x=>Ok (k x) Q):OS (jn o k) Q
 |some {y:R} {Q:R->Prop} (h:Q y):OS (af y) Q
theorem OS.ok {R:Type} {o:Option R} {Q:R->Prop} (h:OS o Q):Ok o Q:=by
 cases h with
 |cand h=>exact c6 h
 |fe a b h=>exact aR a b h
 |room a b h=>exact bk a b h
 |cile a h=>exact dZ a h
 |cilt a h=>exact zF a h
 |cdec a h=>exact Vr a h
 |cndec a h=>exact yp a h
 |cbeq a h=>exact li a h
 |cT h=>exact h
 |lt h=>exact h
 |b1 h=>exact h
 |b0 h=>exact h
 |fP a b=>exact bH a.h b.h
 |cV a b=>exact fw a.h b.h
 |dec a b=>exact aK a.h b.h
 |ndec a b=>exact b8 a.h b.h
 |not a b=>exact d_ a.h b.h
 |bcase a b=>exact aP a.h b.h
 |jc h=>
  obtain⟨r,e,h⟩:=h;exact gJ ⟨r,e,by cases r<;>exact h⟩
 |some h=>exact ar h
theorem bcT {R:Type} (t f:Option R):bcase ai t f=t:=rfl
theorem Z7 {R:Type} (t f:Option R):bcase aj t f=f:=rfl
theorem jnr {α R:Type} (x:α) (k:α->Option R):jn (af (.inr x)) k=k x:=rfl
theorem Vt {α R:Type} (x:α) (k:α->Option R):obind (af x) k=k x:=rfl
theorem Ib {k:Int}:k=1\/k=2\/k=3\/k=4\/k=5\/k=6\/k=7\/k=8\/k=9\/k=10\/k=11\/k=12\/k=13\/k=14\/k=15\/k=16\/k=17\/k=18\/k=19\/k=20\/k=21\/k=22\/k=23\/((∀ j:Int,1<=j->j<=23->(k=j)=False)/\(k<1\/23<k)):=by
 by_cases h:1<=k/\k<=23
 .omega
 .have:(∀ j:Int,1<=j->j<=23->(k=j)=False)/\(k<1\/23<k):=⟨λj h1 h2=>eq_false (by omega),by omega⟩
  repeat (first|exact this|refine Or.inr ?_)
theorem ic {n:Int} (h0: -9223372036854775808<=n) (h1:n<=9223372036854775807):bl .i64 n=n:=by
 rw[G0];unfold LC;simp[cV,h0,h1]
theorem gW {i:Nat} (h:i<9223372036854775807):bl .i64 ((i:Int)+1)=((i+1:Nat):Int):=by rw[ic (by omega) (by omega)];omega
theorem yK {T:Ty} (xs:List T.den) (i:Nat):aJ xs (i:Int)=xs.getD i T.zero:=by unfold aJ;simp
theorem NG (xs:List Int) (i:Nat):aJ (T:=.int .i64) xs (i:Int)=xs.getD i 0:=yK (T:=.int .i64) xs i
theorem bJ {T:Ty} {xs:List T.den} {j:Int} (h0:0<=j) (h1:j<xs.length):aJ xs j∈xs:=by
 unfold aJ;rw[ay,aA (by omega)];exact uC _
theorem bR {α:Type} (xs:List α) (j:Int) (x:α):(cq xs j x).length=xs.length:=by unfold cq;simp
theorem BW {α:Type} {xs:List α} {j:Int} {x y:α} (h:y∈cq xs j x):y∈xs\/y=x:=List.mem_or_eq_of_mem_set h
abbrev WT:Type:=List (List UInt8×Int×Int×Bool×Int)×List (List UInt8×Bool)×List (List UInt8×Int)×List (List UInt8)×List (List UInt8)×List (Int×Int×Int)
abbrev SY:Type:=List (Int×List Int)×Int×List Bool×List (Int×Int×Bool)
theorem Zl (a b:Int):pY (a,b)=af (decide (0<=a/\a<b)):=by
 refine cJ ?_;unfold pY jN aE;with_reducible repeat' first|(refine OS.ok ?_;constructor)|refine IM.mk λ_=>?_
 .by_cases h:a<b<;>simp[*,fP]
 .simp;omega
theorem U1 (l:List Int) (n:Int) (hl:l.length<=1000000):pZ (l,n)=af (l.contains n):=by
 refine cJ ?_;unfold pZ be bx bK aX cK aE cB;refine ch l.length (λi x=>x=(i:Int)/\∀ k,k<i->l.getD k 0≠n) ?_ ?_ ⟨rfl,λk hk=>by omega⟩
 .rintro i x hi ⟨rfl,I⟩;with_reducible repeat' first|(refine OS.ok ?_;constructor)|refine IM.mk λ_=>?_
  all_goals try simp only[au,qG] at*
  .omega
  .omega
  .rename_i h;rw[NG] at h;show ai=_
   symm
   rw[sC,<-h,ay,aA hi];exact uC _
  .rename_i h;rw[NG] at h;refine ⟨gW (by omega),λk hk=>?_⟩;rcases b7 k i with h1|h1
   .exact I k h1
   .rw[show k=i by omega];exact h
  .omega
 .rintro x ⟨rfl,I⟩;with_reducible repeat' first|(refine OS.ok ?_;constructor)|refine IM.mk λ_=>?_
  all_goals try simp only[au,qG] at*
  .omega
  .omega
  .omega
  .omega
  .symm
   rw[Bool.eq_false_iff];intro hc;rw[sC] at hc;obtain⟨k,hk,he⟩:=List.getElem_of_mem hc;exact I k hk (by rw[ay,aA hk];exact he)
theorem il {T:Ty} {xs:List T.den} {p:T.den->Prop} (h:∀ k:Nat,k<al xs->p (aJ xs (k:Int))):∀ c∈xs,p c:=λc hc=>by
 obtain⟨k,hk,he⟩:=List.getElem_of_mem hc;have:=h k hk;rw[yK,ay,aA hk,uz,he] at this;exact this
theorem OK (w:WT) (s:SY) (hw:w.2.2.1.length<=1000000):Ok (qT (w,s)) λb=>b=ai->(∀ c∈w.2.2.1,0<=c.2/\c.2<w.2.1.length)/\s.1.length=w.2.1.length/\s.2.2.1.length=w.2.2.2.1.length/\s.2.2.2.length=w.2.2.2.2.1.length:=by
 unfold qT aV bg bp cO be bx bK aX cK aE cB;refine ch w.2.2.1.length (λi x=>x.1=(i:Int)/\x.2=(w,s)/\∀ k:Nat,k<i->0<=(aJ (T:=Sk) w.2.2.1 (k:Int)).2/\(aJ (T:=Sk) w.2.2.1 (k:Int)).2<w.2.1.length) ?_ ?_ ⟨rfl,rfl,λk hk=>by omega⟩
 .rintro i ⟨Y,U⟩ hi ⟨J,I,M⟩;dsimp only at J I;subst J;subst I;with_reducible repeat' first|(refine OS.ok ?_;constructor)|refine IM.mk λ_=>?_
  all_goals try simp only[au,qG] at*
  all_goals first|omega|skip
  .intro h;cases h
  .intro h;cases h
  .refine ⟨gW (by omega),λk hk=>?_⟩;rcases b7 k i with h1|h1
   .exact M k h1
   .rename_i h2 Z;rw[show k=i by omega];exact⟨h2,Z⟩
 .rintro⟨Y,U⟩ ⟨J,I,M⟩;dsimp only at J I;subst J;subst I;with_reducible repeat' first|(refine OS.ok ?_;constructor)|refine IM.mk λ_=>?_
  all_goals try simp only[au,qG] at*
  all_goals first|omega|skip
  refine ax (P:=λb=>b=ai->s.1.length=w.2.1.length/\s.2.2.1.length=w.2.2.2.1.length/\s.2.2.2.length=w.2.2.2.2.1.length) ?_ ?_
  .with_reducible repeat' first|(refine OS.ok ?_;constructor)|refine IM.mk λ_=>?_
   all_goals try simp only[au,qG] at*
   .intro h;omega
   .intro h;cases h
   .intro h;cases h
  .intro b hb;with_reducible repeat' first|(refine OS.ok ?_;constructor)|refine IM.mk λ_=>?_
   exact λh=>⟨il (T:=Sk) M,hb h⟩
structure NM (w:WT) (k o:Int):Prop where
 k1:1<=k
 k2:k<=23
 ce:k=3\/k=4->0<=o/\o<w.1.length
 lk:6<=k/\k<=11->0<=o/\o<w.2.1.length
 cd:16<=k/\k<=19->0<=o/\o<w.2.2.1.length
 th:k=20\/k=21->0<=o/\o<w.2.2.2.2.1.length
 fu:k=22\/k=23->0<=o/\o<w.2.2.2.1.length
 no:k=1\/k=2\/k=5\/(12<=k/\k<=15)->o= -1
 mu:k=6\/k=7->(aJ (T:=Su) w.2.1 o).2=aj
 rw:8<=k/\k<=11->(aJ (T:=Su) w.2.1 o).2=ai
theorem Y7 (w:WT) (k o:Int):Ok (tM (w,k,o)) λb=>b=ai->NM w k o:=by
 unfold tM aV bg bp cw be bK aX aE;rcases @Ib k with rfl|rfl|rfl|rfl|rfl|rfl|rfl|rfl|rfl|rfl|rfl|rfl|rfl|rfl|rfl|rfl|rfl|rfl|rfl|rfl|rfl|rfl|rfl|⟨hk,I⟩
 case inr.inr.inr.inr.inr.inr.inr.inr.inr.inr.inr.inr.inr.inr.inr.inr.inr.inr.inr.inr.inr.inr.inr=>
  simp only[hk 1 (by decide) (by decide),hk 2 (by decide) (by decide),hk 3 (by decide) (by decide),hk 4 (by decide) (by decide),hk 5 (by decide) (by decide),hk 6 (by decide) (by decide),hk 7 (by decide) (by decide),hk 8 (by decide) (by decide),hk 9 (by decide) (by decide),hk 10 (by decide) (by decide),hk 11 (by decide) (by decide),hk 12 (by decide) (by decide),hk 13 (by decide) (by decide),hk 14 (by decide) (by decide),hk 15 (by decide) (by decide),hk 16 (by decide) (by decide),hk 17 (by decide) (by decide),hk 18 (by decide) (by decide),hk 19 (by decide) (by decide),hk 20 (by decide) (by decide),hk 21 (by decide) (by decide),hk 22 (by decide) (by decide),hk 23 (by decide) (by decide),aZ,bm,sG];exact ar λh=>by cases h
 all_goals simp only[aZ,bm,sG,Zl]
 all_goals with_reducible repeat' first|(refine OS.ok ?_;constructor)|refine IM.mk λ_=>?_
 all_goals try simp only[au,qG] at*
 all_goals first|omega|(intro h;cases h;done)|(intro h;constructor<;>first|omega|(intro h2;first|omega|(simpa using h)))
structure SB (n:Nat) (s:SY):Prop where
 n1:n<=100000
 lk:s.1.length<=1000
 rd:∀ l∈s.1,l.2.length<=n
 dn:s.2.2.1.length<=1000
 th:s.2.2.2.length<=1000
structure EN (w:WT) (s:SY) (t k o:Int):Prop where
 nm:NM w k o
 t0:0<=t
 t1:t<w.2.2.2.2.1.length
 cd:∀ c∈w.2.2.1,0<=c.2/\c.2<w.2.1.length
 e1:s.1.length=w.2.1.length
 e2:s.2.2.1.length=w.2.2.2.1.length
 e3:s.2.2.2.length=w.2.2.2.2.1.length
structure UW (w:WT) (s:SY) (t k o:Int):Prop where
 b:k=1->(aJ (T:=ju) s.2.2.2 t).1=1
 wk:k=17->(aJ (T:=ju) s.2.2.2 t).1=4/\(aJ (T:=ju) s.2.2.2 t).2.1=o/\(aJ (T:=zR) s.1 (aJ (T:=Sk) w.2.2.1 o).2).1= -1
 r:k≠1->k≠17->(aJ (T:=ju) s.2.2.2 t).1=2
 aq:k=6\/k=8\/k=10->(aJ (T:=zR) s.1 o).1= -1
 wr:k=10->(aJ (T:=zR) s.1 o).2.length=0
 ra:k=8->(aJ (T:=zR) s.1 o).2.contains t=aj
 rl:k=7\/k=11->(aJ (T:=zR) s.1 o).1=t
 rr:k=9->(aJ (T:=zR) s.1 o).2.contains t=ai
 xb:k=12->s.2.1= -1
 xe:k=13->s.2.1=t
 ab:k=14->(aJ (T:=ju) s.2.2.2 t).2.2=aj
 ae:k=15->(aJ (T:=ju) s.2.2.2 t).2.2=ai
 nt:k=16\/k=18\/k=19->(aJ (T:=zR) s.1 (aJ (T:=Sk) w.2.2.1 o).2).1=t
 sp:k=20->¬o=t/\(aJ (T:=ju) s.2.2.2 o).1=0
 jo:k=21->¬o=t/\(aJ (T:=ju) s.2.2.2 o).1=5
 se:k=22->aJ (T:=.bool) s.2.2.1 o=aj
 ge:k=23->aJ (T:=.bool) s.2.2.1 o=ai
theorem Ki {n:Nat} (w:WT) (s:SY) (hs:SB n s) (hw:w.2.2.1.length<=1000) (t k o:Int):Ok (j6 (w,s,t,k,o)) λb=>b=ai->EN w s t k o/\UW w s t k o:=by
 unfold j6 aV bg bp bL db cO be iI bK aX aE;refine aY (λx=>x.2=(w,s)/\(x.1=aj->EN w s t k o)) ?_ ?_
 .refine ax (OK w s (by omega)) λb hb=>?_
  with_reducible repeat' first|(refine OS.ok ?_;constructor)|refine IM.mk λ_=>?_
  .exact⟨rfl,λh=>by cases h⟩
  .simp only[Zl,Vt];with_reducible repeat' first|(refine OS.ok ?_;constructor)|refine IM.mk λ_=>?_
   .exact⟨rfl,λh=>by cases h⟩
   .refine ax (Y7 w k o) λc hc=>?_
    with_reducible repeat' first|(refine OS.ok ?_;constructor)|refine IM.mk λ_=>?_
    all_goals try simp only[au,qG] at*
    rename_i h1 h2;obtain⟨f1,f2,Z,Y⟩:=hb h1;exact λh=>⟨hc (by simpa using h),by omega,by omega,f1,f2,Z,Y⟩
 .rintro⟨x1,x2⟩ ⟨I,J⟩;dsimp only at I J;subst I;refine aP (λh=>ar λh=>by cases h) (λh=>?_);have he:=J h;obtain⟨nm,t0,t1,cd,e1,e2,e3⟩:=id he;obtain⟨_,_,ce,lk,cn,th,fu⟩:=nm;have hm:16<=k/\k<=19->0<=(aJ (T:=Sk) w.2.2.1 o).2/\(aJ (T:=Sk) w.2.2.1 o).2<w.2.1.length:=λh=>cd _ (bJ (cn h).1 (cn h).2)
  have U:6<=k/\k<=11->pZ ((aJ (T:=zR) s.1 o).2,t)=af ((aJ (T:=zR) s.1 o).2.contains t):=λh=>U1 _ _ (by
   have:=hs.rd _ (bJ (T:=zR) (lk h).1 (by have:=(lk h).2;omega));have:=hs.n1;omega)
  rcases @Ib k with rfl|rfl|rfl|rfl|rfl|rfl|rfl|rfl|rfl|rfl|rfl|rfl|rfl|rfl|rfl|rfl|rfl|rfl|rfl|rfl|rfl|rfl|rfl|⟨hk,M⟩
  case inr.inr.inr.inr.inr.inr.inr.inr.inr.inr.inr.inr.inr.inr.inr.inr.inr.inr.inr.inr.inr.inr.inr=>omega
  all_goals simp only[aZ,bm,sG]
  all_goals with_reducible repeat' first|(refine OS.ok ?_;constructor)|refine IM.mk λ_=>?_
  all_goals try simp only[U (by omega),Vt]
  all_goals with_reducible repeat' first|(refine OS.ok ?_;constructor)|refine IM.mk λ_=>?_
  all_goals try simp only[au,qG] at*
  all_goals first|omega|(intro h;cases h;done)|exact (hm ⟨by decide,by decide⟩).1|(rw [e1];exact (hm ⟨by decide,by decide⟩).2)|(intro h;refine ⟨he,?_⟩;constructor<;>first|omega|(intros;first|omega|assumption|(simpa using h)|exact⟨by assumption,by first|assumption|exact⟨by assumption,by assumption⟩⟩))|(refine ⟨he,?_⟩;constructor<;>first|omega|(intros;first|omega|assumption))
def lI:List Int->Int->List Int
 |[],n=>[n]
 |x::r,n=>if x<n then x::lI r n else if x=n then x::r else n::x::r
theorem DF (n:Int):∀ (i:Nat) (l:List Int),i<=l.length->(∀ k,k<i->l.getD k 0<n)->lI l n=l.take i++lI (l.drop i) n
 |0,l,_,_=>by simp
 |i+1,[],h,_=>by simp at h
 |i+1,x::r,h,hk=>by
  have h0:=hk 0 (by omega);simp at h0;have:=DF n i r (by simpa using h) (λk I=>by have:=hk (k+1) (by omega);simpa using this);rw[lI,aF h0,this,vB,vC,gh]
theorem E0 (n:Int):∀ l:List Int,(lI l n).length<=l.length+1
 |[]=>by simp[lI]
 |x::r=>by
  have:=E0 n r;rw[lI];split
  .simp;omega
  .split<;>simp
theorem HJ {n y:Int}:∀ {l:List Int},y∈lI l n↔y=n\/y∈l
 |[]=>by simp[lI]
 |x::r=>by
  have:=HJ (n:=n) (y:=y) (l:=r);rw[lI];split
  .simp[this];constructor
   .rintro (h|h|h)<;>simp[h]
   .rintro (h|h|h)<;>simp[h]
  .split
   .rename_i h;subst h;simp
   .simp
def GR:List Int->Prop
 |[]=>True
 |x::r=>(∀ y∈r,x<y)/\GR r
theorem Pn {n:Int}:∀ {l:List Int},GR l->GR (lI l n)
 |[],_=>by simp[lI,GR]
 |x::r,h=>by
  rw[lI];split
  .rename_i J;refine ⟨λy I=>?_,Pn h.2⟩;rcases HJ.1 I with rfl|I
   .exact J
   .exact h.1 y I
  .split
   .exact h
   .rename_i h1 h2;refine ⟨λy I=>?_,h⟩;rcases bi.1 I with rfl|I
    .omega
    .have:=h.1 y I;omega
theorem aad (l:List Int) (n:Int) (hl:l.length<=1000000):vP (l,n)=af (lI l n):=by
 refine cJ ?_;unfold vP bx bE bK aX cK aE cB;have fin:∀ i:Nat,i<=l.length->(∀ k,k<i->l.getD k 0<n)->(i<l.length->¬l.getD i 0<n/\l.getD i 0≠n)->l.take i++[n]++l.drop i=lI l n:=λi hi hk hn=>by
  rw[DF n i l hi hk];cases hd:l.drop i with
  |nil=>simp[lI]
  |cons y r=>
   have hlt:i<l.length:=by
    rcases b7 i l.length with h|h
    .exact h
    .rw[List.drop_eq_nil_of_le h] at hd;cases hd
   have J:l.getD i 0=y:=by
    rw[ay,<-List.head?_drop,hd];rfl
   obtain⟨h1,h2⟩:=hn hlt;rw[J] at h1 h2;rw[lI,aC h1,aC h2];simp
 refine ch l.length (λi x=>x=(i:Int)/\∀ k,k<i->l.getD k 0<n) ?_ ?_ ⟨rfl,λk hk=>by omega⟩
 .rintro i x hi ⟨rfl,I⟩;by_cases hlt:l.getD i 0<n
  .with_reducible repeat' first|(refine OS.ok ?_;constructor)|refine IM.mk λ_=>?_
   all_goals try simp only[au,qG] at*
   all_goals first|omega|skip
   .refine ⟨gW (by omega),λk hk=>?_⟩;rcases b7 k i with h1|h1
    .exact I k h1
    .rw[show k=i by omega];exact hlt
   .rename_i h;exact cU hlt (BJ.2 h)
  .have key:l.getD i 0=n->lI l n=l:=λhe=>by
    rw[DF n i l (by omega) I];cases hd:l.drop i with
    |nil=>have:=gE al hd;simp at this;omega
    |cons y r=>
     have J:l.getD i 0=y:=by rw[ay,<-List.head?_drop,hd];rfl
     rw[J] at he;rw[lI,aC (by omega),aF he,<-hd,AM]
   with_reducible repeat' first|(refine OS.ok ?_;constructor)|refine IM.mk λ_=>?_
   all_goals try simp only[au,qG] at*
   all_goals first|omega|skip
   .rename_i h;exact cU h hlt
   .refine ax (P:=λr=>r=lI l n) ?_ λr hr=>ar hr
    with_reducible repeat' first|(refine OS.ok ?_;constructor)|refine IM.mk λ_=>?_
    all_goals try simp only[au,qG] at*
    all_goals first|omega|skip
    .rename_i h;exact (key h).symm
    .simp;omega
    .simp;omega
    .simp;omega
    .rename_i h;simpa using fin i (by omega) I (λ_=>⟨hlt,h⟩)
 .rintro x ⟨rfl,I⟩;with_reducible repeat' first|(refine OS.ok ?_;constructor)|refine IM.mk λ_=>?_
  all_goals try simp only[au,qG] at*
  all_goals first|omega|skip
  refine ax (P:=λr=>r=lI l n) ?_ λr hr=>ar hr
  with_reducible repeat' first|(refine OS.ok ?_;constructor)|refine IM.mk λ_=>?_
  all_goals try simp only[au,qG] at*
  all_goals first|omega|skip
  .simp;omega
  .simp;omega
  .simp;omega
  .simpa using fin l.length (by omega) I (λh=>by omega)
def wM (a b:List Int):List Int:=b.foldl lI (a.foldl lI [])
theorem vZ:∀ (b acc:List Int),(b.foldl lI acc).length<=acc.length+b.length
 |[],acc=>by simp
 |x::r,acc=>by
  have:=vZ r (lI acc x);have:=E0 x acc;rw[EU,bZ];omega
theorem IL:∀ {b acc:List Int},GR acc->GR (b.foldl lI acc)
 |[],_,h=>h
 |x::r,acc,h=>by rw[EU];exact IL (Pn h)
theorem IK {y:Int}:∀ {b acc:List Int},y∈b.foldl lI acc↔y∈acc\/y∈b
 |[],acc=>by simp
 |x::r,acc=>by
  rw[EU,IK,HJ];simp;constructor
  .rintro ((h|h)|h)<;>simp[h]
  .rintro (h|h|h)<;>simp[h]
theorem OY (a b:List Int):GR (wM a b):=IL (IL trivial)
theorem Hs {a b:List Int} {y:Int}:y∈wM a b↔y∈a\/y∈b:=by unfold wM;rw[IK,IK];simp
theorem YA (a b:List Int):(wM a b).length<=a.length+b.length:=by
 have:=vZ b (a.foldl lI []);have:=vZ a [];unfold wM;simp at *;omega
theorem L7 {b acc:List Int} {i:Nat} (hi:i<b.length):(b.take (i+1)).foldl lI acc=lI ((b.take i).foldl lI acc) (b.getD i 0):=by
 rw[oG hi,fG,ay,aA hi];rfl
theorem RP (a b:List Int) (M:a.length<=400000) (hb:b.length<=400000):qU (a,b)=af (wM a b):=by
 refine cJ ?_;unfold qU bx bK aX cK aE cB;refine ch a.length (λi x=>x.2=(i:Int)/\x.1=(a.take i).foldl lI []) ?_ ?_ ⟨rfl,rfl⟩
 .rintro i ⟨J,I⟩ hi ⟨h1,h2⟩;dsimp only at h1 h2;subst h1;subst h2;have hl:((a.take i).foldl lI []).length<=1000000:=by have:=vZ (a.take i) [];have:=pJ i a;simp at *;omega
  with_reducible repeat' first|(refine OS.ok ?_;constructor)|refine IM.mk λ_=>?_
  all_goals try simp only[au,qG] at*
  all_goals first|omega|skip
  refine aU (aad _ _ hl) (ar ?_);dsimp only;refine ⟨gW (by omega),?_⟩;rw[NG,L7 hi]
 .rintro⟨J,I⟩ ⟨h1,h2⟩;dsimp only at h1 h2;subst h1;subst h2;rw[cP];have hla:=vZ a [];with_reducible repeat' first|(refine OS.ok ?_;constructor)|refine IM.mk λ_=>?_
  all_goals try simp only[au,qG] at*
  all_goals first|omega|skip
  refine ax (P:=λr=>r=wM a b) ?_ λr hr=>ar hr
  refine ch b.length (λi x=>x.2=(i:Int)/\x.1=(b.take i).foldl lI (a.foldl lI [])) ?_ ?_ ⟨rfl,rfl⟩
  .rintro i ⟨J,I⟩ hi ⟨h1,h2⟩;dsimp only at h1 h2;subst h1;subst h2;have hl:((b.take i).foldl lI (a.foldl lI [])).length<=1000000:=by have:=vZ (b.take i) (a.foldl lI []);have:=pJ i b;simp at *;omega
   with_reducible repeat' first|(refine OS.ok ?_;constructor)|refine IM.mk λ_=>?_
   all_goals try simp only[au,qG] at*
   all_goals first|omega|skip
   refine aU (aad _ _ hl) (ar ?_);dsimp only;refine ⟨gW (by omega),?_⟩;rw[NG,L7 hi]
  .rintro⟨J,I⟩ ⟨h1,h2⟩;dsimp only at h1 h2;subst h1;subst h2;rw[cP];with_reducible repeat' first|(refine OS.ok ?_;constructor)|refine IM.mk λ_=>?_
   all_goals try simp only[au,qG] at*
   all_goals first|omega|rfl
def Hn (c:Int) (x:Int×Int×Bool):Bool:=decide (x.1=3)&&decide (x.2.1=c)
def wl (th:List (Int×Int×Bool)) (c:Int):Nat->List Int
 |0=>[]
 |i+1=>if Hn c (aJ (T:=ju) th (i:Int)) then wl th c i++[(i:Int)] else wl th c i
theorem vb (th:List (Int×Int×Bool)) (c:Int):∀ i,(wl th c i).length<=i
 |0=>bV _
 |i+1=>by have:=vb th c i;rw[wl];split<;>simp<;>omega
theorem qN {th:List (Int×Int×Bool)} {c u:Int}:∀ {i:Nat},u∈wl th c i↔0<=u/\u<i/\Hn c (aJ (T:=ju) th u)=ai
 |0=>by simp[wl];omega
 |i+1=>by
  have I:= @qN th c u i;rw[wl];by_cases hu:u=(i:Int)
  .subst hu;split
   .rename_i h;simp[h];omega
   .rename_i h;rw[I];simp[h]
  .split
   .rw[bW,I,aL];constructor
    .rintro (h|h)
     .exact⟨h.1,by omega,h.2.2⟩
     .exact cU h hu
    .intro h;exact .inl ⟨h.1,by omega,h.2.2⟩
   .rw[I];constructor
    .intro h;exact⟨h.1,by omega,h.2.2⟩
    .intro h;exact⟨h.1,by omega,h.2.2⟩
theorem aiu {th:List (Int×Int×Bool)} {c:Int} {i:Nat} (h1:(aJ (T:=ju) th (i:Int)).1=3) (h2:(aJ (T:=ju) th (i:Int)).2.1=c):wl th c (i+1)=wl th c i++[(i:Int)]:=by
 rw[wl,aF];unfold Hn;rw[h1,h2];simp
theorem aec {th:List (Int×Int×Bool)} {c:Int} {i:Nat} (h1:¬(aJ (T:=ju) th (i:Int)).1=3):wl th c (i+1)=wl th c i:=by
 rw[wl,aC];unfold Hn;rw[bF h1];simp
theorem aeb {th:List (Int×Int×Bool)} {c:Int} {i:Nat} (h1:¬(aJ (T:=ju) th (i:Int)).2.1=c):wl th c (i+1)=wl th c i:=by
 rw[wl,aC];unfold Hn;rw[bF h1];simp
theorem UQ (s:SY) (c:Int) (hs:s.2.2.2.length<=1000):nA (s,c)=af (wl s.2.2.2 c s.2.2.2.length):=by
 refine cJ ?_;unfold nA bL be bx bE bK aX cK aE cB;refine ch s.2.2.2.length (λi x=>x=((i:Int),s,wl s.2.2.2 c i)) ?_ ?_ rfl
 .rintro i x hi rfl;have hl:=vb s.2.2.2 c i;with_reducible repeat' first|(refine OS.ok ?_;constructor)|refine IM.mk λ_=>?_
  all_goals try simp only[au,qG] at*
  all_goals first|omega|skip
  all_goals first|(simp;omega)|skip
  .rename_i h1 h2;rw[aiu h1 h2,gW (by omega)]
  .rename_i h1 h2;rw[aeb h2,gW (by omega)]
  .rename_i h1;rw[aec h1,gW (by omega)]
 .rintro x rfl;with_reducible repeat' first|(refine OS.ok ?_;constructor)|refine IM.mk λ_=>?_
  all_goals try simp only[au,qG] at*
  all_goals first|omega|rfl
def wo (l:List Int) (n:Int):List Int:=l.filter λx=> !decide (x=n)
theorem So (l:List Int) (n:Int) (hl:l.length<=1000000):pW (l,n)=af (wo l n):=by
 refine cJ ?_;unfold pW bx iI bE bK aX cK aE cB;refine ch l.length (λi x=>x=((i:Int),wo (l.take i) n)) ?_ ?_ rfl
 .rintro i x hi rfl;have hq:(wo (l.take i) n).length<=i:=dc (List.length_filter_le ..) (pJ ..);have ht:wo (l.take (i+1)) n=if aJ (T:=.int .i64) l (i:Int)=n then wo (l.take i) n else wo (l.take i) n++[aJ (T:=.int .i64) l (i:Int)]:=by
   unfold wo;rw[oG hi,List.filter_append,NG,ay,aA hi];by_cases h:l[i]=n<;>simp[h]
  with_reducible repeat' first|(refine OS.ok ?_;constructor)|refine IM.mk λ_=>?_
  all_goals try simp only[au,qG] at*
  all_goals first|omega|skip
  .simp;omega
  .rename_i h;rw[ht,aC h,gW (by omega)]
  .rename_i h;rw[ht,aF h,gW (by omega)]
 .rintro x rfl;with_reducible repeat' first|(refine OS.ok ?_;constructor)|refine IM.mk λ_=>?_
  all_goals try simp only[au,qG] at*
  all_goals first|omega|(rw [cP])
theorem nR {T:Ty} {xs:List T.den} {i:Nat} (hi:i<al xs):du (i+1) xs=du i xs++[aJ xs (i:Int)]:=by
 rw[oG hi,yK,ay,aA hi];rfl
theorem qy {n:Nat} (s:SY) (hs:SB n s):ig s=af (s.2.1,s.1,s.2.2.1,s.2.2.2):=by
 refine cJ ?_;obtain⟨s1,s2,J,I⟩:=s;have hn:=hs.n1;have Y:=hs.lk;have U:=hs.dn;have M:=hs.th;dsimp only at Y U M;unfold ig aV bg bp bL cO bx bE bK aX cK aE cB;with_reducible repeat' first|(refine OS.ok ?_;constructor)|refine IM.mk λ_=>?_
 all_goals try simp only[au,qG] at*
 .simp;omega
 .omega
 .simp;omega
 .omega
 refine ch s1.length (λi x=>x=((i:Int),(s1,s2,J,I),0,s2,s1.take i,J,I)) ?_ ?_ ?_
 .rintro i x hi rfl;have hg:=hs.rd _ (bJ (T:=zR) (xs:=s1) (j:=(i:Int)) (by omega) (by omega));with_reducible repeat' first|(refine OS.ok ?_;constructor)|refine IM.mk λ_=>?_
  all_goals try simp only[au,qG] at*
  all_goals first|omega|skip
  .simp;omega
  .simp;omega
  .rw[gW (by omega),nR (T:=zR) hi];rfl
 .rintro x rfl;with_reducible repeat' first|(refine OS.ok ?_;constructor)|refine IM.mk λ_=>?_
  all_goals try simp only[au,qG] at*
  all_goals first|omega|skip
  simp
 .simp
theorem F4 (s:SY) (c:Int) (hs:s.2.2.2.length<=1000):jw ((s.2.1,c),s.1,s.2.2.1,s.2.2.2)=af (wl s.2.2.2 c s.2.2.2.length):=by
 refine cJ ?_;unfold jw;refine ax (P:=λy=>y=(wl s.2.2.2 c s.2.2.2.length,s.1,s.2.2.1,s.2.2.2)) ?_ λy I=>by subst I;exact abt rfl (ar rfl)
 unfold l7 aV bg bp bL cO be bx bE kA aX cK aE cB;refine ch s.2.2.2.length (λi x=>x=((i:Int),s.1,s.2.2.1,s.2.2.2,s.2.1,wl s.2.2.2 c i)) ?_ ?_ rfl
 .rintro i x hi rfl;have hl:=vb s.2.2.2 c i;with_reducible repeat' first|(refine OS.ok ?_;constructor)|refine IM.mk λ_=>?_
  all_goals try simp only[au,qG] at*
  all_goals first|omega|skip
  all_goals first|(simp;omega)|skip
  .rename_i h1 h2;rw[aiu h1 h2,gW (by omega)]
  .rename_i h1 h2;rw[aeb h2,gW (by omega)]
  .rename_i h1;rw[aec h1,gW (by omega)]
 .rintro x rfl;with_reducible repeat' first|(refine OS.ok ?_;constructor)|refine IM.mk λ_=>?_
  all_goals try simp only[au,qG] at*
  all_goals first|omega|rfl
structure AP (n:Nat) (s y:SY):Prop where
 a1:y.1.length=s.1.length
 a2:y.2.2.1.length=s.2.2.1.length
 a3:y.2.2.2.length=s.2.2.2.length
 rd:∀ l∈y.1,l.2.length<=n+1
theorem AP.toSB {n:Nat} {s y:SY} (h:AP n s y) (hs:SB n s) (hn:n+1<=100000):SB (n+1) y:=
 ⟨hn,by rw[h.a1];exact hs.lk,h.rd,by rw[h.a2];exact hs.dn,by rw[h.a3];exact hs.th⟩
theorem AP.same {n:Nat} {s:SY} (hs:SB n s) (x:Int) (d:List Bool) (t:List (Int×Int×Bool)) (hd:d.length=s.2.2.1.length) (ht:t.length=s.2.2.2.length):AP n s (s.1,x,d,t):=
 ⟨rfl,hd,ht,λl hl=>ir (hs.rd l hl)⟩
theorem AP.set {n:Nat} {s:SY} (hs:SB n s) (j a:Int) (r:List Int) (hr:r.length<=n+1) (x:Int) (d:List Bool) (t:List (Int×Int×Bool)) (hd:d.length=s.2.2.1.length) (ht:t.length=s.2.2.2.length):AP n s (cq s.1 j (a,r),x,d,t):=
 ⟨bR _ _ _,hd,ht,λl hl=>by
   rcases BW hl with h|rfl
   .exact ir (hs.rd l h)
   .exact hr⟩
def xz (th:List (Int×Int×Bool)) (t st:Int):List (Int×Int×Bool):=cq th t (st,(aJ (T:=ju) th t).2)
def owP (lk:List (Int×List Int)) (o t:Int):List (Int×List Int):=cq lk o (t,(aJ (T:=zR) lk o).2)
def rdP (lk:List (Int×List Int)) (o:Int) (l:List Int):List (Int×List Int):=cq lk o ((aJ (T:=zR) lk o).1,l)
def cdP (th:List (Int×Int×Bool)) (t c:Int):List (Int×Int×Bool):=cq th t ((aJ (T:=ju) th t).1,c,(aJ (T:=ju) th t).2.2)
def atP (th:List (Int×Int×Bool)) (t:Int) (b:Bool):List (Int×Int×Bool):=cq th t ((aJ (T:=ju) th t).1,(aJ (T:=ju) th t).2.1,b)
def B' (th:List (Int×Int×Bool)) (l:List Int):List (Int×Int×Bool):=l.foldl (λx u=>xz x u 4) th
def AF (l:List Int) (u:Int):Int:=if l.length=0 then -1 else if l.contains u then u else aJ (T:=.int .i64) l 0
def muP (w:WT) (o:Int):Int:=(aJ (T:=Sk) w.2.2.1 o).2
def qK (w:WT) (s:SY) (t k o u:Int):SY×Int:=
 if k=1 then ((s.1,s.2.1,s.2.2.1,xz s.2.2.2 t 2),0)
 else if k=2 then ((s.1,s.2.1,s.2.2.1,xz s.2.2.2 t 5),0)
 else if k=6\/k=10 then ((owP s.1 o t,s.2),0)
 else if k=7\/k=11 then ((owP s.1 o (-1),s.2),0)
 else if k=8 then ((rdP s.1 o (wM (aJ (T:=zR) s.1 o).2 [t]),s.2),0)
 else if k=9 then ((rdP s.1 o (wo (aJ (T:=zR) s.1 o).2 t),s.2),0)
 else if k=12 then ((s.1,t,s.2.2),0)
 else if k=13 then ((s.1,-1,s.2.2),0)
 else if k=14 then ((s.1,s.2.1,s.2.2.1,atP s.2.2.2 t ai),0)
 else if k=15 then ((s.1,s.2.1,s.2.2.1,atP s.2.2.2 t aj),0)
 else if k=16 then ((owP s.1 (muP w o) (-1),s.2.1,s.2.2.1,cdP (xz s.2.2.2 t 3) t o),0)
 else if k=17 then ((owP s.1 (muP w o) t,s.2.1,s.2.2.1,cdP (xz s.2.2.2 t 2) t 0),0)
 else if k=18 then (if (wl s.2.2.2 o s.2.2.2.length).length=0 then (s,-1) else ((s.1,s.2.1,s.2.2.1,xz s.2.2.2 (AF (wl s.2.2.2 o s.2.2.2.length) u) 4),AF (wl s.2.2.2 o s.2.2.2.length) u))
 else if k=19 then ((s.1,s.2.1,s.2.2.1,B' s.2.2.2 (wl s.2.2.2 o s.2.2.2.length)),((wl s.2.2.2 o s.2.2.2.length).length:Int))
 else if k=20 then ((s.1,s.2.1,s.2.2.1,xz s.2.2.2 o 1),0)
 else if k=22 then ((s.1,s.2.1,cq s.2.2.1 o ai,s.2.2.2),0)
 else (s,0)
theorem G8 (l:List Int):∀ th,(B' th l).length=th.length:=by
 induction l with
 |nil=>intro th;rfl
 |cons x r I=>intro th;unfold B';rw[EU];exact (I _).trans (bR ..)
theorem Y8 {th:List (Int×Int×Bool)} {l:List Int} {i:Nat} (hi:i<l.length):B' th (l.take (i+1))=xz (B' th (l.take i)) (aJ (T:=.int .i64) l (i:Int)) 4:=by
 unfold B';rw[oG hi,fG,NG,ay,aA hi];rfl
theorem Si {n:Nat} (w:WT) (s:SY) (hs:SB n s) (U:w.2.2.1.length<=1000) (t k o u:Int):Ok (o6 (w,s,t,k,o,u)) λy=>(y.2.2=ai->EN w s t k o/\UW w s t k o/\AP n s y.1/\(y.1,y.2.1)=qK w s t k o u)/\(y.2.2=aj->y.1=([],0,[],[]))/\(j6 (w,s,t,k,o)=af ai->y.2.2=ai):=by
 unfold o6 aV bg bp cw bL db cO eP ck be bx bK kA aX cK aE cB;obtain⟨b,J,hb⟩:=Ki w s hs U t k o;refine aU J ?_;refine d_ (λh=>ar ⟨λh=>(by cases h),λ_=>rfl,λh2=>(by rw[J,h] at h2;cases h2)⟩) (λh=>?_);obtain⟨he,hry⟩:=hb h;refine aU (qy s hs) ?_;suffices hmain:Ok _ _ from aY (λx=>AP n s (x.2.2.2.1,x.2.1,x.2.2.2.2)/\((x.2.2.2.1,x.2.1,x.2.2.2.2),x.1)=qK w s t k o u) hmain λx M=>ar ⟨λ_=>⟨he,hry,M⟩,λh=>(by cases h),λ_=>rfl⟩
 obtain⟨nm,t0,t1,cd,e1,e2,e3⟩:=id he;obtain⟨_,_,ce,lk,cn,th,fu⟩:=nm;have hn:=hs.n1;have hlk:=hs.lk;have hm:16<=k/\k<=19->0<=(aJ (T:=Sk) w.2.2.1 o).2/\(aJ (T:=Sk) w.2.2.1 o).2<w.2.1.length:=λh=>cd _ (bJ (cn h).1 (cn h).2)
 have hr:∀ j:Int,0<=j->j<s.1.length->(aJ (T:=zR) s.1 j).2.length<=n:=λj h0 h1=>hs.rd _ (bJ (T:=zR) h0 h1)
 rcases @Ib k with rfl|rfl|rfl|rfl|rfl|rfl|rfl|rfl|rfl|rfl|rfl|rfl|rfl|rfl|rfl|rfl|rfl|rfl|rfl|rfl|rfl|rfl|rfl|⟨hk,Y⟩
 case inr.inr.inr.inr.inr.inr.inr.inr.inr.inr.inr.inr.inr.inr.inr.inr.inr.inr.inr.inr.inr.inr.inr=>omega
 all_goals simp only[aZ,bm,sG]
 all_goals with_reducible repeat' first|(refine OS.ok ?_;constructor)|refine IM.mk λ_=>?_
 all_goals try simp only[au,qG] at*
 all_goals try rw[bR]
 all_goals first|omega|exact (hm ⟨by decide,by decide⟩).1|exact e1▸(hm ⟨by decide,by decide⟩).2|exact⟨AP.same hs _ _ _ rfl rfl,rfl⟩|exact⟨AP.same hs _ _ _ rfl (bR _ _ _),rfl⟩|exact⟨AP.same hs _ _ _ (bR _ _ _) rfl,rfl⟩|skip
 all_goals try exact⟨AP.set hs _ _ _ (ir (hr o (by omega) (by omega))) _ _ _ rfl rfl,rfl⟩
 .have:=hr o (by omega) (by omega);refine aU (RP _ _ (dc this (by have:=hs.n1;omega)) (by simp)) ?_;with_reducible repeat' first|(refine OS.ok ?_;constructor)|refine IM.mk λ_=>?_
  all_goals try simp only[au,qG] at*
  all_goals first|omega|skip
  exact⟨AP.set hs _ _ _ (by have:=YA (aJ (T:=zR) s.1 o).2 [t];simp at this;omega) _ _ _ rfl rfl,rfl⟩
 .have:=hr o (by omega) (by omega);have hl:(wo (aJ (T:=zR) s.1 o).2 t).length<=(aJ (T:=zR) s.1 o).2.length:=List.length_filter_le ..;refine aU (So _ _ (by omega)) ?_;with_reducible repeat' first|(refine OS.ok ?_;constructor)|refine IM.mk λ_=>?_
  all_goals try simp only[au,qG] at*
  all_goals first|omega|skip
  exact⟨AP.set hs _ _ _ (dc hl (by omega)) _ _ _ rfl rfl,rfl⟩
 .exact⟨AP.set hs _ _ _ (ir (hr _ (hm ⟨by decide,by decide⟩).1 (by rw[e1];exact (hm ⟨by decide,by decide⟩).2))) _ _ _ rfl (by rw[bR,bR]),rfl⟩
 .exact⟨AP.set hs _ _ _ (ir (hr _ (hm ⟨by decide,by decide⟩).1 (by rw[e1];exact (hm ⟨by decide,by decide⟩).2))) _ _ _ rfl (by rw[bR,bR]),rfl⟩
 .refine aU (F4 s o hs.th) ?_;have hth:=hs.th;have hll:=vb s.2.2.2 o s.2.2.2.length;have hml:∀ u∈wl s.2.2.2 o s.2.2.2.length,0<=u/\u<s.2.2.2.length:=λu hu=>⟨(qN.1 hu).1,(qN.1 hu).2.1⟩
  have hap:qK w s t 18 o u=if (wl s.2.2.2 o s.2.2.2.length).length=0 then (s,-1) else ((s.1,s.2.1,s.2.2.1,xz s.2.2.2 (AF (wl s.2.2.2 o s.2.2.2.length) u) 4),AF (wl s.2.2.2 o s.2.2.2.length) u):=rfl
  unfold AF at hap;revert hll hml hap;generalize wl s.2.2.2 o s.2.2.2.length=l;intro hll hml hap;with_reducible repeat' first|(refine OS.ok ?_;constructor)|refine IM.mk λ_=>?_
  all_goals try simp only[au,qG] at*
  all_goals first|omega|skip
  .have I:=hml _ (bJ (T:=.int .i64) (xs:=l) (j:=0) (by omega) (by omega));rw[aC (by omega),aC (by omega)] at hap;simp only[U1 l u (by omega),Vt];refine aP (λhc=>?_) λhc=>?_
   .have hu:=hml u (sC.1 hc);rw[hc,aF rfl] at hap;refine ar (aR hu.1 hu.2 (aR hu.1 hu.2 (ar ⟨AP.same hs _ _ _ rfl (bR ..),?_⟩)));rw[hap];rfl
   .rw[hc,aC (by decide)] at hap;refine ar (aR I.1 I.2 (aR I.1 I.2 (ar ⟨AP.same hs _ _ _ rfl (bR ..),?_⟩)));rw[hap];rfl
  .rw[aF (by omega)] at hap;exact⟨AP.same hs _ _ _ rfl rfl,hap.symm⟩
 .refine aU (F4 s o hs.th) ?_;have hth:=hs.th;have hll:=vb s.2.2.2 o s.2.2.2.length;have hml:∀ u∈wl s.2.2.2 o s.2.2.2.length,0<=u/\u<s.2.2.2.length:=λu hu=>⟨(qN.1 hu).1,(qN.1 hu).2.1⟩
  have hap:qK w s t 19 o u=((s.1,s.2.1,s.2.2.1,B' s.2.2.2 (wl s.2.2.2 o s.2.2.2.length)),((wl s.2.2.2 o s.2.2.2.length).length:Int)):=rfl;rw[hap];clear hap;generalize wl s.2.2.2 o s.2.2.2.length=l at hll hml ⊢;refine ch l.length (λi x=>x=((i:Int),s.2.1,0,s.1,s.2.2.1,B' s.2.2.2 (l.take i))) ?_ ?_ rfl
  .rintro i x hi rfl;have I:=hml _ (bJ (T:=.int .i64) (xs:=l) (j:=(i:Int)) (by omega) (by omega));have hq:=G8 (l.take i) s.2.2.2;with_reducible repeat' first|(refine OS.ok ?_;constructor)|refine IM.mk λ_=>?_
   all_goals try simp only[au,qG] at*
   all_goals first|omega|skip
   rw[gW (by omega),Y8 hi];rfl
  .rintro x rfl;rw[cP];with_reducible repeat' first|(refine OS.ok ?_;constructor)|refine IM.mk λ_=>?_
   all_goals try simp only[au,qG] at*
   all_goals first|omega|skip
   exact AP.same hs _ _ _ rfl (G8 ..)
abbrev SN:Type:=SY×List Int×List Int×List Int
abbrev ET:Type:=Int×Int×Int×Int×Int×List Int×List Int
theorem ajc (a b:Int):Cb (a,b)=af (decide (0<=a/\a<b)):=Zl a b
structure NB (n:Nat) (s:SN):Prop where
 sb:SB n s.1
 c:s.2.1.length<=1000
 f:s.2.2.1.length<=1000
 k:s.2.2.2.length<=1000
structure SP (n:Nat) (s y:SN):Prop where
 ap:AP n s.1 y.1
 c:y.2.1.length=s.2.1.length
 f:y.2.2.1.length=s.2.2.1.length
 k:y.2.2.2.length=s.2.2.2.length
theorem SP.NB {n:Nat} {s y:SN} (h:SP n s y) (hs:NB n s) (hn:n+1<=100000):NB (n+1) y:=
 ⟨h.ap.toSB hs.sb hn,by rw[h.c];exact hs.c,by rw[h.f];exact hs.f,by rw[h.k];exact hs.k⟩
def sn0:SN:=(([],0,[],[]),[],[],[])
structure F16 (w:WT) (s:SN):Prop where
 c:s.2.1.length=w.1.length
 f:s.2.2.1.length=w.2.2.2.1.length
 k:s.2.2.2.length=w.2.2.2.2.1.length
theorem Yc (w:WT) (s:SN) (I:w.2.2.1.length<=1000):Ok (vK (w,s)) λb=>b=ai->F16 w s:=by
 unfold vK aV bg bp db be aX aE;refine gJ (ax (OK w s.1 (by omega)) λb hb=>?_);with_reducible repeat' first|(refine OS.ok ?_;constructor)|refine IM.mk λ_=>?_
 all_goals try simp only[au,qG] at*
 all_goals first|(intro h;constructor<;>omega)|(intro h;cases h;done)
theorem Wf:∀ (l:List Int),(∀ k:Nat,k+1<l.length->l.getD k 0<l.getD (k+1) 0)->GR l
 |[],_=>trivial
 |[x],_=>⟨λy M=>(by cases M),trivial⟩
 |x::y::r,h=>by
  have J:=Wf (y::r) λk hk=>by have:=h (k+1) (by simpa using hk);simpa using this
  have h0:=h 0 (by simp);simp at h0;refine ⟨λz I=>?_,J⟩;rcases bi.1 I with rfl|I
  .exact h0
  .have:=J.1 z I;omega
structure AN (c:Int) (l:List Int):Prop where
 a:GR l
 m:∀ x:Int,x∈l->1<=x/\x<c
theorem HV (l:List Int) (c:Int) (hl:l.length<=1000000000):Ok (ny (l,c)) λb=>b=ai->AN c l:=by
 unfold ny bx jN bK aX cK aE cB;refine ch l.length (λi x=>x=(i:Int)/\(∀ k:Nat,k<i->1<=aJ (T:=.int .i64) l (k:Int)/\aJ (T:=.int .i64) l (k:Int)<c)/\∀ k:Nat,k+1<i->l.getD k 0<l.getD (k+1) 0) ?_ ?_ ⟨rfl,λk hk=>by omega,λk hk=>by omega⟩
 .rintro i x hi ⟨rfl,I,J⟩;have M:0<(i:Int)->bl .i64 ((i:Int)-1)=((i-1:Nat):Int):=λh=>by rw[ic (by omega) (by omega)];omega
  have hq:(0<i->l.getD (i-1) 0<l.getD i 0)->1<=aJ (T:=.int .i64) l (i:Int)/\aJ (T:=.int .i64) l (i:Int)<c->bl .i64 ((i:Int)+1)=((i+1:Nat):Int)/\(∀ k:Nat,k<i+1->1<=aJ (T:=.int .i64) l (k:Int)/\aJ (T:=.int .i64) l (k:Int)<c)/\∀ k:Nat,k+1<i+1->l.getD k 0<l.getD (k+1) 0:=λg1 Z=>by
   refine ⟨gW (by omega),λk hk=>?_,λk hk=>?_⟩
   .rcases b7 k i with h1|h1
    .exact I k h1
    .rw[show k=i by omega];exact Z
   .rcases b7 (k+1) i with h1|h1
    .exact J k h1
    .have:=g1 (by omega);rw[show k=i-1 by omega,show i-1+1=i by omega];exact this
  with_reducible repeat' first|(refine OS.ok ?_;constructor)|refine IM.mk λ_=>?_
  all_goals try simp only[au,qG] at*
  all_goals first|omega|(intro h;cases h;done)|(rw [M (by omega)];omega)|skip
  .rename_i h1 h2 Y U;rw[M Y,NG,NG] at U;exact hq (λ_=>U) ⟨by omega,by omega⟩
  .exact hq (λh=>by omega) ⟨by omega,by omega⟩
 .rintro x ⟨rfl,I,J⟩;with_reducible repeat' first|(refine OS.ok ?_;constructor)|refine IM.mk λ_=>?_
  all_goals try simp only[au,qG] at*
  all_goals first|omega|skip
  exact⟨Wf l λk hk=>J k hk,il (T:=.int .i64) I⟩
structure VA (w:WT) (sy:SY) (ce fu:List Int) (t k o v:Int):Prop where
 ld:k=3->v=aJ (T:=.int .i64) ce o
 gt:k=23->v=aJ (T:=.int .i64) fu o
 br:k=5->v=0\/v=1
 el:¬k=3->¬k=23->¬k=5->¬k=4->¬k=22->v=(qK w sy t k o v).2
theorem ite2 {c:Prop} [Decidable c] {a b:SY×Int} (I:a.2=0) (hb:b.2=0):(if c then a else b).2=0:=by by_cases h:c<;>simp[h,I,hb]
theorem af2 (w:WT) (sy:SY) (t k o u:Int) (h1:¬k=18) (h2:¬k=19):(qK w sy t k o u).2=0:=by
 unfold qK;rw[aC h1,aC h2];repeat (first|exact rfl|refine ite2 rfl ?_)
theorem Wj (w:WT) (sy:SY) (t k o u I:Int) (h1:¬k=18):qK w sy t k o u=qK w sy t k o I:=by
 unfold qK;rw[aC h1,aC h1]
theorem EE (w:WT) (sy:SY) (t o u:Int):qK w sy t 18 o u=if (wl sy.2.2.2 o sy.2.2.2.length).length=0 then (sy,-1) else ((sy.1,sy.2.1,sy.2.2.1,xz sy.2.2.2 (AF (wl sy.2.2.2 o sy.2.2.2.length) u) 4),AF (wl sy.2.2.2 o sy.2.2.2.length) u):=rfl
theorem agl (w:WT) (sy:SY) (t o u:Int):(qK w sy t 19 o u).2=((wl sy.2.2.2 o sy.2.2.2.length).length:Int):=rfl
theorem Yz {n:Nat} (w:WT) (s:SN) (hs:NB n s) (hf:F16 w s) (e:ET) (he:EN w s.1 e.1 e.2.1 e.2.2.1):Ok (tJ (s,e)) λb=>b=ai->VA w s.1 s.2.1 s.2.2.1 e.1 e.2.1 e.2.2.1 e.2.2.2.1:=by
 obtain⟨t,k,o,v,si,de,fr⟩:=e;obtain⟨s1,s2,s3,s4⟩:=s;obtain⟨nm,t0,t1,cd,e1,e2,e3⟩:=he;obtain⟨_,_,ce,lk,cn,th,fu,_,_,_⟩:=nm;obtain⟨f1,f2,f3⟩:=hf;have hth:=hs.sb.th;dsimp only at*
 unfold tJ aV bg bp cw bL be bx jN bK aX aE;have hW:=UQ s1 o hth;have hWl:=vb s1.2.2.2 o s1.2.2.2.length;refine aK (λh=>?_) λn3=>?_
 .have h:k=3:=h;obtain⟨Z,Y⟩:=ce (.inl h);exact aR Z (by rw[f1];exact Y) (aT (ar λh2=>⟨λ_=>bt h2,λI=>by omega,λI=>by omega,λI=>(I h).elim⟩))
 refine aK (λh=>?_) λJ=>?_
 .have h:k=23:=h;obtain⟨Z,Y⟩:=fu (.inr h);exact aR Z (by rw[f2];exact Y) (aT (ar λh2=>⟨λI=>by omega,λ_=>bt h2,λI=>by omega,λ_ I=>(I h).elim⟩))
 refine aK (λh=>?_) λn5=>?_
 .have h:k=5:=h;exact gJ (aK (λh2=>ar (ar λ_=>⟨λI=>by omega,λI=>by omega,λ_=>.inl h2,λ_ _ I=>(I h).elim⟩)) λ_=>ar (ar λh2=>⟨λI=>by omega,λI=>by omega,λ_=>.inr (bt h2),λ_ _ I=>(I h).elim⟩))
 refine aY (λx=>x.2=((s1,s2,s3,s4),t,k,o,v,si,de,fr)/\(x.1=ai->k=4\/k=22)) (aK (λh=>ar ⟨rfl,λ_=>.inl h⟩) λ_=>ar ⟨rfl,λh=>.inr (bt h)⟩) ?_;rintro⟨b,x⟩ ⟨e,hb⟩;dsimp only at e hb;subst e;refine aP (λh=>ar λ_=>⟨λI=>(n3 I).elim,λI=>(J I).elim,λI=>(n5 I).elim,λ_ _ _ h4 h5=>(hb h).elim (λh=>(h4 h).elim) λh=>(h5 h).elim⟩) λ_=>?_
 have fin:v=(qK w s1 t k o v).2->VA w s1 s2 s3 t k o v:=λh=>⟨λI=>(n3 I).elim,λI=>(J I).elim,λI=>(n5 I).elim,λ_ _ _ _ _=>h⟩
 refine aK (λh=>?_) λU=>?_
 .have h:k=18:=h;subst h;rw[EE] at fin;refine aU hW ?_;revert fin hWl;generalize wl s1.2.2.2 o s1.2.2.2.length=l;intro hWl fin;refine aK (λh=>ar λh2=>fin ?_) λh=>?_
  .dsimp only[au] at h;rw[aF (by omega)];exact bt h2
  .dsimp only[au] at h;have hne:¬l.length=0:=by omega
   refine gJ (fw (λ_=>bH (λ_=>?_) λ_=>ar (ar λh=>(by cases h))) λ_=>ar (ar λh=>(by cases h)));refine aU (U1 _ _ (by omega)) (ar (ar λh2=>fin ?_));rw[aC hne];unfold AF;rw[aC hne,aF h2]
 refine aK (λh=>?_) λM=>?_
 .have h:k=19:=h;subst h;exact aU hW (ar λh2=>fin (bt h2))
 exact ar λh2=>fin (by rw[af2 _ _ _ _ _ _ U M];exact bt h2)
structure S16 (w:WT) (s:SN) (e:ET):Prop where
 rd:UW w s.1 e.1 e.2.1 e.2.2.1
 s1:e.2.1=1\/e.2.1=2->e.2.2.2.2.1= -1
 s2:¬(e.2.1=1\/e.2.1=2)->0<=e.2.2.2.2.1/\e.2.2.2.2.1<w.2.2.2.2.2.length/\(aJ (T:=xy) w.2.2.2.2.2 e.2.2.2.2.1).1=e.1
 de:0<e.2.2.2.2.2.1.length->e.2.1=5\/(e.2.1=3\/e.2.1=4)/\¬(aJ (T:=OZ) w.1 e.2.2.1).2.2.1=0
 fr:0<e.2.2.2.2.2.2.length->e.2.1=4\/e.2.1=22
 nd:AN (aJ (T:=.int .i64) s.2.2.2 e.1) e.2.2.2.2.2.1
 nf:AN (aJ (T:=.int .i64) s.2.2.2 e.1) e.2.2.2.2.2.2
 va:VA w s.1 s.2.1 s.2.2.1 e.1 e.2.1 e.2.2.1 e.2.2.2.1
def XI (ce:List Int) (e:ET):List Int:=if e.2.1=4 then cq ce e.2.2.1 e.2.2.2.1 else ce
def Ys (fu:List Int) (e:ET):List Int:=if e.2.1=22 then cq fu e.2.2.1 e.2.2.2.1 else fu
def nxP (w:WT) (s:SN) (e:ET):SN:=((qK w s.1 e.1 e.2.1 e.2.2.1 e.2.2.2.1).1,XI s.2.1 e,Ys s.2.2.1 e,cq s.2.2.2 e.1 (bl .i64 (aJ (T:=.int .i64) s.2.2.2 e.1+1)))
theorem EI {n:Nat} (w:WT) (s:SN) (hs:NB n s) (hw:w.2.2.1.length<=1000) (e:ET) (hd:e.2.2.2.2.2.1.length<=1000000000) (hf:e.2.2.2.2.2.2.length<=1000000000):Ok (qR (w,s,e)) λy=>(y.2=ai->EN w s.1 e.1 e.2.1 e.2.2.1/\SP n s y.1/\S16 w s e/\y.1=nxP w s e)/\(y.2=aj->y.1=sn0):=by
 have Z:∀ {Q:SN×Bool->Prop},Q (sn0,aj)->Ok (af (sn0,aj)) Q:=λh=>ar h
 have z0:((sn0,aj).2=ai->EN w s.1 e.1 e.2.1 e.2.2.1/\SP n s (sn0,aj).1/\S16 w s e/\(sn0,aj).1=nxP w s e)/\((sn0,aj).2=aj->(sn0,aj).1=sn0):=⟨λh=>(by cases h),λ_=>rfl⟩
 unfold qR aV bg bp cw dN bL db cO eP mg ck be bx iI bE bK kA aX cK aE cB;refine aY (λx=>x.2=(w,s,e,0)/\(x.1=aj->F16 w s/\(EN w s.1 e.1 e.2.1 e.2.2.1/\UW w s.1 e.1 e.2.1 e.2.2.1)/\j6 (w,s.1,e.1,e.2.1,e.2.2.1)=af ai)) ?_ ?_
 .refine ax (Yc w s hw) λb hb=>?_
  with_reducible repeat' first|(refine OS.ok ?_;constructor)|refine IM.mk λ_=>?_
  .exact⟨rfl,λh=>(by cases h)⟩
  simp only[ajc,Vt];with_reducible repeat' first|(refine OS.ok ?_;constructor)|refine IM.mk λ_=>?_
  .exact⟨rfl,λh=>(by cases h)⟩
  .exact⟨rfl,λh=>(by cases h)⟩
  .exact⟨rfl,λh=>(by cases h)⟩
  obtain⟨c,hc0,hc⟩:=Ki w s.1 hs.sb hw e.1 e.2.1 e.2.2.1;refine aU hc0 (ar ⟨rfl,λh=>?_⟩);have h:c=ai:=by simpa using h
  exact⟨hb (by assumption),hc h,h▸hc0⟩
 rintro⟨J,M⟩ ⟨I,hx⟩;dsimp only at I hx;subst I;refine aP (λ_=>Z z0) λh1=>?_
 obtain⟨hF,⟨hE,hR⟩,hEn⟩:=hx h1;clear hx h1;refine aY (λx=>x=(w,s,e,0)/\(e.2.1=1\/e.2.1=2->e.2.2.2.2.1= -1)/\(¬(e.2.1=1\/e.2.1=2)->0<=e.2.2.2.2.1/\e.2.2.2.2.1<w.2.2.2.2.2.length/\(aJ (T:=xy) w.2.2.2.2.2 e.2.2.2.2.1).1=e.1)) ?_ ?_
 .refine aY (λx=>x.2=(w,s,e,0)/\(x.1=ai->e.2.1=1\/e.2.1=2)/\(x.1=aj->¬(e.2.1=1\/e.2.1=2))) ?_ ?_
  .refine aK (λh=>ar ⟨rfl,λ_=>.inl h,λh=>(by cases h)⟩) λh=>ar ⟨rfl,λh2=>.inr (bt h2),λh2=>?_⟩
   have:=Sn h2;exact λY=>Y.elim h this
  rintro⟨J,M⟩ ⟨I,hy1,hy2⟩;dsimp only at I hy1 hy2;subst I;refine aP (λhk=>?_) λhk=>?_
  .exact b8 (λ_=>ar z0) λh=>ar ⟨rfl,λ_=>h,λY=>(Y (hy1 hk)).elim⟩
  .refine aY (λx=>x.2=(w,s,e,0)/\(x.1=aj->0<=e.2.2.2.2.1/\e.2.2.2.2.1<w.2.2.2.2.2.length/\(aJ (T:=xy) w.2.2.2.2.2 e.2.2.2.2.1).1=e.1)) ?_ ?_
   .simp only[ajc,Vt];refine b8 (λ_=>ar ⟨rfl,λh=>(by cases h)⟩) λh=>aR h.1 h.2 (aT (ar ⟨rfl,λh2=>⟨h.1,h.2,?_⟩⟩))
    simpa using h2
   rintro⟨J,M⟩ ⟨I,Z⟩;dsimp only at I Z;subst I;exact aP (λ_=>ar z0) λh=>ar ⟨rfl,λY=>((hy2 hk) Y).elim,λ_=>Z h⟩
 rintro x ⟨rfl,hS1,hS2⟩;obtain⟨nm,t0,t1,cd,e1,e2,e3⟩:=id hE;obtain⟨_,_,ce,lk,cn,th,fu,_,_,_⟩:=nm;obtain⟨f1,f2,f3⟩:=id hF;refine aY (λx=>x.2=(w,s,e,0)/\(x.1=ai->e.2.1=3\/e.2.1=4)) ?_ ?_
 .with_reducible repeat' first|(refine OS.ok ?_;constructor)|refine IM.mk λ_=>?_
  .exact⟨rfl,λ_=>.inl (by assumption)⟩
  .exact⟨rfl,λh=>.inr (bt h)⟩
 rintro⟨J,M⟩ ⟨I,U⟩;dsimp only at I U;subst I;refine aY (λx=>x.2=(w,s,e,0)/\(x.1=aj->0<e.2.2.2.2.2.1.length->e.2.1=5\/(e.2.1=3\/e.2.1=4)/\¬(aJ (T:=OZ) w.1 e.2.2.1).2.2.1=0)) ?_ ?_
 .refine bH (λ_=>b8 (λ_=>aP (λh=>?_) λ_=>ar ⟨rfl,λh=>(by cases h)⟩) λh5=>ar ⟨rfl,λ_ _=>.inl h5⟩) λh=>ar ⟨rfl,λ_ h2=>?_⟩
  .refine aR (ce (U h)).1 (ce (U h)).2 (aT (ar ⟨rfl,λh2 _=>.inr ⟨U h,?_⟩⟩));simpa using h2
  .dsimp only[au] at h;omega
 rintro⟨J,M⟩ ⟨I,hDe⟩;dsimp only at I hDe;subst I;refine aP (λ_=>Z z0) λhde=>?_
 refine aY (λx=>x.2=(w,s,e,0)/\(x.1=aj->0<e.2.2.2.2.2.2.length->e.2.1=4\/e.2.1=22)) ?_ ?_
 .refine bH (λ_=>b8 (λ_=>ar ⟨rfl,λh _=>.inr (by simpa using h)⟩) λh4=>ar ⟨rfl,λ_ _=>.inl h4⟩) λh=>ar ⟨rfl,λ_ h2=>?_⟩
  dsimp only[au] at h;omega
 rintro⟨J,M⟩ ⟨I,hFr⟩;dsimp only at I hFr;subst I;refine aP (λ_=>Z z0) λhfr=>?_
 have hk:=hs.k;have hc:=hs.c;have hfu:=hs.f;refine aY (λx=>x.2=(w,s,e,0)/\(x.1=aj->AN (aJ (T:=.int .i64) s.2.2.2 e.1) e.2.2.2.2.2.1/\AN (aJ (T:=.int .i64) s.2.2.2 e.1) e.2.2.2.2.2.2/\VA w s.1 s.2.1 s.2.2.1 e.1 e.2.1 e.2.2.1 e.2.2.2.1)) ?_ ?_
 .have hv:=Yz w s hs hF e hE;refine aR t0 (by rw[f3];exact t1) (aT (ax (HV _ _ hd) λb hb=>?_));refine d_ (λ_=>ar ⟨rfl,λh=>(by cases h)⟩) λb1=>?_
  refine aR t0 (by rw[f3];exact t1) (aT (ax (HV _ _ hf) λb hb2=>?_));refine d_ (λ_=>ar ⟨rfl,λh=>(by cases h)⟩) λb2=>?_
  exact ax hv λb hb3=>ar ⟨rfl,λh=>⟨hb b1,hb2 b2,hb3 (by simpa using h)⟩⟩
 rintro⟨J,M⟩ ⟨I,hNum⟩;dsimp only at I hNum;subst I;refine aP (λ_=>Z z0) λhnu=>?_
 obtain⟨hN1,hN2,hVA⟩:=hNum hnu;have hS:S16 w s e:=⟨hR,hS1,hS2,hDe hde,hFr hfr,hN1,hN2,hVA⟩
 refine bk (by simp;omega) (by omega) (bk (by simp;omega) (by omega) (bk (by simp;omega) (by omega) ?_));refine aY (λx=>x.2=(w,s,e,0,0,s.2.1,s.2.2.1,s.2.2.2)/\qK w s.1 e.1 e.2.1 e.2.2.1 x.1=qK w s.1 e.1 e.2.1 e.2.2.1 e.2.2.2.1) ?_ ?_
 .exact aK (λ_=>ar ⟨rfl,rfl⟩) λh=>ar ⟨rfl,Wj _ _ _ _ _ _ _ h⟩
 rintro⟨J,M⟩ ⟨I,hxu⟩;dsimp only at I hxu;subst I;refine ax (Si w s.1 hs.sb hw e.1 e.2.1 e.2.2.1 J) λy hy=>?_
 obtain⟨_,_,hap,hyq⟩:=hy.1 (hy.2.2 hEn);rw[hxu] at hyq;refine aY (λx=>x.1=e/\x.2.2.1=y.1/\x.2.2.2.1=XI s.2.1 e/\x.2.2.2.2=(s.2.2.1,s.2.2.2)) ?_ ?_
 .unfold XI;refine aK (λh=>?_) λh=>ar ⟨rfl,rfl,(aC h).symm,rfl⟩
  have hc4:=ce (.inr h);with_reducible repeat' first|(refine OS.ok ?_;constructor)|refine IM.mk λ_=>?_
  all_goals try simp only[au,qG] at*
  all_goals first|omega|exact (aF h).symm
 rintro⟨J,M,x3,x4,x5,x6⟩ ⟨h1,h2,Y,h4⟩;simp only[aD] at h1 h2 Y h4;obtain⟨rfl,rfl⟩:=h4;subst h1;subst h2;subst Y;refine aY (λx=>x.1=J/\x.2.2.1=y.1/\x.2.2.2.1=XI s.2.1 J/\x.2.2.2.2.1=Ys s.2.2.1 J/\x.2.2.2.2.2=s.2.2.2) ?_ ?_
 .unfold Ys;refine aK (λh=>?_) λh=>ar ⟨rfl,rfl,rfl,(aC h).symm,rfl⟩
  have hc4:=fu (.inl h);with_reducible repeat' first|(refine OS.ok ?_;constructor)|refine IM.mk λ_=>?_
  all_goals try simp only[au,qG] at*
  all_goals first|omega|exact (aF h).symm
 rintro⟨J,M,x3,x4,x5,x6⟩ ⟨h1,h2,h4,h5,h6⟩;simp only at h1 h2 h4 h5 h6;subst h1;subst h2;subst h4;subst h5;subst h6;have l1:(XI s.2.1 J).length=s.2.1.length:=by unfold XI;split<;>simp[bR]
 have l2:(Ys s.2.2.1 J).length=s.2.2.1.length:=by unfold Ys;split<;>simp[bR]
 with_reducible repeat' first|(refine OS.ok ?_;constructor)|refine IM.mk λ_=>?_
 all_goals try simp only[au,qG] at*
 all_goals first|omega|skip
 exact⟨⟨hE,⟨hap,l1,l2,by rw[bR]⟩,hS,by unfold nxP;rw[<- hyq]⟩,λh=>(by cases h)⟩
theorem R2:Ok (ki ()) λl=>l.length=22:=by
 unfold ki;with_reducible repeat' first|(refine OS.ok ?_;constructor)|refine IM.mk λ_=>?_
 all_goals rfl
theorem OH (s:List UInt8):Ok (jz s) λ_=>True:=by
 unfold jz bx bK aX cK aE cB;refine ax R2 λl hl=>?_
 refine ch l.length (λi x=>x=(i:Int)) ?_ ?_ rfl
 .rintro i x hi rfl;with_reducible repeat' first|(refine OS.ok ?_;constructor)|refine IM.mk λ_=>?_
  all_goals try simp only[au,qG] at*
  all_goals first|omega|exact gW (by omega)
 .rintro x rfl;with_reducible repeat' first|(refine OS.ok ?_;constructor)|refine IM.mk λ_=>?_
  all_goals try simp only[au,qG] at*
  all_goals omega
theorem MC (c:Int):Ok (k9 c) λ_=>True:=by
 unfold k9 jN aE;with_reducible repeat' first|(refine OS.ok ?_;constructor)|refine IM.mk λ_=>?_
 all_goals exact trivial
theorem Zj (c:Int):Ok (o_ c) λ_=>True:=by
 unfold o_ qX jN aE;refine gJ (ax (MC c) λ_ _=>?_);with_reducible repeat' first|(refine OS.ok ?_;constructor)|refine IM.mk λ_=>?_
 all_goals try exact trivial
 refine ax (P:=λ_=>True) ?_ λ_ _=>?_
 .with_reducible repeat' first|(refine OS.ok ?_;constructor)|refine IM.mk λ_=>?_
  all_goals exact trivial
 .with_reducible repeat' first|(refine OS.ok ?_;constructor)|refine IM.mk λ_=>?_
  all_goals exact trivial
theorem io (s:List UInt8):Ok (e_ s) λ_=>True:=by
 unfold e_ bx ve aX cK aE cB;refine aY (λb=>b=aj->s.length<=12) ?_ ?_
 .with_reducible repeat' first|(refine OS.ok ?_;constructor)|refine IM.mk λ_=>?_
  .exact λh=>(by cases h)
  .exact λh=>(by cases h)
  .omega
  .simp only[au] at *;omega
  refine ax (MC _) λ_ _=>?_
  with_reducible repeat' first|(refine OS.ok ?_;constructor)|refine IM.mk λ_=>?_
  .exact λh=>(by cases h)
  refine ax (OH _) λ_ _=>ar λ_=>?_
  simp only[au] at *;omega
 .rintro b hb;refine aP (λ_=>ar trivial) λh=>?_
  have hb:=hb h;refine ch s.length (λi x=>x=(i:Int)) ?_ ?_ rfl
  .rintro i x hi rfl;with_reducible repeat' first|(refine OS.ok ?_;constructor)|refine IM.mk λ_=>?_
   all_goals try simp only[au,qG] at*
   all_goals first|omega|skip
   refine ax (Zj _) λ_ _=>?_
   with_reducible repeat' first|(refine OS.ok ?_;constructor)|refine IM.mk λ_=>?_
   .exact trivial
   .exact gW (by omega)
  .rintro x rfl;with_reducible repeat' first|(refine OS.ok ?_;constructor)|refine IM.mk λ_=>?_
   all_goals try simp only[au,qG] at*
   all_goals first|omega|exact trivial
theorem xW (l:List (List UInt8)) (s:List UInt8) (hl:l.length<=1000000000):Ok (iS (l,s)) λr=> -1<=r/\r<l.length/\(0<=r->aJ (T:=.str) l r=s)/\(r<0->s∉l):=by
 unfold iS bx bK aX cK aE cB;refine ch l.length (λi x=>x=(i:Int)/\∀ k:Nat,k<i->aJ (T:=.str) l (k:Int)≠s) ?_ ?_ ⟨rfl,λk hk=>by omega⟩
 .rintro i x hi ⟨rfl,I⟩;with_reducible repeat' first|(refine OS.ok ?_;constructor)|refine IM.mk λ_=>?_
  all_goals try simp only[au,qG] at*
  all_goals first|omega|skip
  .exact⟨by omega,by omega,λ_=>by assumption,λh=>by omega⟩
  .refine ⟨gW (by omega),λk hk=>?_⟩;rcases b7 k i with h1|h1
   .exact I k h1
   .rw[show k=i by omega];assumption
 .rintro x ⟨rfl,I⟩;with_reducible repeat' first|(refine OS.ok ?_;constructor)|refine IM.mk λ_=>?_
  all_goals try simp only[au,qG] at*
  all_goals first|omega|skip
  exact⟨by omega,by omega,λh=>by omega,λ_ h=>il (T:=.str) (p:=λc=>c≠s) I s h rfl⟩
structure VL (w:WT):Prop where
 c:w.1.length<=12
 l:w.2.1.length<=4
 d:w.2.2.1.length<=2
 f:w.2.2.2.1.length<=2
 t0:1<=w.2.2.2.2.1.length
 t:w.2.2.2.2.1.length<=4
 s:w.2.2.2.2.2.length<=60
theorem Y5 (w:WT) (h:VL w):Ok (o7 w) λy=>y.1.length<=100:=by
 obtain⟨I,U,M,w4,Z,Y⟩:=w;obtain⟨h1,h2,h3,h4,_,h5,h6⟩:=h;dsimp only at*
 unfold o7 aV bg bp cw db mg be bx iI bE bK aX cK aE cB;refine pM (λx=>((I.length:Int)-x.1).toNat) (λx=>x.2.1=(I,U,M,w4,Z,Y)/\0<=x.1/\x.1<=(I.length:Int)/\(x.2.2.length:Int)<=x.1) ?_ ⟨rfl,by simp,by simp,by simp⟩;rintro⟨x1,x2,x3⟩ ⟨e,g1,g2,g3⟩;dsimp only at e g1 g2 g3;subst e;refine bH (λg4=>?_) λg4=>?_
 .dsimp only[au] at g4;refine aY (λx=>x.2.1=(I,U,M,w4,Z,Y)/\x1<x.1/\x.1<=(I.length:Int)/\(x.2.2.length:Int)<=x.1) ?_ ?_
  .refine cD (aT (bk (by simp;omega) (by omega) ?_));refine aK (λ_=>?_) λ_=>?_
   .with_reducible repeat' first|(refine OS.ok ?_;constructor)|refine IM.mk λ_=>?_
    .exact kU _
    .rw[ic (by omega) (by omega)];exact⟨rfl,by dsimp only;omega,by dsimp only;omega,by simp;omega⟩
   .generalize hz:aJ _ x1=z;obtain⟨z1,(z2:Int),(J:Int),z4,z5⟩:=z;dsimp only;refine aY (λx=>x.2=((I,U,M,w4,Z,Y),x3++[z1],z1,z2,J,z4,z5)/\(x.1=aj->1<=J/\J<=4/\x1+J<=I.length)) ?_ ?_
    .with_reducible repeat' first|(refine OS.ok ?_;constructor)|refine IM.mk λ_=>?_
     .exact⟨rfl,λh=>(by cases h)⟩
     .exact⟨rfl,λh=>(by cases h)⟩
     .refine ⟨rfl,λh=>?_⟩;dsimp only[au] at*
      rw[ic (by omega) (by omega),fZ] at h;omega
    .rintro⟨b,y⟩ ⟨e,hb⟩;dsimp only at e hb;subst e;refine aP (λ_=>ar (kU _)) λh=>?_
     obtain⟨q1,q2,q3⟩:=hb h;refine pM (λx=>(J-x.1).toNat) (λx=>x.2=((I,U,M,w4,Z,Y),x3++[z1],z1,z2,J,z4,z5)/\0<=x.1/\x.1<=J) ?_ ⟨rfl,by simp,by dsimp only;omega⟩;rintro⟨k,y⟩ ⟨e,k0,k1⟩;dsimp only at e k0 k1;subst e;refine bH (λk2=>?_) λk2=>?_
     .dsimp only at k2;have e1:bl .i64 (x1+k)=x1+k:=ic (by omega) (by omega);refine aR (by dsimp only;rw[e1];omega) (by dsimp only;rw[e1];omega) (aT ?_);refine aY (λx=>x.2=((I,U,M,w4,Z,Y),x3++[z1],z1,z2,J,z4,z5)) ?_ ?_
      .with_reducible repeat' first|(refine OS.ok ?_;constructor)|refine IM.mk λ_=>?_
       all_goals rfl
      .rintro⟨b,y⟩ e;dsimp only at e;subst e;refine aP (λ_=>ar (kU _)) λ_=>ar ?_
       dsimp only;rw[ic (by omega) (by omega)];exact⟨⟨rfl,by omega,by omega⟩,by omega⟩
     .dsimp only at k2;refine ar ?_;dsimp only;rw[ic (by omega) (by omega)];exact⟨rfl,by omega,by omega,by simp;omega⟩
  .rintro⟨y1,y2,y3⟩ ⟨e,g5,g6,g7⟩;dsimp only at e g5 g6 g7;subst e;refine ar ⟨⟨rfl,by dsimp only;omega,g6,g7⟩,?_⟩;dsimp only;omega
 .dsimp only[au] at g4;refine ax (P:=λy=>y.1.length<=100) ?_ λy hy=>ar hy
  refine ch U.length (λi x=>x.1=(i:Int)/\x.2.1=(I,U,M,w4,Z,Y)/\x.2.2.length<=12+i) ?_ ?_ ⟨rfl,rfl,by dsimp only;omega⟩
  .rintro i ⟨a,b,c⟩ hi ⟨e1,e2,e3⟩;dsimp only at e1 e2 e3;subst e1;subst e2;with_reducible repeat' first|(refine OS.ok ?_;constructor)|refine IM.mk λ_=>?_
   all_goals try simp only[au,qG] at*
   all_goals first|omega|(simp;omega)|skip
   exact⟨gW (by omega),by simp;omega⟩
  .rintro⟨a,b,c⟩ ⟨e1,e2,e3⟩;dsimp only at e1 e2 e3;subst e1;subst e2;refine bH (λg4=>(by dsimp only[au] at g4;omega)) λ_=>?_
   refine ax (P:=λy=>y.1.length<=100) ?_ λy hy=>ar hy
   refine ch M.length (λi x=>x.1=(i:Int)/\x.2.1=(I,U,M,w4,Z,Y)/\x.2.2.length<=16+i) ?_ ?_ ⟨rfl,rfl,by dsimp only;omega⟩
   .rintro i ⟨a,b,c⟩ hi ⟨e1,e2,e3⟩;dsimp only at e1 e2 e3;subst e1;subst e2;with_reducible repeat' first|(refine OS.ok ?_;constructor)|refine IM.mk λ_=>?_
    all_goals try simp only[au,qG] at*
    all_goals first|omega|(simp;omega)|skip
    exact⟨gW (by omega),by simp;omega⟩
   .rintro⟨a,b,c⟩ ⟨e1,e2,e3⟩;dsimp only at e1 e2 e3;subst e1;subst e2;refine bH (λg4=>(by dsimp only[au] at g4;omega)) λ_=>?_
    refine ax (P:=λy=>y.1.length<=100) ?_ λy hy=>ar hy
    with_reducible repeat' first|(refine OS.ok ?_;constructor)|refine IM.mk λ_=>?_
    all_goals try simp only[au,qG] at*
    all_goals first|omega|(simp;omega)
def Sl (T:Int) (o:Option (Int×Int)) (s:Int×Int×Int):Option (Int×Int):=
 match o with
 |none=>ah
 |some (t,n)=>if s.1=t/\s.2.1=n then af (t,n+1) else if t<s.1/\s.1<T/\s.2.1=0 then af (s.1,1) else ah
def Kq (T:Int) (l:List (Int×Int×Int)):Option (Int×Int):=l.foldl (Sl T) (af (0,0))
def SV0 (w:WT):Prop:=Kq w.2.2.2.2.1.length w.2.2.2.2.2≠ah
theorem Hy {T:Int} {l:List (Int×Int×Int)} {i:Nat} (hi:i<l.length):Kq T (l.take (i+1))=Sl T (Kq T (l.take i)) (aJ (T:=xy) l (i:Int)):=by
 rw[nR (T:=xy) hi];unfold Kq;rw[fG];rfl
theorem AG (w:WT):Ok (gY w) λb=>b=ai->VL w/\SV0 w:=by
 unfold gY aV bg bp cw cO eP be bx jN iI bE bK aX cK aE cB;refine aY (λx=>x.2=w/\(x.1=aj->VL w)) ?_ ?_
 .with_reducible repeat' first|(refine OS.ok ?_;constructor)|refine IM.mk λ_=>?_
  all_goals first|exact⟨rfl,λh=>(by cases h)⟩|skip
  dsimp only[au] at*
  refine ⟨rfl,λh=>?_⟩;rw[fZ] at h;constructor<;>omega
 rintro⟨b,x⟩ ⟨e,hb⟩;dsimp only at e hb;subst e;refine aP (λ_=>ar λh=>(by cases h)) λh=>?_
 have hv:=hb h;refine ax (Y5 _ hv) λy hy=>?_
 refine d_ (λ_=>ar λh=>(by cases h)) λ_=>?_
 obtain⟨w1,w2,U,Z,J,I⟩:=x;have h6:=hv.s;have h3:=hv.d;dsimp only at h6 h3;refine ch y.1.length (λi x=>x.1=(i:Int)/\x.2=(w1,w2,U,Z,J,I)) ?_ ?_ ⟨rfl,rfl⟩
 .rintro i ⟨a,b⟩ hi ⟨e1,e2⟩;dsimp only at e1 e2;subst e1;subst e2;refine bH (λY=>?_) λY=>(by dsimp only[au] at Y;omega)
  refine aY (λx=>x.2=(w1,w2,U,Z,J,I)) ?_ ?_
  .refine cD (aT (ax (io _) λ_ _=>?_));refine d_ (λ_=>ar rfl) λ_=>?_
   with_reducible repeat' first|(refine OS.ok ?_;constructor)|refine IM.mk λ_=>?_
   all_goals try simp only[au,qG] at*
   all_goals first|omega|skip
   refine ax (xW _ _ (by simp;omega)) λ_ _=>ar rfl
  .rintro⟨a,b⟩ e;dsimp only at e;subst e;with_reducible repeat' first|(refine OS.ok ?_;constructor)|refine IM.mk λ_=>?_
   .exact λh=>(by cases h)
   .dsimp only;exact⟨gW (by omega),rfl⟩
 rintro⟨a,b⟩ ⟨e1,e2⟩;dsimp only at e1 e2;subst e1;subst e2;refine bH (λY=>(by dsimp only[au] at Y;omega)) λ_=>?_
 refine ax (P:=λb=>b=ai->VL (w1,w2,U,Z,J,I)/\SV0 (w1,w2,U,Z,J,I)) ?_ λy hy=>ar hy
 refine ch U.length (λi x=>x.1=(i:Int)/\x.2=(w1,w2,U,Z,J,I)) ?_ ?_ ⟨rfl,rfl⟩
 .rintro i ⟨a,b⟩ hi ⟨e1,e2⟩;dsimp only at e1 e2;subst e1;subst e2;refine bH (λY=>?_) λY=>(by dsimp only[au] at Y;omega)
  refine cD (aT ?_);refine aY (λx=>x.2=(w1,w2,U,Z,J,I)) ?_ ?_
  .with_reducible repeat' first|(refine OS.ok ?_;constructor)|refine IM.mk λ_=>?_
   all_goals try simp only[au,qG] at*
   all_goals first|omega|rfl
  .rintro⟨a,b⟩ e;dsimp only at e;subst e;with_reducible repeat' first|(refine OS.ok ?_;constructor)|refine IM.mk λ_=>?_
   .exact λh=>(by cases h)
   .dsimp only;exact⟨gW (by omega),rfl⟩
 rintro⟨a,b⟩ ⟨e1,e2⟩;dsimp only at e1 e2;subst e1;subst e2;refine bH (λY=>(by dsimp only[au] at Y;omega)) λ_=>?_
 refine ax (P:=λb=>b=ai->VL (w1,w2,U,Z,J,I)/\SV0 (w1,w2,U,Z,J,I)) ?_ λy hy=>ar hy
 refine ch I.length (λi x=>x.1=(i:Int)/\x.2=(w1,w2,U,Z,J,I)/\Kq J.length (I.take i)=af (if i=0 then (0,0) else ((aJ (T:=xy) I ((i-1:Nat):Int)).1,(aJ (T:=xy) I ((i-1:Nat):Int)).2.1+1))/\(¬i=0->(0:Int)<=(aJ (T:=xy) I ((i-1:Nat):Int)).2.1/\(i:Int)>(aJ (T:=xy) I ((i-1:Nat):Int)).2.1)) ?_ ?_ ⟨rfl,rfl,rfl,λh=>(h rfl).elim⟩
 .rintro i ⟨a,b⟩ hi ⟨e1,e2,e3,hpb⟩;dsimp only at e1 e2;subst e1;subst e2;have hw:¬(i:Int)=0->bl .i64 ((i:Int)-1)=((i-1:Nat):Int):=λh=>by rw[ic (by omega) (by omega)];omega
  have hnx:=Hy (T:=J.length) hi;rw[e3] at hnx;clear e3;refine bH (λY=>?_) λY=>(by dsimp only[au] at Y;omega)
  refine aY (λx=>x=(w1,w2,U,Z,J,I)/\Kq J.length (I.take (i+1))=af (((aJ (T:=xy) I (i:Int)).1,(aJ (T:=xy) I (i:Int)).2.1+1))/\(0:Int)<=(aJ (T:=xy) I (i:Int)).2.1/\((i+1:Nat):Int)>(aJ (T:=xy) I (i:Int)).2.1) ?_ ?_
  .refine cD (aT ?_);rw[hnx];generalize hz:aJ (T:=xy) I (i:Int)=z;obtain⟨(z1:Int),(z2:Int),(z3:Int)⟩:=z;dsimp only;refine aY (λx=>x.2=((w1,w2,U,Z,J,I),z1,z2,z3)/\(x.1=aj->0<=z1/\z1<J.length)) ?_ ?_
   .refine bH (λ_=>ar ⟨rfl,λh=>(by cases h)⟩) λg=>ar ⟨rfl,λh=>⟨g,?_⟩⟩
    rw[lP] at h;exact h
   rintro⟨c,y⟩ ⟨e,hzr⟩;dsimp only at e hzr;subst e;refine aP (λ_=>ar λh=>(by cases h)) λhzb=>?_
   obtain⟨z0,zT⟩:=hzr hzb;refine aY (λx=>x.2=((w1,w2,U,Z,J,I),z1,z2,z3)/\(x.1=ai->i=0\/¬(aJ (T:=xy) I ((i-1:Nat):Int)).1=z1)/\(x.1=aj->¬(i:Int)=0/\(aJ (T:=xy) I ((i-1:Nat):Int)).1=z1)) ?_ ?_
   .refine aK (λh=>ar ⟨rfl,λ_=>.inl (by have h:((i:Nat):Int)=0:=h;omega),λh=>(by cases h)⟩) λh=>?_
    rw[hw h];refine cD (aT (ar ⟨rfl,λh2=>.inr (by simpa using h2),λh2=>⟨h,by simpa using h2⟩⟩))
   rintro⟨c,y⟩ ⟨e,hc1,hc⟩;dsimp only at e hc1 hc;subst e;refine aP (λhct=>?_) λhcf=>?_
   .refine aY (λx=>x.2=(w1,w2,U,Z,J,I)/\(x.1=aj->z2=0/\(¬i=0->((aJ (T:=xy) I ((i-1:Nat):Int)).1:Int)<z1))) ?_ ?_
    .refine b8 (λ_=>ar ⟨rfl,λh=>(by cases h)⟩) λhz2=>?_
     refine bH (λh=>?_) λM=>ar ⟨rfl,λ_=>⟨hz2,λh=>by have M:((i:Nat):Int)<=0:=M;omega⟩⟩
     have h:(0:Int)<((i:Nat):Int):=h;rw[hw (by omega)];refine cD (aT (ar ⟨rfl,λh2=>⟨hz2,λh3=>?_⟩⟩));rw[fZ] at h2;have h4:=(hc1 hct).resolve_left h3;have h2:(aJ (T:=xy) I ((i-1:Nat):Int)).1<=z1:=h2;exact Int.lt_iff_le_and_ne.2 ⟨h2,h4⟩
    rintro⟨c,y⟩ ⟨e,hy⟩;dsimp only at e hy;subst e;refine aP (λ_=>ar λh=>(by cases h)) λh=>ar ⟨rfl,?_⟩
    obtain⟨q1,q2⟩:=hy h;have q1:z2=0:=q1;subst q1;refine ⟨?_,eJ 0,by show _>(0:Int);omega⟩;unfold Sl;by_cases M:i=0
    .subst M;rw[aF rfl];dsimp only;by_cases hz1:z1=0
     .subst hz1;rfl
     .rw[aC (λh=>hz1 h.1),aF ⟨by omega,zT,rfl⟩];rfl
    .have:=q2 M;rw[aC M];dsimp only;rw[aC (λh=>by omega),aF ⟨this,zT,rfl⟩];rfl
   .obtain⟨M,hpr⟩:=hc hcf;rw[hw M];refine cD (aT ?_);refine b8 (λ_=>ar λh=>(by cases h)) λh=>ar ⟨rfl,?_⟩
    obtain⟨b0,b1⟩:=hpb (by omega);have h:z2=bl .i64 ((aJ (T:=xy) I ((i-1:Nat):Int)).2.1+1):=h;rw[ic (by omega) (by omega)] at h;refine ⟨?_,by omega,by omega⟩;rw[aC (by omega)];unfold Sl;dsimp only;rw[aF ⟨hpr.symm,h⟩,hpr,h]
  .rintro x ⟨rfl,hx,hx2⟩;refine ar ?_;dsimp only;refine ⟨gW (by omega),rfl,?_,λ_=>hx2⟩;rw[aC (by omega)];exact hx
 .rintro⟨a,b⟩ ⟨e1,e2,e3,_⟩;dsimp only at e1 e2;subst e1;subst e2;refine bH (λY=>(by dsimp only[au] at Y;omega)) λ_=>?_
  rw[cP] at e3;exact ar λ_=>⟨hv,by unfold SV0;dsimp only;rw[e3];simp⟩
def sP (e:ET):Bool:=decide (e.2.1=3)||decide (e.2.1=23)
def fl (l:List ET) (t:Int):List Bool:=(l.filter λe=>decide (e.1=t)).map sP
def Kg (l:List ET) (t y:Int):Prop:=0<=y/\(fl l t).getD y.toNat aj=ai
theorem ud (l m:List ET) (t:Int):fl (l++m) t=fl l t++fl m t:=by unfold fl;rw[List.filter_append,cN]
theorem yO {e:ET} {t:Int} (h:e.1=t):fl [e] t=[sP e]:=by unfold fl;simp[h]
theorem v7 {e:ET} {t:Int} (h:¬e.1=t):fl [e] t=[]:=by unfold fl;simp[h]
theorem Kg.app {l:List ET} {t y:Int} (h:Kg l t y) (m:List ET):Kg (l++m) t y:=by
 obtain⟨h0,h1⟩:=h;refine ⟨h0,?_⟩;rw[ud];rw[ay] at h1 ⊢;rcases b7 y.toNat (fl l t).length with g|g
 .rw[bG g];exact h1
 .rw[bO g] at h1;cases h1
theorem Kg.lt {l:List ET} {t y:Int} (h:Kg l t y):y<(fl l t).length:=by
 obtain⟨h0,h1⟩:=h;rcases b7 y.toNat (fl l t).length with g|g
 .omega
 .rw[ay,bO g] at h1;cases h1
theorem Kg.last {l:List ET} {e:ET} {y:Int} (h:sP e=ai) (I:y=(fl l e.1).length):Kg (l++[e]) e.1 y:=by
 subst I;refine ⟨by omega,?_⟩;rw[ud,yO rfl,ay,bT (by simp),h];simp
theorem VP (l:List ET) (t:Int):(fl l t).length<=l.length:=by unfold fl;rw[bY];exact List.length_filter_le ..
structure SCx (w:WT) (l:List ET) (sy:SY) (ce fu:List Int) (e:ET):Prop where
 en:EN w sy e.1 e.2.1 e.2.2.1
 rd:UW w sy e.1 e.2.1 e.2.2.1
 s1:e.2.1=1\/e.2.1=2->e.2.2.2.2.1= -1
 s2:¬(e.2.1=1\/e.2.1=2)->0<=e.2.2.2.2.1/\e.2.2.2.2.1<w.2.2.2.2.2.length/\(aJ (T:=xy) w.2.2.2.2.2 e.2.2.2.2.1).1=e.1
 de:0<e.2.2.2.2.2.1.length->e.2.1=5\/(e.2.1=3\/e.2.1=4)/\¬(aJ (T:=OZ) w.1 e.2.2.1).2.2.1=0
 fr:0<e.2.2.2.2.2.2.length->e.2.1=4\/e.2.1=22
 nd:AN (fl l e.1).length e.2.2.2.2.2.1
 nf:AN (fl l e.1).length e.2.2.2.2.2.2
 rd1:∀ y∈e.2.2.2.2.2.1,Kg l e.1 y
 rd2:∀ y∈e.2.2.2.2.2.2,Kg l e.1 y
 va:VA w sy ce fu e.1 e.2.1 e.2.2.1 e.2.2.2.1
def Wy:Nat->List (Int×Int×Bool)
 |0=>[]
 |n+1=>(1,0,aj)::aG n (0,0,aj)
def OM (w:WT):SY:=(aG w.2.1.length (-1,[]),-1,aG w.2.2.2.1.length aj,Wy w.2.2.2.2.1.length)
def ZZ (w:WT):List Int:=w.1.map λc=>c.2.2.2.2
def fu0 (w:WT):List Int:=aG w.2.2.2.1.length 0
inductive Acw (w:WT):List ET->SY->List Int->List Int->Prop
 |nil:Acw w [] (OM w) (ZZ w) (fu0 w)
 |snoc {l:List ET} {sy:SY} {ce fu:List Int} {e:ET} (h:Acw w l sy ce fu) (hs:SCx w l sy ce fu e):Acw w (l++[e]) (qK w sy e.1 e.2.1 e.2.2.1 e.2.2.2.1).1 (XI ce e) (Ys fu e)
theorem YE (i:Nat):Wy (i+2)=Wy (i+1)++[(0,0,aj)]:=by
 show (1,0,aj)::aG (i+1) (0,0,aj)=(1,0,aj)::aG i (0,0,aj)++[(0,0,aj)]
 rw[Ds,gh]
theorem G2:∀ n,(Wy n).length=n
 |0=>rfl
 |n+1=>by simp[Wy]
theorem J7 (w:WT) (h:VL w):qS w=af (OM w):=by
 obtain⟨w1,I,Z,J,U,Y⟩:=w;obtain⟨h1,h2,h3,h4,_,h5,h6⟩:=h;dsimp only at*
 refine cJ ?_;unfold qS aV bg bp cw db cO eP be bx bE aX cK aE cB;refine ch I.length (λi x=>x.1=(i:Int)/\x.2.1=(w1,I,Z,J,U,Y)/\x.2.2.2=(-1,aG i (-1,[]))) ?_ ?_ ⟨rfl,rfl,rfl⟩
 .rintro i ⟨a,b,c,d,e⟩ hi ⟨e1,e2,e3⟩;simp only[aD] at e1 e2 e3;obtain⟨rfl,rfl⟩:=e3;subst e1;subst e2;with_reducible repeat' first|(refine OS.ok ?_;constructor)|refine IM.mk λ_=>?_
  all_goals try simp only[au,qG] at*
  all_goals first|omega|(simp;omega)|skip
  exact⟨gW (by omega),by rw[Ds]⟩
 rintro⟨a,b,c,d,e⟩ ⟨e1,e2,e3⟩;simp only[aD] at e1 e2 e3;obtain⟨rfl,rfl⟩:=e3;subst e1;subst e2;refine bH (λM=>(by dsimp only[au] at M;omega)) λ_=>?_
 refine ax (P:=λs=>s=OM (w1,I,Z,J,U,Y)) ?_ λy hy=>ar hy
 refine ch J.length (λi x=>x.1=(i:Int)/\x.2.1=(w1,I,Z,J,U,Y)/\x.2.2.2=(-1,aG I.length (-1,[]),aG i aj)) ?_ ?_ ⟨rfl,rfl,rfl⟩
 .rintro i ⟨a,b,c,d,e',f⟩ hi ⟨e1,e2,e3⟩;simp only[aD] at e1 e2 e3;obtain⟨rfl,rfl,rfl⟩:=e3;subst e1;subst e2;with_reducible repeat' first|(refine OS.ok ?_;constructor)|refine IM.mk λ_=>?_
  all_goals try simp only[au,qG] at*
  all_goals first|omega|(simp;omega)|skip
  exact⟨gW (by omega),by rw[Ds]⟩
 rintro⟨a,b,c,d,e',f⟩ ⟨e1,e2,e3⟩;simp only[aD] at e1 e2 e3;obtain⟨rfl,rfl,rfl⟩:=e3;subst e1;subst e2;refine bH (λM=>(by dsimp only[au] at M;omega)) λ_=>?_
 refine ax (P:=λs=>s=OM (w1,I,Z,J,U,Y)) ?_ λy hy=>ar hy
 refine ch U.length (λi x=>x.1=(i:Int)/\x.2.1=(w1,I,Z,J,U,Y)/\x.2.2.2=(-1,aG I.length (-1,[]),aG J.length aj,Wy i)) ?_ ?_ ⟨rfl,rfl,rfl⟩
 .rintro i ⟨a,b,c,d,e'',f',g⟩ hi ⟨e1,e2,e3⟩;simp only[aD] at e1 e2 e3;obtain⟨rfl,rfl,rfl,rfl⟩:=e3;subst e1;subst e2;have hl:=G2 i;refine bH (λ_=>?_) λM=>(by dsimp only[au] at M;omega)
  refine gJ (aK (λh0=>ar ?_) λh0=>ar ?_)
  .have h0:((i:Nat):Int)=0:=h0;have h0:i=0:=by omega
   subst h0;exact bk (by simp[Wy]) (by omega) (ar ⟨rfl,rfl,rfl⟩)
  .have h0:¬((i:Nat):Int)=0:=h0;obtain⟨j,rfl⟩:∃ j,i=j+1:=⟨i-1,by omega⟩
   refine bk (by dsimp only;rw[hl];simp;omega) (by omega) (ar ⟨gW (by omega),rfl,?_⟩);dsimp only;rw[YE]
 rintro⟨a,b,c,d,e'',f',g⟩ ⟨e1,e2,e3⟩;simp only[aD] at e1 e2 e3;obtain⟨rfl,rfl,rfl,rfl⟩:=e3;subst e1;subst e2;refine bH (λM=>(by dsimp only[au] at M;omega)) λ_=>ar rfl
theorem SE {w:WT} (h:VL w):SB 0 (OM w):=by
 obtain⟨h1,h2,U,M,_,J,I⟩:=h;refine ⟨by omega,by simp[OM];omega,λl hl=>?_,by simp[OM];omega,by simp[OM,G2];omega⟩;rw[pi hl];simp
theorem J6 (w:WT) (h:VL w):mC w=af (OM w,ZZ w,fu0 w,aG w.2.2.2.2.1.length 0):=by
 have hs:=J7 w h;have hd:(OM w)=OM w:=rfl;obtain⟨I,Z,Y,M,J,U⟩:=w;obtain⟨h1,h2,h3,h4,_,h5,h6⟩:=h;dsimp only at*
 refine cJ ?_;unfold mC aV bg bp bL cO bx bE bK aX cK aE cB;refine aU hs ?_;with_reducible repeat' first|(refine OS.ok ?_;constructor)|refine IM.mk λ_=>?_
 all_goals try simp only[au,qG] at*
 all_goals first|omega|skip
 refine ch I.length (λi x=>x.1=(i:Int)/\x.2.1=(I,Z,Y,M,J,U)/\x.2.2.2=(OM (I,Z,Y,M,J,U),(I.take i).map (λc=>c.2.2.2.2),aG M.length 0,aG J.length 0)) ?_ ?_ ⟨rfl,rfl,rfl⟩
 .rintro i ⟨a,b,c,d,e,f,g⟩ hi ⟨e1,e2,e3⟩;simp only[aD] at e1 e2 e3;obtain⟨rfl,rfl,rfl,rfl⟩:=e3;subst e1;subst e2;with_reducible repeat' first|(refine OS.ok ?_;constructor)|refine IM.mk λ_=>?_
  all_goals try simp only[au,qG] at*
  all_goals first|omega|(simp;omega)|skip
  exact⟨gW (by omega),by rw[nR (T:=OZ) hi,cN];rfl⟩
 rintro⟨a,b,c,d,e,f,g⟩ ⟨e1,e2,e3⟩;simp only[aD] at e1 e2 e3;obtain⟨rfl,rfl,rfl,rfl⟩:=e3;subst e1;subst e2;refine bH (λg4=>(by dsimp only[au] at g4;omega)) λ_=>ar ?_
 rw[cP];rfl
theorem UT (w:WT) (h:VL w):Ok (mC w) λs=>NB 0 s/\s.2.1.length=w.1.length/\s.2.2.1.length=w.2.2.2.1.length/\s.2.2.2.length=w.2.2.2.2.1.length:=
 aj6 (J6 w h) ⟨⟨SE h,by have:=h.c;simp[ZZ];omega,by have:=h.f;simp[fu0];omega,by have:=h.t;simp;omega⟩,by simp[ZZ],by simp[fu0],by simp⟩
theorem Pj (l:List ET) (i t:Int) (I:List Int) (hl:l.length<=1000000000) (hi:0<=i/\i<=l.length) (hn:I.length<=1000000000):Ok (qQ (l,i,t,I)) λb=>b=ai->∀ y∈I,Kg (l.take i.toNat) t y:=by
 unfold qQ aV bL be bx iI bK aX cK aE cB;refine ch I.length (λk x=>x=(k:Int)/\∀ j:Nat,j<k->Kg (l.take i.toNat) t (aJ (T:=.int .i64) I (j:Int))) ?_ ?_ ⟨rfl,λj hj=>(by omega)⟩
 .rintro k x hk ⟨rfl,Y⟩;refine bH (λM=>?_) λM=>(by dsimp only[au] at M;omega)
  refine pM (λx=>(i-x.2.2).toNat) (λx=>0<=x.2.2/\x.2.2<=i/\x.1=((fl (l.take x.2.2.toNat) t).length:Int)/\(x.2.1=ai->Kg (l.take x.2.2.toNat) t (aJ (T:=.int .i64) I (k:Int)))) ?_ ⟨by simp,hi.1,by simp[fl],λh=>(by cases h)⟩;rintro⟨a,b,(c:Int)⟩ ⟨U,c1,Z,hb⟩;dsimp only at U c1 Z hb;subst Z;obtain⟨c,rfl⟩:∃ n:Nat,c=(n:Int):=⟨c.toNat,by omega⟩
  rw[gz] at hb;dsimp only;rw[gz];have hfl:=VP (l.take c) t;have htl:=pJ c l;refine bH (λJ=>?_) λJ=>?_
  .have J:(c:Int)<i:=J;have htk:l.take (c+1)=l.take c++[aJ (T:=tE) l (c:Int)]:=nR (T:=tE) (by omega);refine aY (λy=>y.1=((fl (l.take (c+1)) t).length:Int)/\(y.2=ai->Kg (l.take (c+1)) t (aJ (T:=.int .i64) I (k:Int)))) ?_ ?_
   .rw[htk,ud];refine aR U (by first|omega|(dsimp only;omega)) (aT ?_);refine b8 (λhne=>ar ⟨by rw[v7 hne];simp,λh=>(hb h).app _⟩) λhe=>?_
    have he:(aJ (T:=tE) l (c:Int)).1=t:=he;refine aY (λy=>y=ai->Kg (l.take c++[aJ (T:=tE) l (c:Int)]) t (aJ (T:=.int .i64) I (k:Int))) ?_ λy hy=>ar ⟨?_,hy⟩
    .refine aP (λh=>ar λ_=>(hb h).app _) λ_=>?_
     refine aR (by omega) (by first|omega|(dsimp only;omega)) (aT ?_);refine aK (λhn=>?_) λ_=>ar λh=>(by cases h)
     have hq:sP (aJ (T:=tE) l (c:Int))=ai->Kg (l.take c++[aJ (T:=tE) l (c:Int)]) t (aJ (T:=.int .i64) I (k:Int)):=λh=>by
      rw[<- he] at hn ⊢;exact Kg.last h hn.symm
     refine aR U (by first|omega|(dsimp only;omega)) (aT ?_);refine aK (λh=>ar λ_=>hq (by unfold sP;rw[aQ h];rfl)) λ_=>?_
     exact aR U (by first|omega|(dsimp only;omega)) (aT (ar λh=>hq (by unfold sP;rw[h];simp)))
    .dsimp only;rw[yO he,gW (by omega)];simp
   .rintro⟨p,q⟩ ⟨hp,hq⟩;refine ar ?_;dsimp only at hp hq ⊢;rw[gW (by omega),gz];exact⟨⟨by omega,by omega,hp,hq⟩,by omega⟩
  .refine ax (P:=λr=>match r with|.inl y=>y=((k+1:Nat):Int)/\∀ j:Nat,j<k+1->Kg (l.take i.toNat) t (aJ (T:=.int .i64) I (j:Int))|.inr r=>r=ai->∀ y∈I,Kg (l.take i.toNat) t y) ?_ λr hr=>ar ?_
   .refine d_ (λ_=>ar λh=>(by cases h)) λh=>ar ⟨gW (by omega),λj hj=>?_⟩
    rcases b7 j k with h1|h1
    .exact Y j h1
    .have:=hb h;have hci:c=i.toNat:=by have J:i<=(c:Int):=J;omega
     rw[show j=k by omega,<-hci];exact this
   .cases r with
    |inl y=>exact hr
    |inr r=>exact hr
 .rintro x ⟨rfl,Y⟩;refine bH (λM=>(by dsimp only[au] at M;omega)) λ_=>ar λ_=>il (T:=.int .i64) Y
def CN (l:List ET) (c:List Int):Prop:=∀ t:Int,0<=t->t<c.length->aJ (T:=.int .i64) c t=((fl l t).length:Int)
theorem rk {T:Ty} (xs:List T.den) (j k:Int) (x:T.den) (hj:0<=j) (I:j<xs.length) (hk:0<=k):aJ (cq xs j x) k=if k=j then x else aJ xs k:=by
 unfold aJ cq;rw[ay,ay,oH];by_cases h:k=j
 .subst h;rw[aF rfl,aF rfl,aF (by omega)];rfl
 .rw[aC (by omega),aC h]
theorem CN.next {l:List ET} {c:List Int} (h:CN l c) (e:ET) (h0:0<=e.1) (h1:e.1<c.length) (hl:l.length<1000000):CN (l++[e]) (cq c e.1 (bl .i64 (aJ (T:=.int .i64) c e.1+1))):=λt t0 t1=>by
 rw[bR] at t1;have:=VP l e.1;rw[rk (T:=.int .i64) _ _ _ _ h0 h1 t0,ud];split
 .rename_i h2;subst h2;rw[yO rfl,h _ h0 h1,gW (by omega)];simp
 .rename_i h2;rw[v7 λI=>h2 I.symm,h _ t0 t1];simp
structure EvF (w:WT) (e:ET):Prop where
 nm:NM w e.2.1 e.2.2.1
 t0:0<=e.1
 t1:e.1<w.2.2.2.2.1.length
 cd:∀ c∈w.2.2.1,0<=c.2/\c.2<w.2.1.length
theorem aat (w:WT) (l:List ET) (hd:∀ e∈l,e.2.2.2.2.2.1.length<=1000000000/\e.2.2.2.2.2.2.length<=1000000000):Ok (tK (w,l)) λy=>y.2=0->(VL w/\SV0 w)/\(∀ e∈l,EvF w e)/\∃ sy ce fu,Acw w l sy ce fu:=by
 unfold tK cw bL eP bx bK aX cK aE cB;refine bH (λ_=>ar λh=>(by cases h)) λhl=>?_
 dsimp only[au] at hl;refine ax (AG w) λb hb=>?_
 refine d_ (λ_=>ar λh=>(by cases h)) λh=>?_
 obtain⟨hv,hsv⟩:=hb h;refine aU (J6 w hv) ?_;have hs:NB 0 (OM w,ZZ w,fu0 w,aG w.2.2.2.2.1.length 0):=⟨SE hv,by have:=hv.c;simp[ZZ];omega,by have:=hv.f;simp[fu0];omega,by have:=hv.t;simp;omega⟩
 have hw:w.2.2.1.length<=1000:=by have:=hv.d;omega
 refine ch l.length (λi x=>x.1=(i:Int)/\x.2.1=(w,l)/\NB i x.2.2/\(∀ k:Nat,k<i->EvF w (aJ (T:=tE) l (k:Int)))/\Acw w (l.take i) x.2.2.1 x.2.2.2.1 x.2.2.2.2.1/\CN (l.take i) x.2.2.2.2.2/\x.2.2.2.2.2.length=w.2.2.2.2.1.length) ?_ ?_ ⟨rfl,rfl,hs,λk hk=>(by omega),.nil,λt t0 t1=>?_,by simp⟩
 .rintro i ⟨a,b,s⟩ hi ⟨e1,e2,e3,Y,U,e6,Z⟩;dsimp only at e1 e2 e3 Y U e6 Z;subst e1;subst e2;refine bH (λI=>?_) λI=>(by dsimp only[au] at I;omega)
  refine cD (aT ?_);have hmem:=bJ (T:=tE) (xs:=l) (j:=(i:Int)) (by omega) (by omega);obtain⟨d1,d2⟩:=hd _ hmem;refine ax (EI w s e3 hw _ d1 d2) λy hy=>?_
  refine aY (λx=>x.2.1=(w,l)/\x.2.2.2=y.1/\(x.1=aj->y.2=ai/\(∀ z∈(aJ (T:=tE) l (i:Int)).2.2.2.2.2.1,Kg (l.take i) (aJ (T:=tE) l (i:Int)).1 z)/\∀ z∈(aJ (T:=tE) l (i:Int)).2.2.2.2.2.2,Kg (l.take i) (aJ (T:=tE) l (i:Int)).1 z)) ?_ ?_
  .refine d_ (λ_=>ar ⟨rfl,rfl,λh=>(by cases h)⟩) λh=>?_
   refine ax (Pj l _ _ _ (by omega) ⟨by dsimp only;omega,by dsimp only;omega⟩ d1) λb1 hr1=>?_
   refine d_ (λ_=>ar ⟨rfl,rfl,λh=>(by cases h)⟩) λhb1=>?_
   refine ax (Pj l _ _ _ (by omega) ⟨by dsimp only;omega,by dsimp only;omega⟩ d2) λb2 hr2=>ar ⟨rfl,rfl,λhb2=>⟨h,hr1 hb1,hr2 (by simpa using hb2)⟩⟩
  .rintro⟨c,p,q,r⟩ ⟨f1,f2,f3⟩;dsimp only at f1 f2 f3;subst f1;subst f2;refine aP (λ_=>ar λh=>(by cases h)) λh=>?_
   obtain⟨f4,r1,r2⟩:=f3 h;obtain⟨J,g2,M,I⟩:=hy.1 f4;refine ar ?_;dsimp only;have htk:l.take (i+1)=l.take i++[aJ (T:=tE) l (i:Int)]:=nR (T:=tE) hi;have hc:=e6 _ J.t0 (by rw[Z];exact J.t1);have hnx:=gE Prod.fst I;have hac:=U.snoc (e:=aJ (T:=tE) l (i:Int)) ⟨J,M.rd,M.s1,M.s2,M.de,M.fr,by rw[<- hc];exact M.nd,by rw[<- hc];exact M.nf,r1,r2,M.va⟩;refine ⟨gW (by omega),rfl,g2.NB e3 (by omega),λk hk=>?_,by rw[htk,I];exact hac,by rw[htk,I];exact e6.next _ J.t0 (by rw[Z];exact J.t1) (by rw[bD];omega),by rw[I];unfold nxP;rw[bR];exact Z⟩;rcases b7 k i with h1|h1
   .exact Y k h1
   .rw[show k=i by omega];exact⟨J.nm,J.t0,J.t1,J.cd⟩
 .rintro⟨a,b,s⟩ ⟨e1,e2,e3,Y,U,_⟩;dsimp only at e1 e2 e3 Y U;subst e1;subst e2;rw[cP] at U;refine bH (λI=>(by dsimp only[au] at I;omega)) λ_=>ar λ_=>⟨⟨hv,hsv⟩,il (T:=tE) Y,_,_,_,U⟩
 .rw[eC] at t1;obtain⟨t,rfl⟩:∃ n:Nat,t=(n:Int):=⟨t.toNat,by omega⟩
  rw[NG,ay,k_];split<;>simp[fl]
structure TP (t:List Int×Int):Prop where
 l0:t.1.length<=9223372036854775807
 by_:∀ x∈t.1,0<=x/\x<=255
 a0:0<=t.2
 a1:t.2<=t.1.length
structure uv (t t':List Int×Int):Prop where
 e:t'.1=t.1
 m:t.2<=t'.2
 p:TP t'
theorem uv.refl {t:List Int×Int} (h:TP t):uv t t:=⟨rfl,eJ _,h⟩
theorem uv.trans {a b c:List Int×Int} (h:uv a b) (g:uv b c):uv a c:=⟨g.e.trans h.e,Int.le_trans h.m g.m,g.p⟩
theorem gf (n:Int) (t:List Int×Int) (h:TP t):Ok (bw (n,t)) λy=>uv t y.2/\0<=y.1/\(1<=n->y.1<n)/\(t.2<t.1.length->1<=n->t.2<y.2.2):=by
 obtain⟨L,a⟩:=t;have U:=h;obtain⟨l0,hb,a0,a1⟩:=h;dsimp only at l0 hb a0 a1;unfold bw jN bE bK aX aE cB;refine aY (λx=>x.2=(L,a)/\(x.1=ai->a=L.length\/n<1)/\(x.1=aj->a<L.length/\1<=n)) ?_ ?_
 .refine fw (λh=>ar ⟨rfl,λ_=>?_,λh=>(by cases h)⟩) λh=>ar ⟨rfl,λh2=>?_,λh2=>?_⟩
  .dsimp only[au] at h;omega
  .rw[sW] at h2;exact .inr h2
  .rw[fZ] at h2;dsimp only[au] at h h2;omega
 rintro⟨b,x⟩ ⟨e,h1,h2⟩;dsimp only at e h1 h2;subst e;refine aP (λh=>ar ⟨uv.refl U,eJ _,λM=>(by dsimp only;omega),λM Z=>?_⟩) λh=>?_
 .have:=h1 h;dsimp only at M;omega
 obtain⟨J,Y⟩:=h2 h;refine aT ?_;have e1:bl .i64 (a+1)=a+1:=ic (by omega) (by omega);dsimp only;rw[e1,ic (n:=a+1-1) (by omega) (by omega),show a+1-1=a by omega];have I:=hb _ (bJ (T:=.int .u8) (xs:=L) (j:=a) a0 J);refine aR a0 J (aT ?_);generalize (aJ _ a)=z at I;have I:0<=z/\z<=255:=I;rw[ic (n:=z) (by omega) (by omega)];refine yp (by omega) (ar ?_);dsimp only;refine ⟨⟨rfl,by dsimp only;omega,⟨l0,hb,by dsimp only;omega,by dsimp only;omega⟩⟩,Int.tmod_nonneg _ I.1,λ_=>?_,λ_ _=>by omega⟩;exact Int.tmod_lt_of_pos _ (by omega)
theorem Sq (s:SY) (hs:s.2.2.2.length<=1000) (y:List Int×List Int×List Int):Ok (kN (s,y)) λl=>l.length<=s.2.2.2.length:=by
 unfold kN bL be bx bE bK aX cK aE cB;refine ch s.2.2.2.length (λi x=>x.1=(i:Int)/\x.2.length<=i) ?_ ?_ ⟨rfl,by simp⟩
 .rintro i ⟨a,b⟩ hi ⟨e1,e2⟩;dsimp only at e1 e2;subst e1;with_reducible repeat' first|(refine OS.ok ?_;constructor)|refine IM.mk λ_=>?_
  all_goals try simp only[au,qG] at*
  all_goals first|omega|(simp;omega)|skip
  .exact⟨gW (by omega),by simp;omega⟩
  .exact⟨gW (by omega),by omega⟩
 .rintro⟨a,b⟩ ⟨e1,e2⟩;dsimp only at e1 e2;subst e1;refine bH (λI=>(by dsimp only[au] at I;omega)) λ_=>ar e2
theorem WO (k u:Int) (t:List Int×Int) (h:TP t):Ok (ov ((k,u),t)) λy=>uv t y.2/\(k=3\/k=4->0<=y.1/\y.1<5):=by
 unfold ov be kA aE cB;rcases @Ib k with rfl|rfl|rfl|rfl|rfl|rfl|rfl|rfl|rfl|rfl|rfl|rfl|rfl|rfl|rfl|rfl|rfl|rfl|rfl|rfl|rfl|rfl|rfl|⟨hk,J⟩
 case inr.inr.inr.inr.inr.inr.inr.inr.inr.inr.inr.inr.inr.inr.inr.inr.inr.inr.inr.inr.inr.inr.inr=>
  simp only[hk 1 (by decide) (by decide),hk 2 (by decide) (by decide),hk 3 (by decide) (by decide),hk 4 (by decide) (by decide),hk 5 (by decide) (by decide),hk 6 (by decide) (by decide),hk 7 (by decide) (by decide),hk 8 (by decide) (by decide),hk 9 (by decide) (by decide),hk 10 (by decide) (by decide),hk 11 (by decide) (by decide),hk 12 (by decide) (by decide),hk 13 (by decide) (by decide),hk 14 (by decide) (by decide),hk 15 (by decide) (by decide),hk 16 (by decide) (by decide),hk 17 (by decide) (by decide),hk 18 (by decide) (by decide),hk 19 (by decide) (by decide),hk 20 (by decide) (by decide),hk 21 (by decide) (by decide),hk 22 (by decide) (by decide),hk 23 (by decide) (by decide),aZ,bm,sG];exact ar ⟨uv.refl h,λh=>(by first|omega|(simp at h;done)|(rcases h with h|h<;>cases h;done))⟩
 all_goals simp only[aZ,bm,sG]
 all_goals first
  |exact ar ⟨uv.refl h,λh=>(by first|omega|(simp at h;done)|(rcases h with h|h<;>cases h;done))⟩
  |exact ax (gf 2 t h) λy I=>ar ⟨I.1,λh=>(by first|omega|(simp at h;done)|(rcases h with h|h<;>cases h;done))⟩
  |exact ax (gf 3 t h) λy I=>ar ⟨I.1,λh=>(by first|omega|(simp at h;done)|(rcases h with h|h<;>cases h;done))⟩
  |skip
 all_goals
  refine ax (gf 8 t h) λy I=>?_
  have h1:=I.2.1;have h2:=I.2.2.1 (by omega);refine aR h1 (by simp;omega) (aR h1 (by simp;omega) (aT (ar ⟨I.1,λ_=>?_⟩)));have:∀ z:Int,z∈([0,0,0,1,1,2,3,4]:List Int)->0<=z/\z<5:=by decide
  exact this _ (bJ (T:=.int .i64) h1 (by simp;omega))
structure SZ (n:Nat) (s:SN):Prop where
 nb:NB n s
 c:s.2.1.length=5
 f:s.2.2.1.length=1
 k:s.2.2.2.length=4
theorem SZ.step {n:Nat} {s y:SN} (h:SZ n s) (hp:SP n s y) (hn:n+1<=100000):SZ (n+1) y:=
 ⟨hp.NB h.nb hn,by rw[hp.c];exact h.c,by rw[hp.f];exact h.f,by rw[hp.k];exact h.k⟩
theorem Wz {n:Nat} (s:SN) (hs:SZ n s) (k o:Int) (M:k=3->0<=o/\o<5) (t:List Int×Int) (h:TP t):Ok (pR ((s,k,o),t)) λy=>uv t y.2:=by
 obtain⟨s1,s2,Y,U⟩:=s;have hc:=hs.c;have hf:=hs.f;have hth:=hs.nb.sb.th;dsimp only at hc hf hth;have J:=Sq s1 hth (s2,Y,U);unfold pR aV be bx bK aX aE;rcases @Ib k with rfl|rfl|rfl|rfl|rfl|rfl|rfl|rfl|rfl|rfl|rfl|rfl|rfl|rfl|rfl|rfl|rfl|rfl|rfl|rfl|rfl|rfl|rfl|⟨hk,Z⟩
 case inr.inr.inr.inr.inr.inr.inr.inr.inr.inr.inr.inr.inr.inr.inr.inr.inr.inr.inr.inr.inr.inr.inr=>
  simp only[hk 1 (by decide) (by decide),hk 2 (by decide) (by decide),hk 3 (by decide) (by decide),hk 4 (by decide) (by decide),hk 5 (by decide) (by decide),hk 6 (by decide) (by decide),hk 7 (by decide) (by decide),hk 8 (by decide) (by decide),hk 9 (by decide) (by decide),hk 10 (by decide) (by decide),hk 11 (by decide) (by decide),hk 12 (by decide) (by decide),hk 13 (by decide) (by decide),hk 14 (by decide) (by decide),hk 15 (by decide) (by decide),hk 16 (by decide) (by decide),hk 17 (by decide) (by decide),hk 18 (by decide) (by decide),hk 19 (by decide) (by decide),hk 20 (by decide) (by decide),hk 21 (by decide) (by decide),hk 22 (by decide) (by decide),hk 23 (by decide) (by decide),aZ,bm,sG];exact ar (uv.refl h)
 all_goals simp only[aZ,bm,sG]
 all_goals first
  |exact ar (uv.refl h)
  |exact ax (gf 2 t h) λy I=>ar I.1
  |exact ax (gf 3 t h) λy I=>ar I.1
  |exact ax J λy I=>ar (uv.refl h)
  |exact aR (by decide) (by omega) (aT (ar (uv.refl h)))
  |exact aR (M rfl).1 (by have:=(M rfl).2;omega) (aT (ar (uv.refl h)))
  |skip
 refine ax J λl hl=>?_
 refine bH (λh1=>?_) λ_=>ar (uv.refl h)
 refine ax (gf _ t h) λy I=>?_
 dsimp only[au] at h1;have h2:=I.2.2.1 (by dsimp only[au];omega);exact aR I.2.1 h2 (aT (ar I.1))
theorem abj (t:List Int×Int) (h:TP t) (r:List Int) (hr:r.length<=1000000):Ok (gq (t,r)) λy=>y.1.length<=r.length/\uv t y.2.1/\y.2.2=r:=by
 unfold gq aV bL bx jN bE kA aX cK aE cB;refine ch r.length (λi x=>x.1=(i:Int)/\uv t x.2.1/\x.2.2.1=r/\x.2.2.2.length<=i) ?_ ?_ ⟨rfl,uv.refl h,rfl,by simp⟩
 .rintro i ⟨a,b,c,d⟩ hi ⟨e1,e2,e3,U⟩;dsimp only at e1 e2 e3 U;subst e1;subst e3;refine bH (λM=>?_) λM=>(by dsimp only[au] at M;omega)
  refine aY (λx=>uv t x.1/\x.2.1=c/\x.2.2.length<=i+1) ?_ ?_
  .refine cD (cD (aT ?_));refine aY (λx=>uv t x.2.1/\x.2.2=(c,d)) ?_ ?_
   .refine aP (λ_=>?_) λ_=>ar ⟨e2,rfl⟩
    exact ax (gf 2 b e2.p) λy Z=>ar ⟨e2.trans Z.1,rfl⟩
   .rintro⟨p,q,u⟩ ⟨I,J⟩;dsimp only at I J;subst J;refine aP (λ_=>?_) λ_=>ar ⟨I,rfl,by dsimp only;omega⟩
    exact bk (by simp;omega) (by omega) (ar ⟨I,rfl,by simp;omega⟩)
  .rintro⟨p,q,u⟩ ⟨I,J,Y⟩;dsimp only at I J Y;subst J;refine ar ?_;dsimp only;exact⟨gW (by omega),I,rfl,Y⟩
 .rintro⟨a,b,c,d⟩ ⟨e1,e2,e3,U⟩;dsimp only at e1 e2 e3 U;subst e1;subst e3;refine bH (λM=>(by dsimp only[au] at M;omega)) λ_=>ar ⟨U,e2,rfl⟩
theorem Ze:sR ()=af [3,3,3,3,3,4,4,4,4,4,5,5,5,6,6,6,7,7,7,8,9,10,11,12,13,14,14,15,16,16,17,17,18,18,19,20,1,1,2,21,22,23,23]:=rfl
abbrev RR:Type:=List Int×List Int×List Int×List Int
structure RB4 (m:Nat) (r:RR):Prop where
 r0:r.1.length<=m
 r1:r.2.1.length<=m
 r2:r.2.2.1.length<=m
 r3:r.2.2.2.length<=m
theorem ZJ {n:Nat} (s:SN) (hs:SZ n s) (w:WT) (hw:w.1.length=5) (t:List Int×Int) (h:TP t) (r:RR) (hr:RB4 1000000 r):Ok (pU ((s,w),t,r)) λy=>uv t y.2.1/\y.2.2=r/\(t.2<t.1.length->t.2<y.2.1.2)/\y.1.2.2.2.2.2.1.length<=1000000/\y.1.2.2.2.2.2.2.length<=1000000:=by
 obtain⟨r0,r1,r2,r3⟩:=r;obtain⟨h0,h1,h2,h3⟩:=hr;dsimp only at h0 h1 h2 h3;unfold pU wH Dr Prod.p12 aV bg bp cw dN jd uy wJ Kk Prod.q12 cO eP be bE bK aX aE;refine ax (gf 4 t h) λy hy=>?_
 refine aU Ze ?_;refine ax (gf _ y.2 hy.1.p) λz hz=>?_
 obtain⟨y1,yt⟩:=y;obtain⟨z1,zt⟩:=z;obtain⟨ty,yy0,yy1,yy2⟩:=hy;obtain⟨tz,zz0,zz1,_⟩:=hz;dsimp only at ty yy0 yy1 yy2 tz zz0 zz1;have yy1:=yy1 (by decide);have hzl:=zz1 (by decide);refine aR zz0 hzl (aT ?_);generalize (aJ _ z1)=k;refine ax (gf 6 zt tz.p) λv hv=>?_
 obtain⟨v1,vt⟩:=v;have tv:=hv.1;dsimp only at tv;have tt:=(ty.trans tz).trans tv;have hadv:t.2<t.1.length->t.2<vt.2:=λh=>by
  have:=yy2 h (by decide);have:=tz.m;have:=tv.m;omega
 refine aY (λx=>x.1=vt/\x.2.1=r0/\x.2.2.1=r1/\x.2.2.2.1=r2/\x.2.2.2.2.1=r3/\x.2.2.2.2.2.1=s/\x.2.2.2.2.2.2.1=w) ?_ ?_
 .refine aY (λx=>x.2.1=vt/\x.2.2.1=r0/\x.2.2.2.1=r1/\x.2.2.2.2.1=r2/\x.2.2.2.2.2.1=r3/\x.2.2.2.2.2.2.1=s/\x.2.2.2.2.2.2.2.1=w) ?_ ?_
  .with_reducible repeat' first|(refine OS.ok ?_;constructor)|refine IM.mk λ_=>?_
   all_goals exact⟨rfl,rfl,rfl,rfl,rfl,rfl,rfl⟩
  .rintro⟨p,q⟩ hq;dsimp only at hq;with_reducible repeat' first|(refine OS.ok ?_;constructor)|refine IM.mk λ_=>?_
   all_goals exact hq
 rintro⟨x1,x2,x3,x4,x5,x6,x7,x8,x9,x10⟩ ⟨J,Y,f3,f4,f5,f6,U⟩;dsimp only at J Y f3 f4 f5 f6 U;subst J;subst Y;subst f3;subst f4;subst f5;subst f6;subst U;refine ax (WO _ _ _ tv.p) λo Z=>?_
 obtain⟨o1,ot⟩:=o;obtain⟨to,Z⟩:=Z;dsimp only at to Z;refine ax (Wz _ hs _ _ (λhk=>Z (.inl hk)) _ to.p) λq hq=>?_
 obtain⟨q1,qt⟩:=q;dsimp only at hq;have M:=(tt.trans to).trans hq;have hadv2:t.2<t.1.length->t.2<qt.2:=λh=>by have:=hadv h;have:=to.m;have:=hq.m;omega
 have row:∀ (T:List Int×Int) (c:List Int) {R:Type} (k:List Int×((List Int×Int)×List Int)->Option R) (Q:R->Prop),uv t T->c.length<=1000000->(∀ v T',uv T T'->v.length<=1000000->Ok (k (v,T',c)) Q)->Ok (obind (gq (T,c)) k) Q:=λT c R k Q I hc hk=>by
  refine ax (abj T I.p c hc) λy hy=>?_
  obtain⟨a,b,d⟩:=y;obtain⟨g1,g2,g3⟩:=hy;dsimp only at g1 g2 g3;subst g3;exact hk a b g2 (by omega)
 refine aY (λx=>uv t x.1/\(t.2<t.1.length->t.2<x.1.2)/\x.2.1=x2/\x.2.2.1=x3/\x.2.2.2.1=x4/\x.2.2.2.2.1=x5/\x.2.2.2.2.2.2.2.2.2.2.2.length<=1000000) ?_ ?_
 .refine aY (λx=>x.2.1=qt/\x.2.2.1=x2/\x.2.2.2.1=x3/\x.2.2.2.2.1=x4/\x.2.2.2.2.2.1=x5) ?_ ?_
  .refine aK (λ_=>ar ⟨rfl,rfl,rfl,rfl,rfl⟩) λ_=>?_
   refine aK (λhk=>?_) λ_=>aK (λhk=>?_) λ_=>ar ⟨rfl,rfl,rfl,rfl,rfl⟩
   .exact aR (Z (.inl hk)).1 (by dsimp only;rw[hw];exact (Z (.inl hk)).2) (aT (ar ⟨rfl,rfl,rfl,rfl,rfl⟩))
   .exact aR (Z (.inr hk)).1 (by dsimp only;rw[hw];exact (Z (.inr hk)).2) (aT (ar ⟨rfl,rfl,rfl,rfl,rfl⟩))
  .rintro⟨b,p1,p2,p3,p4,p5,p6⟩ ⟨J,Y,f3,f4,f5⟩;dsimp only at J Y f3 f4 f5;subst J;subst Y;subst f3;subst f4;subst f5;refine aP (λ_=>?_) λ_=>ar ⟨M,hadv2,rfl,rfl,rfl,rfl,by simp⟩
   have adv3:∀ T',uv p1 T'->t.2<t.1.length->t.2<T'.2:=λT' I h=>by have:=hadv2 h;have:=I.m;omega
   refine aK (λ_=>?_) λ_=>aK (λ_=>?_) λ_=>aK (λ_=>?_) λ_=>aK (λ_=>?_) λ_=>?_
   .refine row p1 p2 _ _ M h0 λv T' I hv=>?_
    refine c6 (li rfl (Ak ?_));exact ar ⟨M.trans I,adv3 T' I,rfl,rfl,rfl,rfl,hv⟩
   .refine row p1 p3 _ _ M h1 λv T' I hv=>?_
    refine c6 (li rfl (Ak ?_));exact ar ⟨M.trans I,adv3 T' I,rfl,rfl,rfl,rfl,hv⟩
   .refine row p1 p4 _ _ M h2 λv T' I hv=>?_
    refine c6 (li rfl (Ak ?_));exact ar ⟨M.trans I,adv3 T' I,rfl,rfl,rfl,rfl,hv⟩
   .refine row p1 p5 _ _ M h3 λv T' I hv=>?_
    refine c6 (li rfl (Ak ?_));exact ar ⟨M.trans I,adv3 T' I,rfl,rfl,rfl,rfl,hv⟩
   .omega
 rintro⟨u1,u2,u3,u4,u5,u6,u7,u8,u9,u10,u11,u12⟩ ⟨J,Y,f3,f4,f5,f6,U⟩;dsimp only at J Y f3 f4 f5 f6 U;subst f3;subst f4;subst f5;subst f6;refine aY (λx=>uv t x.1/\(t.2<t.1.length->t.2<x.1.2)/\x.2.1=u2/\x.2.2.1=u3/\x.2.2.2.1=u4/\x.2.2.2.2.1=u5/\x.2.2.2.2.2.2.2.2.2.2.2.1.length<=1000000/\x.2.2.2.2.2.2.2.2.2.2.2.2.length<=1000000) ?_ ?_
 .refine aY (λx=>x.2=(u1,u2,u3,u4,u5,u6,u7,u8,u9,u10,u11,u12)) ?_ ?_
  .with_reducible repeat' first|(refine OS.ok ?_;constructor)|refine IM.mk λ_=>?_
   all_goals rfl
  .rintro⟨b,x⟩ e;dsimp only at e;subst e;refine aP (λ_=>?_) λ_=>ar ⟨J,Y,rfl,rfl,rfl,rfl,U,by simp⟩
   have adv3:∀ T',uv u1 T'->t.2<t.1.length->t.2<T'.2:=λT' I h=>by have:=Y h;have:=I.m;omega
   refine aK (λ_=>?_) λ_=>aK (λ_=>?_) λ_=>aK (λ_=>?_) λ_=>aK (λ_=>?_) λ_=>?_
   .refine row u1 u2 _ _ J h0 λv T' I hv=>?_
    refine c6 (li rfl (Ak ?_));exact ar ⟨J.trans I,adv3 T' I,rfl,rfl,rfl,rfl,U,hv⟩
   .refine row u1 u3 _ _ J h1 λv T' I hv=>?_
    refine c6 (li rfl (Ak ?_));exact ar ⟨J.trans I,adv3 T' I,rfl,rfl,rfl,rfl,U,hv⟩
   .refine row u1 u4 _ _ J h2 λv T' I hv=>?_
    refine c6 (li rfl (Ak ?_));exact ar ⟨J.trans I,adv3 T' I,rfl,rfl,rfl,rfl,U,hv⟩
   .refine row u1 u5 _ _ J h3 λv T' I hv=>?_
    refine c6 (li rfl (Ak ?_));exact ar ⟨J.trans I,adv3 T' I,rfl,rfl,rfl,rfl,U,hv⟩
   .omega
 rintro⟨a1,a2,a3,a4,a5,a6,a7⟩ ⟨g1,g2,g3,g4,g5,g6,g7,g8⟩;dsimp only at g1 g2 g3 g4 g5 g6 g7 g8;subst g3;subst g4;subst g5;subst g6;exact ar ⟨g1,rfl,g2,g7,g8⟩
def Yd (e:ET):Prop:=e.2.2.2.2.2.1.length<=1000000/\e.2.2.2.2.2.2.length<=1000000
theorem abp {m:Nat} (hm:m<=1000) (s:SN) (hs:SZ m s) (w:WT) (hw:w.1.length=5) (hwt:w.2.2.2.2.1.length=4) (hwc:w.2.2.1.length<=1000) (n:Int) (hn:n<=60) (t:List Int×Int) (h:TP t):Ok (rQ ((s,w,n,aj),t)) λy=>(∀ e∈y.1,Yd e)/\y.1.length<=60:=by
 unfold rQ aV bg bp cw dN jd uy wJ Prod.q10 bL cO eP mg nh MM be bx bE bK aX cK aE;refine c6 (c6 (c6 (dZ (by dsimp only[au];omega) (dZ (eJ _) (bk (by dsimp only[au];omega) (by omega) (Vr (by dsimp only[au];omega) ?_))))));refine aY (λx=>x=(t,s,w,[],[],[],[])) ⟨_,rfl,rfl⟩ ?_;rintro x rfl;refine pM (λx=>((t.1.length:Int)-x.1.2).toNat) (λx=>uv t x.1/\x.2.2.1=w/\SZ (m+x.2.2.2.1.length) x.2.1/\x.2.2.2.1.length<=60/\(∀ e∈x.2.2.2.1,Yd e)/\RB4 x.2.2.2.1.length x.2.2.2.2) ?_ ⟨uv.refl h,rfl,(by simpa using hs),by simp,λe he=>(by cases he),⟨by simp,by simp,by simp,by simp⟩⟩;rintro⟨I,s,w',out,r⟩ ⟨i1,i2,U,i4,i5,i6⟩;dsimp only at i1 i2 U i4 i5 i6;subst i2;refine aY (λx=>x.2=(I,s,w',out,r)/\(x.1=ai->out.length<60/\I.2<I.1.length)) ?_ ?_
 .refine bH (λh1=>ar ⟨rfl,λh2=>?_⟩) λ_=>ar ⟨rfl,λh=>(by cases h)⟩
  rw[sW] at h2;dsimp only[au] at h1 h2;exact⟨by omega,h2⟩
 rintro⟨b,x⟩ ⟨e,hb⟩;dsimp only at e hb;subst e;refine aP (λh1=>?_) λ_=>ar ⟨i5,i4⟩
 obtain⟨ho,ht⟩:=hb h1;obtain⟨q0,q1,q2,q3⟩:=id i6;refine aY (λx=>uv I x.1/\I.2<x.1.2/\x.2.2.1=w'/\SZ (m+x.2.2.2.1.length) x.2.1/\x.2.2.2.1.length<=60/\(∀ e∈x.2.2.2.1,Yd e)/\RB4 x.2.2.2.1.length x.2.2.2.2) ?_ ?_
 .refine ax (ZJ s U w' hw I i1.p r ⟨by omega,by omega,by omega,by omega⟩) λy hy=>?_
  obtain⟨ev,tp',r'⟩:=y;obtain⟨j1,j2,j3,M,J⟩:=hy;dsimp only at j1 j2 j3 M J;subst j2;have j3:=j3 ht;refine c6 (li rfl (c6 (li rfl (c6 (li rfl (c6 (li rfl (Ak ?_))))))));refine ax (EI w' s U.nb hwc ev (by omega) (by omega)) λz hz=>?_
  refine d_ (λ_=>ar ⟨j1,j3,rfl,U,i4,i5,i6⟩) λh2=>?_
  obtain⟨z1,z2⟩:=z;obtain⟨hE,hS,_⟩:=hz.1 h2;have hS2:=U.step hS (by omega);refine aY (λx=>x.1=tp'/\x.2.2.1=w'/\x.2.2.2.1=out/\Yd x.2.2.2.2.1/\x.2.2.2.2.2.1=z1/\RB4 (out.length+1) x.2.2.2.2.2.2) ?_ ?_
  .refine aY (λx=>x.2=(tp',s,w',out,ev,z1,r')) ?_ ?_
   .refine aK (λ_=>ar rfl) λ_=>ar rfl
   .rintro⟨b,x⟩ e;dsimp only at e;subst e;have hk:=U.k;obtain⟨ev1,ev2⟩:=ev;have t0:=hE.t0;have t1:=hE.t1;rw[hwt] at t1;dsimp only at t0 t1;refine aP (λ_=>?_) λ_=>ar ⟨rfl,rfl,rfl,⟨M,J⟩,rfl,⟨by dsimp only;omega,by dsimp only;omega,by dsimp only;omega,by dsimp only;omega⟩⟩
    refine aK (λ_=>?_) λ_=>aK (λ_=>?_) λ_=>aK (λ_=>?_) λ_=>aK (λ_=>?_) λ_=>?_
    .exact aR (by decide) (by dsimp only;omega) (aT (bk (by simp;omega) (by omega) (ar ⟨rfl,rfl,rfl,⟨M,J⟩,rfl,⟨by simp;omega,by dsimp only;omega,by dsimp only;omega,by dsimp only;omega⟩⟩)))
    .exact aR (by decide) (by dsimp only;omega) (aT (bk (by simp;omega) (by omega) (ar ⟨rfl,rfl,rfl,⟨M,J⟩,rfl,⟨by dsimp only;omega,by simp;omega,by dsimp only;omega,by dsimp only;omega⟩⟩)))
    .exact aR (by decide) (by dsimp only;omega) (aT (bk (by simp;omega) (by omega) (ar ⟨rfl,rfl,rfl,⟨M,J⟩,rfl,⟨by dsimp only;omega,by dsimp only;omega,by simp;omega,by dsimp only;omega⟩⟩)))
    .exact aR (by decide) (by dsimp only;omega) (aT (bk (by simp;omega) (by omega) (ar ⟨rfl,rfl,rfl,⟨M,J⟩,rfl,⟨by dsimp only;omega,by dsimp only;omega,by dsimp only;omega,by simp;omega⟩⟩)))
    .dsimp only at *;omega
  .rintro⟨x1,x2,x3,x4,x5,x6,x7⟩ ⟨k1,k2,k3,k4,Z,Y⟩;dsimp only at k1 k2 k3 k4 Z Y;subst k1;subst k2;subst k3;subst Z;refine bk (by simp;omega) (by omega) (ar ⟨j1,j3,rfl,?_,by simp;omega,λe he=>?_,?_⟩)
   .dsimp only;rw[bu,gm,<-sg];exact hS2
   .rcases bW.1 he with he|he
    .exact i5 e he
    .rw[aL] at he;subst he;exact k4
   .dsimp only;rw[bu,gm];exact Y
 rintro⟨tp',s',w'',out',r'⟩ ⟨k1,k2,k3,k4,Z,Y,k7⟩;dsimp only at k1 k2 k3 k4 Z Y k7;have e1:=i1.e;have a1:=k1.p.a1;have e2:=k1.e;refine ar ⟨⟨i1.trans k1,k3,k4,Z,Y,k7⟩,?_⟩;dsimp only;rw[e2,e1] at a1;omega
def C0:List (List UInt8×Int×Int×Bool×Int):=[([120],0,0,aj,0),([121],0,0,aj,1),([118],0,0,ai,0),([113],0,2,aj,0),([113],1,2,aj,0)]
def F5:List (List UInt8×Bool):=[([109],aj),([110],aj),([114],ai)]
def LB:List (List UInt8×Int):=[([99],0)]
def R7:List (List UInt8):=[[102]]
def vF:List (List UInt8):=[[109,97,105,110],[116,49],[116,50],[116,51]]
structure WX (w:WT):Prop where
 c:w.1=C0
 l:w.2.1=F5
 d:w.2.2.1=LB
 f:w.2.2.2.1=R7
 t:∃ n,1<=n/\n<=4/\w.2.2.2.2.1=vF.take n
 s:w.2.2.2.2.2.length<=60
 v:SV0 w
structure W0 (w:WT):Prop where
 c:w.1.length=5
 l:w.2.1.length=3
 d:w.2.2.1.length=1
 f:w.2.2.2.1.length=1
 t:w.2.2.2.2.1.length=4
 s:w.2.2.2.2.2.length<=24
 x:WX w
theorem W0.vl {w:WT} (h:W0 w):VL w:=⟨by rw[h.c];decide,by rw[h.l];decide,by rw[h.d];decide,by rw[h.f];decide,by rw[h.t];decide,by rw[h.t];decide,by have:=h.s;omega⟩
def Y4 (i j:Nat):Int×Int:=if j=0 then (if i=0 then (0,0) else ((i:Int)-1,6)) else (i,j)
theorem Vb {T:Int} {l:List (Int×Int×Int)} {s:Int×Int×Int}:Kq T (l++[s])=Sl T (Kq T l) s:=by unfold Kq;rw[fG];rfl
theorem RM:Ok (nu ()) W0:=by
 unfold nu aV bg bp cw eP bx bE cK aE cB;refine ch 4 (λi x=>x.1=(i:Int)/\x.2.1=C0/\x.2.2.1=F5/\x.2.2.2.1=LB/\x.2.2.2.2.1=R7/\x.2.2.2.2.2.1=vF/\x.2.2.2.2.2.2.length<=6*i/\Kq 4 x.2.2.2.2.2.2=af (Y4 i 0)) ?_ ?_ ⟨rfl,rfl,rfl,rfl,rfl,rfl,by simp,rfl⟩
 .rintro i ⟨a,w1,w2,w3,w4,w5,w6⟩ hi ⟨e1,e2,e3,Z,Y,I,e7,U⟩;dsimp only at e1 e2 e3 Z Y I e7 U;subst e1;have hl5:w5.length=4:=by rw[I];rfl
  refine bH (λ_=>?_) λg=>(by dsimp only[au] at g;simp at g;omega)
  refine ch 6 (λj x=>x.1=(j:Int)/\x.2.1=w1/\x.2.2.1=w2/\x.2.2.2.1=w3/\x.2.2.2.2.1=w4/\x.2.2.2.2.2.1=w5/\x.2.2.2.2.2.2.length<=6*i+j/\Kq 4 x.2.2.2.2.2.2=af (Y4 i j)) ?_ ?_ ⟨rfl,rfl,rfl,rfl,rfl,rfl,by dsimp only;omega,U⟩
  .rintro j ⟨b,v1,v2,v3,v4,v5,v6⟩ hj ⟨d1,d2,d3,d4,d5,d6,d7,d8⟩;dsimp only at d1 d2 d3 d4 d5 d6 d7 d8;subst d1;refine dC ?_;refine bk (by simp;omega) (by omega) (ar ?_);dsimp only;refine ⟨gW (by omega),d2,d3,d4,d5,d6,by simp;omega,?_⟩;rw[Vb,d8];by_cases J:j=0
   .subst J;by_cases M:i=0
    .subst M;rfl
    .rw[show Y4 i 0=((i:Int)-1,6) by unfold Y4;simp[M],show Y4 i (0+1)=((i:Int),1) by unfold Y4;simp];unfold Sl;dsimp only;rw[aC (λh=>by have:=h.1;omega),aF ⟨by omega,by omega,rfl⟩]
   .rw[show Y4 i j=((i:Int),(j:Int)) by unfold Y4;simp[J],show Y4 i (j+1)=((i:Int),(j:Int)+1) by unfold Y4;simp];unfold Sl;dsimp only;rw[aF ⟨rfl,rfl⟩]
  .rintro⟨b,v1,v2,v3,v4,v5,v6⟩ ⟨d1,d2,d3,d4,d5,d6,d7,d8⟩;dsimp only at d1 d2 d3 d4 d5 d6 d7 d8;subst d1;subst d2;subst d3;subst d4;subst d5;subst d6;refine dx (ar ?_);dsimp only;refine ⟨gW (by omega),e2,e3,Z,Y,I,by omega,?_⟩;rw[d8];unfold Y4;simp
 .rintro⟨a,w1,w2,w3,w4,w5,w6⟩ ⟨e1,e2,e3,Z,Y,I,e7,U⟩;dsimp only at e1 e2 e3 Z Y I e7 U;subst e1;subst e2;subst e3;subst Z;subst Y;subst I;refine bH (λg=>(by dsimp only[au] at g;simp[vF] at g)) λ_=>ar ?_
  refine ⟨rfl,rfl,rfl,rfl,rfl,by dsimp only;omega,rfl,rfl,rfl,rfl,⟨4,by decide,by decide,rfl⟩,by dsimp only;omega,?_⟩;unfold SV0;show Kq 4 w6≠ah;rw[U];simp
theorem SZ.mono {n m:Nat} {s:SN} (h:SZ n s) (hnm:n<=m) (hm:m<=100000):SZ m s:=
 ⟨⟨⟨hm,h.nb.sb.lk,λl hl=>dc (h.nb.sb.rd l hl) hnm,h.nb.sb.dn,h.nb.sb.th⟩,h.nb.c,h.nb.f,h.nb.k⟩,h.c,h.f,h.k⟩
theorem US (w:WT) (I:W0 w):Ok (mC w) λs=>SZ 0 s:=by
 refine (UT w I.vl).mono λs hs=>⟨hs.1,?_,?_,?_⟩
 .rw[hs.2.1,I.c]
 .rw[hs.2.2.1,I.f]
 .rw[hs.2.2.2,I.t]
structure WB (w:WT):Prop where
 c:w.1.length<=12
 l:w.2.1.length<=4
 d:w.2.2.1.length<=2
 f:w.2.2.2.1.length<=2
 t:w.2.2.2.2.1.length<=4
 s:w.2.2.2.2.2.length<=60
theorem VL.wb {w:WT} (h:VL w):WB w:=⟨h.c,h.l,h.d,h.f,h.t,h.s⟩
structure TR (y:WT×List ET):Prop where
 wb:WB y.1
 vl:VL y.1
 ev:∀ e∈y.2,EvF y.1 e
 len:y.2.length<=400
 ls:∀ e∈y.2,Yd e
 wx:WX y.1
 ac:∃ sy ce fu,Acw y.1 y.2 sy ce fu
theorem HB (L:List Int) (n:Int) (hl:L.length<=9223372036854775807) (hb:∀ x∈L,0<=x/\x<=255):Ok (pV (L,n)) TR:=by
 unfold pV aV bg bp db cO bx jN iI bE kA aX cK aE cB;refine aY (λx=>x.length<=600/\∀ z∈x,0<=z/\z<=255) ?_ ?_
 .refine bH (λg=>?_) λg=>?_
  .dsimp only[au] at g;refine c6 (dZ (by omega) (dZ (by dsimp only;omega) (ar ⟨by dsimp only;rw[bD];simp;omega,λz I=>hb z (gP I)⟩)))
  .dsimp only[au] at g;exact ar ⟨by dsimp only;omega,hb⟩
 rintro L' ⟨hL,hB⟩;refine ax RM λw J=>?_
 have hvl:=J.vl;refine ax (US w J) λs hs=>?_
 refine ax (gf 3 (L',0) ⟨by dsimp only;omega,hB,by dsimp only;omega,by dsimp only;omega⟩) λy hy=>?_
 obtain⟨y1,yt⟩:=y;obtain⟨ty,yy0,yy1,_⟩:=hy;have yy1:=yy1 (by decide);dsimp only at ty yy0 yy1;have ew:bl .i64 (1+y1)=1+y1:=ic (by omega) (by omega);refine pM (λx=>(1+y1+1-x.1).toNat) (λx=>1<=x.1/\x.1<=2+y1/\x.2.1=yt/\x.2.2.1=w/\x.2.2.2.1=s/\((x.2.2.2.2.length:Nat):Int)<=2*x.1/\∀ e∈x.2.2.2.2,Yd e) ?_ ⟨by dsimp only;omega,by dsimp only;omega,rfl,rfl,rfl,by simp,λe he=>?_⟩
 .rintro⟨a,t,w',s',es⟩ ⟨e1,e2,e3,e4,e5,e6,e7⟩;dsimp only at e1 e2 e3 e4 e5 e6 e7;subst e3;subst e4;subst e5;refine fw (λg=>?_) λg=>?_
  .dsimp only at g;rw[ew] at g;refine bk (by simp;omega) (by omega) (ar ?_);dsimp only;rw[ic (n:=a+1) (by omega) (by omega)];refine ⟨⟨by omega,by omega,rfl,rfl,rfl,by simp;omega,λe he=>?_⟩,by omega⟩;rcases bW.1 he with he|he
   .exact e7 e he
   .simp only[bi,cr,fY] at he;rcases he with he|he<;>subst he<;>exact⟨by simp,by simp⟩
  .refine ax (P:=TR) ?_ λr hr=>ar hr
   refine ch es.length (λi x=>x.1=(i:Int)/\TP x.2.1/\x.2.2.1=w'/\SZ i x.2.2.2.1/\x.2.2.2.2.1=es/\x.2.2.2.2.2.length<=i/\∀ e∈x.2.2.2.2.2,Yd e) ?_ ?_ ⟨rfl,ty.p,rfl,hs,rfl,by simp,λe he=>(by cases he)⟩
   .rintro i ⟨b,t,w',s',es',out⟩ hi ⟨d1,U,Z,M,Y,d6,d7⟩;dsimp only at d1 U Z M Y d6 d7;subst d1;subst Z;subst Y;refine dC ?_;refine aY (λx=>TP x.1/\x.2.1=w'/\SZ (i+1) x.2.2.1/\x.2.2.2.1=es'/\x.2.2.2.2.length<=i+1/\∀ e∈x.2.2.2.2,Yd e) ?_ ?_
    .refine cD (cD (aT ?_));have I:=e7 _ (bJ (T:=.st (.pr (.int .i64) (.pr (.int .i64) (.pr (.int .i64) (.pr (.int .i64) (.pr (.int .i64) (.pr (.sl (.int .i64)) (.sl (.int .i64))))))))) (xs:=es') (j:=(i:Int)) (by omega) (by omega));revert I;generalize (aJ _ _)=z;intro I;refine ax (EI w' s' M.nb (by rw[J.d];decide) z (by have:=I.1;omega) (by have:=I.2;omega)) λv hv=>?_
     refine aP (λh=>?_) λh=>ar ⟨U,rfl,M.mono (by omega) (by omega),rfl,by dsimp only;omega,d7⟩
     refine bk (by simp;omega) (by omega) (ar ⟨U,rfl,M.step (hv.1 h).2.1 (by omega),rfl,by simp;omega,λe he=>?_⟩);rcases bW.1 he with he|he
     .exact d7 e he
     .rw[aL] at he;subst he;exact I
    .rintro⟨t,w'',s'',es'',out'⟩ ⟨f1,f2,f3,f4,f5,f6⟩;dsimp only at f1 f2 f3 f4 f5 f6;refine ar ?_;dsimp only;exact⟨gW (by omega),f1,f2,f3,f4,f5,f6⟩
   .rintro⟨b,t,w',s',es',out⟩ ⟨d1,U,Z,M,Y,d6,d7⟩;dsimp only at d1 U Z M Y d6 d7;subst d1;subst Z;subst Y;refine dx ?_;refine ax (P:=TR) ?_ λr hr=>ar hr
    have hmin:Gh (j9 n 0) 60<=60:=by
     unfold Gh;split
     .omega
     .rename_i h;simp[fP] at h;exact h
    refine ax (abp (by omega) s' M w' J.c J.t (by rw[J.d];decide) _ hmin t U) λv hv=>?_
    refine bk (by have:=hv.2;dsimp only;omega) (by omega) ?_;have hall:∀ e∈out++v.1,Yd e:=λe he=>by
     rcases bW.1 he with he|he
     .exact d7 e he
     .exact hv.1 e he
    refine ax (aat w' (out++v.1) λe he=>by have:=hall e he;exact⟨by have:=this.1;omega,by have:=this.2;omega⟩) λc hc=>?_
    refine b8 (λ_=>?_) λh=>?_
    .exact ax RM λu hu=>ar ⟨hu.vl.wb,hu.vl,λe he=>(by cases he),by simp,λe he=>(by cases he),hu.x,_,_,_,.nil⟩
    .exact ar ⟨(hc h).1.1.wb,(hc h).1.1,(hc h).2.1,by have:=hv.2;simp;omega,hall,J.x,(hc h).2.2⟩
 .rw[aL] at he;subst he;exact⟨by simp,by simp⟩
abbrev IT:Type:=Int×Int×Int×Int×Int×Int
abbrev CT:Type:=WT×List (Int×List IT)
theorem rG (a b:Int):jf (a,b)=af (decide (0<=a/\a<b)):=by
 refine cJ ?_;unfold jf jN aE;with_reducible repeat' first|(refine OS.ok ?_;constructor)|refine IM.mk λ_=>?_
 .by_cases h:a<b<;>simp[*,fP]
 .simp;omega
theorem EJ (k:Int):pn k=af (decide (1<=k/\k<=5)):=by
 refine cJ ?_;unfold pn jN aE;with_reducible repeat' first|(refine OS.ok ?_;constructor)|refine IM.mk λ_=>?_
 .by_cases h:k<=5<;>simp[*,cV]
 .simp;omega
def iJ (i:IT):List Int:=
 if i.1=1\/i.1=6\/i.1=10\/i.1=27 then [i.2.1]
 else if i.1=2\/i.1=3 then [i.2.1,i.2.2.1]
 else if i.1=4 then [i.2.1,i.2.2.1,i.2.2.2.1]
 else if i.1=7 then [i.2.1,i.2.2.2.1]
 else if i.1=8\/i.1=26 then [i.2.2.1]
 else if i.1=9 then [i.2.2.1,i.2.2.2.1]
 else []
theorem s5 (i:IT):jy i=af (iJ i):=by
 obtain⟨I,i2⟩:=i;unfold jy iJ aV bg bp be aE;by_cases h1:I=1
 .subst h1;rfl
 by_cases h2:I=6
 .subst h2;rfl
 by_cases h3:I=10
 .subst h3;rfl
 by_cases h4:I=27
 .subst h4;rfl
 by_cases h5:I=2
 .subst h5;rfl
 by_cases h6:I=3
 .subst h6;rfl
 by_cases Z:I=4
 .subst Z;rfl
 by_cases Y:I=7
 .subst Y;rfl
 by_cases U:I=8
 .subst U;rfl
 by_cases M:I=26
 .subst M;rfl
 by_cases J:I=9
 .subst J;rfl
 simp only[h1,h2,h3,h4,h5,h6,Z,Y,U,M,J,c7,Z7,jnr,fY,dV]
theorem B4 (z:IT):(iJ z).length<=3:=by
 unfold iJ
 (repeat' split)<;>simp
theorem Zd (l:List IT) (a:Int) (hl:l.length<=1000000):Ok (o8 (l,a)) λ_=>True:=by
 unfold o8 be bx jN bK aX cK aE cB;refine pM (λx=>((l.length:Int)+1-x.2).toNat) (λx=>0<=x.2/\x.2<=(l.length:Int)+1) ?_ ⟨by dsimp only;omega,by dsimp only;omega⟩;rintro⟨(a:Int),(n:Int)⟩ ⟨h0,h1⟩;dsimp only at h0 h1;refine fw (λg=>?_) λ_=>ar trivial
 dsimp only[au] at g;refine aY (λ_=>True) ?_ λb _=>ar ?_
 .refine aY (λb=>b=aj->0<=a/\a<(l.length:Int)) ?_ ?_
  .refine bH (λ_=>ar λh=>(by cases h)) λI=>ar λh=>?_
   rw[lP] at h;dsimp only[au] at h I;exact⟨I,h⟩
  .intro b hb;refine aP (λ_=>ar trivial) λh=>?_
   obtain⟨q0,J⟩:=hb h;refine aR q0 (by dsimp only;omega) (aT ?_);refine aU (EJ _) ?_;refine d_ (λ_=>ar trivial) λ_=>?_
   refine aR q0 (by dsimp only;omega) (aT ?_);refine aK (λ_=>?_) λ_=>ar trivial
   exact aR q0 (by dsimp only;omega) (aT (ar trivial))
 .dsimp only;rw[ic (by omega) (by omega)];exact⟨⟨by omega,by omega⟩,by omega⟩
structure AR (w:WT) (b n:Int):Prop where
 b0:0<=b
 b1:b<w.1.length
 ix:(aJ (T:=OZ) w.1 b).2.1=0
 sz:¬(aJ (T:=OZ) w.1 b).2.2.1=0
 sn:(aJ (T:=OZ) w.1 b).2.2.1=n
theorem RE (w:WT) (b n:Int):Ok (mQ (w,b,n)) λr=>r=ai->AR w b n:=by
 unfold mQ be iI bK aX aE;refine gJ ?_;refine aU (rG _ _) ?_;refine aK (λh=>?_) λ_=>ar (ar λh=>(by cases h))
 refine aR h.1 h.2 (aT (aK (λh1=>?_) λ_=>ar (ar λh=>(by cases h))));refine aR h.1 h.2 (aT (b8 (λh2=>?_) λ_=>ar (ar λh=>(by cases h))));exact aR h.1 h.2 (aT (ar (ar λI=>⟨h.1,h.2,h1,h2,bt I⟩)))
theorem S5 (w:WT) (i:IT):Ok (lm (w,i)) λb=>b=ai->(i.1=7->AR w i.2.2.1 i.2.2.2.2.1)/\(i.1=9->AR w i.2.1 i.2.2.2.2.1):=by
 have tr:∀ {b:Bool},¬i.1=7->¬i.1=9->b=ai->(i.1=7->AR w i.2.2.1 i.2.2.2.2.1)/\(i.1=9->AR w i.2.1 i.2.2.2.2.1):=λh1 h2 _=>⟨λh=>(h1 h).elim,λh=>(h2 h).elim⟩
 unfold lm aV bg bp cw dN be jN bK aX aE;simp only[rG,Vt];refine aK (λM=>?_) λ_=>?_
 .refine aY (λ_=>True) ?_ λ_ _=>ar (tr (by have M:i.1=6:=M;omega) (by have M:i.1=6:=M;omega))
  refine aK (λh=>?_) λ_=>ar trivial
  exact aR h.1 h.2 (aT (ar trivial))
 refine aK (λI=>?_) λ_=>?_
 .refine aY (λ_=>True) ?_ λ_ _=>ar (tr (by have I:i.1=8:=I;omega) (by have I:i.1=8:=I;omega))
  refine aK (λh=>?_) λ_=>ar trivial
  exact aR h.1 h.2 (aT (ar trivial))
 refine aK (λJ=>?_) λU=>?_
 .exact ax (RE _ _ _) λ_ h=>ar λh2=>⟨λ_=>h h2,λZ=>by have J:i.1=7:=J;omega⟩
 refine aK (λZ=>?_) λY=>?_
 .exact ax (RE _ _ _) λ_ h=>ar λh2=>⟨λJ=>(U J).elim,λ_=>h h2⟩
 have tr:∀ {b:Bool},b=ai->(i.1=7->AR w i.2.2.1 i.2.2.2.2.1)/\(i.1=9->AR w i.2.1 i.2.2.2.2.1):=tr U Y;refine aY (λx=>x.2=(w,i)) (aK (λ_=>ar rfl) λ_=>ar rfl) ?_;rintro⟨b,x⟩ e;dsimp only at e;subst e;refine aP (λ_=>?_) λ_=>?_
 .refine aY (λ_=>True) ?_ λ_ _=>ar tr
  refine aK (λh=>?_) λ_=>ar trivial
  exact aR h.1 h.2 (aT (ar trivial))
 refine aY (λx=>x.2=(w,i)) (aK (λ_=>ar rfl) λ_=>aK (λ_=>ar rfl) λ_=>aK (λ_=>ar rfl) λ_=>ar rfl) ?_;rintro⟨b,x⟩ e;dsimp only at e;subst e;refine aP (λ_=>?_) λ_=>?_
 .refine aY (λ_=>True) ?_ λ_ _=>ar tr
  refine aK (λh=>?_) λ_=>ar trivial
  exact aR h.1 h.2 (aT (ar trivial))
 refine aY (λx=>x.2=(w,i)) (aK (λ_=>ar rfl) λ_=>aK (λ_=>ar rfl) λ_=>ar rfl) ?_;rintro⟨b,x⟩ e;dsimp only at e;subst e;refine aP (λ_=>ar tr) λ_=>?_
 refine aY (λx=>x.2=(w,i)) (aK (λ_=>ar rfl) λ_=>ar rfl) ?_;rintro⟨b,x⟩ e;dsimp only at e;subst e;with_reducible repeat' first|(refine OS.ok ?_;constructor)|refine IM.mk λ_=>?_
 all_goals exact tr
structure VI (n:Int) (i:IT):Prop where
 o1:1<=i.1
 o2:i.1<=28
 r:∀ j∈iJ i,0<=j/\j<n
structure VT (t:Int×List IT):Prop where
 r0:0<=t.1
 r1:t.1<=32
 i:∀ i∈t.2,VI t.1 i
structure VJ (w:WT) (k:Int) (i:IT):Prop where
 a7:i.1=7->AR w i.2.2.1 i.2.2.2.2.1
 a9:i.1=9->AR w i.2.1 i.2.2.2.2.1
 se:i.1=28->i.2.2.2.2.2= -1
 si:¬i.1=28->0<=i.2.2.2.2.2/\i.2.2.2.2.2<w.2.2.2.2.2.length/\(aJ (T:=xy) w.2.2.2.2.2 i.2.2.2.2.2).1=k
theorem Hr (w:WT) (k:Int) (c:Int×List IT) (hc:c.2.length<=1000000):Ok (ii (w,k,c)) λb=>b=ai->VT c/\∀ i∈c.2,VJ w k i:=by
 unfold ii aV bg bp cw bL cO nh be bx iI bK aX cK aE cB;refine aY (λx=>x.2=(w,c)/\(x.1=aj->0<=c.1/\c.1<=32)) ?_ ?_
 .refine bH (λ_=>ar ⟨rfl,λh=>(by cases h)⟩) λh0=>bH (λ_=>ar ⟨rfl,λh=>(by cases h)⟩) λh1=>ar ⟨rfl,λ_=>⟨h0,h1⟩⟩
 rintro⟨b,x⟩ ⟨e,hb⟩;dsimp only at e hb;subst e;refine aP (λ_=>ar λh=>(by cases h)) λh=>?_
 obtain⟨r0,r1⟩:=hb h;refine ch c.2.length (λi x=>x.1=(i:Int)/\x.2=(w,c)/\∀ q:Nat,q<i->VI c.1 (aJ (T:=AS) c.2 (q:Int))/\VJ w k (aJ (T:=AS) c.2 (q:Int))) ?_ ?_ ⟨rfl,rfl,λk hk=>by omega⟩
 .rintro i ⟨a,x⟩ hi ⟨e1,e2,e3⟩;dsimp only at e1 e2 e3;subst e1;subst e2;refine dC ?_;refine cD (aT ?_);generalize Y:(aJ _ _)=z;refine aY (λx=>x.2=(w,c,z)/\(x.1=aj->(1<=z.1/\z.1<=28)/\(z.1=7->AR w z.2.2.1 z.2.2.2.2.1)/\(z.1=9->AR w z.2.1 z.2.2.2.2.1))) ?_ ?_
  .refine bH (λ_=>ar ⟨rfl,λh=>(by cases h)⟩) λh0=>bH (λ_=>ar ⟨rfl,λh=>(by cases h)⟩) λh1=>?_
   refine aP (λ_=>ar ⟨rfl,λh=>(by cases h)⟩) λ_=>?_
   refine ax (S5 w z) λy Z=>?_
   refine d_ (λ_=>ar ⟨rfl,λh=>(by cases h)⟩) λhyt=>?_
   exact ax (Zd c.2 _ hc) λy _=>ar ⟨rfl,λ_=>⟨⟨h0,h1⟩,Z hyt⟩⟩
  rintro⟨b,x⟩ ⟨e,hb⟩;dsimp only at e hb;subst e;refine aP (λ_=>ar λh=>(by cases h)) λh=>?_
  obtain⟨⟨o1,o2⟩,a7,a9⟩:=hb h;refine aY (λx=>x.2=(w,c,z)/\(x.1=aj->(z.1=28->z.2.2.2.2.2= -1)/\(¬z.1=28->0<=z.2.2.2.2.2/\z.2.2.2.2.2<w.2.2.2.2.2.length/\(aJ (T:=xy) w.2.2.2.2.2 z.2.2.2.2.2).1=k))) ?_ ?_
  .simp only[rG,Vt];refine aK (λI=>?_) λI=>?_
   .refine b8 (λ_=>ar ⟨rfl,λh=>(by cases h)⟩) λhm=>?_
    exact b8 (λh=>(h I).elim) λ_=>ar ⟨rfl,λ_=>⟨λ_=>hm,λh=>(h I).elim⟩⟩
   .refine b8 (λ_=>?_) λh=>(I h).elim
    refine b8 (λ_=>ar ⟨rfl,λh=>(by cases h)⟩) λh=>?_
    exact aR h.1 h.2 (aT (ar ⟨rfl,λh2=>⟨λh3=>(I h3).elim,λ_=>⟨h.1,h.2,by simpa using h2⟩⟩⟩))
  rintro⟨b,x⟩ ⟨e,hsi⟩;dsimp only at e hsi;subst e;refine aP (λ_=>ar λh=>(by cases h)) λhbs=>?_
  obtain⟨se,si⟩:=hsi hbs;refine aY (λx=>x.2=(w,c,z)) ?_ ?_
  .simp only[rG,Vt];with_reducible repeat' first|(refine OS.ok ?_;constructor)|refine IM.mk λ_=>?_
   all_goals rfl
  rintro⟨b,x⟩ e;dsimp only at e;subst e;refine aP (λ_=>ar λh=>(by cases h)) λ_=>?_
  refine aU (s5 z) ?_;refine ch (iJ z).length (λj x=>x.1=(j:Int)/\x.2=(w,c)/\∀ k:Nat,k<j->0<=aJ (T:=.int .i64) (iJ z) (k:Int)/\aJ (T:=.int .i64) (iJ z) (k:Int)<c.1) ?_ ?_ ⟨rfl,rfl,λk hk=>by omega⟩
  .rintro j ⟨a,x⟩ hj ⟨U,M,J⟩;dsimp only at U M J;subst U;subst M;refine dC ?_;refine cD (aT ?_);refine aU (rG _ _) ?_;refine b8 (λ_=>ar λh=>(by cases h)) λh=>ar ?_
   dsimp only at h ⊢;have hj32:(iJ z).length<=3:=B4 z;refine ⟨gW (by omega),rfl,λk hk=>?_⟩;rcases b7 k j with h1|h1
   .exact J k h1
   .rw[show k=j by omega];exact h
  .rintro⟨a,x⟩ ⟨U,M,J⟩;dsimp only at U M J;subst U;subst M;refine dx (ar ?_);dsimp only;refine ⟨gW (by omega),rfl,λk hk=>?_⟩;rcases b7 k i with h1|h1
   .exact e3 k h1
   .rw[show k=i by omega,Y];exact⟨⟨o1,o2,il (T:=.int .i64) J⟩,⟨a7,a9,se,si⟩⟩
 .rintro⟨a,x⟩ ⟨e1,e2,e3⟩;dsimp only at e1 e2 e3;subst e1;subst e2;refine dx (ar λ_=>⟨⟨r0,r1,il (T:=AS) (p:=VI c.1) λq hq=>(e3 q hq).1⟩,il (T:=AS) (p:=VJ w k) λq hq=>(e3 q hq).2⟩)
structure VC (c:CT):Prop where
 vl:VL c.1
 tl:c.2.length=c.1.2.2.2.2.1.length
 t:∀ t∈c.2,VT t
 sv:SV0 c.1
 j:∀ k:Nat,k<c.2.length->∀ i∈(aJ (T:=vD) c.2 (k:Int)).2,VJ c.1 (k:Int) i
structure CB (c:CT):Prop where
 th:c.2.length<=1000000
 ins:∀ t∈c.2,t.2.length<=1000000
 rg:∀ t∈c.2,1<=t.1
 wx:WX c.1
 ok:jx c=af ai
theorem RO (c:CT) (h1:c.2.length<=1000000) (h2:∀ t∈c.2,t.2.length<=1000000):Ok (jx c) λb=>b=ai->VC c:=by
 obtain⟨w,l⟩:=c;dsimp only at h1 h2;unfold jx bp bx bK aX cK aE cB;refine aY (λx=>x.2=(w,l)/\(x.1=aj->(VL w/\SV0 w)/\l.length=w.2.2.2.2.1.length)) ?_ ?_
 .refine ax (AG w) λb hb=>?_
  refine d_ (λ_=>ar ⟨rfl,λh=>(by cases h)⟩) λh=>ar ⟨rfl,λM=>⟨hb h,?_⟩⟩
  simp at M;omega
 rintro⟨b,x⟩ ⟨e,I⟩;dsimp only at e I;subst e;refine aP (λ_=>ar λh=>(by cases h)) λh=>?_
 obtain⟨⟨hv,hsv⟩,hl⟩:=I h;refine ch l.length (λi x=>x.1=(i:Int)/\x.2=(w,l)/\∀ k:Nat,k<i->VT (aJ (T:=vD) l (k:Int))/\∀ q∈(aJ (T:=vD) l (k:Int)).2,VJ w (k:Int) q) ?_ ?_ ⟨rfl,rfl,λk hk=>by omega⟩
 .rintro i ⟨a,x⟩ hi ⟨e1,e2,e3⟩;dsimp only at e1 e2 e3;subst e1;subst e2;refine dC ?_;refine cD (aT ?_);have hm:=bJ (T:=vD) (xs:=l) (j:=(i:Int)) (by omega) (by omega);revert hm;generalize J:(aJ (T:=vD) l (i:Int))=z;intro hm;refine ax (Hr w _ z (h2 z hm)) λb hb=>?_
  refine d_ (λ_=>ar λh=>(by cases h)) λh=>ar ?_
  dsimp only;refine ⟨gW (by omega),rfl,λk hk=>?_⟩;rcases b7 k i with h1|h1
  .exact e3 k h1
  .rw[show k=i by omega,J];exact hb h
 .rintro⟨a,x⟩ ⟨e1,e2,e3⟩;dsimp only at e1 e2 e3;subst e1;subst e2;refine dx (ar λ_=>⟨hv,hl,il (T:=vD) (p:=VT) λk hk=>(e3 k hk).1,hsv,λk hk=>(e3 k hk).2⟩)
abbrev TT:Type:=Int×List Int×List (List Int)×Int
structure TL (F:Int->Prop) (E:Nat) (l:List Int):Prop where
 a:GR l
 m:∀ y∈l,0<=y/\y<(E:Int)
 f:∀ y∈l,F y
theorem Ov:∀ (l:List Int) (lo hi:Int),GR l->(∀ y∈l,lo<=y/\y<hi)->(l.length:Int)<=max 0 (hi-lo)
 |[],lo,hi,_,_=>by simp;omega
 |x::r,lo,hi,h,hm=>by
  have h1:=hm x (dv ..);have h2:=Ov r (x+1) hi h.2 λy I=>⟨by have:=h.1 y I;omega,(hm y (cL _ I)).2⟩
  rw[bZ];omega
variable {F:Int->Prop}
theorem TL.len {E:Nat} {l:List Int} (h:TL F E l):l.length<=E:=by
 have:=Ov l 0 E h.a h.m;omega
theorem TL.nil (E:Nat):TL F E []:=⟨trivial,λy I=>(by cases I),λy I=>(by cases I)⟩
theorem TL.uni {E:Nat} {a b:List Int} (J:TL F E a) (hb:TL F E b):TL F E (wM a b):=
 ⟨OY a b,λy I=>by
   rcases Hs.1 I with h|h
   .exact J.m y h
   .exact hb.m y h,λy I=>(Hs.1 I).elim (J.f y) (hb.f y)⟩
theorem TL.mono {E M:Nat} {J:Int->Prop} {l:List Int} (h:TL F E l) (hf:E<=M) (U:∀ y,F y->J y):TL J M l:=⟨h.a,λy I=>⟨(h.m y I).1,by have:=(h.m y I).2;omega⟩,λy I=>U y (h.f y I)⟩
structure TH (F:Int->Prop) (E:Nat) (s:TT):Prop where
 r:s.2.1.length<=32
 t:s.2.2.1.length<=32
 l:∀ l∈s.2.2.1,TL F E l
 e0:0<=s.2.2.2
 e1:s.2.2.2<=(E:Int)
theorem TH.zero (E:Nat):TH F E (0,[],[],0):=⟨by simp,by simp,λl hl=>(by cases hl),by simp,by simp⟩
theorem TH.mono {E J:Nat} {I:Int->Prop} {s:TT} (h:TH F E s) (hf:E<=J) (M:∀ y,F y->I y):TH I J s:=⟨h.r,h.t,λl hl=>(h.l l hl).mono hf M,h.e0,by have:=h.e1;omega⟩
theorem c5 (s:TT) (E:Nat) (Y:E<=100000) (h:TH F E s):cg s=af ((s.1,s.2.2.2),s.2.1,s.2.2.1):=by
 obtain⟨h1,h2,U,h4,Z⟩:=h;refine cJ ?_;unfold cg aV bg bp bL cO bx bE bK aX cK aE cB;refine bk (by simp;omega) (by omega) ?_;refine ch s.2.2.1.length (λi x=>x.1=(i:Int)/\x.2.1=s/\x.2.2.2.1=(s.1,s.2.2.2)/\x.2.2.2.2.1=s.2.1/\x.2.2.2.2.2=s.2.2.1.take i) ?_ ?_ ⟨rfl,rfl,rfl,rfl,rfl⟩
 .rintro i ⟨a,b,c,d,e,f⟩ hi ⟨e1,e2,e3,J,I⟩;dsimp only at e1 e2 e3 J I;subst e1;subst e2;subst I;refine dC ?_;refine cD (aT ?_);have M:=(U _ (bJ (T:=.sl (.int .i64)) (xs:=b.2.2.1) (j:=(i:Int)) (by omega) (by omega))).len;refine bk (by simp only[jQ,bN];exact dc M (by omega)) (by omega) ?_;refine bk (by simp;omega) (by omega) (ar ?_);dsimp only;refine ⟨gW (by omega),rfl,e3,J,?_⟩;rw[nR (T:=.sl (.int .i64)) hi];rfl
 .rintro⟨a,b,c,d,e,f⟩ ⟨e1,e2,e3,J,I⟩;dsimp only at e1 e2 e3 J I;subst e1;subst e2;subst I;refine dx (ar ?_);show (d,e,_)=_;rw[e3,J,cP]
theorem vG (b:Bool):Ok (fQ b) λ_=>True:=by
 unfold fQ;with_reducible repeat' first|(refine OS.ok ?_;constructor)|refine IM.mk λ_=>?_
 all_goals trivial
theorem E5 (n:Int):Ok (l8 n) λ_=>True:=by
 unfold l8 bx aE;with_reducible repeat' first|(refine OS.ok ?_;constructor)|refine IM.mk λ_=>?_
 all_goals trivial
theorem aa6 (x:Int×Int):Ok (tP x) λ_=>True:=by
 unfold tP be;refine aK (λ_=>ar trivial) λ_=>aK (λ_=>?_) λ_=>ar trivial
 exact ax (vG _) λ_ _=>ar trivial
theorem Yq (x:Int×Int×Int):Ok (rS x) λ_=>True:=by
 unfold rS be iI bE aE;have t1:∀ b,Ok (obind (fQ b) λy=>af (y,ai)) λ_=>True:=λb=>ax (vG _) λ_ _=>ar trivial
 refine aK (λ_=>ar trivial) λ_=>aK (λ_=>ar trivial) λ_=>aK (λ_=>ar trivial) λ_=>?_
 refine aK (λ_=>aK (λ_=>ar trivial) λh=>yp h (ar trivial)) λ_=>?_
 refine aK (λ_=>aK (λ_=>ar trivial) λh=>yp h (ar trivial)) λ_=>?_
 refine aK (λ_=>t1 _) λ_=>aK (λ_=>t1 _) λ_=>aK (λ_=>t1 _) λ_=>aK (λ_=>t1 _) λ_=>aK (λ_=>t1 _) λ_=>aK (λ_=>t1 _) λ_=>?_
 refine aK (λ_=>aY (λ_=>True) (b8 (λ_=>ax (vG _) λ_ _=>ar trivial) λ_=>ax (vG _) λ_ _=>ar trivial) λ_ _=>ar trivial) λ_=>?_
 exact aK (λ_=>aY (λ_=>True) (b8 (λ_=>ax (vG _) λ_ _=>ar trivial) λ_=>ax (vG _) λ_ _=>ar trivial) λ_ _=>ar trivial) λ_=>ar trivial
theorem WC (E:Nat) (hE:E<=100000) (i:IT) (p:Int×Int) (R:List Int) (T:List (List Int)) (hr:∀ j∈iJ i,0<=j/\j<(R.length:Int)) (o1:1<=i.1) (o2:i.1<=5) (hR:R.length<=32) (I:T.length=R.length) (hl:∀ l∈T,TL F E l):Ok (vO ((i,p),R,T)) λy=>y.1.1.2=p.2/\y.2.1.length=R.length/\y.2.2.length=T.length/\∀ l∈y.2.2,TL F E l:=by
 unfold vO aV bg bp ck be bx bE bK kA aX cK aE cB;refine aU (s5 i) ?_;have h3:=B4 i;refine ch (iJ i).length (λj x=>x.1=(j:Int)/\x.2.1=R/\x.2.2.1=T/\x.2.2.2.1=i/\x.2.2.2.2.1=p) ?_ ?_ ⟨rfl,rfl,rfl,rfl,rfl⟩
 .rintro j ⟨a,b,c,d,e⟩ hj ⟨e1,e2,e3,Z,M⟩;dsimp only at e1 e2 e3 Z M;subst e1;subst e2;subst e3;subst Z;refine dC ?_;have hz:=hr _ (bJ (T:=.int .i64) (xs:=iJ d) (j:=(j:Int)) (by omega) (by omega));refine aY (λx=>x.2=(b,c,d,e)/\x.1=aj) ?_ ?_
  .refine cD (aT ?_);refine bH (λg=>?_) λ_=>?_
   .dsimp only at g;omega
   refine cD (aT (ar ⟨rfl,?_⟩));dsimp only;rw[lP];exact hz.2
  rintro⟨b',x⟩ ⟨Y,U⟩;dsimp only at Y U;subst Y;subst U;refine aP (λh=>(by cases h)) λ_=>ar ?_
  dsimp only;exact⟨gW (by omega),rfl,rfl,rfl,M⟩
 .rintro⟨a,b,c,d,e⟩ ⟨e1,e2,e3,Z,M⟩;dsimp only at e1 e2 e3 Z M;subst e1;subst e2;subst e3;subst Z;refine dx ?_;obtain⟨e,e'⟩:=e;dsimp only at M;subst M;refine ax (P:=λy=>y.1.1.2=e.2/\y.2.1.length=b.length/\y.2.2.length=c.length/\∀ l∈y.2.2,TL F E l) ?_ λr hr=>ar hr
  have hA:d.1≠5->0<=d.2.1/\d.2.1<(b.length:Int):=λh5=>hr _ (by
   unfold iJ;(repeat' split)<;>simp<;>omega)
  have hB:2<=d.1->d.1≠5->0<=d.2.2.1/\d.2.2.1<(b.length:Int):=λh2 h5=>hr _ (by
   unfold iJ;(repeat' split)<;>simp<;>omega)
  have hC:d.1=4->0<=d.2.2.2.1/\d.2.2.2.1<(b.length:Int):=λh5=>hr _ (by
   unfold iJ;(repeat' split)<;>simp<;>omega)
  have hg:∀ {j:Int},0<=j->j<(b.length:Int)->TL F E (aJ (T:=.sl (.int .i64)) c j):=λh0 h1=>hl _ (bJ (T:=.sl (.int .i64)) (xs:=c) h0 (by rw[I];exact h1))
  refine aY (λx=>x.2.1=b/\x.2.2.1=c/\x.2.2.2.1=d/\x.2.2.2.2.1=e/\TL F E x.1.2.2/\d.1≠5) ?_ ?_
  .refine aK (λ_=>ar ⟨rfl,rfl,rfl,hl⟩) λJ=>?_
   refine aK (λ_=>ar ⟨rfl,rfl,rfl,rfl,TL.nil E,J⟩) λn1=>?_
   dsimp only at n1 J;obtain⟨b0,b1⟩:=hB (by omega) J;refine aK (λ_=>?_) λn2=>?_
   .refine aR b0 b1 (aR b0 b1 (aT ?_));refine aR b0 (by dsimp only;rw[I];exact b1) (aR b0 (by dsimp only;rw[I];exact b1) (aT ?_));exact ar ⟨rfl,rfl,rfl,rfl,hg b0 b1,J⟩
   refine aK (λ_=>?_) λn3=>?_
   .refine ax (E5 _) λy _=>?_
    refine aR b0 b1 (aR b0 b1 (aT ?_));refine ax (aa6 _) λy _=>?_
    refine aR b0 (by dsimp only;rw[I];exact b1) (aR b0 (by dsimp only;rw[I];exact b1) (aT ?_));exact ar ⟨rfl,rfl,rfl,rfl,hg b0 b1,J⟩
   dsimp only at n2 n3;obtain⟨c0,c1⟩:=hC (by omega);refine ax (E5 _) λy _=>?_
   refine aR b0 b1 (aR b0 b1 (aT ?_));refine aR c0 c1 (aR c0 c1 (aT ?_));refine ax (Yq _) λy _=>?_
   refine aR b0 (by dsimp only;rw[I];exact b1) (aR b0 (by dsimp only;rw[I];exact b1) (aT ?_));refine aR c0 (by dsimp only;rw[I];exact c1) (aR c0 (by dsimp only;rw[I];exact c1) (aT ?_));have g1:=hg b0 b1;have g2:=hg c0 c1;refine aU (RP _ _ (dc g1.len (by omega)) (dc g2.len (by omega))) ?_;exact ar ⟨rfl,rfl,rfl,rfl,g1.uni g2,J⟩
  rintro⟨⟨v,ok,tn⟩,b',c',d',e',e''⟩ ⟨Y,U,f3,f4,f5,f6⟩;dsimp only at Y U f3 f4 f5 f6;subst Y;subst U;subst f3;subst f4;obtain⟨a0,a1⟩:=hA f6;have ht:=f5.len;refine bk (by simp;omega) (by omega) ?_;refine aR a0 a1 (aR a0 a1 (aR a0 (by dsimp only;rw[I];exact a1) (aR a0 (by dsimp only;rw[I];exact a1) (ar ?_))));refine ⟨rfl,bR ..,bR ..,λl hm=>?_⟩;rcases BW hm with h|h
  .exact hl l h
  .rw[h];exact f5
theorem X2 (E:Nat) (Z:E<=100000) (c:Int×List IT) (hc:c.2.length<=1000000) (hv:VT c) (s:TT) (h:TH F E s):Ok (mP (c,s)) λy=>TH F E y.1/\(y.1.2.1.length=0\/y.1.2.2.2=s.2.2.2):=by
 unfold mP aV bg bp bL db cO be bx jN iI bE bK aX cK aE cB;have J:=h;obtain⟨h1,h2,h3,h4,h5⟩:=h;refine aY (λx=>x.2.1=c/\x.2.2.1=s/\(x.1=aj->(s.2.1.length:Int)=c.1/\(s.2.2.1.length:Int)=c.1)) ?_ ?_
 .refine b8 (λ_=>ar ⟨rfl,rfl,λh=>(by cases h)⟩) λg=>ar ⟨rfl,rfl,λh=>?_⟩
  simp at h;exact⟨g,h⟩
 rintro⟨b,c',s',z⟩ ⟨e1,e2,e3⟩;dsimp only at e1 e2 e3;subst e1;subst e2;refine aP (λ_=>ar ⟨TH.zero E,.inl rfl⟩) λhb=>?_
 obtain⟨q1,q2⟩:=e3 hb;refine aU (c5 s' E Z J) ?_;refine pM (λx=>((c'.2.length:Int)+1-x.1).toNat) (λx=>0<=x.1/\x.1<=(c'.2.length:Int)+1/\x.2.1=c'/\x.2.2.1.2=s'.2.2.2/\x.2.2.2.2.1.length=s'.2.1.length/\x.2.2.2.2.2.length=s'.2.2.1.length/\∀ l∈x.2.2.2.2.2,TL F E l) ?_ ⟨by dsimp only;omega,by dsimp only;omega,rfl,rfl,rfl,rfl,h3⟩;rintro⟨(n:Int),c,⟨(I:Int),ev⟩,z',R,T⟩ ⟨n0,n1,e1,e2,e3,e4,M⟩;dsimp only at n0 n1 e1 e2 e3 e4 M;subst e1;subst e2;refine fw (λg=>?_) λ_=>ar ⟨TH.zero E,.inl rfl⟩
 dsimp only[au] at g;refine aY (λx=>x.2=(c,(I,s'.2.2.2),z',R,T)/\(x.1=aj->0<=I/\I<(c.2.length:Int))) ?_ ?_
 .refine bH (λ_=>ar ⟨rfl,λh=>(by cases h)⟩) λg1=>ar ⟨rfl,λh=>?_⟩
  dsimp only at g1 h;rw[lP] at h;exact⟨g1,h⟩
 rintro⟨b',x⟩ ⟨f1,f2⟩;dsimp only at f1 f2;subst f1;refine aP (λ_=>ar ⟨TH.zero E,.inl rfl⟩) λhb=>?_
 obtain⟨p0,p1⟩:=f2 hb;refine aR p0 p1 (aT ?_);have hi:=hv.i _ (bJ (T:=AS) (xs:=c.2) (j:=I) p0 p1);revert hi;generalize (aJ (T:=AS) _ _)=i;intro hi;refine aU (EJ _) ?_;refine b8 (λ_=>ar ⟨⟨by dsimp only;omega,by dsimp only;omega,M,h4,h5⟩,.inr rfl⟩) λhsil=>?_
 refine aK (λ_=>ar ⟨TH.zero E,.inl rfl⟩) λhn=>?_
 dsimp only[au] at hn;refine ax (WC E Z i (I,s'.2.2.2) R T (λj hj=>by have:=hi.r j hj;omega) hsil.1 hsil.2 (by omega) (by omega) M) λy hy=>?_
 obtain⟨⟨⟨pc',ev'⟩,ok⟩,R',T'⟩:=y;obtain⟨k1,k2,Y,U⟩:=hy;dsimp only at k1 k2 Y U;refine c6 (li Y.symm (c6 (li k2.symm (Ak ?_))));refine d_ (λ_=>ar ⟨TH.zero E,.inl rfl⟩) λ_=>ar ?_
 dsimp only;rw[ic (by omega) (by omega)];exact⟨⟨by omega,by omega,rfl,k1,by omega,by omega,U⟩,by omega⟩
abbrev ST:Type:=SY×List Int×List Int×List TT
structure TF (c:Int×List IT) (t:TT):Prop where
 p0:0<=t.1
 p1:t.1<(c.2.length:Int)
 r:(t.2.1.length:Int)=c.1
 t:(t.2.2.1.length:Int)=c.1
structure FSx (c:CT) (s:ST):Prop where
 vc:VC c
 cd:∀ d∈c.1.2.2.1,0<=d.2/\d.2<(c.1.2.1.length:Int)
 e3:s.1.2.2.2.length=c.1.2.2.2.2.1.length
 ce:s.2.1.length=c.1.1.length
 fu:s.2.2.1.length=c.1.2.2.2.1.length
 th:s.2.2.2.length=c.2.length
 t:∀ k:Nat,k<c.2.length->TF (aJ (T:=vD) c.2 (k:Int)) (aJ (T:=um) s.2.2.2 (k:Int))
def FQ (L:List ET) (k:Int) (y:Int):Prop:=1<=y/\Kg L k y
structure SV (n:Nat) (L:List ET) (s:ST):Prop where
 sb:SB n s.1
 ln:L.length=n
 t:∀ k:Nat,k<s.2.2.2.length->TH (FQ L k) n (aJ (T:=um) s.2.2.2 (k:Int))
theorem SV.ti {n:Nat} {L:List ET} {s:ST} (h:SV n L s) {k:Int} (h0:0<=k) (h1:k<(s.2.2.2.length:Int)):TH (FQ L k) n (aJ (T:=um) s.2.2.2 k):=by
 have:=h.t k.toNat (by omega);rw[show ((k.toNat:Nat):Int)=k by omega] at this;exact this
structure TG (c:CT) (L:List ET) (sy:SY) (k:Int) (t:TT):Prop where
 ev:t.2.2.2=((fl L k).length:Int)
 wi:(aJ (T:=ju) sy.2.2.2 k).1=3\/(aJ (T:=ju) sy.2.2.2 k).1=4->(aJ (T:=AS) (aJ (T:=vD) c.2 k).2 t.1).1=21
 nw:(fl L k).length=0->(aJ (T:=ju) sy.2.2.2 k).1=0\/(aJ (T:=ju) sy.2.2.2 k).1=1
structure Ks (c:CT) (L:List ET) (s:ST):Prop where
 ac:Acw c.1 L s.1 s.2.1 s.2.2.1
 t:∀ k:Nat,k<s.2.2.2.length->(aJ (T:=um) s.2.2.2 (k:Int)).2.1.length=0\/TG c L s.1 (k:Int) (aJ (T:=um) s.2.2.2 (k:Int))
theorem acp (c:CT) (s:ST) (hc:CB c):Ok (vN (c,s)) λb=>b=ai->FSx c s:=by
 unfold vN aV bg db cO bx jN iI bK aX cK aE cB;refine aY (λx=>x.2=(c,s)/\(x.1=aj->VC c/\(∀ d∈c.1.2.2.1,0<=d.2/\d.2<(c.1.2.1.length:Int))/\s.1.2.2.2.length=c.1.2.2.2.2.1.length/\s.2.1.length=c.1.1.length/\s.2.2.1.length=c.1.2.2.2.1.length/\s.2.2.2.length=c.2.length)) ?_ ?_
 .refine ax (RO c hc.th hc.ins) λb hb=>?_
  refine d_ (λ_=>ar ⟨rfl,λh=>(by cases h)⟩) λh=>?_
  have hv:=hb h;refine ax (OK c.1 s.1 (by have:=hv.vl.d;omega)) λb2 I=>?_
  refine d_ (λ_=>ar ⟨rfl,λh=>(by cases h)⟩) λh2=>?_
  obtain⟨J,_,_,Z⟩:=I h2;refine b8 (λ_=>ar ⟨rfl,λh=>(by cases h)⟩) λk1=>?_
  refine b8 (λ_=>ar ⟨rfl,λh=>(by cases h)⟩) λk2=>ar ⟨rfl,λU=>⟨hv,J,Z,?_,?_,?_⟩⟩
  .dsimp only[au] at k1;omega
  .dsimp only[au] at k2;omega
  .simp at U;omega
 rintro⟨b,x⟩ ⟨e,hb⟩;dsimp only at e hb;subst e;refine aP (λ_=>ar λh=>(by cases h)) λh=>?_
 obtain⟨hv,hcd,Y,hce,hfu,hth⟩:=hb h;have hcl:=hc.th;refine ch c.2.length (λi x=>x.1=(i:Int)/\x.2=(c,s)/\∀ k:Nat,k<i->TF (aJ (T:=vD) c.2 (k:Int)) (aJ (T:=um) s.2.2.2 (k:Int))) ?_ ?_ ⟨rfl,rfl,λk hk=>by omega⟩
 .rintro i ⟨a,x⟩ hi ⟨e1,e2,e3⟩;dsimp only at e1 e2 e3;subst e1;subst e2;refine dC ?_;have hin:((i:Nat):Int)<(c.2.length:Int):=by omega
  refine cD (aT ?_);refine aY (λx=>x.2=(c,s)/\(x.1=aj->TF (aJ (T:=vD) c.2 (i:Int)) (aJ (T:=um) s.2.2.2 (i:Int)))) ?_ ?_
  .refine bH (λ_=>ar ⟨rfl,λh=>(by cases h)⟩) λg0=>?_
   refine aR (by dsimp only;omega) hin (aT ?_);refine fw (λ_=>ar ⟨rfl,λh=>(by cases h)⟩) λJ=>?_
   refine aR (by dsimp only;omega) hin (aT ?_);refine b8 (λ_=>ar ⟨rfl,λh=>(by cases h)⟩) λg2=>?_
   refine aR (by dsimp only;omega) hin (aT (ar ⟨rfl,λM=>⟨g0,J,g2,?_⟩⟩));simp at M;exact M
  rintro⟨b,x⟩ ⟨e,hb⟩;dsimp only at e hb;subst e;refine aP (λ_=>ar λh=>(by cases h)) λh=>ar ?_
  dsimp only;refine ⟨gW (by omega),rfl,λk hk=>?_⟩;rcases b7 k i with h1|h1
  .exact e3 k h1
  .rw[show k=i by omega];exact hb h
 .rintro⟨a,x⟩ ⟨e1,e2,e3⟩;dsimp only at e1 e2 e3;subst e1;subst e2;refine dx (ar λ_=>⟨hv,hcd,Y,hce,hfu,hth,e3⟩)
theorem ael {i:IT} (h:i.1=6\/i.1=7\/i.1=27\/i.1=10):i.2.1∈iJ i:=by
 unfold iJ;(repeat' split)<;>simp<;>omega
theorem aek {i:IT} (h:i.1=8\/i.1=9\/i.1=26):i.2.2.1∈iJ i:=by
 unfold iJ;(repeat' split)<;>simp<;>omega
theorem aiz {i:IT} (h:i.1=7\/i.1=9):i.2.2.2.1∈iJ i:=by
 unfold iJ;(repeat' split)<;>simp<;>omega
structure KD (op k:Int):Prop where
 ld:k=3->op=6\/op=7
 st:k=4->op=8\/op=9
 br:k=5->op=10
 se:k=22->op=26
 ge:k=23->op=27
 e1:k=2->op=28
 n1:¬k=1
 n17:¬k=17
 wt:k=16->op=21
 e2:¬k=0->op=28->k=2
 d7:¬k=0->op=7->k=3
 d8:¬k=0->op=8->k=4
 d9:¬k=0->op=9->k=4
 d10:¬k=0->op=10->k=5
 d26:¬k=0->op=26->k=22
theorem ac3 (op:Int):Ok (vL op) λk=>KD op k:=by
 unfold vL bx kA aE;refine aY (λx=>x.2=[3,3,4,4,5,6,7,8,9,10,11,12,13,14,15,16,18,19,20,21,22,23,2]/\(x.1=aj->6<=op/\op<=28)) ?_ ?_
 .refine bH (λ_=>ar ⟨rfl,λh=>(by cases h)⟩) λg=>ar ⟨rfl,λh=>?_⟩
  dsimp only at h;rw[fZ] at h;exact⟨g,h⟩
 rintro⟨b,x⟩ ⟨e,hb⟩;dsimp only at e hb;subst e;refine aP (λ_=>ar (by constructor<;>first|decide|(intro h;first|(exact (h rfl).elim)|(cases h;done)))) λh=>?_
 obtain⟨h1,h2⟩:=hb h;dsimp only;rw[ic (n:=op-6) (by omega) (by omega)];refine aR (by omega) (by simp;omega) (aR (by omega) (by simp;omega) (aT (ar ?_)));have:op=6\/op=7\/op=8\/op=9\/op=10\/op=11\/op=12\/op=13\/op=14\/op=15\/op=16\/op=17\/op=18\/op=19\/op=20\/op=21\/op=22\/op=23\/op=24\/op=25\/op=26\/op=27\/op=28:=by omega
 rcases this with rfl|rfl|rfl|rfl|rfl|rfl|rfl|rfl|rfl|rfl|rfl|rfl|rfl|rfl|rfl|rfl|rfl|rfl|rfl|rfl|rfl|rfl|rfl;all_goals (constructor<;>decide)
theorem R6 (a n:Int):Ok (qV (a,n)) λr=>n=2->r=0\/r=1:=by
 unfold qV bx bE aE;refine bH (λ_=>ar λh=>(by dsimp only at *;omega)) λh=>?_
 dsimp only at h;refine yp (by dsimp only;omega) ?_;have t1:=Int.tmod_lt_of_pos a (b:=n) (by omega);have I:=Int.lt_tmod_of_pos a (b:=n) (by omega);refine aY (λr=>n=2->r=0\/r=1) (bH (λg=>ar λh2=>?_) λg=>ar λh2=>?_) λ_ h=>ar h
 .dsimp only at g ⊢;rw[ic (by omega) (by omega)];omega
 .dsimp only at g ⊢;omega
theorem Pv (i:IT) (t:TT) (hr:∀ j∈iJ i,0<=j/\j<(t.2.1.length:Int)):Ok (rR (i,t)) λo=>(i.1=7->i.2.2.1=3->i.2.2.2.2.1=2->o=3\/o=4)/\(i.1=9->i.2.1=3->i.2.2.2.2.1=2->o=3\/o=4):=by
 unfold rR aV bg bp be bK aE;have J:i.1=7\/i.1=9->0<=i.2.2.2.1/\i.2.2.2.1<(t.2.1.length:Int):=λh=>hr _ (by
  unfold iJ;(repeat' split)<;>simp<;>omega)
 have tr:∀ {o:Int},¬i.1=7->¬i.1=9->(i.1=7->i.2.2.1=3->i.2.2.2.2.1=2->o=3\/o=4)/\(i.1=9->i.2.1=3->i.2.2.2.2.1=2->o=3\/o=4):=λh1 h2=>⟨λh=>(h1 h).elim,λh=>(h2 h).elim⟩
 have wk:∀ {b r n:Int},b=3->n=2->(n=2->r=0\/r=1)->bl .i64 (b+r)=3\/bl .i64 (b+r)=4:=λh1 h2 I=>by
  have:=I h2;rw[ic (by omega) (by omega)];omega
 refine aY (λx=>x.2=(i,t)/\(x.1=ai->i.1=6\/i.1=27)) (aK (λh=>ar ⟨rfl,λ_=>.inl h⟩) λ_=>ar ⟨rfl,λh=>.inr (bt h)⟩) ?_;rintro⟨b,x⟩ ⟨e,hb⟩;dsimp only at e hb;subst e;refine aP (λh=>ar (tr (by have:=hb h;omega) (by have:=hb h;omega))) λ_=>?_
 refine aK (λh=>?_) λM=>?_
 .exact aR (J (.inl h)).1 (J (.inl h)).2 (aT (ax (R6 _ _) λy U=>ar ⟨λ_ I Y=>wk I Y U,λh9=>by dsimp only at h;omega⟩))
 refine aK (λh=>?_) λZ=>?_
 .exact aR (J (.inr h)).1 (J (.inr h)).2 (aT (ax (R6 _ _) λy U=>ar ⟨λh7=>(M h7).elim,λ_ I Y=>wk I Y U⟩))
 refine aY (λ_=>True) ?_ λx _=>aP (λ_=>ar (tr M Z)) λ_=>ar (tr M Z)
 with_reducible repeat' first|(refine OS.ok ?_;constructor)|refine IM.mk λ_=>?_
 all_goals trivial
theorem af1 {w:WT} (I:w.1=C0) {b n:Int} (h:AR w b n):b=3/\n=2:=by
 obtain⟨b0,b1,ix,sz,sn⟩:=h;rw[I] at b1 ix sz sn;have b1:b<5:=b1;rcases (by omega:b=0\/b=1\/b=2\/b=3\/b=4) with rfl|rfl|rfl|rfl|rfl
 .exact (sz rfl).elim
 .exact (sz rfl).elim
 .exact (sz rfl).elim
 .exact⟨rfl,sn.symm⟩
 .exact cU ix (by decide)
theorem aed {w:WT} (I:w.1=C0) {o:Int} (h:o=3\/o=4):¬(aJ (T:=OZ) w.1 o).2.2.1=0:=by
 rw[I];rcases h with rfl|rfl<;>decide
structure PE (n:Nat) (c:CT) (s:ST) (t:Int) (e:ET):Prop where
 fs:FSx c s
 t0:0<=t
 t1:t<(c.2.length:Int)
 et:e.1=t
 d:e.2.2.2.2.2.1.length<=n
 f:e.2.2.2.2.2.2.length<=n
 a:e.2.1=3\/e.2.1=23\/e.2.1=5->0<=(aJ (T:=AS) (aJ (T:=vD) c.2 t).2 (aJ (T:=um) s.2.2.2 t).1).2.1/\(aJ (T:=AS) (aJ (T:=vD) c.2 t).2 (aJ (T:=um) s.2.2.2 t).1).2.1<((aJ (T:=um) s.2.2.2 t).2.1.length:Int)
 b:e.2.1=4\/e.2.1=22->0<=(aJ (T:=AS) (aJ (T:=vD) c.2 t).2 (aJ (T:=um) s.2.2.2 t).1).2.2.1/\(aJ (T:=AS) (aJ (T:=vD) c.2 t).2 (aJ (T:=um) s.2.2.2 t).1).2.2.1<((aJ (T:=um) s.2.2.2 t).2.1.length:Int)
structure PS (c:CT) (L:List ET) (s:ST) (t:Int) (e:ET):Prop where
 tg:TG c L s.1 t (aJ (T:=um) s.2.2.2 t)
 s1:e.2.1=1\/e.2.1=2->e.2.2.2.2.1= -1
 s2:¬(e.2.1=1\/e.2.1=2)->0<=e.2.2.2.2.1/\e.2.2.2.2.1<c.1.2.2.2.2.2.length/\(aJ (T:=xy) c.1.2.2.2.2.2 e.2.2.2.2.1).1=t
 de:0<e.2.2.2.2.2.1.length->e.2.1=5\/(e.2.1=3\/e.2.1=4)/\¬(aJ (T:=OZ) c.1.1 e.2.2.1).2.2.1=0
 fr:0<e.2.2.2.2.2.2.length->e.2.1=4\/e.2.1=22
 da:GR e.2.2.2.2.2.1
 dq:∀ y∈e.2.2.2.2.2.1,FQ L t y
 fa:GR e.2.2.2.2.2.2
 fq:∀ y∈e.2.2.2.2.2.2,FQ L t y
 wt:e.2.1=16->(aJ (T:=AS) (aJ (T:=vD) c.2 t).2 (aJ (T:=um) s.2.2.2 t).1).1=21
theorem UX (n:Nat) (hn:n<=100000) (c:CT) (L:List ET) (s:ST) (hc:CB c) (hs:SV n L s) (hI:Ks c L s) (t:Int):Ok (nz (c,s,t)) λy=>y.2=ai->PE n c s t y.1/\PS c L s t y.1:=by
 unfold nz aV bg bp bL db cO be bx bE bK aX aE;refine aY (λx=>x.2.1=c/\x.2.2.1=s/\(x.1=aj->FSx c s/\0<=t/\t<(c.2.length:Int))) ?_ ?_
 .refine ax (acp c s hc) λb hb=>?_
  refine d_ (λ_=>ar ⟨rfl,rfl,λh=>(by cases h)⟩) λh=>?_
  refine bH (λ_=>ar ⟨rfl,rfl,λh=>(by cases h)⟩) λg0=>ar ⟨rfl,rfl,λg1=>?_⟩
  dsimp only at g0 g1;rw[lP] at g1;exact⟨hb h,g0,g1⟩
 rintro⟨b,c',s',z⟩ ⟨e1,e2,hb⟩;dsimp only at e1 e2 hb;subst e1;subst e2;refine aP (λ_=>ar λh=>(by cases h)) λh=>?_
 obtain⟨hf,t0,t1⟩:=hb h;have hk:((t.toNat:Nat):Int)=t:=by omega
 have htf:=hf.t t.toNat (by omega);rw[hk] at htf;have hvt:=hf.vc.t _ (bJ (T:=vD) (xs:=c'.2) (j:=t) t0 t1);have hth:=hs.ti t0 (by rw[hf.th];exact t1);have key:∀ e:ET,e.1=t->e.2.2.2.2.2.1.length<=n->e.2.2.2.2.2.2.length<=n->(e.2.1=1\/e.2.1=17\/KD (aJ (T:=AS) (aJ (T:=vD) c'.2 t).2 (aJ (T:=um) s'.2.2.2 t).1).1 e.2.1)->PE n c' s' t e:=by
  intro e h1 h2 h3 J;have hi:=hvt.i _ (bJ (T:=AS) (xs:=(aJ (T:=vD) c'.2 t).2) (j:=(aJ (T:=um) s'.2.2.2 t).1) htf.p0 htf.p1);refine ⟨hf,t0,t1,h1,h2,h3,λh5=>?_,λh5=>?_⟩
  .rw[htf.r];rcases J with J|J|J
   .omega
   .omega
   .refine hi.r _ ?_;have a1:=J.ld;have a2:=J.ge;have a3:=J.br;revert a1 a2 a3 h5;generalize (aJ (T:=AS) (aJ (T:=vD) c'.2 t).2 (aJ (T:=um) s'.2.2.2 t).1)=i;intro h5 a1 a2 a3;exact ael (by omega)
  .rw[htf.r];rcases J with J|J|J
   .omega
   .omega
   .refine hi.r _ ?_;have a1:=J.st;have a2:=J.se;revert a1 a2 h5;generalize (aJ (T:=AS) (aJ (T:=vD) c'.2 t).2 (aJ (T:=um) s'.2.2.2 t).1)=i;intro h5 a1 a2;exact aek (by omega)
 have hir:=(hvt.i _ (bJ (T:=AS) (xs:=(aJ (T:=vD) c'.2 t).2) (j:=(aJ (T:=um) s'.2.2.2 t).1) htf.p0 htf.p1)).r;rw[<- htf.r] at hir;have hrg:=hc.rg _ (bJ (T:=vD) (xs:=c'.2) (j:=t) t0 t1);have htg:TG c' L s'.1 t (aJ (T:=um) s'.2.2.2 t):=by
  have:=hI.t t.toNat (by rw[hf.th];omega);rw[hk] at this;refine this.resolve_left λh=>?_
  have:=htf.r;omega
 have hvj:=hf.vc.j t.toNat (by omega);rw[hk] at hvj;have hvj:=hvj _ (bJ (T:=AS) (xs:=(aJ (T:=vD) c'.2 t).2) (j:=(aJ (T:=um) s'.2.2.2 t).1) htf.p0 htf.p1);have hC0:=hc.wx.c;refine aR t0 (by dsimp only;rw[hf.th];exact t1) (aT ?_);refine aR t0 t1 (aT ?_);refine aR htf.p0 htf.p1 (aT ?_);have t4:t<(s'.1.2.2.2.length:Int):=by rw[hf.e3,<-hf.vc.tl];exact t1
 have tz:(aJ (T:=um) s'.2.2.2 t).2.2.1.length=(aJ (T:=um) s'.2.2.2 t).2.1.length:=by have:=htf.r;have:=htf.t;omega
 refine aR t0 t4 (aT ?_);refine aK (λ_=>ar λ_=>⟨key _ rfl (kU _) (kU _) (.inl rfl),⟨htg,λ_=>rfl,λh=>(h (.inl rfl)).elim,λh=>(by cases h),λh=>(by cases h),trivial,λy Z=>(by cases Z),trivial,λy Z=>(by cases Z),λh=>(by cases h)⟩⟩) λ_=>?_
 refine aK (λJ=>aR t0 t4 (aT (ar λ_=>⟨key _ rfl (kU _) (kU _) (.inr (.inl rfl)),⟨htg,λh=>(by rcases h with h|h<;>cases h),λ_=>hvj.si (by rw[htg.wi (.inr J)];decide),λh=>(by cases h),λh=>(by cases h),trivial,λy Z=>(by cases Z),trivial,λy Z=>(by cases Z),λh=>(by cases h)⟩⟩))) λ_=>?_
 refine aK (λ_=>?_) λ_=>ar λh=>(by cases h)
 refine ax (ac3 _) λk I=>?_
 refine ax (Pv _ _ hir) λo ho=>?_
 refine aK (λ_=>ar λh=>(by cases h)) λM=>?_
 have fin:∀ e:ET,e.1=t->e.2.1=k->e.2.2.1=o->e.2.2.2.2.1=(aJ (T:=AS) (aJ (T:=vD) c'.2 t).2 (aJ (T:=um) s'.2.2.2 t).1).2.2.2.2.2->(0<e.2.2.2.2.2.1.length->(aJ (T:=AS) (aJ (T:=vD) c'.2 t).2 (aJ (T:=um) s'.2.2.2 t).1).1=10\/(aJ (T:=AS) (aJ (T:=vD) c'.2 t).2 (aJ (T:=um) s'.2.2.2 t).1).1=7\/(aJ (T:=AS) (aJ (T:=vD) c'.2 t).2 (aJ (T:=um) s'.2.2.2 t).1).1=9)->(0<e.2.2.2.2.2.2.length->(aJ (T:=AS) (aJ (T:=vD) c'.2 t).2 (aJ (T:=um) s'.2.2.2 t).1).1=8\/(aJ (T:=AS) (aJ (T:=vD) c'.2 t).2 (aJ (T:=um) s'.2.2.2 t).1).1=9\/(aJ (T:=AS) (aJ (T:=vD) c'.2 t).2 (aJ (T:=um) s'.2.2.2 t).1).1=26)->TL (FQ L t) n e.2.2.2.2.2.1->TL (FQ L t) n e.2.2.2.2.2.2->PE n c' s' t e/\PS c' L s' t e:=by
  intro e h1 h2 h3 J h5 h6 h7 h8;refine ⟨key e h1 h7.len h8.len (.inr (.inr (h2▸I))),htg,λh=>?_,λh=>?_,λh=>?_,λh=>?_,h7.a,h7.f,h8.a,h8.f,λh=>I.wt (h2▸h)⟩
  .rw[J];rw[h2] at h;exact hvj.se (I.e1 (h.resolve_left I.n1))
  .rw[J];rw[h2] at h;exact hvj.si λh9=>h (.inr (I.e2 M h9))
  .rw[h2,h3];rcases h5 h with g|g|g
   .exact .inl (I.d10 M g)
   .obtain⟨q1,q2⟩:=af1 hC0 (hvj.a7 g);exact .inr ⟨.inl (I.d7 M g),aed hC0 (ho.1 g q1 q2)⟩
   .obtain⟨q1,q2⟩:=af1 hC0 (hvj.a9 g);exact .inr ⟨.inr (I.d9 M g),aed hC0 (ho.2 g q1 q2)⟩
  .rw[h2];rcases h6 h with g|g|g
   .exact .inl (I.d8 M g)
   .exact .inl (I.d9 M g)
   .exact .inr (I.d26 M g)
 clear key htg hvj ho hC0 hrg;revert fin htf hvt hth hir tz I;dsimp only;generalize (aJ (T:=um) s'.2.2.2 t)=th;generalize (aJ (T:=AS) _ th.1)=i;intro htf hvt hth hir tz I fin;have hlen:∀ {j:Int},0<=j->j<(th.2.2.1.length:Int)->TL (FQ L t) n (aJ (T:=.sl (.int .i64)) th.2.2.1 j):=λh0 h1=>hth.l _ (bJ (T:=.sl (.int .i64)) (xs:=th.2.2.1) h0 h1)
 have hA:i.1=10->0<=i.2.1/\i.2.1<(th.2.2.1.length:Int):=λh=>by
  rw[tz];exact hir _ (ael (.inr (.inr (.inr h))))
 have hB:i.1=8\/i.1=9\/i.1=26->0<=i.2.2.1/\i.2.2.1<(th.2.2.1.length:Int):=λh=>by
  rw[tz];exact hir _ (aek (h))
 have hC:i.1=7\/i.1=9->0<=i.2.2.2.1/\i.2.2.2.1<(th.2.2.1.length:Int):=λh=>by
  rw[tz];exact hir _ (aiz (h))
 refine aY (λx=>x.2.1=th/\x.2.2.1=i/\(x.2.2.2.1.1=t/\x.2.2.2.1.2.1=k/\x.2.2.2.1.2.2.1=o/\x.2.2.2.1.2.2.2.2=i.2.2.2.2.2)/\TL (FQ L t) n x.2.2.2.2/\(0<x.2.2.2.2.length->i.1=10\/i.1=7\/i.1=9)) ?_ ?_
 .refine aK (λh=>?_) λ_=>?_
  .obtain⟨a0,a1⟩:=hA h;refine aR a0 a1 (aT ?_);have:=hlen a0 a1;exact bk (dc this.len (by omega)) (by omega) (ar ⟨rfl,rfl,⟨rfl,rfl,rfl,rfl⟩,this,λ_=>.inl h⟩)
  refine aY (λx=>x.2.2.1=th/\x.2.2.2.1=i/\(x.2.2.2.2.1=t/\x.2.2.2.2.2.1=k/\x.2.2.2.2.2.2.1=o/\x.2.2.2.2.2.2.2.2=i.2.2.2.2.2)/\(x.1=ai->i.1=7\/i.1=9)) ?_ ?_
  .refine aK (λh=>ar ⟨rfl,rfl,⟨rfl,rfl,rfl,rfl⟩,λ_=>.inl h⟩) λ_=>ar ⟨rfl,rfl,⟨rfl,rfl,rfl,rfl⟩,λh=>.inr (bt h)⟩
  rintro⟨b,z0,th',Y,t',k',z1⟩ ⟨e1,e2,e3,U⟩;dsimp only at e1 e2 e3 U;subst e1;subst e2;refine aP (λh=>?_) λ_=>ar ⟨rfl,rfl,e3,TL.nil n,λh=>(by cases h)⟩
  obtain⟨a0,a1⟩:=hC (U h);refine aR a0 a1 (aT ?_);have:=hlen a0 a1;exact bk (dc this.len (by omega)) (by omega) (ar ⟨rfl,rfl,e3,this,λ_=>.inr (U h)⟩)
 rintro⟨z0,th',Y,⟨t',k',z1⟩,ds⟩ ⟨e1,e2,e3,hd,hd2⟩;dsimp only at e1 e2 e3 hd hd2;subst e1;subst e2;refine aY (λx=>(x.2.1.1=t/\x.2.1.2.1=k/\x.2.1.2.2.1=o/\x.2.1.2.2.2.2=Y.2.2.2.2.2)/\x.2.2.1=ds/\TL (FQ L t) n x.2.2.2/\(0<x.2.2.2.length->Y.1=8\/Y.1=9\/Y.1=26)) ?_ ?_
 .refine aY (λx=>x.2=(z0,th',Y,(t',k',z1),ds)/\(x.1=ai->Y.1=8\/Y.1=9\/Y.1=26)) ?_ ?_
  .exact aK (λh=>ar ⟨rfl,λ_=>.inl h⟩) λ_=>aK (λh=>ar ⟨rfl,λ_=>.inr (.inl h)⟩) λ_=>ar ⟨rfl,λh=>.inr (.inr (bt h))⟩
  rintro⟨b,x⟩ ⟨e,U⟩;dsimp only at e U;subst e;refine aP (λh=>?_) λ_=>ar ⟨e3,rfl,TL.nil n,λh=>(by cases h)⟩
  obtain⟨a0,a1⟩:=hB (U h);refine aR a0 a1 (aT ?_);have:=hlen a0 a1;exact bk (dc this.len (by omega)) (by omega) (ar ⟨e3,rfl,this,λ_=>U h⟩)
 rintro⟨z2,⟨t2,k2,o2,z3,si⟩,d2,f2⟩ ⟨e1,e2,h1,h2⟩;dsimp only at e1 e2 h1 h2;subst e2;obtain⟨g1,g2,g3,g4⟩:=e1;exact ar λ_=>fin _ g1 g2 g3 g4 hd2 h2 hd h1
theorem afq {n:Nat} {k:Int} (h0:0<=k) (h1:k<n):(aJ (T:=ju) (Wy n) k).1=0\/(aJ (T:=ju) (Wy n) k).1=1:=by
 have hm:=bJ (T:=ju) (xs:=Wy n) h0 (by rw[G2];exact h1);revert hm;generalize aJ (T:=ju) (Wy n) k=z;intro hm;cases n with
 |zero=>cases hm
 |succ n=>
  rcases bi.1 hm with rfl|hm
  .exact .inr rfl
  .rw[pi hm];exact .inl rfl
theorem UU (c:CT) (hvt:jx c=af ai) (hv:VC c):Ok (tL c) λs=>SV 0 [] s/\Ks c [] s:=by
 unfold tL aV bg bp cw bL db cO eP bx ve bE bK aX cK aE cB;refine aU hvt (d_ (λh=>(by cases h)) λ_=>?_);obtain⟨vc,vl,vd,Z,_,Y,_⟩:=id hv.vl;have htl:=hv.tl;refine aU (J7 c.1 hv.vl) ?_;refine ch c.1.1.length (λi x=>x.1=(i:Int)/\x.2.1=c/\x.2.2.2.1=OM c.1/\x.2.2.2.2=(c.1.1.take i).map λc=>c.2.2.2.2) ?_ ?_ ⟨rfl,rfl,rfl,rfl⟩
 .rintro i ⟨a,c',z,U,l⟩ hi ⟨e1,e2,e3,I⟩;dsimp only at e1 e2 e3 I;subst e1;subst e2;subst e3;subst I;refine dC ?_;refine cD (aT (bk (by simp;omega) (by omega) (ar ?_)));dsimp only;exact⟨gW (by omega),rfl,rfl,by rw[nR (T:=OZ) hi,cN];rfl⟩
 rintro⟨a,c',z,U,l⟩ ⟨e1,e2,e3,I⟩;dsimp only at e1 e2 e3 I;subst e1;subst e2;subst e3;rw[cP] at I;subst I;refine dx ?_;refine ax (P:=λs=>SV 0 [] s/\Ks c' [] s) ?_ λr hr=>ar hr
 refine ch c'.1.2.2.2.1.length (λi x=>x.1=(i:Int)/\x.2.1=c'/\x.2.2.2.1=OM c'.1/\x.2.2.2.2.1=ZZ c'.1/\x.2.2.2.2.2=aG i 0) ?_ ?_ ⟨rfl,rfl,rfl,rfl,rfl⟩
 .rintro i ⟨a,c,z,y,l,f⟩ hi ⟨e1,e2,e3,I,J⟩;dsimp only at e1 e2 e3 I J;subst e1;subst e2;subst e3;subst J;refine dC ?_;refine bk (by simp;omega) (by omega) (ar ?_);dsimp only;exact⟨gW (by omega),rfl,rfl,I,by rw[Ds]⟩
 rintro⟨a,c,z,y,l,f⟩ ⟨e1,e2,e3,I,J⟩;dsimp only at e1 e2 e3 I J;subst e1;subst e2;subst e3;subst I;subst J;refine dx ?_;refine ax (P:=λs=>SV 0 [] s/\Ks c [] s) ?_ λr hr=>ar hr
 refine ch c.2.length (λi x=>x.1=(i:Int)/\x.2.1=c/\x.2.2.2.1=OM c.1/\x.2.2.2.2.1=ZZ c.1/\x.2.2.2.2.2.1=fu0 c.1/\x.2.2.2.2.2.2.length=i/\∀ t∈x.2.2.2.2.2.2,(∀ F,TH F 0 t)/\t.2.2.2=0) ?_ ?_ ⟨rfl,rfl,rfl,rfl,rfl,rfl,λt ht=>(by cases ht)⟩
 .rintro i ⟨a,c,z,y,l,f,th⟩ hi ⟨e1,e2,e3,I,e4b,J,M⟩;dsimp only at e1 e2 e3 I e4b J M;subst e1;subst e2;subst e3;refine dC ?_;have hin:((i:Nat):Int)<(c.2.length:Int):=by omega
  have hvt:=hv.t _ (bJ (T:=vD) (xs:=c.2) (j:=(i:Int)) (by omega) hin);have q0:=hvt.r0;have q1:=hvt.r1;refine aR (by dsimp only;omega) hin (aT ?_);refine c6 (c6 (dZ q0 (dZ (eJ _) (bk (by dsimp only;omega) (by omega) ?_))));refine aR (by dsimp only;omega) hin (aT ?_);refine c6 (c6 (dZ q0 (dZ (eJ _) (bk (by dsimp only;omega) (by omega) ?_))));refine bk (by simp;omega) (by omega) (ar ?_);dsimp only;refine ⟨gW (by omega),rfl,rfl,I,e4b,by simp;omega,λt ht=>?_⟩;rcases bW.1 ht with h|h
  .exact M t h
  .rw[aL] at h;subst h;refine ⟨λF=>⟨?_,?_,λl hl=>?_,eJ _,eJ _⟩,rfl⟩
   .dsimp only;rw[eC];omega
   .dsimp only;rw[eC];omega
   .rw[pi hl];exact TL.nil 0
 .rintro⟨a,c,z,y,l,f,th⟩ ⟨e1,e2,e3,I,e4b,J,M⟩;dsimp only at e1 e2 e3 I e4b J M;subst e1;subst e2;subst e3;subst I;subst e4b;refine dx (ar ?_);have hm:∀ k:Nat,k<th.length->_:=λk hk=>M _ (bJ (T:=um) (xs:=th) (j:=(k:Int)) (by omega) (by omega))
  refine ⟨⟨SE hv.vl,rfl,λk hk=>(hm k hk).1 _⟩,⟨.nil,λk hk=>.inr ?_⟩⟩;dsimp only at hk;have hst:=afq (n:=c.1.2.2.2.2.1.length) (k:=(k:Int)) (by omega) (by omega);exact⟨(hm k hk).2,λh=>(by rcases hst with q|q<;>rcases h with h|h<;>exact cU (q.symm.trans h) (by decide)),λ_=>hst⟩
theorem Hw {th:List (Int×Int×Bool)} {t x j:Int} (h0:0<=t) (h1:t<th.length) (hj:0<=j):(aJ (T:=ju) (xz th t x) j).1=if j=t then x else (aJ (T:=ju) th j).1:=by
 unfold xz;rw[rk (T:=ju) _ _ _ _ h0 h1 hj];split<;>rfl
theorem aeu {th:List (Int×Int×Bool)} {t x j:Int} (h0:0<=t) (h1:t<th.length) (hj:0<=j):(aJ (T:=ju) (cdP th t x) j).1=(aJ (T:=ju) th j).1:=by
 unfold cdP;rw[rk (T:=ju) _ _ _ _ h0 h1 hj];split
 .rename_i h;rw[h]
 .rfl
theorem af0 {th:List (Int×Int×Bool)} {t j:Int} {x:Bool} (h0:0<=t) (h1:t<th.length) (hj:0<=j):(aJ (T:=ju) (atP th t x) j).1=(aJ (T:=ju) th j).1:=by
 unfold atP;rw[rk (T:=ju) _ _ _ _ h0 h1 hj];split
 .rename_i h;rw[h]
 .rfl
theorem aen {j:Int} (hj:0<=j):∀ (l:List Int) (th:List (Int×Int×Bool)),(∀ u:Int,u∈l->0<=u/\u<th.length)->(aJ (T:=ju) (B' th l) j).1=if j∈l then 4 else (aJ (T:=ju) th j).1
 |[],th,_=>by simp[B']
 |x::r,th,h=>by
  have I:=h x (dv ..);have J:=aen hj r (xz th x 4) λu hu=>by unfold xz;rw[bR];exact h u (cL _ hu)
  have e:B' th (x::r)=B' (xz th x 4) r:=rfl;rw[e,J,Hw I.1 I.2 hj];by_cases h1:j∈r
  .rw[aF h1,aF (cL _ h1)]
  .rw[aC h1];by_cases h2:j=x
   .rw[aF h2,aF (by rw[h2];exact dv ..)]
   .rw[aC h2,aC λh=>(bi.1 h).elim h2 h1]
theorem Hh {l:List Int} (u:Int) (hl:¬l.length=0):AF l u∈l:=by
 unfold AF;rw[aC hl];split
 .rename_i h;exact sC.1 h
 .exact bJ (T:=.int .i64) (by omega) (by omega)
theorem RG {w:WT} {s:SY} {t k o u v:Int} {sy:SY} (h:(sy,v)=qK w s t k o u):qK w s t k o v=(sy,v):=by
 by_cases hk:k=18
 .subst hk;rw[EE] at h ⊢;by_cases hl:(wl s.2.2.2 o s.2.2.2.length).length=0
  .rw[aF hl] at h ⊢;exact h.symm
  .rw[aC hl] at h ⊢;have hm:=Hh u hl;generalize wl s.2.2.2 o s.2.2.2.length=l at h hl hm ⊢;obtain⟨rfl,rfl⟩:=Prod.mk.inj h;have:AF l (AF l u)=AF l u:=by
    rw[AF,aC hl,aF (sC.2 hm)]
   rw[this]
 .rw[Wj _ _ _ _ _ _ u hk,<-h]
theorem agk {w:WT} {s:SY} {t k o:Int} (u:Int) (he:EN w s t k o) (hr:UW w s t k o) {j:Int} (h0:0<=j):(¬j=t->(aJ (T:=ju) (qK w s t k o u).1.2.2.2 j).1=(aJ (T:=ju) s.2.2.2 j).1\/((aJ (T:=ju) s.2.2.2 j).1=3/\(aJ (T:=ju) (qK w s t k o u).1.2.2.2 j).1=4)\/((aJ (T:=ju) s.2.2.2 j).1=0/\(aJ (T:=ju) (qK w s t k o u).1.2.2.2 j).1=1))/\(j=t->¬k=16->¬(aJ (T:=ju) (qK w s t k o u).1.2.2.2 j).1=3/\¬(aJ (T:=ju) (qK w s t k o u).1.2.2.2 j).1=4):=by
 have t0:=he.t0;have t1:t<s.2.2.2.length:=by have:=he.t1;have:=he.e3;omega
 have M:=hr.r;have hml:∀ u:Int,u∈wl s.2.2.2 o s.2.2.2.length->0<=u/\u<s.2.2.2.length:=λu hu=>⟨(qN.1 hu).1,(qN.1 hu).2.1⟩
 have h3:∀ u:Int,u∈wl s.2.2.2 o s.2.2.2.length->(aJ (T:=ju) s.2.2.2 u).1=3:=λu hu=>by
  have:=(qN.1 hu).2.2;unfold Hn at this;rw[av] at this;exact bt this.1
 have same:¬k=1->¬k=17->∀ th:List (Int×Int×Bool),(aJ (T:=ju) th j).1=(aJ (T:=ju) s.2.2.2 j).1->(¬j=t->(aJ (T:=ju) th j).1=(aJ (T:=ju) s.2.2.2 j).1\/((aJ (T:=ju) s.2.2.2 j).1=3/\(aJ (T:=ju) th j).1=4)\/((aJ (T:=ju) s.2.2.2 j).1=0/\(aJ (T:=ju) th j).1=1))/\(j=t->¬k=16->¬(aJ (T:=ju) th j).1=3/\¬(aJ (T:=ju) th j).1=4):=λa b th h=>⟨λ_=>.inl h,λh2 _=>by rw[h,h2,M a b];decide⟩
 have st:∀ x:Int,¬x=3\/k=16->¬x=4->∀ th:List (Int×Int×Bool),(aJ (T:=ju) th j).1=(if j=t then x else (aJ (T:=ju) s.2.2.2 j).1)->(¬j=t->(aJ (T:=ju) th j).1=(aJ (T:=ju) s.2.2.2 j).1\/((aJ (T:=ju) s.2.2.2 j).1=3/\(aJ (T:=ju) th j).1=4)\/((aJ (T:=ju) s.2.2.2 j).1=0/\(aJ (T:=ju) th j).1=1))/\(j=t->¬k=16->¬(aJ (T:=ju) th j).1=3/\¬(aJ (T:=ju) th j).1=4):=λx hx hx4 th h=>⟨λhn=>.inl (by rw[h,aC hn]),λh2 h16=>by rw[h,aF h2];exact⟨hx.resolve_right h16,hx4⟩⟩
 have U:∀ x:Int,t<(xz s.2.2.2 t x).length:=λx=>by unfold xz;rw[bR];exact t1
 by_cases k1:k=1
 .subst k1;exact st 2 (.inl (by decide)) (by decide) _ (Hw t0 t1 h0)
 by_cases k2:k=2
 .subst k2;exact st 5 (.inl (by decide)) (by decide) _ (Hw t0 t1 h0)
 by_cases k16:k=16
 .subst k16;exact st 3 (.inr rfl) (by decide) _ ((aeu t0 (U _) h0).trans (Hw t0 t1 h0))
 by_cases I:k=17
 .subst I;exact st 2 (.inl (by decide)) (by decide) _ ((aeu t0 (U _) h0).trans (Hw t0 t1 h0))
 by_cases k14:k=14
 .subst k14;exact same k1 I _ (af0 t0 t1 h0)
 by_cases k15:k=15
 .subst k15;exact same k1 I _ (af0 t0 t1 h0)
 by_cases k18:k=18
 .subst k18;rw[EE];by_cases hl:(wl s.2.2.2 o s.2.2.2.length).length=0
  .rw[aF hl];exact same k1 I _ rfl
  .rw[aC hl];have hc:=Hh u hl;have Y:=hml _ hc;have J:=h3 _ hc;dsimp only;rw[Hw Y.1 Y.2 h0];generalize AF (wl s.2.2.2 o s.2.2.2.length) u=c at J;by_cases hj:j=c
   .rw[aF hj,hj];exact⟨λ_=>.inr (.inl ⟨J,rfl⟩),λh _=>by rw[h,M k1 I] at J;exact cU J (by decide)⟩
   .rw[aC hj];exact⟨λ_=>.inl rfl,λh _=>by rw[h,M k1 I];decide⟩
 by_cases k19:k=19
 .subst k19;show (_->(aJ (T:=ju) (B' _ _) j).1=_\/_/\(aJ (T:=ju) (B' _ _) j).1=_\/_/\(aJ (T:=ju) (B' _ _) j).1=_)/\(_->_->¬(aJ (T:=ju) (B' _ _) j).1=_/\¬(aJ (T:=ju) (B' _ _) j).1=_)
  rw[aen h0 _ _ hml];by_cases hj:j∈wl s.2.2.2 o s.2.2.2.length
  .rw[aF hj];have J:=h3 _ hj;exact⟨λ_=>.inr (.inl ⟨J,rfl⟩),λh _=>by rw[h,M k1 I] at J;exact cU J (by decide)⟩
  .rw[aC hj];exact⟨λ_=>.inl rfl,λh _=>by rw[h,M k1 I];decide⟩
 by_cases k20:k=20
 .subst k20;obtain⟨o0,o1⟩:=he.nm.th (.inl rfl);obtain⟨hot,ho0⟩:=hr.sp rfl;have Z:o<s.2.2.2.length:=by rw[he.e3];exact o1
  show (_->(aJ (T:=ju) (xz _ _ _) j).1=_\/_/\(aJ (T:=ju) (xz _ _ _) j).1=_\/_/\(aJ (T:=ju) (xz _ _ _) j).1=_)/\(_->_->¬(aJ (T:=ju) (xz _ _ _) j).1=_/\¬(aJ (T:=ju) (xz _ _ _) j).1=_)
  rw[Hw o0 Z h0];by_cases hj:j=o
  .rw[aF hj,hj];exact⟨λ_=>.inr (.inr ⟨ho0,rfl⟩),λh _=>(hot h).elim⟩
  .rw[aC hj];exact⟨λ_=>.inl rfl,λh _=>by rw[h,M k1 I];decide⟩
 refine same k1 I _ ?_;unfold qK;rw[aC k1,aC k2];repeat' split
 all_goals first|rfl|omega
theorem aco {e e':ET} (h1:e'.1=e.1) (h2:e'.2.1=e.2.1) (t:Int):fl [e'] t=fl [e] t:=by
 by_cases h:e.1=t
 .rw[yO h,yO (h1.trans h)];unfold sP;rw[h2]
 .rw[v7 h,v7 (λg=>h (h1.symm.trans g))]
theorem ae5 {L:List ET} {e e':ET} (h1:e'.1=e.1) (h2:e'.2.1=e.2.1) {k y:Int} (h:FQ (L++[e]) k y):FQ (L++[e']) k y:=by
 unfold FQ Kg at h ⊢;rw[ud,aco h1 h2,<-ud];exact h
theorem IC {T:Ty} (xs:List T.den) (i k:Nat) (x:T.den) (hi:i<xs.length):aJ (xs.set i x) (k:Int)=if k=i then x else aJ xs (k:Int):=by
 refine (rk xs (i:Int) (k:Int) x (by omega) (by omega) (by omega)).trans ?_;by_cases h:k=i
 .rw[aF h,aF (by omega)]
 .rw[aC h,aC (by omega)]
def SQ (n:Nat) (c:CT) (L:List ET) (y:ST×ET×Bool):Prop:=y.2.2=ai->SV (n+1) (L++[y.2.1]) y.1/\Ks c (L++[y.2.1]) y.1/\EvF c.1 y.2.1/\Yd y.2.1
theorem ado {n:Nat} (hn:n+1<=100000) {c:CT} {L:List ET} {s:ST} {i:Nat} {kd o v0 si:Int} {ds fs:List Int} {sy:SY} (hs:SV n L s) (hI:Ks c L s) (hp:PE n c s (i:Int) ((i:Int),kd,o,v0,si,ds,fs)) (hm:PS c L s (i:Int) ((i:Int),kd,o,v0,si,ds,fs)) (he:EN c.1 s.1 (i:Int) kd o) (hr:UW c.1 s.1 (i:Int) kd o) (ha:AP n s.1 sy) (I:Int) (ce fu:List Int) (t':TT) (hap:(qK c.1 s.1 (i:Int) kd o I).1=sy) (hva:VA c.1 s.1 s.2.1 s.2.2.1 (i:Int) kd o I) (hce:ce=XI s.2.1 ((i:Int),kd,o,I,si,ds,fs)) (hfu:fu=Ys s.2.2.1 ((i:Int),kd,o,I,si,ds,fs)) (ht:TH (FQ (L++[((i:Int),kd,o,v0,si,ds,fs)]) (i:Int)) (n+1) t') (hg:t'.2.1.length=0\/t'.2.2.2=bl .i64 ((aJ (T:=um) s.2.2.2 (i:Int)).2.2.2+1)/\(kd=16->t'.1=(aJ (T:=um) s.2.2.2 (i:Int)).1)):SQ n c L ((sy,ce,fu,s.2.2.2.set i t'),((i:Int),kd,o,I,si,ds,fs),ai):=by
 intro _;have q1:=hp.t1;have q2:=hp.fs.th;have q3:=hp.fs.e3;have q4:=hp.fs.vc.tl;have hil:i<s.2.2.2.length:=by omega
 have hln:=hs.ln;refine ⟨⟨ha.toSB hs.sb hn,by simp[hln],λk hk=>?_⟩,⟨?_,λk hk=>?_⟩,⟨he.nm,he.t0,he.t1,he.cd⟩,⟨dc hp.d (by omega),dc hp.f (by omega)⟩⟩
 .dsimp only at hk ⊢;rw[sd] at hk;rw[IC (T:=um) _ _ _ _ hil];split
  .rename_i h;subst h;exact ht.mono (bV _) λy J=>ae5 (e:=((k:Int),kd,o,v0,si,ds,fs)) (e':=((k:Int),kd,o,I,si,ds,fs)) rfl rfl J
  .exact (hs.t k hk).mono (by omega) λy J=>⟨J.1,J.2.app _⟩
 .rw[<- hap,hce,hfu];exact hI.ac.snoc (e:=((i:Int),kd,o,I,si,ds,fs)) ⟨he,hr,hm.s1,hm.s2,hm.de,hm.fr,⟨hm.da,λx U=>⟨(hm.dq x U).1,(hm.dq x U).2.lt⟩⟩,⟨hm.fa,λx U=>⟨(hm.fq x U).1,(hm.fq x U).2.lt⟩⟩,λy J=>(hm.dq y J).2,λy J=>(hm.fq y J).2,hva⟩
 .dsimp only at hk ⊢;rw[sd] at hk;rw[IC (T:=um) _ _ _ _ hil];obtain⟨Hx,YI⟩:=agk I he hr (j:=(k:Int)) (by omega);rw[hap] at Hx YI;have hfl:=VP L (i:Int);split
  .rename_i h;subst h;rcases hg with hg|⟨g1,g2⟩
   .exact .inl hg
   .refine .inr ⟨?_,λZ=>?_,λM=>?_⟩
    .rw[g1,hm.tg.ev,ud,yO rfl,gW (by omega)];simp
    .have Y:kd=16:=u_ λh=>Z.elim (YI rfl h).1 (YI rfl h).2
     rw[g2 Y];exact hm.wt Y
    .rw[ud,yO rfl] at M;simp at M
  .rename_i h;have hki:¬(k:Int)=(i:Int):=by omega
   have hfo:∀ e:ET,e.1=(i:Int)->fl (L++[e]) (k:Int)=fl L (k:Int):=λe h=>by
    rw[ud,v7 (by rw[h];exact λh=>hki h.symm),lG]
   have Hx:=Hx hki;refine (hI.t k hk).imp id λg=>⟨by rw[hfo _ rfl];exact g.ev,λZ=>g.wi (by
    rcases Hx with h1|⟨h1,_⟩|⟨_,h1⟩
    .rw[<- h1];exact Z
    .exact .inl h1
    .exact Z.elim (λh=>cU (h1.symm.trans h) (by decide)) λh=>cU (h1.symm.trans h) (by decide)),λM=>?_⟩
   rw[hfo _ rfl] at M;have g2:=g.nw M;rcases Hx with h1|⟨h1,_⟩|⟨_,h1⟩
   .rw[h1];exact g2
   .exact (g2.elim (λh=>cU (h1.symm.trans h) (by decide)) λh=>cU (h1.symm.trans h) (by decide))
   .exact .inr h1
theorem kh {α R:Type} (o:Option α):obind o (λ_=>(ah:Option R))=ah:=by cases o<;>rfl
theorem oB {R:Type} (b:Bool):chk b (λ_=>(ah:Option R))=ah:=by cases b<;>rfl
theorem rF {α R:Type} (x:α):lt x (λ_=>(ah:Option R))=ah:=rfl
def OT {R:Type} (o:Option R) (Q:R->Prop):Prop:=o=ah\/Ok o Q
theorem OT.or {R:Type} {a b:Option R} {Q:R->Prop} (I:OT a Q) (hb:OT b Q):OT (orE a b) Q:=by
 rcases I with rfl|⟨y,rfl,h⟩
 .exact hb
 .exact .inr ⟨y,rfl,h⟩
theorem Ok.orL {R:Type} {a b:Option R} {Q:R->Prop} (I:Ok a Q):Ok (orE a b) Q:=by
 obtain⟨y,rfl,h⟩:=I;exact⟨y,rfl,h⟩
theorem OT.orR {R:Type} {a b:Option R} {Q:R->Prop} (I:OT a Q) (hb:Ok b Q):Ok (orE a b) Q:=by
 rcases I with rfl|⟨y,rfl,h⟩
 .exact hb
 .exact⟨y,rfl,h⟩
theorem Hu {n:Nat} (hn:n+1<=100000) {c:CT} {L:List ET} {s:ST} {t u:Int} (hc:CB c) (hs:SV n L s) (U:Ks c L s) (G:Option (ST×ET×Bool)->Prop) (Y:∀ y,SQ n c L y->G (af y)) (k:ET×Bool->SY×Int×Bool->Option (ST×ET×Bool))
 (hk:∀ e v sy,PE n c s t e->PS c L s t e->EN c.1 s.1 t e.2.1 e.2.2.1->UW c.1 s.1 t e.2.1 e.2.2.1->AP n s.1 sy->(sy,v)=qK c.1 s.1 t e.2.1 e.2.2.1 u->G (k (e,ai) (sy,v,ai))):
 G (obind (nz (c,s,t)) λI=>bcase (!I.2) (af ((([],0,[],[]),[],[],[]),(0,0,0,0,0,[],[]),aj)) (obind (o6 (c.1,s.1,t,I.1.2.1,I.1.2.2.1,u)) λJ=>bcase (!J.2.2) (af ((([],0,[],[]),[],[],[]),(0,0,0,0,0,[],[]),aj)) (k I J))):=by
 have M:=Y ((([],0,[],[]),[],[],[]),(0,0,0,0,0,[],[]),aj) λh=>(by cases h)
 obtain⟨⟨e,b⟩,h1,h2⟩:=UX n (by omega) c L s hc hs U t;rw[h1,Vt];cases b with
 |false=>exact M
 |true=>
  obtain⟨hp,hm⟩:=h2 rfl;have hcd:c.1.2.2.1.length<=1000:=by have:=hp.fs.vc.vl.d;omega
  obtain⟨⟨sy,v,b⟩,h3,Z,_,_⟩:=Si c.1 s.1 hs.sb hcd t e.2.1 e.2.2.1 u;have e0:∀ {R:Type} (a b:Option R),bcase (!ai) a b=b:=λ_ _=>rfl
  rw[e0,h3,Vt];cases b with
  |false=>exact M
  |true=>
   obtain⟨g1,g2,g3,g4⟩:=Z rfl;exact hk e v sy hp hm g1 g2 g3 g4
theorem Yn {E:Nat} {L:List ET} (sy:SY) (ce fu:List Int) (a:TT) (h:SV E L (sy,ce,fu,[a])) (hce:ce.length<=1000) (hfu:fu.length<=1000):mO (sy,ce,fu,[a])=af ((sy.2.1,sy.1,sy.2.2.1,sy.2.2.2).1,(sy.2.1,sy.1,sy.2.2.1,sy.2.2.2).2.1,(sy.2.1,sy.1,sy.2.2.1,sy.2.2.2).2.2.1,(sy.2.1,sy.1,sy.2.2.1,sy.2.2.2).2.2.2,(([]:List Int)++ce),(([]:List Int)++fu),((a.1,a.2.2.2),a.2.1,a.2.2.1)):=by
 have J:=h.sb.n1;have I:TH (FQ L 0) E a:=h.t 0 (by simp);refine cJ ?_;unfold mO aV bL bx bE bK aX;refine aU (qy sy h.sb) ?_;refine bk (by simp;omega) (by omega) (bk (by simp;omega) (by omega) ?_);refine fx rfl (bd rfl (aT (aU (c5 a E J I) ?_)));exact fD rfl (ar rfl)
theorem Sg (sy:SY) (ce fu:List Int) (l:List TT) (h0:l.length<=4) (h:l.length≠1):mO (sy,ce,fu,l)=ah:=by
 unfold mO aV bL bx bE bK aX;rcases l with _|⟨a,_|⟨b,_|⟨c,_|⟨d,_|⟨e,l⟩⟩⟩⟩⟩;all_goals first|(simp at h;done)|(exfalso;simp only[bZ] at h0;omega)|simp[fP,kh,oB,rF,bcT,Z7]
theorem Ym {E:Nat} {L:List ET} (sy:SY) (ce fu:List Int) (a b:TT) (h:SV E L (sy,ce,fu,[a,b])) (hce:ce.length<=1000) (hfu:fu.length<=1000):mN (sy,ce,fu,[a,b])=af ((sy.2.1,sy.1,sy.2.2.1,sy.2.2.2).1,(sy.2.1,sy.1,sy.2.2.1,sy.2.2.2).2.1,(sy.2.1,sy.1,sy.2.2.1,sy.2.2.2).2.2.1,(sy.2.1,sy.1,sy.2.2.1,sy.2.2.2).2.2.2,(([]:List Int)++ce),(([]:List Int)++fu),(((a.1,a.2.2.2),a.2.1,a.2.2.1).1.1,((a.1,a.2.2.2),a.2.1,a.2.2.1).1.2,((b.1,b.2.2.2),b.2.1,b.2.2.1).1.1,((b.1,b.2.2.2),b.2.1,b.2.2.1).2.1,((b.1,b.2.2.2),b.2.1,b.2.2.1).2.2,((b.1,b.2.2.2),b.2.1,b.2.2.1).1.2),((a.1,a.2.2.2),a.2.1,a.2.2.1).2):=by
 have I:=h.sb.n1;have J:TH (FQ L 0) E a:=h.t 0 (by simp);have hb:TH (FQ L 1) E b:=h.t 1 (by simp);refine cJ ?_;unfold mN aV bL bx bE bK aX;refine aU (qy sy h.sb) ?_;refine bk (by simp;omega) (by omega) (bk (by simp;omega) (by omega) ?_);refine fx rfl (bd rfl (aT (aU (c5 a E I J) ?_)));refine fx rfl (bd rfl (aT (aU (c5 b E I hb) ?_)));exact fD rfl (ar rfl)
theorem Sf (sy:SY) (ce fu:List Int) (l:List TT) (h0:l.length<=4) (h:l.length≠2):mN (sy,ce,fu,l)=ah:=by
 unfold mN aV bL bx bE bK aX;rcases l with _|⟨a,_|⟨b,_|⟨c,_|⟨d,_|⟨e,l⟩⟩⟩⟩⟩;all_goals first|(simp at h;done)|(exfalso;simp only[bZ] at h0;omega)|simp[fP,kh,oB,rF,bcT,Z7]
theorem Yl {E:Nat} {L:List ET} (sy:SY) (ce fu:List Int) (a b:TT) (h:SV E L (sy,ce,fu,[a,b])) (hce:ce.length<=1000) (hfu:fu.length<=1000):mM (sy,ce,fu,[a,b])=af ((sy.2.1,sy.1,sy.2.2.1,sy.2.2.2).1,(sy.2.1,sy.1,sy.2.2.1,sy.2.2.2).2.1,(sy.2.1,sy.1,sy.2.2.1,sy.2.2.2).2.2.1,(sy.2.1,sy.1,sy.2.2.1,sy.2.2.2).2.2.2,(([]:List Int)++ce),(([]:List Int)++fu),((((a.1,a.2.2.2),a.2.1,a.2.2.1).1.1,((a.1,a.2.2.2),a.2.1,a.2.2.1).2.1,((a.1,a.2.2.2),a.2.1,a.2.2.1).2.2,((a.1,a.2.2.2),a.2.1,a.2.2.1).1.2),((b.1,b.2.2.2),b.2.1,b.2.2.1).1),((b.1,b.2.2.2),b.2.1,b.2.2.1).2):=by
 have I:=h.sb.n1;have J:TH (FQ L 0) E a:=h.t 0 (by simp);have hb:TH (FQ L 1) E b:=h.t 1 (by simp);refine cJ ?_;unfold mM aV bL bx bE bK aX;refine aU (qy sy h.sb) ?_;refine bk (by simp;omega) (by omega) (bk (by simp;omega) (by omega) ?_);refine fx rfl (bd rfl (aT (aU (c5 a E I J) ?_)));refine fx rfl (bd rfl (aT (aU (c5 b E I hb) ?_)));exact fD rfl (ar rfl)
theorem Se (sy:SY) (ce fu:List Int) (l:List TT) (h0:l.length<=4) (h:l.length≠2):mM (sy,ce,fu,l)=ah:=by
 unfold mM aV bL bx bE bK aX;rcases l with _|⟨a,_|⟨b,_|⟨c,_|⟨d,_|⟨e,l⟩⟩⟩⟩⟩;all_goals first|(simp at h;done)|(exfalso;simp only[bZ] at h0;omega)|simp[fP,kh,oB,rF,bcT,Z7]
theorem Yk {E:Nat} {L:List ET} (sy:SY) (ce fu:List Int) (a b c:TT) (h:SV E L (sy,ce,fu,[a,b,c])) (hce:ce.length<=1000) (hfu:fu.length<=1000):mL (sy,ce,fu,[a,b,c])=af ((sy.2.1,sy.1,sy.2.2.1,sy.2.2.2).1,(sy.2.1,sy.1,sy.2.2.1,sy.2.2.2).2.1,(sy.2.1,sy.1,sy.2.2.1,sy.2.2.2).2.2.1,(sy.2.1,sy.1,sy.2.2.1,sy.2.2.2).2.2.2,(([]:List Int)++ce),(([]:List Int)++fu),(((a.1,a.2.2.2),a.2.1,a.2.2.1).1.1,((a.1,a.2.2.2),a.2.1,a.2.2.1).1.2,(((b.1,b.2.2.2),b.2.1,b.2.2.1).1.1,((b.1,b.2.2.2),b.2.1,b.2.2.1).2.1,((b.1,b.2.2.2),b.2.1,b.2.2.1).2.2,((b.1,b.2.2.2),b.2.1,b.2.2.1).1.2),((c.1,c.2.2.2),c.2.1,c.2.2.1).1.1,((c.1,c.2.2.2),c.2.1,c.2.2.1).2.1,((c.1,c.2.2.2),c.2.1,c.2.2.1).2.2,((c.1,c.2.2.2),c.2.1,c.2.2.1).1.2),((a.1,a.2.2.2),a.2.1,a.2.2.1).2):=by
 have I:=h.sb.n1;have J:TH (FQ L 0) E a:=h.t 0 (by simp);have hb:TH (FQ L 1) E b:=h.t 1 (by simp);have hc:TH (FQ L 2) E c:=h.t 2 (by simp);refine cJ ?_;unfold mL aV bL bx bE bK aX;refine aU (qy sy h.sb) ?_;refine bk (by simp;omega) (by omega) (bk (by simp;omega) (by omega) ?_);refine fx rfl (bd rfl (aT (aU (c5 a E I J) ?_)));refine fx rfl (bd rfl (aT (aU (c5 b E I hb) ?_)));refine fx rfl (bd rfl (aT (aU (c5 c E I hc) ?_)));exact fD rfl (ar rfl)
theorem Sd (sy:SY) (ce fu:List Int) (l:List TT) (h0:l.length<=4) (h:l.length≠3):mL (sy,ce,fu,l)=ah:=by
 unfold mL aV bL bx bE bK aX;rcases l with _|⟨a,_|⟨b,_|⟨c,_|⟨d,_|⟨e,l⟩⟩⟩⟩⟩;all_goals first|(simp at h;done)|(exfalso;simp only[bZ] at h0;omega)|simp[fP,kh,oB,rF,bcT,Z7]
theorem Yj {E:Nat} {L:List ET} (sy:SY) (ce fu:List Int) (a b c:TT) (h:SV E L (sy,ce,fu,[a,b,c])) (hce:ce.length<=1000) (hfu:fu.length<=1000):mK (sy,ce,fu,[a,b,c])=af ((sy.2.1,sy.1,sy.2.2.1,sy.2.2.2).1,(sy.2.1,sy.1,sy.2.2.1,sy.2.2.2).2.1,(sy.2.1,sy.1,sy.2.2.1,sy.2.2.2).2.2.1,(sy.2.1,sy.1,sy.2.2.1,sy.2.2.2).2.2.2,(([]:List Int)++ce),(([]:List Int)++fu),((((a.1,a.2.2.2),a.2.1,a.2.2.1).1.1,((a.1,a.2.2.2),a.2.1,a.2.2.1).2.1,((a.1,a.2.2.2),a.2.1,a.2.2.1).2.2,((a.1,a.2.2.2),a.2.1,a.2.2.1).1.2),((b.1,b.2.2.2),b.2.1,b.2.2.1).1.1,((b.1,b.2.2.2),b.2.1,b.2.2.1).1.2,((c.1,c.2.2.2),c.2.1,c.2.2.1).1.1,((c.1,c.2.2.2),c.2.1,c.2.2.1).2.1,((c.1,c.2.2.2),c.2.1,c.2.2.1).2.2,((c.1,c.2.2.2),c.2.1,c.2.2.1).1.2),((b.1,b.2.2.2),b.2.1,b.2.2.1).2):=by
 have I:=h.sb.n1;have J:TH (FQ L 0) E a:=h.t 0 (by simp);have hb:TH (FQ L 1) E b:=h.t 1 (by simp);have hc:TH (FQ L 2) E c:=h.t 2 (by simp);refine cJ ?_;unfold mK aV bL bx bE bK aX;refine aU (qy sy h.sb) ?_;refine bk (by simp;omega) (by omega) (bk (by simp;omega) (by omega) ?_);refine fx rfl (bd rfl (aT (aU (c5 a E I J) ?_)));refine fx rfl (bd rfl (aT (aU (c5 b E I hb) ?_)));refine fx rfl (bd rfl (aT (aU (c5 c E I hc) ?_)));exact fD rfl (ar rfl)
theorem Sc (sy:SY) (ce fu:List Int) (l:List TT) (h0:l.length<=4) (h:l.length≠3):mK (sy,ce,fu,l)=ah:=by
 unfold mK aV bL bx bE bK aX;rcases l with _|⟨a,_|⟨b,_|⟨c,_|⟨d,_|⟨e,l⟩⟩⟩⟩⟩;all_goals first|(simp at h;done)|(exfalso;simp only[bZ] at h0;omega)|simp[fP,kh,oB,rF,bcT,Z7]
theorem Yi {E:Nat} {L:List ET} (sy:SY) (ce fu:List Int) (a b c:TT) (h:SV E L (sy,ce,fu,[a,b,c])) (hce:ce.length<=1000) (hfu:fu.length<=1000):mJ (sy,ce,fu,[a,b,c])=af ((sy.2.1,sy.1,sy.2.2.1,sy.2.2.2).1,(sy.2.1,sy.1,sy.2.2.1,sy.2.2.2).2.1,(sy.2.1,sy.1,sy.2.2.1,sy.2.2.2).2.2.1,(sy.2.1,sy.1,sy.2.2.1,sy.2.2.2).2.2.2,(([]:List Int)++ce),(([]:List Int)++fu),((((a.1,a.2.2.2),a.2.1,a.2.2.1).1.1,((a.1,a.2.2.2),a.2.1,a.2.2.1).2.1,((a.1,a.2.2.2),a.2.1,a.2.2.1).2.2,((a.1,a.2.2.2),a.2.1,a.2.2.1).1.2),(((b.1,b.2.2.2),b.2.1,b.2.2.1).1.1,((b.1,b.2.2.2),b.2.1,b.2.2.1).2.1,((b.1,b.2.2.2),b.2.1,b.2.2.1).2.2,((b.1,b.2.2.2),b.2.1,b.2.2.1).1.2),((c.1,c.2.2.2),c.2.1,c.2.2.1).1),((c.1,c.2.2.2),c.2.1,c.2.2.1).2):=by
 have I:=h.sb.n1;have J:TH (FQ L 0) E a:=h.t 0 (by simp);have hb:TH (FQ L 1) E b:=h.t 1 (by simp);have hc:TH (FQ L 2) E c:=h.t 2 (by simp);refine cJ ?_;unfold mJ aV bL bx bE bK aX;refine aU (qy sy h.sb) ?_;refine bk (by simp;omega) (by omega) (bk (by simp;omega) (by omega) ?_);refine fx rfl (bd rfl (aT (aU (c5 a E I J) ?_)));refine fx rfl (bd rfl (aT (aU (c5 b E I hb) ?_)));refine fx rfl (bd rfl (aT (aU (c5 c E I hc) ?_)));exact fD rfl (ar rfl)
theorem Sb (sy:SY) (ce fu:List Int) (l:List TT) (h0:l.length<=4) (h:l.length≠3):mJ (sy,ce,fu,l)=ah:=by
 unfold mJ aV bL bx bE bK aX;rcases l with _|⟨a,_|⟨b,_|⟨c,_|⟨d,_|⟨e,l⟩⟩⟩⟩⟩;all_goals first|(simp at h;done)|(exfalso;simp only[bZ] at h0;omega)|simp[fP,kh,oB,rF,bcT,Z7]
theorem Yh {E:Nat} {L:List ET} (sy:SY) (ce fu:List Int) (a b c d:TT) (h:SV E L (sy,ce,fu,[a,b,c,d])) (hce:ce.length<=1000) (hfu:fu.length<=1000):mI (sy,ce,fu,[a,b,c,d])=af ((sy.2.1,sy.1,sy.2.2.1,sy.2.2.2).1,(sy.2.1,sy.1,sy.2.2.1,sy.2.2.2).2.1,(sy.2.1,sy.1,sy.2.2.1,sy.2.2.2).2.2.1,(sy.2.1,sy.1,sy.2.2.1,sy.2.2.2).2.2.2,(([]:List Int)++ce),(([]:List Int)++fu),(((a.1,a.2.2.2),a.2.1,a.2.2.1).1.1,((a.1,a.2.2.2),a.2.1,a.2.2.1).1.2,(((b.1,b.2.2.2),b.2.1,b.2.2.1).1.1,((b.1,b.2.2.2),b.2.1,b.2.2.1).2.1,((b.1,b.2.2.2),b.2.1,b.2.2.1).2.2,((b.1,b.2.2.2),b.2.1,b.2.2.1).1.2),(((c.1,c.2.2.2),c.2.1,c.2.2.1).1.1,((c.1,c.2.2.2),c.2.1,c.2.2.1).2.1,((c.1,c.2.2.2),c.2.1,c.2.2.1).2.2,((c.1,c.2.2.2),c.2.1,c.2.2.1).1.2),((d.1,d.2.2.2),d.2.1,d.2.2.1).1.1,((d.1,d.2.2.2),d.2.1,d.2.2.1).2.1,((d.1,d.2.2.2),d.2.1,d.2.2.1).2.2,((d.1,d.2.2.2),d.2.1,d.2.2.1).1.2),((a.1,a.2.2.2),a.2.1,a.2.2.1).2):=by
 have I:=h.sb.n1;have J:TH (FQ L 0) E a:=h.t 0 (by simp);have hb:TH (FQ L 1) E b:=h.t 1 (by simp);have hc:TH (FQ L 2) E c:=h.t 2 (by simp);have hd:TH (FQ L 3) E d:=h.t 3 (by simp);refine cJ ?_;unfold mI aV bL bx bE bK aX;refine aU (qy sy h.sb) ?_;refine bk (by simp;omega) (by omega) (bk (by simp;omega) (by omega) ?_);refine fx rfl (bd rfl (aT (aU (c5 a E I J) ?_)));refine fx rfl (bd rfl (aT (aU (c5 b E I hb) ?_)));refine fx rfl (bd rfl (aT (aU (c5 c E I hc) ?_)));refine fx rfl (bd rfl (aT (aU (c5 d E I hd) ?_)));exact fD rfl (ar rfl)
theorem Sa (sy:SY) (ce fu:List Int) (l:List TT) (h0:l.length<=4) (h:l.length≠4):mI (sy,ce,fu,l)=ah:=by
 unfold mI aV bL bx bE bK aX;rcases l with _|⟨a,_|⟨b,_|⟨c,_|⟨d,_|⟨e,l⟩⟩⟩⟩⟩;all_goals first|(simp at h;done)|(exfalso;simp only[bZ] at h0;omega)|simp[fP,kh,oB,rF,bcT,Z7]
theorem Yg {E:Nat} {L:List ET} (sy:SY) (ce fu:List Int) (a b c d:TT) (h:SV E L (sy,ce,fu,[a,b,c,d])) (hce:ce.length<=1000) (hfu:fu.length<=1000):mH (sy,ce,fu,[a,b,c,d])=af ((sy.2.1,sy.1,sy.2.2.1,sy.2.2.2).1,(sy.2.1,sy.1,sy.2.2.1,sy.2.2.2).2.1,(sy.2.1,sy.1,sy.2.2.1,sy.2.2.2).2.2.1,(sy.2.1,sy.1,sy.2.2.1,sy.2.2.2).2.2.2,(([]:List Int)++ce),(([]:List Int)++fu),((((a.1,a.2.2.2),a.2.1,a.2.2.1).1.1,((a.1,a.2.2.2),a.2.1,a.2.2.1).2.1,((a.1,a.2.2.2),a.2.1,a.2.2.1).2.2,((a.1,a.2.2.2),a.2.1,a.2.2.1).1.2),((b.1,b.2.2.2),b.2.1,b.2.2.1).1.1,((b.1,b.2.2.2),b.2.1,b.2.2.1).1.2,(((c.1,c.2.2.2),c.2.1,c.2.2.1).1.1,((c.1,c.2.2.2),c.2.1,c.2.2.1).2.1,((c.1,c.2.2.2),c.2.1,c.2.2.1).2.2,((c.1,c.2.2.2),c.2.1,c.2.2.1).1.2),((d.1,d.2.2.2),d.2.1,d.2.2.1).1.1,((d.1,d.2.2.2),d.2.1,d.2.2.1).2.1,((d.1,d.2.2.2),d.2.1,d.2.2.1).2.2,((d.1,d.2.2.2),d.2.1,d.2.2.1).1.2),((b.1,b.2.2.2),b.2.1,b.2.2.1).2):=by
 have I:=h.sb.n1;have J:TH (FQ L 0) E a:=h.t 0 (by simp);have hb:TH (FQ L 1) E b:=h.t 1 (by simp);have hc:TH (FQ L 2) E c:=h.t 2 (by simp);have hd:TH (FQ L 3) E d:=h.t 3 (by simp);refine cJ ?_;unfold mH aV bL bx bE bK aX;refine aU (qy sy h.sb) ?_;refine bk (by simp;omega) (by omega) (bk (by simp;omega) (by omega) ?_);refine fx rfl (bd rfl (aT (aU (c5 a E I J) ?_)));refine fx rfl (bd rfl (aT (aU (c5 b E I hb) ?_)));refine fx rfl (bd rfl (aT (aU (c5 c E I hc) ?_)));refine fx rfl (bd rfl (aT (aU (c5 d E I hd) ?_)));exact fD rfl (ar rfl)
theorem R_ (sy:SY) (ce fu:List Int) (l:List TT) (h0:l.length<=4) (h:l.length≠4):mH (sy,ce,fu,l)=ah:=by
 unfold mH aV bL bx bE bK aX;rcases l with _|⟨a,_|⟨b,_|⟨c,_|⟨d,_|⟨e,l⟩⟩⟩⟩⟩;all_goals first|(simp at h;done)|(exfalso;simp only[bZ] at h0;omega)|simp[fP,kh,oB,rF,bcT,Z7]
theorem Yf {E:Nat} {L:List ET} (sy:SY) (ce fu:List Int) (a b c d:TT) (h:SV E L (sy,ce,fu,[a,b,c,d])) (hce:ce.length<=1000) (hfu:fu.length<=1000):mG (sy,ce,fu,[a,b,c,d])=af ((sy.2.1,sy.1,sy.2.2.1,sy.2.2.2).1,(sy.2.1,sy.1,sy.2.2.1,sy.2.2.2).2.1,(sy.2.1,sy.1,sy.2.2.1,sy.2.2.2).2.2.1,(sy.2.1,sy.1,sy.2.2.1,sy.2.2.2).2.2.2,(([]:List Int)++ce),(([]:List Int)++fu),((((a.1,a.2.2.2),a.2.1,a.2.2.1).1.1,((a.1,a.2.2.2),a.2.1,a.2.2.1).2.1,((a.1,a.2.2.2),a.2.1,a.2.2.1).2.2,((a.1,a.2.2.2),a.2.1,a.2.2.1).1.2),(((b.1,b.2.2.2),b.2.1,b.2.2.1).1.1,((b.1,b.2.2.2),b.2.1,b.2.2.1).2.1,((b.1,b.2.2.2),b.2.1,b.2.2.1).2.2,((b.1,b.2.2.2),b.2.1,b.2.2.1).1.2),((c.1,c.2.2.2),c.2.1,c.2.2.1).1.1,((c.1,c.2.2.2),c.2.1,c.2.2.1).1.2,((d.1,d.2.2.2),d.2.1,d.2.2.1).1.1,((d.1,d.2.2.2),d.2.1,d.2.2.1).2.1,((d.1,d.2.2.2),d.2.1,d.2.2.1).2.2,((d.1,d.2.2.2),d.2.1,d.2.2.1).1.2),((c.1,c.2.2.2),c.2.1,c.2.2.1).2):=by
 have I:=h.sb.n1;have J:TH (FQ L 0) E a:=h.t 0 (by simp);have hb:TH (FQ L 1) E b:=h.t 1 (by simp);have hc:TH (FQ L 2) E c:=h.t 2 (by simp);have hd:TH (FQ L 3) E d:=h.t 3 (by simp);refine cJ ?_;unfold mG aV bL bx bE bK aX;refine aU (qy sy h.sb) ?_;refine bk (by simp;omega) (by omega) (bk (by simp;omega) (by omega) ?_);refine fx rfl (bd rfl (aT (aU (c5 a E I J) ?_)));refine fx rfl (bd rfl (aT (aU (c5 b E I hb) ?_)));refine fx rfl (bd rfl (aT (aU (c5 c E I hc) ?_)));refine fx rfl (bd rfl (aT (aU (c5 d E I hd) ?_)));exact fD rfl (ar rfl)
theorem R9 (sy:SY) (ce fu:List Int) (l:List TT) (h0:l.length<=4) (h:l.length≠4):mG (sy,ce,fu,l)=ah:=by
 unfold mG aV bL bx bE bK aX;rcases l with _|⟨a,_|⟨b,_|⟨c,_|⟨d,_|⟨e,l⟩⟩⟩⟩⟩;all_goals first|(simp at h;done)|(exfalso;simp only[bZ] at h0;omega)|simp[fP,kh,oB,rF,bcT,Z7]
theorem Ye {E:Nat} {L:List ET} (sy:SY) (ce fu:List Int) (a b c d:TT) (h:SV E L (sy,ce,fu,[a,b,c,d])) (hce:ce.length<=1000) (hfu:fu.length<=1000):mF (sy,ce,fu,[a,b,c,d])=af ((sy.2.1,sy.1,sy.2.2.1,sy.2.2.2).1,(sy.2.1,sy.1,sy.2.2.1,sy.2.2.2).2.1,(sy.2.1,sy.1,sy.2.2.1,sy.2.2.2).2.2.1,(sy.2.1,sy.1,sy.2.2.1,sy.2.2.2).2.2.2,(([]:List Int)++ce),(([]:List Int)++fu),((((a.1,a.2.2.2),a.2.1,a.2.2.1).1.1,((a.1,a.2.2.2),a.2.1,a.2.2.1).2.1,((a.1,a.2.2.2),a.2.1,a.2.2.1).2.2,((a.1,a.2.2.2),a.2.1,a.2.2.1).1.2),(((b.1,b.2.2.2),b.2.1,b.2.2.1).1.1,((b.1,b.2.2.2),b.2.1,b.2.2.1).2.1,((b.1,b.2.2.2),b.2.1,b.2.2.1).2.2,((b.1,b.2.2.2),b.2.1,b.2.2.1).1.2),(((c.1,c.2.2.2),c.2.1,c.2.2.1).1.1,((c.1,c.2.2.2),c.2.1,c.2.2.1).2.1,((c.1,c.2.2.2),c.2.1,c.2.2.1).2.2,((c.1,c.2.2.2),c.2.1,c.2.2.1).1.2),((d.1,d.2.2.2),d.2.1,d.2.2.1).1),((d.1,d.2.2.2),d.2.1,d.2.2.1).2):=by
 have I:=h.sb.n1;have J:TH (FQ L 0) E a:=h.t 0 (by simp);have hb:TH (FQ L 1) E b:=h.t 1 (by simp);have hc:TH (FQ L 2) E c:=h.t 2 (by simp);have hd:TH (FQ L 3) E d:=h.t 3 (by simp);refine cJ ?_;unfold mF aV bL bx bE bK aX;refine aU (qy sy h.sb) ?_;refine bk (by simp;omega) (by omega) (bk (by simp;omega) (by omega) ?_);refine fx rfl (bd rfl (aT (aU (c5 a E I J) ?_)));refine fx rfl (bd rfl (aT (aU (c5 b E I hb) ?_)));refine fx rfl (bd rfl (aT (aU (c5 c E I hc) ?_)));refine fx rfl (bd rfl (aT (aU (c5 d E I hd) ?_)));exact fD rfl (ar rfl)
theorem R8 (sy:SY) (ce fu:List Int) (l:List TT) (h0:l.length<=4) (h:l.length≠4):mF (sy,ce,fu,l)=ah:=by
 unfold mF aV bL bx bE bK aX;rcases l with _|⟨a,_|⟨b,_|⟨c,_|⟨d,_|⟨e,l⟩⟩⟩⟩⟩;all_goals first|(simp at h;done)|(exfalso;simp only[bZ] at h0;omega)|simp[fP,kh,oB,rF,bcT,Z7]
theorem kdx (k:Int):k=1\/k=16\/k=2\/k=3\/k=23\/k=4\/k=22\/k=5\/((k=1)=False/\(k=16)=False/\(k=2)=False/\(k=3)=False/\(k=23)=False/\(k=4)=False/\(k=22)=False/\(k=5)=False):=by
 by_cases h:k=1\/k=16\/k=2\/k=3\/k=23\/k=4\/k=22\/k=5
 .omega
 .repeat (first|exact⟨eq_false (by omega),eq_false (by omega),eq_false (by omega),eq_false (by omega),eq_false (by omega),eq_false (by omega),eq_false (by omega),eq_false (by omega)⟩|refine Or.inr ?_)
def KR {Z:Type} (n:Nat) (I:CT) (L:List ET) (i:Nat) (u:Int) (l:List TT) (z:Z) (k:Int->(CT×SY×(Int×Int)×Int×(Int×Int×Int×Int×Int)×ET×(Int×Int)×(List Int)×(List Int)×Z×(List Int)×List (List Int))->Option (ST×ET×Bool)):Prop:=
 ∀ (F:Int->Prop) (p:Int) (sy:SY) (kd o v si:Int) (ds fs ce fu R:List Int) (T:List (List Int)) (ev:Int),
  (kd≠16->kd≠2->Ok (mP (aJ (T:=vD) I.2 (i:Int),(p,R,T,bl .i64 (ev+1)))) λy=>TH F (n+1) y.1/\(y.1.2.1.length=0\/y.1.2.2.2=bl .i64 (ev+1)))->
  (kd=16\/kd=2->TH F (n+1) (p,R,T,bl .i64 (ev+1)))->
  (∀ t',TH F (n+1) t'->(t'.2.1.length=0\/t'.2.2.2=bl .i64 (ev+1)/\(kd=16->t'.1=p))->SQ n I L ((sy,ce,fu,l.set i t'),((i:Int),kd,o,v,si,ds,fs),ai))->(i:Int)<(I.2.length:Int)->
  ∀ J,Ok (k p (I,sy,((i:Int),u),0,(0,0,0,0,0),((i:Int),kd,o,v,si,ds,fs),(J,ev),ce,fu,z,R,T)) (SQ n I L)
theorem AH {Z:Type} (N i:Nat) {M:SY×(List Int)×(List Int)×List TT->Option (Int×(List (Int×List Int))×(List Bool)×(List (Int×Int×Bool))×(List Int)×(List Int)×Z×(List Int)×List (List Int))} {pc ev:Z->Int} {k:Int->(CT×SY×(Int×Int)×Int×(Int×Int×Int×Int×Int)×ET×(Int×Int)×(List Int)×(List Int)×Z×(List Int)×List (List Int))->Option (ST×ET×Bool)} {n:Nat} (hn:n+1<=100000) (I:CT) (L:List ET) (s:ST) (t u:Int) (hc:CB I) (hs:SV n L s) (hI:Ks I L s)
 (h0:∀ sy ce fu (l:List TT),l.length<=4->l.length≠N->M (sy,ce,fu,l)=ah)
 (h1:∀ sy ce fu (l:List TT),SV n L (sy,ce,fu,l)->ce.length<=1000->fu.length<=1000->l.length=N->i<N/\∃ y,M (sy,ce,fu,l)=af y/\y.2.2.2.2.1=ce/\y.2.2.2.2.2.1=fu/\y.2.2.2.2.2.2.2.1=(aJ (T:=um) l (i:Int)).2.1/\y.2.2.2.2.2.2.2.2=(aJ (T:=um) l (i:Int)).2.2.1/\pc y.2.2.2.2.2.2.1=(aJ (T:=um) l (i:Int)).1/\ev y.2.2.2.2.2.2.1=(aJ (T:=um) l (i:Int)).2.2.2/\KR n I L i u l y.2.2.2.2.2.2.1 k):
 OT (SG (i:Int) M pc ev k (I,s,t,u)) (SQ n I L)/\(s.2.2.2.length=N->t=(i:Int)->Ok (SG (i:Int) M pc ev k (I,s,t,u)) (SQ n I L)):=by
 by_cases hz:s.2.2.2.length=N/\t=(i:Int)
 .obtain⟨U,rfl⟩:=hz;suffices h:Ok (SG (i:Int) M pc ev k (I,s,(i:Int),u)) (SQ n I L) from ⟨.inr h,λ_ _=>h⟩
  unfold SG wH Dr Prod.p12 aV bg bp cw dN jd uy wJ Prod.q10 Kk Prod.q13 bL db mg MM ck be bK kA aE;refine Hu hn hc hs hI (λo=>Ok o (SQ n I L)) (λy h=>ar h) _ λe v sy hp hm he hr ha hq=>?_
  obtain⟨sy0,ce,fu,l⟩:=s;obtain⟨e1,kd,o,e4,site,ds,fs⟩:=e;have het:=hp.et;dsimp only at U he hr ha hq het;subst het;have vl:=hp.fs.vc.vl;have hce:=hp.fs.ce;have hfu:=hp.fs.fu;dsimp only at hce hfu;obtain⟨hiN,⟨q1,q2,q3,q4,ce',fu',z,R0,T0⟩,hcp,g1,g2,g3,g4,hpc,hve,hk⟩:=h1 sy0 ce fu l hs (by have:=vl.c;omega) (by have:=vl.f;omega) U;dsimp only at g1 g2 g3 g4 hpc hve hk;rw[g1,g2,g3,g4] at hcp;obtain⟨_,_,nmce,_,_,_,nmfu,_,_,_⟩:=id he.nm;have t1:(i:Int)<(I.2.length:Int):=hp.t1;have htf:TF (aJ (T:=vD) I.2 (i:Int)) (aJ (T:=um) l (i:Int)):=hp.fs.t i (by omega);have hA:=hp.a;have Y:=hp.b;dsimp only at hA Y;have hvt:=hp.fs.vc.t _ (bJ (T:=vD) (xs:=I.2) (j:=(i:Int)) (by omega) t1);have hci:=hc.ins _ (bJ (T:=vD) (xs:=I.2) (j:=(i:Int)) (by omega) t1);have hth:TH (FQ L (i:Int)) n (aJ (T:=um) l (i:Int)):=hs.t i (by dsimp only;omega);have done:=ado hn hs hI hp hm he hr ha;have htg:=hm.tg;have hrun:=hr.r;dsimp only at done htg;have hgv:kd=3\/kd=23->FQ (L++[((i:Int),kd,o,e4,site,ds,fs)]) (i:Int) (aJ (T:=um) l (i:Int)).2.2.2:=λh3=>by
   have h2:=hrun (by omega) (by omega);have hn0:¬(fl L (i:Int)).length=0:=λh=>(htg.nw h).elim (λg=>cU (h2.symm.trans g) (by decide)) λg=>cU (h2.symm.trans g) (by decide)
   refine ⟨by rw[htg.ev];omega,Kg.last (e:=((i:Int),kd,o,e4,site,ds,fs)) ?_ htg.ev⟩;unfold sP;rcases h3 with h|h
   .rw[aQ h];rfl
   .simp[h]
  have vaA:¬kd=3->¬kd=23->¬kd=5->VA I.1 sy0 ce fu (i:Int) kd o v:=λa b c=>⟨λh=>(a h).elim,λh=>(b h).elim,λh=>(c h).elim,λ_ _ _ _ _=>by rw[RG hq]⟩
  have apA:(qK I.1 sy0 (i:Int) kd o v).1=sy:=by rw[RG hq]
  have apB:¬kd=18->∀ v',(qK I.1 sy0 (i:Int) kd o v').1=sy:=λh v'=>by rw[Wj _ _ _ _ _ _ u h,<-hq]
  have keep:∀ x∈(aJ (T:=um) l (i:Int)).2.2.1,TL (FQ (L++[((i:Int),kd,o,e4,site,ds,fs)]) (i:Int)) (n+1) x:=λx hx=>(hth.l x hx).mono (by omega) λy J=>⟨J.1,J.2.app _⟩
  clear g3 g4 hm hI hrun htg;revert done hgv keep;generalize FQ (L++[((i:Int),kd,o,e4,site,ds,fs)]) (i:Int)=F;generalize aJ (T:=um) l (i:Int)=th at hcp hpc hve htf hA Y hth ⊢;intro done hgv keep;refine aU hcp ?_;dsimp only;rw[hpc,hve];refine fx (aQ rfl) ?_;refine aR (by omega) t1 (aT (aR htf.p0 htf.p1 (aT ?_)));have htz:th.2.2.1.length=th.2.1.length:=by have:=htf.r;have:=htf.t;omega
  have fin:∀ (p:Int) (R:List Int) (T:List (List Int)),R.length=th.2.1.length->T.length=th.2.2.1.length->(∀ x∈T,TL F (n+1) x)->Ok (mP (aJ (T:=vD) I.2 (i:Int),(p,R,T,bl .i64 (th.2.2.2+1)))) λy=>TH F (n+1) y.1/\(y.1.2.1.length=0\/y.1.2.2.2=bl .i64 (th.2.2.2+1)):=λp R T h1 h2 h3=>by
   have a1:=hth.e0;have a2:=hth.e1;have a3:=hth.r;have a4:=hth.t;rw[ic (n:=th.2.2.2+1) (by omega) (by omega)];exact X2 (n+1) hn _ hci hvt _ ⟨by dsimp only;omega,by dsimp only;omega,h3,by dsimp only;omega,by dsimp only;omega⟩
  have mark:kd=3\/kd=23->∀ j:Int,∀ x∈cq th.2.2.1 j [th.2.2.2],TL F (n+1) x:=λh3 j x hx=>by
   rcases BW hx with h|h
   .exact keep x h
   .rw[h];exact⟨⟨λy J=>(by cases J),trivial⟩,λy J=>by rw[aL] at J;have:=hth.e0;have:=hth.e1;rw[J];exact⟨by omega,by omega⟩,λy J=>by rw[aL] at J;rw[J];exact hgv h3⟩
  have nopark:TH F (n+1) (th.1,th.2.1,th.2.2.1,bl .i64 (th.2.2.2+1)):=by
   have a1:=hth.e0;have a2:=hth.e1;rw[ic (n:=th.2.2.2+1) (by omega) (by omega)];exact⟨hth.r,hth.t,keep,by dsimp only;omega,by dsimp only;omega⟩
  clear hp hs hc h0 h1 hcp g1 g2 hr ha hq he;generalize (aJ (T:=AS) (aJ (T:=vD) I.2 (i:Int)).2 th.1)=ins at hA Y ⊢;rcases kdx kd with rfl|rfl|rfl|rfl|rfl|rfl|rfl|rfl|⟨k1,k2,k3,k4,k5,k6,k7,k8⟩
  case inr.inr.inr.inr.inr.inr.inr.inr=>
   simp only[k1,k2,k3,k4,k5,k6,k7,k8,aZ,bm,sG];refine hk F _ _ _ _ _ _ _ _ _ _ _ _ _ (λ_ _=>fin _ _ _ rfl rfl keep) (λh=>by rw[k2,k3] at h;exact (h.elim id id).elim) (λt' h g=>?_) t1 _;exact done v ce fu t' apA (vaA (of_eq_false k4) (of_eq_false k5) (of_eq_false k8)) (aC (of_eq_false k6)).symm (aC (of_eq_false k7)).symm h (g.imp id λh=>⟨h.1,λh2=>(of_eq_false k2 h2).elim⟩)
  all_goals simp only[aZ,bm,sG]
  .refine hk F _ _ _ _ _ _ _ _ _ _ _ _ _ (λ_ _=>fin _ _ _ rfl rfl keep) (λh=>by omega) (λt' h g=>?_) t1 _;exact done v ce fu t' apA (vaA (by decide) (by decide) (by decide)) rfl rfl h (g.imp id λh=>⟨h.1,λh2=>(by cases h2)⟩)
  .refine hk F _ _ _ _ _ _ _ _ _ _ _ _ _ (λh _=>(h rfl).elim) (λ_=>nopark) (λt' h g=>?_) t1 _;exact done v ce fu t' apA (vaA (by decide) (by decide) (by decide)) rfl rfl h g
  .refine hk F _ _ _ _ _ _ _ _ _ _ _ _ _ (λ_ h=>(h rfl).elim) (λ_=>nopark) (λt' h g=>?_) t1 _;exact done v ce fu t' apA (vaA (by decide) (by decide) (by decide)) rfl rfl h (g.imp id λh=>⟨h.1,λh2=>(by cases h2)⟩)
  .obtain⟨o0,o1⟩:=nmce (.inl rfl);rw[<- hce] at o1;obtain⟨a0,a1⟩:=hA (.inl rfl);have a2:ins.2.1<(th.2.2.1.length:Int):=by rw[htz];exact a1
   refine gJ (aR o0 o1 (aR o0 o1 (ar ?_)));simp only[aZ,bm,sG];refine gJ (aR a0 a1 (aR a0 a1 (aR a0 a2 (aR a0 a2 (ar ?_)))));refine hk F _ _ _ _ _ _ _ _ _ _ _ _ _ (λ_ _=>fin _ _ _ (bR ..) (bR ..) (mark (.inl rfl) _)) (λh=>by omega) (λt' h g=>?_) t1 _;exact done _ ce fu t' (apB (by decide) _) ⟨λ_=>rfl,λh=>(by cases h),λh=>(by cases h),λh=>(h rfl).elim⟩ rfl rfl h (g.imp id λh=>⟨h.1,λh2=>(by cases h2)⟩)
  .obtain⟨o0,o1⟩:=nmfu (.inr rfl);rw[<- hfu] at o1;obtain⟨a0,a1⟩:=hA (.inr (.inl rfl));have a2:ins.2.1<(th.2.2.1.length:Int):=by rw[htz];exact a1
   refine gJ (aR o0 o1 (aR o0 o1 (ar ?_)));simp only[aZ,bm,sG];refine gJ (aR a0 a1 (aR a0 a1 (aR a0 a2 (aR a0 a2 (ar ?_)))));refine hk F _ _ _ _ _ _ _ _ _ _ _ _ _ (λ_ _=>fin _ _ _ (bR ..) (bR ..) (mark (.inr rfl) _)) (λh=>by omega) (λt' h g=>?_) t1 _;exact done _ ce fu t' (apB (by decide) _) ⟨λh=>(by cases h),λ_=>rfl,λh=>(by cases h),λ_ h=>(h rfl).elim⟩ rfl rfl h (g.imp id λh=>⟨h.1,λh2=>(by cases h2)⟩)
  .obtain⟨o0,o1⟩:=nmce (.inr rfl);rw[<- hce] at o1;obtain⟨a0,a1⟩:=Y (.inl rfl);refine gJ (aR a0 a1 (aR a0 a1 (aR o0 o1 (aR o0 o1 (ar ?_)))));simp only[aZ,bm,sG];refine hk F _ _ _ _ _ _ _ _ _ _ _ _ _ (λ_ _=>fin _ _ _ rfl rfl keep) (λh=>by omega) (λt' h g=>?_) t1 _;exact done _ _ fu t' (apB (by decide) _) ⟨λh=>(by cases h),λh=>(by cases h),λh=>(by cases h),λ_ _ _ h=>(h rfl).elim⟩ rfl rfl h (g.imp id λh=>⟨h.1,λh2=>(by cases h2)⟩)
  .obtain⟨o0,o1⟩:=nmfu (.inl rfl);rw[<- hfu] at o1;obtain⟨a0,a1⟩:=Y (.inr rfl);refine gJ (aR a0 a1 (aR a0 a1 (aR o0 o1 (aR o0 o1 (ar ?_)))));simp only[aZ,bm,sG];refine hk F _ _ _ _ _ _ _ _ _ _ _ _ _ (λ_ _=>fin _ _ _ rfl rfl keep) (λh=>by omega) (λt' h g=>?_) t1 _;exact done _ ce _ t' (apB (by decide) _) ⟨λh=>(by cases h),λh=>(by cases h),λh=>(by cases h),λ_ _ _ _ h=>(h rfl).elim⟩ rfl rfl h (g.imp id λh=>⟨h.1,λh2=>(by cases h2)⟩)
  .obtain⟨a0,a1⟩:=hA (.inr (.inr rfl));refine gJ (aR a0 a1 (aR a0 a1 (aK (λ_=>ar ?_) λ_=>ar ?_)));all_goals
    simp only[aZ,bm,sG];refine hk F _ _ _ _ _ _ _ _ _ _ _ _ _ (λ_ _=>fin _ _ _ rfl rfl keep) (λh=>by omega) (λt' h g=>?_) t1 _;exact done _ ce fu t' (apB (by decide) _) ⟨λh=>(by cases h),λh=>(by cases h),λ_=>(by decide),λ_ _ h=>(h rfl).elim⟩ rfl rfl h (g.imp id λh=>⟨h.1,λh2=>(by cases h2)⟩)
 .refine ⟨?_,λh1 h2=>(hz ⟨h1,h2⟩).elim⟩;unfold SG wH Dr Prod.p12 aV bg bp cw dN jd uy wJ Prod.q10 Kk Prod.q13 bL db mg MM ck be bK kA aE;refine Hu hn hc hs hI (λo=>OT o (SQ n I L)) (λy h=>.inr (ar h)) _ λe v sy hp _ _ _ _ _=>.inl ?_
  obtain⟨sy0,ce,fu,l⟩:=s;have vl:=hp.fs.vc.vl;by_cases hl:l.length=N
  .have ht:¬t=(i:Int):=λh=>hz ⟨hl,h⟩
   dsimp only;cases M (sy0,ce,fu,l) with
   |none=>rfl
   |some y=>rw[Vt,bF ht];rfl
  .show obind (M (sy0,ce,fu,l)) _=ah;rw[h0 sy0 ce fu l (by have h1:l.length=I.2.length:=hp.fs.th;have:=hp.fs.vc.tl;have:=vl.t;omega) hl];rfl
theorem AJ {Z W V:Type} {n:Nat} {U:CT} {L:List ET} {i:Nat} {u:Int} {l:List TT} {z:Z} {t1:Z->List Int->List (List Int)->W} {J:W->V} {I:V->TT->List TT} (Y:∀ R T t',I (J (t1 z R T)) t'=l.set i t'):KR n U L i u l z (KG (i:Int) t1 J I):=by
 intro F p sy kd o v si ds fs ce fu R T ev fin park done ht pc;unfold KG wH aV bg bp cw dN jd uy wJ Prod.q10 Kk nh be iI bK aE cB;dsimp only;have done:∀ t',TH F (n+1) t'->(t'.2.1.length=0\/t'.2.2.2=bl .i64 (ev+1)/\(kd=16->t'.1=p))->SQ n U L ((sy,ce,fu,I (J (t1 z R T)) t'),((i:Int),kd,o,v,si,ds,fs),ai):=λt' h g=>by rw[Y];exact done t' h g
 by_cases h1:kd=16
 .subst h1;exact gJ (gJ (fD rfl (ar (fD rfl (ar (fx (aQ rfl) (ar (done _ (park (.inl rfl)) (.inr ⟨rfl,λ_=>rfl⟩)))))))))
 by_cases h2:kd=2
 .subst h2;exact gJ (gJ (fx rfl (ar (fD rfl (ar (fx (aQ rfl) (ar (done _ (park (.inr rfl)) (.inr ⟨rfl,λh=>(by cases h)⟩)))))))))
 rw[bF h1,bF h2];exact gJ (gJ (fx rfl (ar (fx rfl (aR (ep i) ht (aT (ax (fin h1 h2) λy M=>ar (fx (aQ rfl) (ar (done _ M.1 (M.2.imp id λh=>⟨h,λh2=>(h1 h2).elim⟩)))))))))))
theorem XT {n:Nat} (hn:n+1<=100000) (I:CT) (L:List ET) (s:ST) (t u:Int) (hc:CB I) (hs:SV n L s) (J:Ks I L s):OT (mE (I,s,t,u)) (SQ n I L)/\(s.2.2.2.length=4->t=0->Ok (mE (I,s,t,u)) (SQ n I L)):=by
 refine AH 4 0 hn I L s t u hc hs J Sa λsy ce fu l hs hce hfu hl=>⟨by decide,?_⟩
 obtain⟨a,b,c,d,rfl⟩:∃ a b c d,l=[a,b,c,d]:=by
  rcases l with _|⟨a,_|⟨b,_|⟨c,_|⟨d,_|⟨e,l⟩⟩⟩⟩⟩;all_goals first|exact⟨_,_,_,_,rfl⟩|(simp at hl;done)|(exfalso;simp only[bZ] at hl;omega)
 refine ⟨_,Yh sy ce fu a b c d hs hce hfu,rfl,rfl,rfl,rfl,rfl,rfl,AJ λR T t'=>rfl⟩
theorem XS {n:Nat} (hn:n+1<=100000) (I:CT) (L:List ET) (s:ST) (t u:Int) (hc:CB I) (hs:SV n L s) (J:Ks I L s):OT (mD (I,s,t,u)) (SQ n I L)/\(s.2.2.2.length=4->t=1->Ok (mD (I,s,t,u)) (SQ n I L)):=by
 refine AH 4 1 hn I L s t u hc hs J R_ λsy ce fu l hs hce hfu hl=>⟨by decide,?_⟩
 obtain⟨a,b,c,d,rfl⟩:∃ a b c d,l=[a,b,c,d]:=by
  rcases l with _|⟨a,_|⟨b,_|⟨c,_|⟨d,_|⟨e,l⟩⟩⟩⟩⟩;all_goals first|exact⟨_,_,_,_,rfl⟩|(simp at hl;done)|(exfalso;simp only[bZ] at hl;omega)
 refine ⟨_,Yg sy ce fu a b c d hs hce hfu,rfl,rfl,rfl,rfl,rfl,rfl,AJ λR T t'=>rfl⟩
theorem XR {n:Nat} (hn:n+1<=100000) (I:CT) (L:List ET) (s:ST) (t u:Int) (hc:CB I) (hs:SV n L s) (J:Ks I L s):OT (kY (I,s,t,u)) (SQ n I L)/\(s.2.2.2.length=4->t=2->Ok (kY (I,s,t,u)) (SQ n I L)):=by
 refine AH 4 2 hn I L s t u hc hs J R9 λsy ce fu l hs hce hfu hl=>⟨by decide,?_⟩
 obtain⟨a,b,c,d,rfl⟩:∃ a b c d,l=[a,b,c,d]:=by
  rcases l with _|⟨a,_|⟨b,_|⟨c,_|⟨d,_|⟨e,l⟩⟩⟩⟩⟩;all_goals first|exact⟨_,_,_,_,rfl⟩|(simp at hl;done)|(exfalso;simp only[bZ] at hl;omega)
 refine ⟨_,Yf sy ce fu a b c d hs hce hfu,rfl,rfl,rfl,rfl,rfl,rfl,AJ λR T t'=>rfl⟩
theorem XQ {n:Nat} (hn:n+1<=100000) (I:CT) (L:List ET) (s:ST) (t u:Int) (hc:CB I) (hs:SV n L s) (J:Ks I L s):OT (jZ (I,s,t,u)) (SQ n I L)/\(s.2.2.2.length=4->t=3->Ok (jZ (I,s,t,u)) (SQ n I L)):=by
 refine AH 4 3 hn I L s t u hc hs J R8 λsy ce fu l hs hce hfu hl=>⟨by decide,?_⟩
 obtain⟨a,b,c,d,rfl⟩:∃ a b c d,l=[a,b,c,d]:=by
  rcases l with _|⟨a,_|⟨b,_|⟨c,_|⟨d,_|⟨e,l⟩⟩⟩⟩⟩;all_goals first|exact⟨_,_,_,_,rfl⟩|(simp at hl;done)|(exfalso;simp only[bZ] at hl;omega)
 refine ⟨_,Ye sy ce fu a b c d hs hce hfu,rfl,rfl,rfl,rfl,rfl,rfl,AJ λR T t'=>rfl⟩
theorem XW {n:Nat} (hn:n+1<=100000) (I:CT) (L:List ET) (s:ST) (t u:Int) (hc:CB I) (hs:SV n L s) (J:Ks I L s):OT (ji (I,s,t,u)) (SQ n I L)/\(s.2.2.2.length=3->t=0->Ok (ji (I,s,t,u)) (SQ n I L)):=by
 refine AH 3 0 hn I L s t u hc hs J Sd λsy ce fu l hs hce hfu hl=>⟨by decide,?_⟩
 obtain⟨a,b,c,rfl⟩:∃ a b c,l=[a,b,c]:=by
  rcases l with _|⟨a,_|⟨b,_|⟨c,_|⟨d,_|⟨e,l⟩⟩⟩⟩⟩;all_goals first|exact⟨_,_,_,rfl⟩|(simp at hl;done)|(exfalso;simp only[bZ] at hl;omega)
 refine ⟨_,Yk sy ce fu a b c hs hce hfu,rfl,rfl,rfl,rfl,rfl,rfl,AJ λR T t'=>rfl⟩
theorem XV {n:Nat} (hn:n+1<=100000) (I:CT) (L:List ET) (s:ST) (t u:Int) (hc:CB I) (hs:SV n L s) (J:Ks I L s):OT (iz (I,s,t,u)) (SQ n I L)/\(s.2.2.2.length=3->t=1->Ok (iz (I,s,t,u)) (SQ n I L)):=by
 refine AH 3 1 hn I L s t u hc hs J Sc λsy ce fu l hs hce hfu hl=>⟨by decide,?_⟩
 obtain⟨a,b,c,rfl⟩:∃ a b c,l=[a,b,c]:=by
  rcases l with _|⟨a,_|⟨b,_|⟨c,_|⟨d,_|⟨e,l⟩⟩⟩⟩⟩;all_goals first|exact⟨_,_,_,rfl⟩|(simp at hl;done)|(exfalso;simp only[bZ] at hl;omega)
 refine ⟨_,Yj sy ce fu a b c hs hce hfu,rfl,rfl,rfl,rfl,rfl,rfl,AJ λR T t'=>rfl⟩
theorem XU {n:Nat} (hn:n+1<=100000) (I:CT) (L:List ET) (s:ST) (t u:Int) (hc:CB I) (hs:SV n L s) (J:Ks I L s):OT (gX (I,s,t,u)) (SQ n I L)/\(s.2.2.2.length=3->t=2->Ok (gX (I,s,t,u)) (SQ n I L)):=by
 refine AH 3 2 hn I L s t u hc hs J Sb λsy ce fu l hs hce hfu hl=>⟨by decide,?_⟩
 obtain⟨a,b,c,rfl⟩:∃ a b c,l=[a,b,c]:=by
  rcases l with _|⟨a,_|⟨b,_|⟨c,_|⟨d,_|⟨e,l⟩⟩⟩⟩⟩;all_goals first|exact⟨_,_,_,rfl⟩|(simp at hl;done)|(exfalso;simp only[bZ] at hl;omega)
 refine ⟨_,Yi sy ce fu a b c hs hce hfu,rfl,rfl,rfl,rfl,rfl,rfl,AJ λR T t'=>rfl⟩
theorem XY {n:Nat} (hn:n+1<=100000) (I:CT) (L:List ET) (s:ST) (t u:Int) (hc:CB I) (hs:SV n L s) (J:Ks I L s):OT (gr (I,s,t,u)) (SQ n I L)/\(s.2.2.2.length=2->t=0->Ok (gr (I,s,t,u)) (SQ n I L)):=by
 refine AH 2 0 hn I L s t u hc hs J Sf λsy ce fu l hs hce hfu hl=>⟨by decide,?_⟩
 obtain⟨a,b,rfl⟩:∃ a b,l=[a,b]:=by
  rcases l with _|⟨a,_|⟨b,_|⟨c,_|⟨d,_|⟨e,l⟩⟩⟩⟩⟩;all_goals first|exact⟨_,_,rfl⟩|(simp at hl;done)|(exfalso;simp only[bZ] at hl;omega)
 refine ⟨_,Ym sy ce fu a b hs hce hfu,rfl,rfl,rfl,rfl,rfl,rfl,AJ λR T t'=>rfl⟩
theorem XX {n:Nat} (hn:n+1<=100000) (I:CT) (L:List ET) (s:ST) (t u:Int) (hc:CB I) (hs:SV n L s) (J:Ks I L s):OT (fU (I,s,t,u)) (SQ n I L)/\(s.2.2.2.length=2->t=1->Ok (fU (I,s,t,u)) (SQ n I L)):=by
 refine AH 2 1 hn I L s t u hc hs J Se λsy ce fu l hs hce hfu hl=>⟨by decide,?_⟩
 obtain⟨a,b,rfl⟩:∃ a b,l=[a,b]:=by
  rcases l with _|⟨a,_|⟨b,_|⟨c,_|⟨d,_|⟨e,l⟩⟩⟩⟩⟩;all_goals first|exact⟨_,_,rfl⟩|(simp at hl;done)|(exfalso;simp only[bZ] at hl;omega)
 refine ⟨_,Yl sy ce fu a b hs hce hfu,rfl,rfl,rfl,rfl,rfl,rfl,AJ λR T t'=>rfl⟩
theorem XZ {n:Nat} (hn:n+1<=100000) (I:CT) (L:List ET) (s:ST) (t u:Int) (hc:CB I) (hs:SV n L s) (J:Ks I L s):OT (fV (I,s,t,u)) (SQ n I L)/\(s.2.2.2.length=1->t=0->Ok (fV (I,s,t,u)) (SQ n I L)):=by
 refine AH 1 0 hn I L s t u hc hs J Sg λsy ce fu l hs hce hfu hl=>⟨by decide,?_⟩
 obtain⟨a,rfl⟩:∃ a,l=[a]:=by
  rcases l with _|⟨a,_|⟨b,_|⟨c,_|⟨d,_|⟨e,l⟩⟩⟩⟩⟩;all_goals first|exact⟨_,rfl⟩|(simp at hl;done)|(exfalso;simp only[bZ] at hl;omega)
 refine ⟨_,Yn sy ce fu a hs hce hfu,rfl,rfl,rfl,rfl,rfl,rfl,AJ λR T t'=>rfl⟩
theorem X0 {n:Nat} (hn:n+1<=100000) (c:CT) (L:List ET) (s:ST) (t u:Int) (hc:CB c) (hs:SV n L s) (Z:Ks c L s):Ok (zG (c,s,t,u)) (SQ n c L):=by
 unfold zG;have I:=XT hn c L s t u hc hs Z;have J:=XS hn c L s t u hc hs Z;have M:=XR hn c L s t u hc hs Z;have U:=XQ hn c L s t u hc hs Z;have Y:=XW hn c L s t u hc hs Z;have a31:=XV hn c L s t u hc hs Z;have a32:=XU hn c L s t u hc hs Z;have a20:=XY hn c L s t u hc hs Z;have a21:=XX hn c L s t u hc hs Z;have a10:=XZ hn c L s t u hc hs Z;by_cases hz:s.2.2.2.length<=4/\0<=t/\t<(s.2.2.2.length:Int)
 .obtain⟨h1,h2,h3⟩:=hz;have:(s.2.2.2.length=4/\t=0)\/(s.2.2.2.length=4/\t=1)\/(s.2.2.2.length=4/\t=2)\/(s.2.2.2.length=4/\t=3)\/(s.2.2.2.length=3/\t=0)\/(s.2.2.2.length=3/\t=1)\/(s.2.2.2.length=3/\t=2)\/(s.2.2.2.length=2/\t=0)\/(s.2.2.2.length=2/\t=1)\/(s.2.2.2.length=1/\t=0):=by omega
  rcases this with h|h|h|h|h|h|h|h|h|h
  .exact (I.2 h.1 h.2).orL
  .exact I.1.orR (J.2 h.1 h.2).orL
  .exact I.1.orR (J.1.orR (M.2 h.1 h.2).orL)
  .exact I.1.orR (J.1.orR (M.1.orR (U.2 h.1 h.2).orL))
  .exact I.1.orR (J.1.orR (M.1.orR (U.1.orR (Y.2 h.1 h.2).orL)))
  .exact I.1.orR (J.1.orR (M.1.orR (U.1.orR (Y.1.orR (a31.2 h.1 h.2).orL))))
  .exact I.1.orR (J.1.orR (M.1.orR (U.1.orR (Y.1.orR (a31.1.orR (a32.2 h.1 h.2).orL)))))
  .exact I.1.orR (J.1.orR (M.1.orR (U.1.orR (Y.1.orR (a31.1.orR (a32.1.orR (a20.2 h.1 h.2).orL))))))
  .exact I.1.orR (J.1.orR (M.1.orR (U.1.orR (Y.1.orR (a31.1.orR (a32.1.orR (a20.1.orR (a21.2 h.1 h.2).orL)))))))
  .exact I.1.orR (J.1.orR (M.1.orR (U.1.orR (Y.1.orR (a31.1.orR (a32.1.orR (a20.1.orR (a21.1.orR (a10.2 h.1 h.2)))))))))
 .refine Ok.orL ?_;unfold mE aV bg db;refine Hu hn hc hs Z (λo=>Ok o (SQ n c L)) (λy h=>ar h) _ λe v sy hp _ _ _ _ _=>(hz ?_).elim
  have h1:s.2.2.2.length=c.2.length:=hp.fs.th;have h2:c.2.length=c.1.2.2.2.2.1.length:=hp.fs.vc.tl;have h3:c.1.2.2.2.2.1.length<=4:=hp.fs.vc.vl.t;have h4:0<=t:=hp.t0;have h5:t<(c.2.length:Int):=hp.t1;exact⟨by omega,h4,by omega⟩
theorem acn (c:CT) (s:ST) (l:List (Int×Int)) (hc:CB c) (hs:SV 0 [] s) (hI:Ks c [] s) (hl:l.length<=9223372036854775806):Ok (vM (c,s,l)) λy=>y.1.length<=400/\(∀ e∈y.1,EvF c.1 e/\Yd e)/\∃ sy ce fu,Acw c.1 y.1 sy ce fu:=by
 unfold vM aV bg db bx bE bK aX cK aE cB;refine pM (λx=>((l.length:Int)-x.1).toNat) (λx=>0<=x.1/\x.2.2.1=c/\SV x.2.1.length x.2.1 x.2.2.2.1/\Ks c x.2.1 x.2.2.2.1/\x.2.1.length<=400/\∀ e∈x.2.1,EvF c.1 e/\Yd e) ?_ ⟨eJ _,rfl,hs,hI,by simp,λe he=>(by cases he)⟩;rintro⟨(i:Int),es,c',s',z⟩ ⟨U,e1,e2,eI,e3,I⟩;dsimp only at U e1 e2 eI e3 I;subst e1;refine aY (λx=>x.2=(es,c',s',z)/\(x.1=ai->i<(l.length:Int)/\es.length<400)) ?_ ?_
 .refine bH (λg=>ar ⟨rfl,λh=>⟨g,?_⟩⟩) λ_=>ar ⟨rfl,λh=>(by cases h)⟩
  dsimp only at h;rw[sW] at h;dsimp only[au] at h;omega
 rintro⟨b,x⟩ ⟨Z,Y⟩;dsimp only at Z Y;subst Z;refine aP (λh=>?_) λ_=>ar ⟨e3,I,_,_,_,eI.ac⟩
 obtain⟨g1,g2⟩:=Y h;refine aY (λx=>x.2.1=c'/\SV x.1.length x.1 x.2.2.1/\Ks c' x.1 x.2.2.1/\x.1.length<=400/\∀ e∈x.1,EvF c'.1 e/\Yd e) ?_ ?_
 .refine aR U g1 (aT ?_);refine ax (X0 (n:=es.length) (by omega) c' es s' _ _ hc e2 eI) λy hy=>?_
  refine aP (λh=>?_) λ_=>ar ⟨rfl,e2,eI,e3,I⟩
  obtain⟨h1,hJ,h2,h3⟩:=hy h;refine bk (by simp;omega) (by omega) (ar ⟨rfl,?_,hJ,by simp;omega,λe he=>?_⟩)
  .dsimp only;rw[bu,gm];exact h1
  .rcases bW.1 he with he|he
   .exact I e he
   .rw[aL] at he;subst he;exact⟨h2,h3⟩
 rintro⟨es',c2,s2,z2⟩ ⟨k1,k2,kI,M,J⟩;dsimp only at k1 k2 kI M J;subst k1;refine ar ?_;dsimp only;rw[ic (n:=i+1) (by omega) (by omega)];exact⟨⟨by omega,rfl,k2,kI,M,J⟩,by omega⟩
theorem CB.vc {c:CT} (hc:CB c):VC c:=by
 obtain⟨b,h1,h2⟩:=RO c hc.th hc.ins;rw[hc.ok] at h1;cases h1;exact h2 rfl
theorem ah3 (c:CT) (l:List (Int×Int)) (hc:CB c) (hl:l.length<=9223372036854775806):Ok (yz (c,l)) λy=>TR y.1:=by
 unfold yz;refine aU hc.ok (d_ (λh=>(by cases h)) λ_=>?_);have hv:=hc.vc;refine ax (UU c hc.ok hv) λs hs=>?_
 refine ax (acn c s l hc hs.1 hs.2 hl) λy I=>ar ?_
 exact⟨hv.vl.wb,hv.vl,λe he=>(I.2.1 e he).1,by have:=I.1;dsimp only;omega,λe he=>(I.2.1 e he).2,hc.wx,I.2.2⟩
theorem U2 (l:List Int) (hl:l.length<=1000000):Ok (oA l) λy=>y.length=l.length:=by
 unfold oA bx bE bK aX cK aE cB;refine ch l.length (λi x=>x.1=(i:Int)/\x.2.length=i) ?_ ?_ ⟨rfl,rfl⟩
 .rintro i ⟨a,b⟩ hi ⟨e1,e2⟩;dsimp only at e1 e2;subst e1;refine dC ?_;refine cD (aT (cD (aT (bk (by simp;omega) (by omega) (ar ?_)))));dsimp only;exact⟨gW (by omega),by simp;omega⟩
 .rintro⟨a,b⟩ ⟨e1,e2⟩;dsimp only at e1 e2;subst e1;exact dx (ar e2)
theorem fc (e:Xp):dT (Xp.op e,Xp.n e,Xp.name e,Xp.l e)=e:=by cases e;rfl
theorem yl (s:Sx):nE (Sx.op s,Sx.line s,Sx.name s,Sx.arg s,Sx.index s,Sx.expr s,Sx.body s,Sx.els s)=s:=by cases s;rfl
abbrev NV:List (List UInt8):=[[97],[98],[120],[121],[118]]
def GE:Nat->Xp->Prop
 |0,_=>False
 |d+1,e=>(e.op=3->e.name=[113])/\(e.op≠1->e.op≠2->1<=e.l.length)/\e.l.length<=2/\(∀ x∈e.l,GE d x)/\(e.op=2->e.name∈NV)/\(e.op≠1->e.op≠2->e.op≠3->2<=e.l.length/\6<=e.op/\e.op<=18)
theorem GE.mono:∀ {d:Nat} {e:Xp},GE d e->GE (d+1) e
 |0,_,h=>h.elim
 |_+1,_,h=>⟨h.1,h.2.1,h.2.2.1,λx I=>(h.2.2.2.1 x I).mono,h.2.2.2.2⟩
theorem GE.le {d k:Nat} {e:Xp} (h:GE d e) (hk:d<=k):GE k e:=by
 induction hk with
 |refl=>exact h
 |step _ I=>exact I.mono
theorem Nb (n:Int):qZ n=af (.mk 1 n [] []):=rfl
theorem G7 (s:List UInt8):pa s=af (.mk 2 0 s []):=rfl
theorem EC (o:Int) (a b:Xp):nD (o,a,b)=af (.mk o 0 [] [a,b]):=by
 cases a;cases b;rfl
theorem tu (s:List UInt8) (e:Xp):jg (s,e)=af (.mk 1 0 s [] [] e [] []):=by
 cases e;rfl
abbrev MK:Type:=Int×Int×Bool×Bool×Bool×Bool
abbrev Oz:Type:=List Int×Int
abbrev HD:Type:=Bool×List (List UInt8)
theorem GE.num (n:Int) (d:Nat):GE (d+1) (.mk 1 n [] []):=⟨λh=>(by cases h),λh=>(h rfl).elim,by simp[Xp.l],λx I=>(by cases I),λh=>(by cases h),λh=>(h rfl).elim⟩
theorem GE.nm {s:List UInt8} (hs:s∈NV) (d:Nat):GE (d+1) (.mk 2 0 s []):=⟨λh=>(by cases h),λ_ h=>(h rfl).elim,by simp[Xp.l],λx I=>(by cases I),λ_=>hs,λ_ h=>(h rfl).elim⟩
theorem GE.bin {o:Int} {a b:Xp} {d:Nat} (J:6<=o/\o<=18) (M:GE d a) (hb:GE d b):GE (d+1) (.mk o 0 [] [a,b]):=
 ⟨λh=>(by have h:o=3:=h;omega),λ_ _=>by simp[Xp.l],by simp[Xp.l],λx I=>by
   simp only[Xp.l,bi,cr,fY] at I;rcases I with rfl|rfl
   .exact M
   .exact hb,λh=>(by have h:o=2:=h;omega),λ_ _ _=>⟨by simp[Xp.l],J⟩⟩
theorem GE.ix {a:Xp} {d:Nat} (J:GE d a):GE (d+1) (.mk 3 0 [113] [a]):=
 ⟨λ_=>rfl,λ_ _=>by simp[Xp.l],by simp[Xp.l],λx I=>by
   simp only[Xp.l,bi,cr,fY] at I;rw[I];exact J,λh=>(by cases h),λ_ _ h=>(h rfl).elim⟩
theorem CE:∀ (n d:Nat),d<n->d<=10->∀ (m:MK) (t:Oz) (h:HD),TP t->Ok (ik n ((d:Int),m,t,h)) λy=>GE (d+1) y.1/\y.2.1=m/\uv t y.2.2.1/\y.2.2.2=h
 |0,d,hd,_,_,_,_,_=>by omega
 |n+1,d,hd,h10,m,t,h,ht=>by
  rw[ya];unfold nL aV bg bL db cO be bx bE kA aX aE;refine ax (gf 10 t ht) λy I=>?_
  obtain⟨k,t1⟩:=y;obtain⟨s1,k0,k1,_⟩:=I;have k1:=k1 (by decide);dsimp only at s1 k0 k1;refine aY (λx=>x.2=(m,t1,h,(0,0,[]),[[97],[98],[120],[121],[118],[120],[121]])/\(x.1=aj->2<=k/\(d=0->k<7))) ?_ ?_
  .refine bH (λ_=>ar ⟨rfl,λh=>(by cases h)⟩) λg=>aK (λg2=>ar ⟨rfl,λg3=>⟨g,λ_=>?_⟩⟩) λg2=>ar ⟨rfl,λ_=>⟨g,λh=>(g2 (by dsimp only;omega)).elim⟩⟩
   dsimp only at g3;rw[lP] at g3;exact g3
  rintro⟨b,x⟩ ⟨e,hb⟩;dsimp only at e hb;subst e;refine aP (λ_=>?_) λg=>?_
  .refine ax (gf 4 t1 s1.p) λy I=>?_
   refine aU (Nb _) (ar ?_);exact⟨GE.num _ _,rfl,s1.trans I.1,rfl⟩
  obtain⟨q0,q1⟩:=hb g;refine bH (λg=>?_) λg=>?_
  .refine ax (gf _ t1 s1.p) λy I=>?_
   obtain⟨u1,M,J,_⟩:=I;have J:=J (show (1:Int)<=7 by decide);refine aR M J (aR M J (aT ?_));refine aU (G7 _) (ar ?_);have hnv:∀ z∈([[97],[98],[120],[121],[118],[120],[121]]:List (List UInt8)),z∈NV:=by decide
   exact⟨GE.nm (hnv _ (bJ (T:=.str) M J)) _,rfl,s1.trans u1,rfl⟩
  dsimp only at g;have hd0:d≠0:=λh=>by have:=q1 h;omega
  obtain⟨d,rfl⟩:∃ k,d=k+1:=⟨d-1,by omega⟩
  refine aK (λg=>?_) λg=>?_
  .refine ax (CE n 0 (by omega) (by omega) m t1 h s1.p) λy I=>?_
   obtain⟨e,m',t',h'⟩:=y;obtain⟨v1,Z,U,Y⟩:=I;dsimp only at v1 Z U Y;subst Z;subst Y;refine bd (by simp) (ar ?_);dsimp only;rw[fc];exact⟨(GE.ix (v1.le (by omega):GE (d+1) e)),rfl,s1.trans U,rfl⟩
  .refine ax (gf _ t1 s1.p) λy I=>?_
   obtain⟨k2,t2⟩:=y;obtain⟨u1,M,J,_⟩:=I;have J:=J (by decide);dsimp only at u1 M J;refine aR M J (aR M J (aT ?_));have ho:(6:Int)<=aJ (T:=.int .i64) [6,7,8,11,13,17] k2/\aJ (T:=.int .i64) [6,7,8,11,13,17] k2<=(18:Int):=by
    have h1:=bJ (T:=.int .i64) (xs:=([6,7,8,11,13,17]:List Int)) M J;have:∀ z:Int,z∈([6,7,8,11,13,17]:List Int)->6<=z/\z<=18:=by decide
    exact this _ h1
   have ew:bl .i64 (((d+1:Nat):Int)-1)=(d:Int):=by rw[ic (by omega) (by omega)];omega
   dsimp only;rw[ew];refine ax (CE n d (by omega) (by omega) m t2 h u1.p) λy I=>?_
   obtain⟨e,m',t',h'⟩:=y;obtain⟨v1,Z,U,Y⟩:=I;dsimp only at v1 Z U Y;subst Z;subst Y;refine bd (by simp) ?_;refine ax (CE n d (by omega) (by omega) m' t' h' U.p) λy I=>?_
   obtain⟨e2,m2,t2',h2⟩:=y;obtain⟨w1,w2,w3,w4⟩:=I;dsimp only at w1 w2 w3 w4;subst w2;subst w4;refine bd (by simp) ?_;refine aU (EC _ _ _) (ar ?_);dsimp only;rw[fc];exact⟨GE.bin ho v1 w1,rfl,s1.trans (u1.trans (U.trans w3)),rfl⟩
theorem Y' (d:Nat) (hd:d<=10) (m:MK) (t:Oz) (h:HD) (ht:TP t):Ok (eY ((d:Int),m,t,h)) λy=>GE (d+1) y.1/\y.2.1=m/\uv t y.2.2.1/\y.2.2.2=h:=CE fuel d (by rw[jL];omega) hd m t h ht
end
end Go.Proofs.YtgijlolllojpaaaGreatDoor.AI
