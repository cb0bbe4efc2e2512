/-
  Texts of the proof, part 2 of 6: what is used to prove the statement. No condition.
-/
import Derived.Test.YtkagidinekdnoaaGreatDoorHBClocksQ0
namespace Go.Proofs.YtkagidinekdnoaaGreatDoor.AI
open Go.RowKit
set_option maxRecDepth 100000
set_option maxHeartbeats 4000000
set_option linter.unusedVariables false
set_option linter.unusedSimpArgs false
open _root_.Bool renaming true→ai,false→aj
open _root_.Int renaming ofNat_eq_natCast→au,ofNat→aO,toNat→aT,reduceEq→aU,reduceNeg→bn,toNat_natCast→dQ
open _root_.List renaming length→al,replicate→aG,length_cons→bY,range→c4,take→dO,length_singleton→dR,cons_append→gm,length_nil→jS,take_succ_cons→vX,foldl_cons→xd
open _root_.Nat renaming beq→aC,blt→gi
open _root_.Option renaming some→af,none→ah,map_some→cg,getD_some→uW
open _root_.Prod renaming p2→aY,p3→bi,p4→bw,q3→bK,p5→cu,q5→cY,q4→dx,p6→dU,q6→fh,q7→kB,p7→kC,q8→pU,p8→zV,p9→Ci,p10→D3
open _root_.Sum renaming inr→bQ,inl→mm
noncomputable section
abbrev Kd0:Ty:=(.st (.pr tL (.pr tL (.pr tL (.pr tL (.pr tL (.pr tL (.pr (.sl aM) (.pr tL (.sl aM))))))))))
abbrev Kd1:Ty:=(.st (.pr .bool .bool))
abbrev Yd0:=((List (List Int))×(List (List Int))×(List (List Int))×(List (List Int))×(List (List Int))×(List (List Int))×(List Int)×(List (List Int))×List Int)
abbrev Yd1:=((List Int)×(List (List Int))×(List (List Int))×(List (List Int))×(List (List Int))×(List (List Int))×(List (List Int))×(List (List Int))×(List Int)×List Int)
abbrev Yd2:=(Int×gE×(List Bool)×List dw)
abbrev Yd3:=(Int×gK×gu×(List fm)×ca×ca×List (Int×Int×Int))
abbrev Yd4:=(dD×Int×Int×Int×Int×Int×(List Int)×List Int)
abbrev Yd5:=(List (Int×Int))
abbrev Yd6:=(Int×(List Bool)×List dw)
def Mp {α R:Type} [DecidableEq α] (a b:α) (r:Option R):Option R:=if a=b then r else ah
theorem P5 {α R:Type} [DecidableEq α] (a b:α) (r:Option R):Mp a b r=same a b r:=by unfold Mp same;by_cases h:a=b<;>simp[h]
theorem P4 {α R:Type} [DecidableEq α] {a b:α} (h:a=b) (r:Option R):Mp a b r=r:=by unfold Mp;rw[aF h]
def iV (x:(List Int)×Int):Option (Int):=
 (jn (α:=Bool) (bx x.2 0 (aE ai) (aE (c7 (aX x.1) x.2))) λI=>(bcase I (af 0) (uO x.2 x.1 (af (aJ (T:=aM) x.1 x.2)))))
def vp (it:xU) (x:(List Int)×List Int):Option (List Int):=
 (bB (c7 0 (ik (aX x.1) (aX x.2))&&c7 (ik (aX x.1) (aX x.2)) (ik (aX x.1) (aX x.2))&&a_ (aT (ik (aX x.1) (aX x.2))) 8) (it (Int×List Int) _ (λI=>(bx I.1 (aO (al (aG (aT (ik (aX x.1) (aX x.2))) (0:Int)))) (obind (iV (x.1,I.1)) λM=>(obind (iV (x.2,I.1)) λJ=>(ck (fe I.1 (al I.2)) (cL ((cC I.1),(cQ I.2 I.1 (ik M J))))))) (aE I.2))) (0,(aG (aT (ik (aX x.1) (aX x.2))) (0:Int)))))
def yT (x:(List Int)×List Int):Option (List Int):=vp @iter x
def kc (x:(List Int)×List Int):Option (List Int):=vp @fH x
def xq (x:(List Int)×Int):Option (Int):=
 (jn (α:=Bool) (bx x.2 0 (aE ai) (aE (c7 (aX x.1) x.2))) λI=>(bcase I (af 0) (uO x.2 x.1 (af (aJ (T:=aM) x.1 x.2)))))
def EO (it:xU) (x:(List Int)×List Int):Option (List Int):=
 (bB (c7 0 (ik (aX x.1) (aX x.2))&&c7 (ik (aX x.1) (aX x.2)) (ik (aX x.1) (aX x.2))&&a_ (aT (ik (aX x.1) (aX x.2))) 8) (it (Int×List Int) _ (λI=>(bx I.1 (aO (al (aG (aT (ik (aX x.1) (aX x.2))) (0:Int)))) (obind (xq (x.1,I.1)) λM=>(obind (xq (x.2,I.1)) λJ=>(ck (fe I.1 (al I.2)) (cL ((cC I.1),(cQ I.2 I.1 (ik M J))))))) (aE I.2))) (0,(aG (aT (ik (aX x.1) (aX x.2))) (0:Int)))))
def Ek (x:(List Int)×List Int):Option (List Int):=EO @iter x
def pA (x:(List Int)×List Int):Option (List Int):=EO @fH x
def N5 (x:List Int):Option (List Int):=
 (bcase (aC (al x) 0) (Ff (af ([]:List Int)) (bB (a_ (al ([]:List Int)+al x) 8) (af (([]:List Int)++x)))) (bB (a_ (al ([]:List Int)+al x) 8) (af (([]:List Int)++x))))
def BS (x:List Int):Option (List Int):=chk (a_ (al x) 8) λ_=>af x
def xB (it:xU) (x:List (List Int)):Option (List (List Int)):=
 (bB (c7 0 (aX x)&&c7 (aX x) (aX x)&&a_ (aT (aX x)) 24) (it (Int×List (List Int)) _ (λI=>(bx I.1 (aX x) (uO I.1 x (obind (BS (aJ (T:=(.sl aM)) x I.1)) λJ=>(ck (fe I.1 (al I.2)) (cL ((cC I.1),(cQ I.2 I.1 J)))))) (aE I.2))) (0,(aG (aT (aX x)) ([]:List Int)))))
def BJ (x:List (List Int)):Option (List (List Int)):=xB @iter x
def ij (x:List (List Int)):Option (List (List Int)):=xB @fH x
def Ix (x:List Int):Option (List Int):=
 (bcase (aC (al x) 0) (Ff (af ([]:List Int)) (bB (a_ (al ([]:List Int)+al x) 8) (af (([]:List Int)++x)))) (bB (a_ (al ([]:List Int)+al x) 8) (af (([]:List Int)++x))))
def oU (x:List Int):Option (List Int):=chk (a_ (al x) 8) λ_=>af x
def uo (x:(List (List Int))×(List (List Int))×(List (List Int))×(List (List Int))×(List (List Int))×(List (List Int))×(List Int)×(List (List Int))×List Int):Option ((List Int)×(List (List Int))×(List (List Int))×(List (List Int))×(List (List Int))×(List (List Int))×(List (List Int))×(List (List Int))×List Int):=
 (obind (ij x.1) λy1=>(obind (ij x.2.1) λy2=>(obind (ij x.p2) λy3=>(obind (ij x.p3) λZ=>(obind (ij x.p4) λY=>(obind (ij x.p5) λU=>(obind (oU x.p6) λM=>(obind (ij x.p7) λJ=>(obind (oU x.q8) λI=>(af (M,y1,y2,y3,Z,Y,U,J,I)))))))))))
def tR (x:Int×List (List Int)):Option ((List Int)×List (List Int)):=
 (jn (α:=Bool×List (List Int)) (bx x.1 0 (aE (ai,x.2)) (aE ((c7 (aX x.2) x.1),x.2))) λI=>(bcase I.1 (af (([]:List Int),I.2)) (ck (fe x.1 (al I.2)) (af ((aJ (T:=(.sl aM)) I.2 x.1),I.2)))))
def uq (x:gw×(List Int)×dD×(List (List Int))×(List (List Int))×(List (List Int))×(List (List Int))×(List (List Int))×(List (List Int))×(List (List Int))×List Int):Option ((List (List Int))×gw×(List Int)×dD×(List (List Int))×(List (List Int))×(List (List Int))×(List (List Int))×(List (List Int))×(List (List Int))×(List (List Int))×List Int):=
 (bd x.1.2.1 1 (ck (fe x.1.1 (al x.p4)) (af ([(aJ (T:=(.sl aM)) x.p4 x.1.1)],(x.1.1,x.1.2.1,x.1.p2,x.1.p3,x.1.p4,x.1.p5,x.1.q6),x.2.1,(x.p2.1,x.p2.2.1,x.p2.p2,x.p2.p3,x.p2.p4,x.p2.q5),x.p3,x.p4,x.p5,x.p6,x.p7,x.p8,x.p9,x.q10))) (bd x.1.2.1 21 (ck (fe x.1.p2 (al x.p3)) (af ([(aJ (T:=(.sl aM)) x.p3 x.1.p2)],(x.1.1,x.1.2.1,x.1.p2,x.1.p3,x.1.p4,x.1.p5,x.1.q6),x.2.1,(x.p2.1,x.p2.2.1,x.p2.p2,x.p2.p3,x.p2.p4,x.p2.q5),x.p3,x.p4,x.p5,x.p6,x.p7,x.p8,x.p9,x.q10))) (jn (α:=Bool×gw×(List Int)×dD×(List (List Int))×(List (List Int))×(List (List Int))×(List (List Int))×(List (List Int))×(List (List Int))×(List (List Int))×List Int) (bd x.1.2.1 6 (aE ((decide ((x.1.2.1:Int)=6)),(x.1.1,x.1.2.1,x.1.p2,x.1.p3,x.1.p4,x.1.p5,x.1.q6),x.2.1,(x.p2.1,x.p2.2.1,x.p2.p2,x.p2.p3,x.p2.p4,x.p2.q5),x.p3,x.p4,x.p5,x.p6,x.p7,x.p8,x.p9,x.q10)) (aE ((decide ((x.1.2.1:Int)=10)),(x.1.1,x.1.2.1,x.1.p2,x.1.p3,x.1.p4,x.1.p5,x.1.q6),x.2.1,(x.p2.1,x.p2.2.1,x.p2.p2,x.p2.p3,x.p2.p4,x.p2.q5),x.p3,x.p4,x.p5,x.p6,x.p7,x.p8,x.p9,x.q10))) λI=>(bcase I.1 (ck (fe I.2.1.p2 (al I.p6)) (ck (fe I.2.1.p2 (al I.p7)) (af ([(aJ (T:=(.sl aM)) I.p6 I.2.1.p2),(aJ (T:=(.sl aM)) I.p7 I.2.1.p2)],(I.2.1.1,I.2.1.2.1,I.2.1.p2,I.2.1.p3,I.2.1.p4,I.2.1.p5,I.2.1.q6),I.p2,(I.p3.1,I.p3.2.1,I.p3.p2,I.p3.p3,I.p3.p4,I.p3.q5),I.p4,I.p5,I.p6,I.p7,I.p8,I.p9,I.p10,I.q11)))) (bd x.1.2.1 8 (ck (fe I.2.1.p2 (al I.p6)) (af ([(aJ (T:=(.sl aM)) I.p6 I.2.1.p2)],(I.2.1.1,I.2.1.2.1,I.2.1.p2,I.2.1.p3,I.2.1.p4,I.2.1.p5,I.2.1.q6),I.p2,(I.p3.1,I.p3.2.1,I.p3.p2,I.p3.p3,I.p3.p4,I.p3.q5),I.p4,I.p5,I.p6,I.p7,I.p8,I.p9,I.p10,I.q11))) (bd x.1.2.1 17 (uO I.2.1.p2 I.p3.p2 (obind (tR ((aJ (T:=lh) I.p3.p2 I.2.1.p2).2,I.p6)) λM=>(bB (aC (al I.p6) (al M.2)&&ai) (obind (tR ((aJ (T:=lh) I.p3.p2 I.2.1.p2).2,I.p7)) λJ=>(bB (aC (al I.p7) (al J.2)&&ai) (ck (fe I.2.1.1 (al I.p10)) (af ([M.1,J.1,(aJ (T:=(.sl aM)) I.p10 I.2.1.1)],(I.2.1.1,I.2.1.2.1,I.2.1.p2,I.2.1.p3,I.2.1.p4,I.2.1.p5,I.2.1.q6),I.p2,(I.p3.1,I.p3.2.1,I.p3.p2,I.p3.p3,I.p3.p4,I.p3.q5),I.p4,I.p5,M.2,J.2,I.p8,I.p9,I.p10,I.q11)))))))) (bd x.1.2.1 3 (ck (fe I.2.1.p2 (al I.p8)) (af ([(aJ (T:=(.sl aM)) I.p8 I.2.1.p2)],(I.2.1.1,I.2.1.2.1,I.2.1.p2,I.2.1.p3,I.2.1.p4,I.2.1.p5,I.2.1.q6),I.p2,(I.p3.1,I.p3.2.1,I.p3.p2,I.p3.p3,I.p3.p4,I.p3.q5),I.p4,I.p5,I.p6,I.p7,I.p8,I.p9,I.p10,I.q11))) (bd x.1.2.1 23 (ck (fe I.2.1.p2 (al I.p9)) (af ([(aJ (T:=(.sl aM)) I.p9 I.2.1.p2)],(I.2.1.1,I.2.1.2.1,I.2.1.p2,I.2.1.p3,I.2.1.p4,I.2.1.p5,I.2.1.q6),I.p2,(I.p3.1,I.p3.2.1,I.p3.p2,I.p3.p3,I.p3.p4,I.p3.q5),I.p4,I.p5,I.p6,I.p7,I.p8,I.p9,I.p10,I.q11))) (bd x.1.2.1 12 (af ([I.p2],(I.2.1.1,I.2.1.2.1,I.2.1.p2,I.2.1.p3,I.2.1.p4,I.2.1.p5,I.2.1.q6),I.p2,(I.p3.1,I.p3.2.1,I.p3.p2,I.p3.p3,I.p3.p4,I.p3.q5),I.p4,I.p5,I.p6,I.p7,I.p8,I.p9,I.p10,I.q11)) (af (([]:List (List Int)),(I.2.1.1,I.2.1.2.1,I.2.1.p2,I.2.1.p3,I.2.1.p4,I.2.1.p5,I.2.1.q6),I.p2,(I.p3.1,I.p3.2.1,I.p3.p2,I.p3.p3,I.p3.p4,I.p3.q5),I.p4,I.p5,I.p6,I.p7,I.p8,I.p9,I.p10,I.q11)))))))))))
def Ah (it:xU) (x:gK×gu×(List fm)×ca×ca×List (Int×Int×Int)):Option Yd0:=
 (ck (c7 0 (aX x.p4)&&c7 (aX x.p4) (aX x.p4)&&a_ (aT (aX x.p4)) 24) (ck (c7 0 (aX x.2.1)&&c7 (aX x.2.1) (aX x.2.1)&&a_ (aT (aX x.2.1)) 24) (bB (c7 0 (aX x.1)&&c7 (aX x.1) (aX x.1)&&a_ (aT (aX x.1)) 24) (bB (c7 0 (aX x.p3)&&c7 (aX x.p3) (aX x.p3)&&a_ (aT (aX x.p3)) 24) (bB (c7 0 (aX x.p4)&&c7 (aX x.p4) (aX x.p4)&&a_ (aT (aX x.p4)) 24) (bB (c7 0 (aX x.p4)&&c7 (aX x.p4) (aX x.p4)&&a_ (aT (aX x.p4)) 8) (it (Int×(List (List Int))×(List (List Int))×(List (List Int))×(List (List Int))×(List (List Int))×(List (List Int))×(List (List Int))×List Int) _ (λI=>(bx I.1 (aO (al (aG (aT (aX x.p4)) (0:Int)))) (ck (fe I.1 (al I.q8)) (cL ((cC I.1),I.2.1,I.p2,I.p3,I.p4,I.p5,I.p6,I.p7,(cQ I.q8 I.1 (-1))))) (aE (I.2.1,I.p2,I.p3,I.p4,I.p5,I.p6,([]:List Int),I.p7,I.q8)))) (0,(aG (aT (aX x.p4)) ([]:List Int)),(aG (aT (aX x.p4)) ([]:List Int)),(aG (aT (aX x.2.1)) ([]:List Int)),(aG (aT (aX x.2.1)) ([]:List Int)),(aG (aT (aX x.1)) ([]:List Int)),(aG (aT (aX x.p3)) ([]:List Int)),(aG (aT (aX x.p4)) ([]:List Int)),(aG (aT (aX x.p4)) (0:Int))))))))))
def Eo (x:gK×gu×(List fm)×ca×ca×List (Int×Int×Int)):Option Yd0:=Ah @iter x
def pH (x:gK×gu×(List fm)×ca×ca×List (Int×Int×Int)):Option Yd0:=Ah @fH x
def sj (x:(List Int)×Int):Option (List Int):=
 (jn (α:=Bool) (iR 0 x.2 (aE (fO x.2 4)) (aE aj)) λM=>(jn (α:=Int) (bcase M (aE (ik (aX x.1) (cC x.2))) (aE (aX x.1))) λI=>(bB (c7 0 I&&c7 I I&&a_ (aT I) 8) (jn (α:=List Int) (jn (α:=Bool×List Int) (bcase M (ck (fe x.2 (al (Ts (aG (aT I) (0:Int)) x.1))) (aE ((fO (aJ (T:=aM) (Ts (aG (aT I) (0:Int)) x.1) x.2) 9223372036854775807),(Ts (aG (aT I) (0:Int)) x.1)))) (aE (aj,(Ts (aG (aT I) (0:Int)) x.1)))) λJ=>(bcase J.1 (ck (fe x.2 (al J.2)) (ck (fe x.2 (al J.2)) (aE (cQ J.2 x.2 (bk .i64 ((aJ (T:=aM) J.2 x.2)+1)))))) (aE J.2))) λU=>(af U)))))
def wB (x:List Int):Option ((List Int)×List Int):=
 (bB (a_ (al ([]:List Int)+al x) 8) (af ((([]:List Int)++x),x)))
def vh (x:List Int):Option (List Int):=obind (wB x) λy=>Mp y.2 x (af y.1)
def HK (it:xU) (x:(List Int)×List Int):Option ((List Int)×List Int):=
 (bB (c7 0 (ik (aX x.1) (aX x.2))&&c7 (ik (aX x.1) (aX x.2)) (ik (aX x.1) (aX x.2))&&a_ (aT (ik (aX x.1) (aX x.2))) 8) (it (Int×(List Int)×List Int) _ (λI=>(bx I.1 (aO (al (aG (aT (ik (aX x.1) (aX x.2))) (0:Int)))) (obind (iV (x.1,I.1)) λM=>(obind (iV (I.2.1,I.1)) λJ=>(ck (fe I.1 (al I.2.2)) (cL ((cC I.1),I.2.1,(cQ I.2.2 I.1 (ik M J))))))) (aE (I.2.2,I.2.1)))) (0,x.2,(aG (aT (ik (aX x.1) (aX x.2))) (0:Int)))))
def NY (x:(List Int)×List Int):Option ((List Int)×List Int):=HK @iter x
def tB (x:(List Int)×List Int):Option ((List Int)×List Int):=HK @fH x
def BR (x:(List Int)×List Int):Option (List Int):=obind (tB x) λy=>Mp y.2 x.2 (af y.1)
def lA (x:Int×(List (List Int))×List Int):Option ((List (List Int))×List Int):=
 (jn (α:=Bool×(List (List Int))×List Int) (iR 0 x.1 (aE ((fO x.1 (aX x.2.1)),x.2.1,x.2.2)) (aE (aj,x.2.1,x.2.2))) λI=>(bcase I.1 (ck (fe x.1 (al I.2.1)) (obind (BR ((aJ (T:=(.sl aM)) I.2.1 x.1),I.2.2)) λJ=>(ck (fe x.1 (al I.2.1)) (af ((cQ I.2.1 x.1 J),I.2.2))))) (af (I.2.1,I.2.2))))
def wy (x:Int×(List Int)×(List (List Int))×(List (List Int))×(List (List Int))×(List (List Int))×(List (List Int))×(List (List Int))×(List (List Int))×(List Int)×List Int):Option Yd1:=
 (obind (vh x.q10) λI=>(ck (fe x.1 (al x.p8)) (ck (fe x.1 (al x.p9)) (af (x.2.1,x.p2,x.p3,x.p4,x.p5,x.p6,x.p7,(cQ x.p8 x.1 I),(cQ x.p9 x.1 (-1)),x.q10)))))
def Ag (it:xU) (x:Yd4×(List Int)×(List (List Int))×(List (List Int))×(List (List Int))×(List (List Int))×(List (List Int))×(List (List Int))×(List (List Int))×(List Int)×List Int):Option Yd1:=
 (obind (vh x.q10) λy1=>(ck (fe x.1.2.1 (al x.p2)) (jn (α:=(List Int)×(List (List Int))×(List (List Int))×(List (List Int))×(List (List Int))×(List (List Int))×(List (List Int))×(List (List Int))×(List Int)×List Int) (bd x.1.p2 20 (obind (vh x.q10) λy3=>(ck (fe x.1.p3 (al x.p3)) (aE (x.2.1,(cQ x.p2 x.1.2.1 y1),(cQ x.p3 x.1.p3 y3),x.p4,x.p5,x.p6,x.p7,x.p8,x.p9,x.q10)))) (jn (α:=Bool×(List Int)×(List (List Int))×(List (List Int))×(List (List Int))×(List (List Int))×(List (List Int))×(List (List Int))×(List (List Int))×(List Int)×(List Int)×dD×Int×Int×Int×Int×Int×(List Int)×List Int) (bd x.1.p2 7 (aE ((decide ((x.1.p2:Int)=7)),x.2.1,(cQ x.p2 x.1.2.1 y1),x.p3,x.p4,x.p5,x.p6,x.p7,x.p8,x.p9,x.q10,(x.1.1.1,x.1.1.2.1,x.1.1.p2,x.1.1.p3,x.1.1.p4,x.1.1.q5),x.1.2.1,x.1.p2,x.1.p3,x.1.p4,x.1.p5,x.1.p6,x.1.q7)) (aE ((decide ((x.1.p2:Int)=11)),x.2.1,(cQ x.p2 x.1.2.1 y1),x.p3,x.p4,x.p5,x.p6,x.p7,x.p8,x.p9,x.q10,(x.1.1.1,x.1.1.2.1,x.1.1.p2,x.1.1.p3,x.1.1.p4,x.1.1.q5),x.1.2.1,x.1.p2,x.1.p3,x.1.p4,x.1.p5,x.1.p6,x.1.q7))) λI=>(bcase I.1 (obind (lA (I.p14,I.p4,I.p10)) λy5=>(bB (aC (al I.p10) (al y5.2)&&(aC (al I.p4) (al y5.1)&&ai)) (aE (I.2.1,I.p2,I.p3,y5.1,I.p5,I.p6,I.p7,I.p8,I.p9,y5.2)))) (bd x.1.p2 9 (obind (lA (I.p14,I.p5,I.p10)) λy6=>(bB (aC (al I.p10) (al y6.2)&&(aC (al I.p5) (al y6.1)&&ai)) (aE (I.2.1,I.p2,I.p3,I.p4,y6.1,I.p6,I.p7,I.p8,I.p9,y6.2)))) (bd x.1.p2 16 (ck (fe I.p12 (al I.p9)) (uO I.p14 I.p11.p2 (obind (lA ((aJ (T:=lh) I.p11.p2 I.p14).2,I.p4,I.p10)) λy7=>(bB (aC (al I.p10) (al y7.2)&&(aC (al I.p4) (al y7.1)&&ai)) (aE (I.2.1,I.p2,I.p3,y7.1,I.p5,I.p6,I.p7,I.p8,(cQ I.p9 I.p12 I.p14),y7.2)))))) (bd x.1.p2 4 (uO I.p14 I.p11.1 (bcase (((((aJ (T:=kw) I.p11.1 I.p14).2).2).2).1) (obind (lA (I.p14,I.p6,I.p10)) λy8=>(bB (aC (al I.p10) (al y8.2)&&(aC (al I.p6) (al y8.1)&&ai)) (aE (I.2.1,I.p2,I.p3,I.p4,I.p5,y8.1,I.p7,I.p8,I.p9,y8.2)))) (aE (I.2.1,I.p2,I.p3,I.p4,I.p5,I.p6,I.p7,I.p8,I.p9,I.p10)))) (bd x.1.p2 22 (obind (lA (I.p14,I.p7,I.p10)) λy9=>(bB (aC (al I.p10) (al y9.2)&&(aC (al I.p7) (al y9.1)&&ai)) (aE (I.2.1,I.p2,I.p3,I.p4,I.p5,I.p6,y9.1,I.p8,I.p9,y9.2)))) (bd x.1.p2 13 (obind (BR (I.2.1,I.p10)) λy10=>(aE (y10,I.p2,I.p3,I.p4,I.p5,I.p6,I.p7,I.p8,I.p9,I.p10))) (bd x.1.p2 18 (jn (α:=Bool×(List Int)×(List (List Int))×(List (List Int))×(List (List Int))×(List (List Int))×(List (List Int))×(List (List Int))×(List (List Int))×(List Int)×(List Int)×Int×Int×Int×Int×Int×(List Int)×List Int) (iR 0 I.p15 (aE ((fO I.p15 (aX I.p8)),I.2.1,I.p2,I.p3,I.p4,I.p5,I.p6,I.p7,I.p8,I.p9,I.p10,I.p12,I.p13,I.p14,I.p15,I.p16,I.p17,I.q18)) (aE (aj,I.2.1,I.p2,I.p3,I.p4,I.p5,I.p6,I.p7,I.p8,I.p9,I.p10,I.p12,I.p13,I.p14,I.p15,I.p16,I.p17,I.q18))) λM=>(bcase M.1 (obind (wy (M.p14,M.2.1,M.p2,M.p3,M.p4,M.p5,M.p6,M.p7,M.p8,M.p9,M.p10)) λY=>(bB (aC (al M.p10) (al Y.q9)&&(aC (al M.p9) (al Y.p8)&&(aC (al M.p8) (al Y.p7)&&(aC (al M.p7) (al Y.p6)&&(aC (al M.p6) (al Y.p5)&&(aC (al M.p5) (al Y.p4)&&(aC (al M.p4) (al Y.p3)&&(aC (al M.p3) (al Y.p2)&&(aC (al M.p2) (al Y.2.1)&&ai))))))))) (aE (Y.1,Y.2.1,Y.p2,Y.p3,Y.p4,Y.p5,Y.p6,Y.p7,Y.p8,Y.q9)))) (aE (M.2.1,M.p2,M.p3,M.p4,M.p5,M.p6,M.p7,M.p8,M.p9,M.p10)))) (bd x.1.p2 19 (it (Int×(List Int)×(List (List Int))×(List (List Int))×(List (List Int))×(List (List Int))×(List (List Int))×(List (List Int))×(List (List Int))×(List Int)×(List Int)×Int×Int×Int×Int×Int×(List Int)×List Int) _ (λJ=>(bx J.1 (aX I.p9) (jn (α:=(List Int)×(List (List Int))×(List (List Int))×(List (List Int))×(List (List Int))×(List (List Int))×(List (List Int))×(List (List Int))×(List Int)×(List Int)×Int×Int×Int×Int×Int×(List Int)×List Int) (ck (fe J.1 (al J.p9)) (bd (aJ (T:=aM) J.p9 J.1) J.p13 (obind (wy (J.1,J.2.1,J.p2,J.p3,J.p4,J.p5,J.p6,J.p7,J.p8,J.p9,J.p10)) λU=>(bB (aC (al J.p10) (al U.q9)&&(aC (al J.p9) (al U.p8)&&(aC (al J.p8) (al U.p7)&&(aC (al J.p7) (al U.p6)&&(aC (al J.p6) (al U.p5)&&(aC (al J.p5) (al U.p4)&&(aC (al J.p4) (al U.p3)&&(aC (al J.p3) (al U.p2)&&(aC (al J.p2) (al U.2.1)&&ai))))))))) (aE (U.1,U.2.1,U.p2,U.p3,U.p4,U.p5,U.p6,U.p7,U.p8,U.q9,J.p11,J.p12,J.p13,J.p14,J.p15,J.p16,J.q17)))) (aE (J.2.1,J.p2,J.p3,J.p4,J.p5,J.p6,J.p7,J.p8,J.p9,J.p10,J.p11,J.p12,J.p13,J.p14,J.p15,J.p16,J.q17)))) λZ=>(cL ((cC J.1),Z.1,Z.2.1,Z.p2,Z.p3,Z.p4,Z.p5,Z.p6,Z.p7,Z.p8,Z.p9,Z.p10,Z.p11,Z.p12,Z.p13,Z.p14,Z.p15,Z.q16))) (aE (bQ (J.2.1,J.p2,J.p3,J.p4,J.p5,J.p6,J.p7,J.p8,J.p9,J.p10))))) (0,I.2.1,I.p2,I.p3,I.p4,I.p5,I.p6,I.p7,I.p8,I.p9,I.p10,I.p12,I.p13,I.p14,I.p15,I.p16,I.p17,I.q18)) (aE (I.2.1,I.p2,I.p3,I.p4,I.p5,I.p6,I.p7,I.p8,I.p9,I.p10)))))))))))) λx2=>(af (x2.1,x2.2.1,x2.p2,x2.p3,x2.p4,x2.p5,x2.p6,x2.p7,x2.p8,x2.q9)))))
def Em (x:Yd4×(List Int)×(List (List Int))×(List (List Int))×(List (List Int))×(List (List Int))×(List (List Int))×(List (List Int))×(List (List Int))×(List Int)×List Int):Option Yd1:=Ag @iter x
def rz (x:Yd4×(List Int)×(List (List Int))×(List (List Int))×(List (List Int))×(List (List Int))×(List (List Int))×(List (List Int))×(List (List Int))×(List Int)×List Int):Option Yd1:=Ag @fH x
def C8 (it:xU) (x:dD×Yd0×Int×Int×Int×Int×Int×(List Int)×List Int):Option (Yd0×List Int):=
 (obind (uo (x.2.1.1,x.2.1.2.1,x.2.1.p2,x.2.1.p3,x.2.1.p4,x.2.1.p5,x.2.1.p6,x.2.1.p7,x.2.1.q8)) λU=>(ck (fe x.p2 (al U.2.1)) (obind (uq ((x.p2,x.p3,x.p4,x.p5,x.p6,x.p7,x.q8),U.1,(x.1.1,x.1.2.1,x.1.p2,x.1.p3,x.1.p4,x.1.q5),U.2.1,U.p2,U.p3,U.p4,U.p5,U.p6,U.p7,U.q8)) λJ=>(bB (aC (al U.q8) (al J.q11)&&(aC (al U.p7) (al J.p10)&&(aC (al U.p6) (al J.p9)&&(aC (al U.p5) (al J.p8)&&(aC (al U.p4) (al J.p7)&&(aC (al U.p3) (al J.p6)&&(aC (al U.p2) (al J.p5)&&(aC (al U.2.1) (al J.p4)&&ai)))))))) (it (Int×dD×gw×(List Int)×(List Int)×(List (List Int))×(List (List Int))×(List (List Int))×(List (List Int))×(List (List Int))×(List (List Int))×(List (List Int))×List Int) _ (λI=>(bx I.1 (aX J.1) (uO I.1 J.1 (obind (kc (I.p4,(aJ (T:=(.sl aM)) J.1 I.1))) λZ=>(cL ((cC I.1),(I.2.1.1,I.2.1.2.1,I.2.1.p2,I.2.1.p3,I.2.1.p4,I.2.1.q5),(I.p2.1,I.p2.2.1,I.p2.p2,I.p2.p3,I.p2.p4,I.p2.p5,I.p2.q6),I.p3,Z,I.p5,I.p6,I.p7,I.p8,I.p9,I.p10,I.p11,I.q12)))) (obind (obind (sj (I.p4,I.p2.1)) λY=>(obind (rz (((I.2.1.1,I.2.1.2.1,I.2.1.p2,I.2.1.p3,I.2.1.p4,I.2.1.q5),I.p2.1,I.p2.2.1,I.p2.p2,I.p2.p3,I.p2.p4,I.p2.p5,I.p2.q6),I.p3,I.p5,I.p6,I.p7,I.p8,I.p9,I.p10,I.p11,I.q12,Y)) λM=>(bB (aC (al Y) (al M.q9)&&(aC (al I.q12) (al M.p8)&&(aC (al I.p11) (al M.p7)&&(aC (al I.p10) (al M.p6)&&(aC (al I.p9) (al M.p5)&&(aC (al I.p8) (al M.p4)&&(aC (al I.p7) (al M.p3)&&(aC (al I.p6) (al M.p2)&&(aC (al I.p5) (al M.2.1)&&ai))))))))) (af ((M.2.1,M.p2,M.p3,M.p4,M.p5,M.p6,M.1,M.p7,M.p8),M.q9))))) λr=>af (bQ r)))) (0,(J.p3.1,J.p3.2.1,J.p3.p2,J.p3.p3,J.p3.p4,J.p3.q5),(J.2.1.1,J.2.1.2.1,J.2.1.p2,J.2.1.p3,J.2.1.p4,J.2.1.p5,J.2.1.q6),J.p2,(aJ (T:=(.sl aM)) U.2.1 x.p2),J.p4,J.p5,J.p6,J.p7,J.p8,J.p9,J.p10,J.q11))))))
def Ir (x:dD×Yd0×Int×Int×Int×Int×Int×(List Int)×List Int):Option (Yd0×List Int):=C8 @iter x
def sh (x:dD×Yd0×Int×Int×Int×Int×Int×(List Int)×List Int):Option (Yd0×List Int):=C8 @fH x
def ud (x:List Int):Option (List Int):=
 (bB (a_ (al (x:List Int)) 8) (af x))
def Af (it:xU) (x:(List Int)×Int):Option (List Int):=
 (obind (ud x.1) λM=>(jn (α:=Bool×List Int) (bx x.2 0 (aE (ai,M)) (aE ((c7 4 x.2),M))) λJ=>(bcase J.1 (af J.2) (it (List Int) _ (λI=>(iR (aX I) x.2 (bB (a_ (al I+al ([0])) 8) (cL (I++([0])))) (obind (jn (α:=List Int) (ck (fe x.2 (al I)) (bx (aJ (T:=aM) I x.2) 9223372036854775807 (ck (fe x.2 (al I)) (ck (fe x.2 (al I)) (aE (cQ I x.2 (bk .i64 ((aJ (T:=aM) I x.2)+1)))))) (aE I))) λU=>(af U)) λr=>af (bQ r)))) J.2))))
def Ej (x:(List Int)×Int):Option (List Int):=Af @iter x
def py (x:(List Int)×Int):Option (List Int):=Af @fH x
def C7 (it:xU) (x:(List Int)×List Int):Option (Bool):=
 (it (Int) _ (λI=>(bx I (ik (aX x.1) (aX x.2)) (obind (xq (x.1,I)) λM=>(obind (xq (x.2,I)) λJ=>(bx J M (aE aj) (cL (cC I))))) (aE ai))) 0)
def Iq (x:(List Int)×List Int):Option (Bool):=C7 @iter x
def r8 (x:(List Int)×List Int):Option (Bool):=C7 @fH x
def tQ (x:(List Int)×List Int):Option (Bool):=
 (jn (α:=Bool) (obind (r8 (x.1,x.2)) λJ=>(bcase J (obind (r8 (x.2,x.1)) λI=>(aE I)) (aE aj))) λM=>(af M))
def tF (it:xU) (x:(List (List Int))×List (List Int)):Option (Bool):=
 (jd (aX x.1) (aX x.2) (af aj) (it (Int) _ (λI=>(bx I (aX x.1) (uO I x.1 (uO I x.2 (obind (tQ ((aJ (T:=(.sl aM)) x.1 I),(aJ (T:=(.sl aM)) x.2 I))) λJ=>(bcase (!J) (aE aj) (cL (cC I)))))) (aE ai))) 0))
def xn (x:(List (List Int))×List (List Int)):Option (Bool):=tF @iter x
def j7 (x:(List (List Int))×List (List Int)):Option (Bool):=tF @fH x
def rf (x:dD×Int):Option (Int):=
 (jn (α:=Bool×gK×gu×(List fm)×ca×ca×List (Int×Int×Int)) (bx x.2 0 (aE (ai,x.1.1,x.1.2.1,x.1.p2,x.1.p3,x.1.p4,x.1.q5)) (aE ((c7 (aX x.1.p2) x.2),x.1.1,x.1.2.1,x.1.p2,x.1.p3,x.1.p4,x.1.q5))) λI=>(bcase I.1 (af (-1)) (uO x.2 I.p3 (af ((aJ (T:=lh) I.p3 x.2).2)))))
def oC (x:dD×Int×Int×Int×Int×Int×(List Int)×List Int):Option (Int×Bool):=
 (jn (α:=Bool×dD×Int×Int×Int×Int×Int×(List Int)×List Int) (bd x.p2 6 (aE ((decide ((x.p2:Int)=6)),(x.1.1,x.1.2.1,x.1.p2,x.1.p3,x.1.p4,x.1.q5),x.2.1,x.p2,x.p3,x.p4,x.p5,x.p6,x.q7)) (aE ((decide ((x.p2:Int)=10)),(x.1.1,x.1.2.1,x.1.p2,x.1.p3,x.1.p4,x.1.q5),x.2.1,x.p2,x.p3,x.p4,x.p5,x.p6,x.q7))) λI=>(bcase I.1 (af (I.p4,aj)) (bd x.p2 8 (af (I.p4,ai)) (bd x.p2 17 (obind (rf ((I.2.1.1,I.2.1.2.1,I.2.1.p2,I.2.1.p3,I.2.1.p4,I.2.1.q5),I.p4)) λJ=>(af (J,aj))) (af ((-1),aj))))))
def oB (x:dD×Int×Int×Int×Int×Int×(List Int)×List Int):Option (Int×Bool):=
 (jn (α:=Bool×dD×Int×Int×Int×Int×Int×(List Int)×List Int) (bd x.p2 7 (aE ((decide ((x.p2:Int)=7)),(x.1.1,x.1.2.1,x.1.p2,x.1.p3,x.1.p4,x.1.q5),x.2.1,x.p2,x.p3,x.p4,x.p5,x.p6,x.q7)) (aE ((decide ((x.p2:Int)=11)),(x.1.1,x.1.2.1,x.1.p2,x.1.p3,x.1.p4,x.1.q5),x.2.1,x.p2,x.p3,x.p4,x.p5,x.p6,x.q7))) λI=>(bcase I.1 (af (I.p4,aj)) (bd x.p2 9 (af (I.p4,ai)) (bd x.p2 16 (obind (rf ((I.2.1.1,I.2.1.2.1,I.2.1.p2,I.2.1.p3,I.2.1.p4,I.2.1.q5),I.p4)) λJ=>(af (J,aj))) (af ((-1),aj))))))
def rE (it:xU) (x:List UInt8):Option (Bool):=
 (lt (aJ (T:=(.st (.pr .str (.pr .str (.pr .str (.pr .str (.pr .str (.pr .str (.pr .str (.pr .str (.pr .str (.pr .str (.pr .str (.pr .str (.pr .str (.pr .str (.pr .str (.pr .str (.pr .str (.pr .str (.pr .str (.pr .str (.pr .str .str))))))))))))))))))))))) ([kwV]) 0) λI=>(it (Int) _ (λJ=>(bx J 22 (bB (c7 0 J&&fO J 22) (lt (aJ (T:=.str) [I.1,I.2.1,I.p2,I.p3,I.p4,I.p5,I.p6,I.p7,I.p8,I.p9,I.p10,I.p11,I.p12,I.p13,I.p14,I.p15,I.p16,I.p17,I.p18,I.p19,I.p20,I.q21] J) λM=>(bcase (decide ((x:List UInt8)=M)) (aE ai) (cL (cC J))))) (aE aj))) 0))
def re (x:List UInt8):Option (Bool):=rE @iter x
def kR (x:List UInt8):Option (Bool):=rE @fH x
def vO (it:xU) (x:List UInt8):Option (Bool):=
 (jn (α:=Bool) (bx (aX x) 1 (aE ai) (bx 12 (aX x) (aE ai) (obind (kR x) λU=>(aE U)))) λZ=>(bcase Z (af aj) (it (List (fm×Unit)) _ (λI=>(bcase (gi (N8 I) (al (PC I))) (bB (fO (Ao (PC I) (aO (N8 I))) 128) (jn (α:=List (fm×Unit)) (jn (α:=Bool×List (fm×Unit)) (iR 97 (Ao (PC I) (aO (N8 I))) (iR (Ao (PC I) (aO (N8 I))) 122 (aE (ai,[(((PC I),(aO ((N8 I)+1))),())])) (iR 65 (Ao (PC I) (aO (N8 I))) (aE ((c7 (Ao (PC I) (aO (N8 I))) 90),[(((PC I),(aO ((N8 I)+1))),())])) (aE (aj,[(((PC I),(aO ((N8 I)+1))),())])))) (iR 65 (Ao (PC I) (aO (N8 I))) (aE ((c7 (Ao (PC I) (aO (N8 I))) 90),[(((PC I),(aO ((N8 I)+1))),())])) (aE (aj,[(((PC I),(aO ((N8 I)+1))),())])))) λJ=>(bcase J.1 (aE J.2) (jn (α:=Bool×List (fm×Unit)) (bx 0 (aO (N8 I)) (bd (Ao (PC I) (aO (N8 I))) 95 (aE (ai,J.2)) (iR 48 (Ao (PC I) (aO (N8 I))) (aE ((c7 (Ao (PC I) (aO (N8 I))) 57),J.2)) (aE (aj,J.2)))) (aE (aj,J.2))) λM=>(bcase M.1 (aE M.2) (cL (bQ aj)))))) λY=>(cL Y))) (aE ai))) ([((x,0),())]))))
def vG (x:List UInt8):Option (Bool):=vO @iter x
def oy (x:List UInt8):Option (Bool):=vO @fH x
def xG (it:xU) (x:(List Int)×Int):Option (Int):=
 (it (Int) _ (λI=>(bx I (aX x.1) (bD aM x.1 I λJ=>(bd x.2 J (aE I) (cL (cC I)))) (aE (-1)))) 0)
def BL (x:(List Int)×Int):Option (Int):=xG @iter x
def rA (x:(List Int)×Int):Option (Int):=xG @fH x
def kr (x:(List Int)×Int):Option (Bool):=
 (obind (rA x) λI=>(af (c7 0 I)))
def vL (x:(List Int)×Int×Int):Option (Bool):=
 (obind (iV (x.1,x.2.2)) λI=>(af (c7 x.2.1 I)))
def xw (x:Int×Int×Int×Int×Int×(List Int)×List Int):Option (Bool):=
 (jn (α:=Bool) (bd x.2.1 3 (aE ai) (aE (decide ((x.2.1:Int)=4)))) λI=>(af I))
def xv (x:(dD×List gw)×Int×Int):Option (Bool):=
 (bD gd x.1.2 x.2.1 λM=>(bD gd x.1.2 x.2.2 λJ=>(jn (α:=Bool×(dD×List gw)×gw×Int×Int×Int×Int×Int×(List Int)×List Int) (bd M.1 J.1 (aE (ai,x.1,M,J)) (aE ((!decide ((M.p2:Int)=J.p2)),x.1,M,J))) λI=>(bcase I.1 (af aj) (jn (α:=Bool×gw×Int×Int×Int×Int×Int×(List Int)×List Int) (obind (xw I.p2) λy5=>(bcase (!y5) (aE (ai,I.2.2)) (obind (xw I.q3) λZ=>(bcase (!Z) (aE (ai,I.2.2)) (bD kw I.2.1.1.1 I.p2.p2 λY=>(aE (Y.2.2.2.1,I.2.2))))))) λU=>(bcase U.1 (af aj) (jn (α:=Bool) (bd U.2.1.2.1 4 (aE ai) (aE (decide ((U.p3:Int)=4)))) λx8=>(af x8))))))))
def B1 (it:xU) (x:List gw):Option Yd5:=
 (bB (c7 0 (aX x)&&c7 (aX x) (aX x)&&a_ (aT (aX x)) 16) (it (Int×Yd5×List (Int×Int)) _ (λI=>(bx I.1 (aX x) (bD gd x I.1 λJ=>(ck (fe I.1 (al I.2.2)) (cL ((cC I.1),(N0 (K:=aM) (V:=aM) J.1 (bk .i64 ((It (K:=aM) (V:=aM) J.1 I.2.1 0)+1)) I.2.1),(cQ I.2.2 I.1 ((It (K:=aM) (V:=aM) J.1 (N0 (K:=aM) (V:=aM) J.1 (bk .i64 ((It (K:=aM) (V:=aM) J.1 I.2.1 0)+1)) I.2.1) 0),J.1)))))) (aE I.2.2))) (0,([]:List (Int×Int)),(aG (aT (aX x)) ((0,0):Int×Int)))))
def BI (x:List gw):Option Yd5:=B1 @iter x
def um (x:List gw):Option Yd5:=B1 @fH x
def sH (x:Int×Int):Option (Bool):=
 (jn (α:=Bool) (iR 0 x.1 (aE (fO x.1 x.2)) (aE aj)) λI=>(af I))
def sI (x:dD×Int×Bool):Option (Bool):=
 (jn (α:=Bool) (obind (sH (x.2.1,(aX x.1.2.1))) λJ=>(bcase J (bD qT x.1.2.1 x.2.1 λI=>(aE ((I.2==x.2.2) !=aj))) (aE aj))) λM=>(af M))
def oh (it:xU) (x:List SD):Option (ca×Bool):=
 (it (Int×List (List UInt8)) _ (λM=>(bx M.1 (aX x) (jn (α:=Int×List (List UInt8)) (bD kw x M.1 λI=>(bB (a_ (al M.2+al ([I.1])) 16) (bd I.p2 0 (jd I.2.1 0 (cL (bQ (([]:List (List UInt8)),aj))) (aE ((cC M.1),(M.2++([I.1]))))) (jn (α:=Bool×ca×(List UInt8)×Int×Int×Bool×Int) (bx I.p2 1 (aE (ai,(M.2++([I.1])),I)) (bx 4 I.p2 (aE (ai,(M.2++([I.1])),I)) (bcase I.p3 (aE (ai,(M.2++([I.1])),I)) (aE ((fO (bk .i64 ((aX x)-M.1)) I.p2),(M.2++([I.1])),I))))) λY=>(bcase Y.1 (cL (bQ (([]:List (List UInt8)),aj))) (it (Int×ca×(List UInt8)×Int×Int×Bool×Int) _ (λJ=>(bx J.1 Y.p4 (bD kw x (bk .i64 (M.1+J.1)) λU=>(bcase (PD (.pr .str (.pr aM (.pr aM (.pr .bool (.pr aM .un))))) (U.1,U.2.1,U.p2,U.p3,U.q4,()) (J.p2,J.1,J.p4,J.p5,J.q6,()) !=ai) (aE (mm (bQ (([]:List (List UInt8)),aj)))) (cL ((cC J.1),J.2.1,J.p2,J.1,J.q4)))) (aE (bQ ((bk .i64 (M.1+J.p4)),J.2.1))))) (0,Y.2))))))) λZ=>(cL Z)) (aE (M.2,ai)))) (0,([]:List (List UInt8))))
def oc (x:List SD):Option (ca×Bool):=oh @iter x
def gX (x:List SD):Option (ca×Bool):=oh @fH x
def og (it:xU) (x:dD×List (List UInt8)):Option (Bool):=
 (bB (a_ (al (x.2:List (List UInt8))) 16) (it (Int×dD×List (List UInt8)) _ (λJ=>(bx J.1 (aX x.1.2.1) (bD qT x.1.2.1 J.1 λz2=>(bB (a_ (al J.2.2+al ([z2.1])) 16) (cL ((cC J.1),J.2.1,(J.2.2++([z2.1])))))) (obind (it (Int×dD×List (List UInt8)) _ (λI=>(bx I.1 (aX J.2.1.p2) (bD lh J.2.1.p2 I.1 λZ=>(bB (a_ (al I.2.2+al ([Z.1])) 16) (cL ((cC I.1),I.2.1,(I.2.2++([Z.1])))))) (obind (bB (a_ (al I.2.2+al I.2.1.p3) 16) (bB (a_ (al (I.2.2++I.2.1.p3)+al I.2.1.p4) 16) (it (Int×gu×List (List UInt8)) _ (λM=>(bx M.1 (aO (al ((I.2.2++I.2.1.p3)++I.2.1.p4))) (kz (.str) M.2.2 M.1 λU=>(jn (α:=Bool×gu×List (List UInt8)) (obind (oy U) λy8=>(bcase (!y8) (aE (ai,M.2)) (aE ((It (K:=.str) (V:=.bool) U M.2.1 aj),M.2)))) λY=>(bcase Y.1 (aE aj) (cL ((cC M.1),(N0 (K:=.str) (V:=.bool) U ai Y.2.1),Y.2.2))))) (aE ai))) (0,([]:List ((List UInt8)×Bool)),((I.2.2++I.2.1.p3)++I.2.1.p4))))) λr=>af (bQ r)))) (0,J.2)) λr=>af (bQ r)))) (0,x)))
def oa (x:dD×List (List UInt8)):Option (Bool):=og @iter x
def dM (x:dD×List (List UInt8)):Option (Bool):=og @fH x
def kJ (it:xU) (x:gK×gu×(List fm)×ca×ca×List (Int×Int×Int)):Option (Bool):=
 (it ((Int×Int×Int)×gK×gu×(List fm)×ca×ca×List (Int×Int×Int)) _ (λI=>(bx I.1.2.2 (aX x.q5) (bD om x.q5 I.1.2.2 λU=>(jn (α:=Bool×dD×Int×Int×Int) (bx U.1 I.1.1 (aE (ai,I.2,U)) (aE ((c7 (aX I.p5) U.1),I.2,U))) λM=>(bcase M.1 (aE aj) (jn (α:=(Int×Int)×dD×Int×Int×Int) (bx I.1.1 M.p2 (aE ((M.p2,0),M.2)) (aE ((I.1.1,I.1.2.1),M.2))) λJ=>(jd J.p3 J.1.2 (aE aj) (cL ((J.1.1,(cC J.1.2),(cC I.1.2.2)),J.2.1))))))) (aE ai))) ((0,0,0),x))
def n_ (x:gK×gu×(List fm)×ca×ca×List (Int×Int×Int)):Option (Bool):=kJ @iter x
def fV (x:gK×gu×(List fm)×ca×ca×List (Int×Int×Int)):Option (Bool):=kJ @fH x
def kK (it:xU) (x:gK×gu×(List fm)×ca×ca×List (Int×Int×Int)):Option (Bool):=
 (jn (α:=Bool×gK×gu×(List fm)×ca×ca×List (Int×Int×Int)) (bx 12 (aX x.1) (aE (ai,x)) (bx 4 (aX x.2.1) (aE (ai,x)) (bx 2 (aX x.p2) (aE (ai,x)) (bx 2 (aX x.p3) (aE (ai,x)) (aE ((fO 60 (aX x.q5)),x)))))) λM=>(bcase M.1 (af aj) (jn (α:=Bool×gK×gu×(List fm)×ca×ca×List (Int×Int×Int)) (bx (aX M.p5) 1 (aE (ai,M.2)) (aE ((fO 4 (aX M.p5)),M.2))) λJ=>(bcase J.1 (af aj) (obind (gX J.2.1) λY=>(jn (α:=Bool×gK×gu×(List fm)×ca×ca×List (Int×Int×Int)) (bcase (!Y.2) (aE (ai,J.2)) (obind (dM (J.2,Y.1)) λy5=>(aE ((!y5),J.2)))) λU=>(bcase U.1 (af aj) (it Yd3 _ (λI=>(bx I.1 (aX U.p3) (bD lh U.p3 I.1 λZ=>(obind (sI (I.2,Z.2,aj)) λy8=>(bcase (!y8) (aE aj) (cL ((cC I.1),I.2))))) (obind (obind (fV I.2) λy9=>(af y9)) λr=>af (bQ r)))) (0,U.2)))))))))
def od (x:gK×gu×(List fm)×ca×ca×List (Int×Int×Int)):Option (Bool):=kK @iter x
def dN (x:gK×gu×(List fm)×ca×ca×List (Int×Int×Int)):Option (Bool):=kK @fH x
def vP (it:xU) (x:gK×gu×(List fm)×ca×ca×List (Int×Int×Int)):Option oZ:=
 (bB (c7 0 (aX x.2.1)&&c7 (aX x.2.1) (aX x.2.1)&&a_ (aT (aX x.2.1)) 32) (bB (c7 0 (aX x.p3)&&c7 (aX x.p3) (aX x.p3)&&a_ (aT (aX x.p3)) 1) (bB (c7 0 (aX x.p4)&&c7 (aX x.p4) (aX x.p4)&&a_ (aT (aX x.p4)) 24) (it (Int×Int×Int×gE×(List Bool)×List dw) _ (λI=>(bx I.1 (aO (al (aG (aT (aX x.2.1)) ((0,[]):Int×List Int)))) (ck (fe I.1 (al I.p3)) (cL ((cC I.1),I.2.1,I.p2,(cQ I.p3 I.1 ((-1),(aJ (T:=dY) I.p3 I.1).2)),I.q4))) (obind (jn (α:=Int×Int×gE×(List Bool)×List dw) (bx 0 (aX I.q5) (ck (fe 0 (al I.q5)) (aE (I.2.1,I.p2,I.p3,I.p4,(cQ I.q5 0 (1,(aJ (T:=hY) I.q5 0).2))))) (aE I.2)) λJ=>(af (J.p2,J.2.1,J.q3))) λr=>af (bQ r)))) (0,0,(-1),(aG (aT (aX x.2.1)) ((0,[]):Int×List Int)),(aG (aT (aX x.p3)) (aj:Bool)),(aG (aT (aX x.p4)) ((0,(0,aj)):Int×Int×Bool)))))))
def vI (x:gK×gu×(List fm)×ca×ca×List (Int×Int×Int)):Option oZ:=vP @iter x
def oE (x:gK×gu×(List fm)×ca×ca×List (Int×Int×Int)):Option oZ:=vP @fH x
def qw (it:xU) (x:gK×gu×(List fm)×ca×ca×List (Int×Int×Int)):Option eE:=
 (obind (oE x) λM=>(bB (c7 0 0&&c7 0 (aX x.1)&&a_ (aT (aX x.1)) 8) (bB (c7 0 (aX x.p3)&&c7 (aX x.p3) (aX x.p3)&&a_ (aT (aX x.p3)) 8) (bB (c7 0 (aX x.p4)&&c7 (aX x.p4) (aX x.p4)&&a_ (aT (aX x.p4)) 8) (it (Int×Int×oZ×(List Int)×(List Int)×List Int) _ (λI=>(bx I.1 (aX x.1) (bD kw x.1 I.1 λJ=>(bB (a_ (al I.p3+al ([J.q4])) 8) (cL ((cC I.1),I.2.1,I.p2,(I.p3++([J.q4])),I.q4)))) (aE I.2.2))) (0,0,M,(aG (aT 0) (0:Int)),(aG (aT (aX x.p3)) (0:Int)),(aG (aT (aX x.p4)) (0:Int))))))))
def qb (x:gK×gu×(List fm)×ca×ca×List (Int×Int×Int)):Option eE:=qw @iter x
def di (x:gK×gu×(List fm)×ca×ca×List (Int×Int×Int)):Option eE:=qw @fH x
def kg (it:xU) (x:(List Bool)×Int×Int×Int×Int×Int×(List Int)×List Int):Option (Bool):=
 (it (Int) _ (λI=>(bx I 2 (bB (c7 0 I&&fO I 2) (lt (aJ (T:=(.sl aM)) [x.p6,x.q7] I) λU=>(it (Int) _ (λM=>(bx M (aX U) (bD aM U M λJ=>(jn (α:=Bool) (bx J 0 (aE ai) (iR (aX x.1) J (aE ai) (bD (.bool) x.1 J λY=>(aE (!Y))))) λZ=>(bcase Z (aE (bQ aj)) (cL (cC M))))) (aE (mm (cC I))))) 0))) (aE ai))) 0)
def mH (x:(List Bool)×Int×Int×Int×Int×Int×(List Int)×List Int):Option (Bool):=kg @iter x
def ci (x:(List Bool)×Int×Int×Int×Int×Int×(List Int)×List Int):Option (Bool):=kg @fH x
def eZ (x:Int×Int):Option (Bool):=
 (jn (α:=Bool) (iR 0 x.1 (aE (fO x.1 x.2)) (aE aj)) λI=>(af I))
def lU (x:dD×Int×Int):Option (Bool):=
 (jn (α:=Bool×gK×gu×(List fm)×ca×ca×List (Int×Int×Int)) (bd x.2.1 1 (aE ((decide ((x.2.1:Int)=1)),x.1)) (bd x.2.1 2 (aE ((decide ((x.2.1:Int)=2)),x.1)) (bd x.2.1 5 (aE ((decide ((x.2.1:Int)=5)),x.1)) (bd x.2.1 12 (aE ((decide ((x.2.1:Int)=12)),x.1)) (bd x.2.1 13 (aE ((decide ((x.2.1:Int)=13)),x.1)) (bd x.2.1 14 (aE ((decide ((x.2.1:Int)=14)),x.1)) (aE ((decide ((x.2.1:Int)=15)),x.1)))))))) λx1=>(bcase x1.1 (af (decide ((x.2.2:Int)=(-1)))) (jn (α:=Bool×gK×gu×(List fm)×ca×ca×List (Int×Int×Int)) (bd x.2.1 3 (aE ((decide ((x.2.1:Int)=3)),x1.2)) (aE ((decide ((x.2.1:Int)=4)),x1.2))) λZ=>(bcase Z.1 (obind (eZ (x.2.2,(aX Z.2.1))) λy3=>(af y3)) (jn (α:=Bool×gK×gu×(List fm)×ca×ca×List (Int×Int×Int)) (bd x.2.1 6 (aE ((decide ((x.2.1:Int)=6)),Z.2)) (aE ((decide ((x.2.1:Int)=7)),Z.2))) λU=>(bcase U.1 (jn (α:=Bool) (obind (eZ (x.2.2,(aX U.p2))) λy6=>(bcase y6 (bD qT U.p2 x.2.2 λz7=>(aE (!z7.2))) (aE aj))) λx5=>(af x5)) (jn (α:=Bool×gK×gu×(List fm)×ca×ca×List (Int×Int×Int)) (bd x.2.1 8 (aE ((decide ((x.2.1:Int)=8)),U.2)) (bd x.2.1 9 (aE ((decide ((x.2.1:Int)=9)),U.2)) (bd x.2.1 10 (aE ((decide ((x.2.1:Int)=10)),U.2)) (aE ((decide ((x.2.1:Int)=11)),U.2))))) λM=>(bcase M.1 (jn (α:=Bool) (obind (eZ (x.2.2,(aX M.p2))) λy10=>(bcase y10 (bD qT M.p2 x.2.2 λz11=>(aE z11.2)) (aE aj))) λx9=>(af x9)) (jn (α:=Bool×gK×gu×(List fm)×ca×ca×List (Int×Int×Int)) (bd x.2.1 16 (aE ((decide ((x.2.1:Int)=16)),M.2)) (bd x.2.1 17 (aE ((decide ((x.2.1:Int)=17)),M.2)) (bd x.2.1 18 (aE ((decide ((x.2.1:Int)=18)),M.2)) (aE ((decide ((x.2.1:Int)=19)),M.2))))) λJ=>(bcase J.1 (obind (eZ (x.2.2,(aX J.p3))) λy13=>(af y13)) (jn (α:=Bool×gK×gu×(List fm)×ca×ca×List (Int×Int×Int)) (bd x.2.1 20 (aE ((decide ((x.2.1:Int)=20)),J.2)) (aE ((decide ((x.2.1:Int)=21)),J.2))) λI=>(bcase I.1 (obind (eZ (x.2.2,(aX I.p5))) λy15=>(af y15)) (jn (α:=Bool×gK×gu×(List fm)×ca×ca×List (Int×Int×Int)) (bd x.2.1 22 (aE ((decide ((x.2.1:Int)=22)),I.2)) (aE ((decide ((x.2.1:Int)=23)),I.2))) λY=>(bcase Y.1 (obind (eZ (x.2.2,(aX Y.p4))) λy17=>(af y17)) (af aj)))))))))))))))
def tG (it:xU) (x:dD×gE×Int×(List Bool)×List dw):Option (Bool):=
 (jn (α:=Bool×gK×gu×(List fm)×ca×ca×List (Int×Int×Int)) (jd (aX x.2.1) (aX x.1.2.1) (aE (ai,x.1)) (jd (aX x.p3) (aX x.1.p3) (aE (ai,x.1)) (aE ((!decide (((aX x.q4):Int)=(aX x.1.p4))),x.1)))) λJ=>(bcase J.1 (af aj) (it Yd3 _ (λI=>(bx I.1 (aX J.p3) (bD lh J.p3 I.1 λM=>(obind (eZ (M.2,(aX I.p2))) λU=>(bcase (!U) (aE aj) (cL ((cC I.1),I.2))))) (aE ai))) (0,J.2))))
def xo (x:dD×gE×Int×(List Bool)×List dw):Option (Bool):=tG @iter x
def ka (x:dD×gE×Int×(List Bool)×List dw):Option (Bool):=tG @fH x
def oD (x:dD×oZ×Int×Int×Int):Option (Bool):=
 (bd x.p3 6 (bD dY x.2.1.1 x.q4 λz1=>(af (decide ((z1.1:Int)=(-1))))) (bd x.p3 10 (jn (α:=Bool) (bD dY x.2.1.1 x.q4 λz3=>(bd z3.1 (-1) (bD dY x.2.1.1 x.q4 λz4=>(aE (decide (((aX z4.2):Int)=0)))) (aE aj))) λx2=>(af x2)) (bd x.p3 8 (jn (α:=Bool) (bD dY x.2.1.1 x.q4 λz6=>(bd z6.1 (-1) (bD dY x.2.1.1 x.q4 λz7=>(obind (kr (z7.2,x.p2)) λy8=>(aE (!y8)))) (aE aj))) λx5=>(af x5)) (jn (α:=Bool×dD×gE×Int×(List Bool)×List dw) (bd x.p3 7 (aE ((decide ((x.p3:Int)=7)),x.1,x.2.1)) (aE ((decide ((x.p3:Int)=11)),x.1,x.2.1))) λJ=>(bcase J.1 (bD dY J.p2 x.q4 λz10=>(af (decide ((z10.1:Int)=x.p2)))) (bd x.p3 9 (bD dY J.p2 x.q4 λz11=>(obind (kr (z11.2,x.p2)) λy12=>(af y12))) (bd x.p3 12 (af (decide ((J.p3:Int)=(-1)))) (bd x.p3 13 (af (decide ((J.p3:Int)=x.p2))) (bd x.p3 14 (bD hY J.q5 x.p2 λz13=>(af (!z13.2.2))) (bd x.p3 15 (bD hY J.q5 x.p2 λz14=>(af z14.2.2)) (jn (α:=Bool×dD×gE×Int×(List Bool)×List dw) (bd x.p3 16 (aE ((decide ((x.p3:Int)=16)),J.2)) (bd x.p3 18 (aE ((decide ((x.p3:Int)=18)),J.2)) (aE ((decide ((x.p3:Int)=19)),J.2)))) λI=>(bcase I.1 (bD lh I.2.1.p2 x.q4 λz16=>(bD dY I.p2 z16.2 λz17=>(af (decide ((z17.1:Int)=x.p2))))) (bd x.p3 20 (jn (α:=Bool) (jd x.q4 x.p2 (bD hY I.q5 x.q4 λZ=>(aE (decide ((Z.1:Int)=0)))) (aE aj)) λx18=>(af x18)) (bd x.p3 21 (jn (α:=Bool) (jd x.q4 x.p2 (bD hY I.q5 x.q4 λY=>(aE (decide ((Y.1:Int)=5)))) (aE aj)) λx20=>(af x20)) (bd x.p3 22 (bD (.bool) I.p4 x.q4 λU=>(af (!U))) (bd x.p3 23 (bD (.bool) I.p4 x.q4 λM=>(af M)) (af ai)))))))))))))))))
def i_ (x:dD×oZ×Int×Int×Int):Option (Bool):=
 (jn (α:=Bool×dD×gE×Int×(List Bool)×List dw) (obind (ka (x.1,x.2.1)) λy2=>(bcase (!y2) (aE (ai,x.1,x.2.1)) (obind (eZ (x.p2,(aX x.1.p4))) λy3=>(bcase (!y3) (aE (ai,x.1,x.2.1)) (obind (lU (x.1,x.q3)) λZ=>(aE ((!Z),x.1,x.2.1))))))) λI=>(bcase I.1 (af aj) (bD hY I.q5 x.p2 λJ=>(bd x.p3 1 (af (decide ((J.1:Int)=1))) (bd x.p3 17 (jn (α:=Bool) (bd J.1 4 (bd J.2.1 x.q4 (bD lh I.2.1.p2 x.q4 λY=>(bD dY I.p2 Y.2 λU=>(aE (decide ((U.1:Int)=(-1)))))) (aE aj)) (aE aj)) λx6=>(af x6)) (jn (α:=Bool) (bd J.1 2 (obind (oD (I.2.1,I.2.2,x.2.2)) λM=>(aE M)) (aE aj)) λx9=>(af x9)))))))
def kQ (x:dD×oZ×(List Int)×(List Int)×List Int):Option (Bool):=
 (jn (α:=Bool) (obind (ka (x.1,x.2.1)) λI=>(bcase I (bd (aX x.p2) (aX x.1.1) (bd (aX x.p3) (aX x.1.p3) (aE (decide (((aX x.q4):Int)=(aX x.1.p4)))) (aE aj)) (aE aj)) (aE aj))) λJ=>(af J))
def jy (x:dD×Int×Int×Int×Int×Int×(List Int)×List Int):Option (Bool):=
 (jn (α:=Bool×dD×Int×Int×Int×Int×Int×(List Int)×List Int) (bd x.p2 1 (aE (ai,x)) (aE ((decide ((x.p2:Int)=2)),x))) λI=>(bcase I.1 (af (decide ((I.p6:Int)=(-1)))) (jn (α:=Bool) (iR 0 I.p6 (bx I.p6 (aX I.2.1.q5) (bD om I.2.1.q5 I.p6 λJ=>(aE (decide ((J.1:Int)=I.p2)))) (aE aj)) (aE aj)) λM=>(af M))))
def jk (it:xU) (x:dD×eE×Int×Int×Int×Int×Int×(List Int)×List Int):Option (Bool):=
 (jn (α:=Bool×eE×Int×Int×Int×Int×Int×(List Int)×List Int) (bd x.p3 3 (bD kw x.1.1 x.p4 λz2=>(aE ((!decide ((z2.2.2.1:Int)=0)),x.2))) (bd x.p3 4 (bD kw x.1.1 x.p4 λz3=>(aE ((!decide ((z3.2.2.1:Int)=0)),x.2))) (aE (aj,x.2)))) λI=>(jn (α:=eE×gw×Bool×Bool) (bd I.p3 5 (bd I.p3 4 (aE (I.2.1,I.2.2,ai,ai)) (aE (I.2.1,I.2.2,ai,(decide ((I.p3:Int)=22))))) (bd I.p3 4 (aE (I.2.1,I.2.2,I.1,ai)) (aE (I.2.1,I.2.2,I.1,(decide ((I.p3:Int)=22)))))) λx4=>(it (Int×eE×gw×Bool×Bool) _ (λJ=>(bx J.1 2 (bB (c7 0 J.1&&fO J.1 2) (lt (aJ (T:=(.sl aM)) [x4.2.1.p5,x4.2.1.q6] J.1) λZ=>(jn (α:=Bool×eE×gw×Bool×Bool) (bx 0 (aX Z) (bB (c7 0 J.1&&fO J.1 2) (bB (fe J.1 2) (lt (aJ (T:=.bool) [J.p3,J.q4] J.1) λz8=>(aE ((!z8),J.2))))) (aE (aj,J.2))) λx7=>(bcase x7.1 (aE aj) (it ((Int×Int)×eE×gw×Bool×Bool) _ (λM=>(bx M.1.2 (aX Z) (bD aM Z M.1.2 λU=>(jn (α:=Bool×eE×gw×Bool×Bool) (iR U M.1.1 (aE (ai,M.2)) (bD aM M.2.1.q3 M.p2.1 λz12=>(aE ((c7 z12 U),M.2)))) λY=>(bcase Y.1 (aE (bQ aj)) (cL ((U,(cC M.1.2)),Y.2))))) (aE (mm ((cC J.1),M.2))))) ((0,0),x7.2)))))) (aE ai))) (0,x4))))
def lx (x:dD×eE×Int×Int×Int×Int×Int×(List Int)×List Int):Option (Bool):=jk @iter x
def eU (x:dD×eE×Int×Int×Int×Int×Int×(List Int)×List Int):Option (Bool):=jk @fH x
def lD (it:xU) (x:eE×Int×Int×Int×Int×Int×(List Int)×List Int):Option (Bool):=
 (bd x.p2 3 (bD aM x.1.2.1 x.p3 λz1=>(af (decide ((x.p4:Int)=z1)))) (bd x.p2 23 (bD aM x.1.p2 x.p3 λz2=>(af (decide ((x.p4:Int)=z2)))) (bd x.p2 5 (jn (α:=Bool) (bd x.p4 0 (aE ai) (aE (decide ((x.p4:Int)=1)))) λx3=>(af x3)) (jn (α:=Bool×eE×Int×Int×Int×Int×Int×(List Int)×List Int) (bd x.p2 4 (aE ((decide ((x.p2:Int)=4)),x)) (aE ((decide ((x.p2:Int)=22)),x))) λM=>(bcase M.1 (af ai) (bd x.p2 18 (it ((Int×Bool×Int)×Int×Int×Int×Int×Int×(List Int)×List Int) _ (λJ=>(bx J.1.2.2 (aX M.2.1.1.q3) (jn (α:=(Int×Bool)×Int×Int×Int×Int×Int×(List Int)×List Int) (bD hY M.2.1.1.q3 J.1.2.2 λz7=>(jn (α:=Bool×Int×Int×Int×Int×Int×(List Int)×List Int) (bd z7.1 3 (aE ((decide ((z7.2.1:Int)=J.p3)),J.2)) (aE (aj,J.2))) λZ=>(bcase Z.1 (bcase J.1.2.1 (aE (((cC J.1.1),ai),Z.2)) (aE (((cC J.1.1),(decide ((Z.p4:Int)=J.1.2.2))),Z.2))) (aE ((J.1.1,J.1.2.1),Z.2))))) λx6=>(cL ((x6.1.1,x6.1.2,(cC J.1.2.2)),x6.2))) (obind (jn (α:=Bool) (bcase J.1.2.1 (aE ai) (bd J.1.1 0 (aE (decide ((J.p4:Int)=(-1)))) (aE aj))) λx9=>(af x9)) λr=>af (bQ r)))) ((0,aj,0),M.2.2)) (bd x.p2 19 (it ((Int×Int)×Int×Int×Int×Int×Int×(List Int)×List Int) _ (λI=>(bx I.1.2 (aX M.2.1.1.q3) (jn (α:=Int×Int×Int×Int×Int×Int×(List Int)×List Int) (bD hY M.2.1.1.q3 I.1.2 λY=>(jn (α:=Bool×Int×Int×Int×Int×Int×(List Int)×List Int) (bd Y.1 3 (aE ((decide ((Y.2.1:Int)=I.p3)),I.2)) (aE (aj,I.2))) λU=>(bcase U.1 (aE ((cC I.1.1),U.2)) (aE (I.1.1,U.2))))) λx11=>(cL ((x11.1,(cC I.1.2)),x11.2))) (aE (decide ((I.p4:Int)=I.1.1))))) ((0,0),M.2.2)) (af (decide ((M.p5:Int)=0))))))))))
def o7 (x:eE×Int×Int×Int×Int×Int×(List Int)×List Int):Option (Bool):=lD @iter x
def gr (x:eE×Int×Int×Int×Int×Int×(List Int)×List Int):Option (Bool):=lD @fH x
def mh (x:dw×Int):Option (Bool):=
 (jn (α:=Bool) (bd x.1.1 3 (aE (decide ((x.1.2.1:Int)=x.2))) (aE aj)) λI=>(af I))
def Iz (x:List Bool):Option (List Bool):=
 (bcase (aC (al x) 0) (Ff (af ([]:List Bool)) (bB (a_ (al ([]:List Bool)+al x) 1) (af (([]:List Bool)++x)))) (bB (a_ (al ([]:List Bool)+al x) 1) (af (([]:List Bool)++x))))
def N3 (x:List Bool):Option (List Bool):=chk (a_ (al x) 1) λ_=>af x
def Ev (x:List Bool):Option (List Bool):=
 (bcase (aC (al x) 0) (Ff (af ([]:List Bool)) (bB (a_ (al ([]:List Bool)+al x) 1) (af (([]:List Bool)++x)))) (bB (a_ (al ([]:List Bool)+al x) 1) (af (([]:List Bool)++x))))
def Iy (x:List Bool):Option (List Bool):=chk (a_ (al x) 1) λ_=>af x
def Iw (x:List dw):Option (List dw):=
 (bcase (aC (al x) 0) (Ff (af ([]:List dw)) (bB (a_ (al ([]:List dw)+al x) 24) (af (([]:List dw)++x)))) (bB (a_ (al ([]:List dw)+al x) 24) (af (([]:List dw)++x))))
def N2 (x:List dw):Option (List dw):=chk (a_ (al x) 24) λ_=>af x
def Et (x:List dw):Option (List dw):=
 (bcase (aC (al x) 0) (Ff (af ([]:List dw)) (bB (a_ (al ([]:List dw)+al x) 24) (af (([]:List dw)++x)))) (bB (a_ (al ([]:List dw)+al x) 24) (af (([]:List dw)++x))))
def Iv (x:List dw):Option (List dw):=chk (a_ (al x) 24) λ_=>af x
def Eu (x:List Int):Option (List Int):=
 (bcase (aC (al x) 0) (Ff (af ([]:List Int)) (bB (a_ (al ([]:List Int)+al x) 8) (af (([]:List Int)++x)))) (bB (a_ (al ([]:List Int)+al x) 8) (af (([]:List Int)++x))))
def yW (x:List Int):Option (List Int):=chk (a_ (al x) 8) λ_=>af x
def rT (it:xU) (x:gE×Int×(List Bool)×List dw):Option Yd2:=
 (bB (c7 0 (aX x.1)&&c7 (aX x.1) (aX x.1)&&a_ (aT (aX x.1)) 32) (it (Int×oZ×Int×List (Int×List Int)) _ (λI=>(bx I.1 (aX x.1) (bD dY x.1 I.1 λJ=>(obind (BS J.2) λY=>(ck (fe I.1 (al I.q3)) (cL ((cC I.1),I.2.1,I.p2,(cQ I.q3 I.1 (J.1,Y))))))) (obind (obind (Iy I.2.1.p2) λU=>(obind (Iv I.2.1.q3) λM=>(af (I.2.1.2.1,I.q3,U,M)))) λr=>af (bQ r)))) (0,x,0,(aG (aT (aX x.1)) ((0,[]):Int×List Int)))))
def vH (x:gE×Int×(List Bool)×List dw):Option Yd2:=rT @iter x
def kq (x:gE×Int×(List Bool)×List dw):Option Yd2:=rT @fH x
def qz (it:xU) (x:(Int×Int×Int)×gE×(List Bool)×List dw):Option Yd2:=
 (it ((Int×Int)×gE×(List Bool)×(List dw)×Int) _ (λI=>(bx I.1.2 (aX x.q3) (jn (α:=Int×gE×(List Bool)×(List dw)×Int) (kz hY I.p3 I.1.2 λU=>(jn (α:=Bool×gE×(List Bool)×(List dw)×Int) (obind (mh (U,x.1.2.1)) λY=>(bcase Y (bx I.1.1 0 (aE (ai,I.2)) (aE ((decide ((I.1.2:Int)=x.1.2.2)),I.2))) (aE (aj,I.2)))) λJ=>(bcase J.1 (aE (I.1.2,J.2)) (aE (I.1.1,J.2))))) λM=>(cL ((M.1,(cC I.1.2)),M.2))) (obind (jn (α:=gE×(List Bool)×List dw) (iR 0 I.1.1 (ck (fe I.1.1 (al I.p3)) (aE (I.2.1,I.p2,(cQ I.p3 I.1.1 (4,(aJ (T:=hY) I.p3 I.1.1).2))))) (aE (I.2.1,I.p2,I.p3))) λZ=>(af (I.1.1,Z))) λr=>af (bQ r)))) (((-1),0),x.2.1,x.p2,x.q3,x.1.1))
def ua (x:(Int×Int×Int)×gE×(List Bool)×List dw):Option Yd2:=qz @iter x
def jD (x:(Int×Int×Int)×gE×(List Bool)×List dw):Option Yd2:=qz @fH x
def mr (it:xU) (x:(Int×Int)×gE×(List Bool)×List dw):Option Yd2:=
 (it ((Int×Int)×gE×(List Bool)×(List dw)×Int) _ (λI=>(bx I.1.2 (aX x.q3) (jn (α:=Int×gE×(List Bool)×(List dw)×Int) (kz hY I.p3 I.1.2 λM=>(obind (mh (M,x.1.2)) λU=>(bcase U (ck (fe I.1.2 (al I.p3)) (aE ((cC I.1.1),I.2.1,I.p2,(cQ I.p3 I.1.2 (4,(aJ (T:=hY) I.p3 I.1.2).2)),I.q4))) (aE (I.1.1,I.2))))) λJ=>(cL ((J.1,(cC I.1.2)),J.2))) (aE (I.1.1,I.2.1,I.p2,I.p3)))) ((0,0),x.2.1,x.p2,x.q3,x.1.1))
def qc (x:(Int×Int)×gE×(List Bool)×List dw):Option Yd2:=mr @iter x
def gQ (x:(Int×Int)×gE×(List Bool)×List dw):Option Yd2:=mr @fH x
def qm (x:Int):Option (Bool):=
 (af (!decide ((x:Int)=x)))
def vK (x:Int×Int):Option (Bool):=
 (jn (α:=Bool) (obind (qm x.1) λJ=>(bcase J (obind (qm x.2) λI=>(bcase (!I) (aE ai) (aE (fO x.1 x.2)))) (aE (fO x.1 x.2)))) λM=>(af M))
def rx (x:Int):Option (Int):=
 (iR 4294967296 x ah (iR 65536 x ah (iR 256 x ah (uO (bk .u8 x) ([0,1,2,2,3,3,3,3,4,4,4,4,4,4,4,4,5,5,5,5,5,5,5,5,5,5,5,5,5,5,5,5,6,6,6,6,6,6,6,6,6,6,6,6,6,6,6,6,6,6,6,6,6,6,6,6,6,6,6,6,6,6,6,6,7,7,7,7,7,7,7,7,7,7,7,7,7,7,7,7,7,7,7,7,7,7,7,7,7,7,7,7,7,7,7,7,7,7,7,7,7,7,7,7,7,7,7,7,7,7,7,7,7,7,7,7,7,7,7,7,7,7,7,7,7,7,7,7,8,8,8,8,8,8,8,8,8,8,8,8,8,8,8,8,8,8,8,8,8,8,8,8,8,8,8,8,8,8,8,8,8,8,8,8,8,8,8,8,8,8,8,8,8,8,8,8,8,8,8,8,8,8,8,8,8,8,8,8,8,8,8,8,8,8,8,8,8,8,8,8,8,8,8,8,8,8,8,8,8,8,8,8,8,8,8,8,8,8,8,8,8,8,8,8,8,8,8,8,8,8,8,8,8,8,8,8,8,8,8,8,8,8,8,8,8,8,8,8,8,8,8,8,8,8,8,8]) (af (bk .i64 (0+(bk .i64 (Ao ([0,1,2,2,3,3,3,3,4,4,4,4,4,4,4,4,5,5,5,5,5,5,5,5,5,5,5,5,5,5,5,5,6,6,6,6,6,6,6,6,6,6,6,6,6,6,6,6,6,6,6,6,6,6,6,6,6,6,6,6,6,6,6,6,7,7,7,7,7,7,7,7,7,7,7,7,7,7,7,7,7,7,7,7,7,7,7,7,7,7,7,7,7,7,7,7,7,7,7,7,7,7,7,7,7,7,7,7,7,7,7,7,7,7,7,7,7,7,7,7,7,7,7,7,7,7,7,7,8,8,8,8,8,8,8,8,8,8,8,8,8,8,8,8,8,8,8,8,8,8,8,8,8,8,8,8,8,8,8,8,8,8,8,8,8,8,8,8,8,8,8,8,8,8,8,8,8,8,8,8,8,8,8,8,8,8,8,8,8,8,8,8,8,8,8,8,8,8,8,8,8,8,8,8,8,8,8,8,8,8,8,8,8,8,8,8,8,8,8,8,8,8,8,8,8,8,8,8,8,8,8,8,8,8,8,8,8,8,8,8,8,8,8,8,8,8,8,8,8,8,8,8,8,8,8,8]) (bk .u8 x))))))))))
def ul (x:Int):Option (Int):=
 (obind (rx x) λI=>(af I))
def jU (it:xU) (x:(Int×Int)×List Int):Option (List Int):=
 (it (Int×List Int) _ (λM=>(bx M.1 x.1.2 (it (Int×List Int) _ (λI=>(jn (α:=Bool×List Int) (bx x.1.1 I.1 (kz aM I.2 I.1 λz4=>(kz aM I.2 (bk .i64 (I.1-1)) λZ=>(obind (vK (z4,Z)) λy6=>(aE (y6,I.2))))) (aE (aj,I.2))) λJ=>(bcase J.1 (kz aM J.2 (bk .i64 (I.1-1)) λU=>(kz aM J.2 I.1 λY=>(ck (fe I.1 (al J.2)) (ck (fe (bk .i64 (I.1-1)) (al (cQ J.2 I.1 U))) (cL ((bk .i64 (I.1-1)),(cQ (cQ J.2 I.1 U) (bk .i64 (I.1-1)) Y))))))) (aE (mm ((cC M.1),J.2)))))) M) (aE M.2))) ((cC x.1.1),x.2))
def jT (x:(Int×Int)×List Int):Option (List Int):=jU @iter x
def fQ (x:(Int×Int)×List Int):Option (List Int):=jU @fH x
def oe (it:xU) (x:(Int×Int×Int)×List Int):Option (List Int):=
 (it ((Int×Int×Int×Bool×Bool)×List Int) _ (λI=>(iR (bk .i64 (I.1.2.1-I.1.1)) 12 (obind (fQ ((I.1.1,I.1.2.1),I.2)) λJ=>(bB (aC (al I.2) (al J)&&ai) (aE J))) (bd I.1.p2 0 ah (bcase (!I.1.p3) ah ah)))) ((x.1.1,x.1.2.1,x.1.2.2,ai,ai),x.2))
def nZ (x:(Int×Int×Int)×List Int):Option (List Int):=oe @iter x
def jf (x:(Int×Int×Int)×List Int):Option (List Int):=oe @fH x
def wA (x:List Int):Option (List Int):=
 (obind (ul (bk .u64 (aX x))) λJ=>(obind (jf ((0,(aX x),J),x)) λI=>(bB (aC (al x) (al I)&&ai) (af I))))
def xH (it:xU) (x:List Int):Option (List Int):=
 (bx (aX x) 2 (af x) (it (Int×List Int) _ (λI=>(bx I.1 (aX I.2) (kz aM I.2 I.1 λM=>(kz aM I.2 (bk .i64 (I.1-1)) λJ=>(bd M J (bB (c7 0 I.1&&fO I.1 (al I.2)) ah) (cL ((cC I.1),I.2))))) (aE I.2))) (1,x)))
def xp (x:List Int):Option (List Int):=xH @iter x
def lB (x:List Int):Option (List Int):=xH @fH x
def oS (x:Int×Int):Option (Bool×Int):=
 (af ((decide ((x.1:Int)=x.2)),x.2))
def uB (it:xU) (x:(List Int)×Int):Option (Int×(List Int)×Int):=
 (it (Int×(List Int)×Int) _ (λI=>(bx I.1 (aX x.1) (kz aM I.2.1 I.1 λM=>(obind (oS (M,I.2.2)) λJ=>(bcase J.1 (aE (I.1,I.2.1,J.2)) (cL ((cC I.1),I.2.1,J.2))))) (aE ((-1),I.2)))) (0,x))
def ub (x:(List Int)×Int):Option (Int×(List Int)×Int):=uB @iter x
def mZ (x:(List Int)×Int):Option (Int×(List Int)×Int):=uB @fH x
def sL (it:xU) (x:(List Int)×Int):Option (Int×List Int):=
 (obind (mZ x) λJ=>(bB (aC (al x.1) (al J.2.1)&&ai) (bd J.1 (-1) ah (it ((Int×Int)×(List Int)×Int) _ (λI=>(bx I.1.2 (aX I.2.1) (jn (α:=Int×(List Int)×Int) (kz aM I.2.1 I.1.2 λU=>(obind (oS (U,I.2.2)) λM=>(bcase (!M.1) (ck (fe I.1.1 (al I.2.1)) (aE ((cC I.1.1),(cQ I.2.1 I.1.1 U),M.2))) (aE (I.1.1,I.2.1,M.2))))) λY=>(cL ((Y.1,(cC I.1.2)),Y.2))) (obind (ck (c7 0 I.1.1&&fO I.1.1 (al I.2.1)) (bB (c7 0 I.1.1&&fO I.1.1 (al (dO (aT I.1.1) I.2.1++aG (al I.2.1-aT I.1.1) (0:Int)))) (af (I.2.2,(dO (aT I.1.1) (dO (aT I.1.1) I.2.1++aG (al I.2.1-aT I.1.1) (0:Int))))))) λr=>af (bQ r)))) ((J.1,(cC J.1)),J.2)))))
def sG (x:(List Int)×Int):Option (Int×List Int):=sL @iter x
def ja (x:(List Int)×Int):Option (Int×List Int):=sL @fH x
def gR (x:dD×oZ×Int×Int×Int×Int):Option (oZ×Int×Bool):=
 (obind (i_ (x.1,x.2.1,x.p2,x.p3,x.p4)) λy1=>(bcase (!y1) (af ((([]:List (Int×List Int)),0,([]:List Bool),([]:List dw)),0,aj)) (obind (kq x.2.1) λJ=>(jn (α:=Int×Int×Int×gE×(List Bool)×List dw) (bd x.p3 1 (ck (fe x.p2 (al J.q3)) (aE (0,J.1,0,J.2.1,J.p2,(cQ J.q3 x.p2 (2,(aJ (T:=hY) J.q3 x.p2).2))))) (bd x.p3 2 (ck (fe x.p2 (al J.q3)) (aE (0,J.1,0,J.2.1,J.p2,(cQ J.q3 x.p2 (5,(aJ (T:=hY) J.q3 x.p2).2))))) (jn (α:=Bool×dD×Int×Int×Int×gE×(List Bool)×List dw) (bd x.p3 6 (aE ((decide ((x.p3:Int)=6)),x.1,J.1,x.p2,0,J.2)) (aE ((decide ((x.p3:Int)=10)),x.1,J.1,x.p2,0,J.2))) λY=>(bcase Y.1 (ck (fe x.p4 (al Y.p5)) (aE (0,Y.p2,Y.p4,(cQ Y.p5 x.p4 (Y.p3,(aJ (T:=dY) Y.p5 x.p4).2)),Y.q6))) (jn (α:=Bool×dD×Int×Int×Int×gE×(List Bool)×List dw) (bd x.p3 7 (aE ((decide ((x.p3:Int)=7)),Y.2)) (aE ((decide ((x.p3:Int)=11)),Y.2))) λI=>(bcase I.1 (ck (fe x.p4 (al I.p5)) (aE (0,I.p2,I.p4,(cQ I.p5 x.p4 ((-1),(aJ (T:=dY) I.p5 x.p4).2)),I.q6))) (bd x.p3 8 (kz dY I.p5 x.p4 λz6=>ah) (bd x.p3 9 (kz dY I.p5 x.p4 λz7=>ah) (bd x.p3 12 (aE (0,I.q3)) (bd x.p3 13 (aE (0,(-1),I.q4)) (bd x.p3 14 (ck (fe I.p3 (al I.q7)) (aE (0,I.p2,I.p4,I.p5,I.p6,(cQ I.q7 I.p3 ((aJ (T:=hY) I.q7 I.p3).1,((aJ (T:=hY) I.q7 I.p3).2).1,ai))))) (bd x.p3 15 (ck (fe I.p3 (al I.q7)) (aE (0,I.p2,I.p4,I.p5,I.p6,(cQ I.q7 I.p3 ((aJ (T:=hY) I.q7 I.p3).1,((aJ (T:=hY) I.q7 I.p3).2).1,aj))))) (bd x.p3 16 (bD lh I.2.1.p2 x.p4 λz8=>(ck (fe z8.2 (al I.p5)) (ck (fe I.p3 (al I.q7)) (ck (fe I.p3 (al (cQ I.q7 I.p3 (3,(aJ (T:=hY) I.q7 I.p3).2)))) (aE (0,I.p2,I.p4,(cQ I.p5 z8.2 ((-1),(aJ (T:=dY) I.p5 z8.2).2)),I.p6,(cQ (cQ I.q7 I.p3 (3,(aJ (T:=hY) I.q7 I.p3).2)) I.p3 ((aJ (T:=hY) (cQ I.q7 I.p3 (3,(aJ (T:=hY) I.q7 I.p3).2)) I.p3).1,x.p4,((aJ (T:=hY) (cQ I.q7 I.p3 (3,(aJ (T:=hY) I.q7 I.p3).2)) I.p3).2).2)))))))) (bd x.p3 17 (bD lh I.2.1.p2 x.p4 λz9=>(ck (fe z9.2 (al I.p5)) (ck (fe I.p3 (al I.q7)) (ck (fe I.p3 (al (cQ I.q7 I.p3 (2,(aJ (T:=hY) I.q7 I.p3).2)))) (aE (0,I.p2,I.p4,(cQ I.p5 z9.2 (I.p3,(aJ (T:=dY) I.p5 z9.2).2)),I.p6,(cQ (cQ I.q7 I.p3 (2,(aJ (T:=hY) I.q7 I.p3).2)) I.p3 ((aJ (T:=hY) (cQ I.q7 I.p3 (2,(aJ (T:=hY) I.q7 I.p3).2)) I.p3).1,0,((aJ (T:=hY) (cQ I.q7 I.p3 (2,(aJ (T:=hY) I.q7 I.p3).2)) I.p3).2).2)))))))) (bd x.p3 18 (obind (jD ((I.p2,x.q4),I.q5)) λU=>(bB (aC (al I.q7) (al U.q3)&&(aC (al I.p6) (al U.p2)&&(aC (al I.p5) (al U.2.1)&&ai))) (aE (U.1,I.p2,I.p4,U.2)))) (bd x.p3 19 (obind (gQ ((I.p2,x.p4),I.q5)) λM=>(bB (aC (al I.q7) (al M.q3)&&(aC (al I.p6) (al M.p2)&&(aC (al I.p5) (al M.2.1)&&ai))) (aE (M.1,I.p2,I.p4,M.2)))) (bd x.p3 20 (ck (fe x.p4 (al I.q7)) (aE (0,I.p2,I.p4,I.p5,I.p6,(cQ I.q7 x.p4 (1,(aJ (T:=hY) I.q7 x.p4).2))))) (bd x.p3 22 (ck (fe x.p4 (al I.p6)) (aE (0,I.p2,I.p4,I.p5,(cQ I.p6 x.p4 ai),I.q7))) (aE (0,I.p2,I.q4)))))))))))))))))))) λZ=>(af ((Z.p3,Z.2.1,Z.q4),Z.1,ai))))))
def mX (x:gE×Int×(List Bool)×List dw):Option (Yd6×(Int×Int×Int)×(List Int)×(List Int)×List Int):=
 (bB (c7 0 (aX x.1)&&c7 (aX x.1) (aX x.1)&&a_ (aT (aX x.1)) 32&&decide (((aX x.1):Int)=3)) (jn (α:=oZ×Int×(Int×Int×Int)×(List Int)×(List Int)×List Int) (bx 0 (aX x.1) (bD dY x.1 0 λI=>(obind (oU I.2) λU=>(bx 1 (aX x.1) (bD dY x.1 1 λM=>(obind (oU M.2) λy5=>(bx 2 (aX x.1) (bD dY x.1 2 λz6=>(obind (oU z6.2) λy7=>(bx 3 (aX x.1) (bD dY x.1 3 λz8=>(obind (oU z8.2) λy9=>ah)) (aE (x,0,(I.1,M.1,z6.1),U,y5,y7))))) (aE (x,0,(I.1,M.1,0),U,y5,([]:List Int)))))) (aE (x,0,(I.1,0,0),U,([]:List Int),([]:List Int)))))) (aE (x,0,(0,0,0),([]:List Int),([]:List Int),([]:List Int)))) λJ=>(obind (N3 J.1.p2) λZ=>(obind (N2 J.1.q3) λY=>(af ((J.1.2.1,Z,Y),J.2.2))))))
def kU (x:dD×oZ×Int×Int×Int×Int):Option (oZ×Int×Bool):=
 (obind (i_ (x.1,x.2.1,x.p2,x.p3,x.p4)) λy1=>(bcase (!y1) (af ((([]:List (Int×List Int)),0,([]:List Bool),([]:List dw)),0,aj)) (obind (mX x.2.1) λM=>(jn (α:=Int×Yd6×Int×((Int×List Int)×(Int×List Int)×Int)×Bool×List Int) (bd x.p3 1 (uO x.p2 M.1.2.2 ah) (bd x.p3 2 (uO x.p2 M.1.2.2 ah) (jn (α:=Bool×dD×Yd6×Int×Int×(Int×Int×Int)×(List Int)×(List Int)×List Int) (bd x.p3 6 (aE ((decide ((x.p3:Int)=6)),x.1,M.1,x.p2,0,M.2)) (aE ((decide ((x.p3:Int)=10)),x.1,M.1,x.p2,0,M.2))) λJ=>(bcase J.1 ah (jn (α:=Bool×dD×Yd6×Int×Int×(Int×(List Int)×Int×(List Int)×Int)×List Int) (bd x.p3 7 (aE ((decide ((x.p3:Int)=7)),J.2.1,J.p2,J.p3,J.p4,(J.p5.1,J.p6,J.p5.2.1,J.p7,J.p5.2.2),J.q8)) (aE ((decide ((x.p3:Int)=11)),J.2.1,J.p2,J.p3,J.p4,(J.p5.1,J.p6,J.p5.2.1,J.p7,J.p5.2.2),J.q8))) λI=>(bcase I.1 ah (bd x.p3 8 (bd x.p4 0 ah (bd x.p4 1 ah (bd x.p4 2 (bB (a_ (al I.q6+al ([I.p3])) 8) (obind (wA (I.q6++([I.p3]))) λY=>(bB (aC (al (I.q6++([I.p3]))) (al Y)&&ai) (obind (lB Y) λZ=>(bB (aC (al Y) (al Z)&&ai) (aE (0,I.p2,I.p4,((I.p5.1,I.p5.2.1),(I.p5.p2,I.p5.p3),I.p5.q4),ai,Z))))))) ah))) (bd x.p3 9 (bd x.p4 0 ah (bd x.p4 1 ah (bd x.p4 2 (obind (ja (I.q6,I.p3)) λy8=>(bB (aC (al I.q6) (al I.q6)&&ai) (aE (0,I.p2,I.p4,((I.p5.1,I.p5.2.1),(I.p5.p2,I.p5.p3),I.p5.q4),aj,y8.2)))) ah))) (bd x.p3 12 (aE (0,(I.p3,I.p2.2),I.p4,((I.p5.1,I.p5.2.1),(I.p5.p2,I.p5.p3),I.p5.q4),ai,I.q6)) (bd x.p3 13 (aE (0,((-1),I.p2.2),I.p4,((I.p5.1,I.p5.2.1),(I.p5.p2,I.p5.p3),I.p5.q4),ai,I.q6)) (bd x.p3 14 (uO I.p3 I.p2.2.2 ah) (bd x.p3 15 (uO I.p3 I.p2.2.2 ah) (bd x.p3 16 ah (bd x.p3 17 ah (bd x.p3 18 ah (bd x.p3 19 ah (bd x.p3 20 (uO x.p4 I.p2.2.2 ah) (bd x.p3 22 (uO x.p4 I.p2.2.1 ah) (aE (0,I.p2,I.p4,((I.p5.1,I.p5.2.1),(I.p5.p2,I.p5.p3),I.p5.q4),ai,I.q6)))))))))))))))))))) λU=>(af (([U.p3.1,U.p3.2.1,(U.p3.2.2,U.q5)],U.2.1),U.1,ai))))))
def rP (x:dD×oZ×Int×Int×Int×Int):Option (oZ×Int×Bool):=orE (gR x) (kU x)
def fM (x:dD×eE×Int×Int×Int×Int×Int×(List Int)×List Int):Option (eE×Bool):=
 (jn (α:=Bool×dD×eE×gw×Int) (obind (kQ (x.1,x.2.1)) λy2=>(bcase (!y2) (aE (ai,x.1,x.2.1,x.2.2,0)) (bx x.p2 0 (aE (ai,x.1,x.2.1,x.2.2,0)) (iR (aX x.1.p4) x.p2 (aE (ai,x.1,x.2.1,x.2.2,0)) (bx x.p3 1 (aE (ai,x.1,x.2.1,x.2.2,0)) (aE ((fO 23 x.p3),x.1,x.2.1,x.2.2,0))))))) λM=>(bcase M.1 (af (((([]:List (Int×List Int)),0,([]:List Bool),([]:List dw)),([]:List Int),([]:List Int),([]:List Int)),aj)) (jn (α:=Bool×dD×eE×gw×Int) (obind (i_ (M.2.1,M.p2.1,M.p3.1,M.p3.2.1,M.p3.p2)) λy4=>(bcase (!y4) (aE (ai,M.2)) (obind (jy (M.2.1,M.p3)) λy5=>(bcase (!y5) (aE (ai,M.2)) (obind (eU (M.2.1,M.p2,M.p3)) λy6=>(bcase (!y6) (aE (ai,M.2)) (obind (gr (M.p2,M.p3)) λy7=>(aE ((!y7),M.2))))))))) λx3=>(bcase x3.1 (af (((([]:List (Int×List Int)),0,([]:List Bool),([]:List dw)),([]:List Int),([]:List Int),([]:List Int)),aj)) (jn (α:=Int×dD×eE×gw×Int) (bd x3.p3.2.1 18 (aE (x3.p3.p3,x3.2)) (aE ((-1),x3.2))) λI=>(obind (rP (I.2.1,I.p2.1,I.p3.1,I.p3.2.1,I.p3.p2,I.1)) λy9=>(bcase (!y9.2.2) (af (((([]:List (Int×List Int)),0,([]:List Bool),([]:List dw)),([]:List Int),([]:List Int),([]:List Int)),aj)) (obind (yW I.p2.2.1) λY=>(obind (yW I.p2.p2) λU=>(obind (oU I.p2.q3) λZ=>(jn (α:=gw×Int×oZ×(List Int)×(List Int)×List Int) (bd I.p3.2.1 4 (ck (fe I.p3.p2 (al Y)) (aE (I.p3,I.q4,y9.1,(cQ Y I.p3.p2 I.p3.p3),U,Z))) (bd I.p3.2.1 22 (ck (fe I.p3.p2 (al U)) (aE (I.p3,I.q4,y9.1,Y,(cQ U I.p3.p2 I.p3.p3),Z))) (aE (I.p3,I.q4,y9.1,Y,U,Z)))) λJ=>(kz aM J.q5 J.1.1 λz14=>(ck (fe J.1.1 (al J.q5)) (af ((J.p2,J.p3,J.p4,(cQ J.q5 J.1.1 (cC z14))),ai)))))))))))))))
def lE (it:xU) (x:dD×List gw):Option (Int×Int):=
 (bx 400 (aX x.2) (af (0,2)) (obind (dN x.1) λy1=>(bcase (!y1) (af (0,1)) (obind (di x.1) λy2=>(bB (c7 0 (aX x.1.p4)&&c7 (aX x.1.p4) (aX x.1.p4)&&a_ (aT (aX x.1.p4)) 24&&decide (((aX x.1.p4):Int)=1)) (it (Int×(dD×List gw)×eE×List Bool) _ (λJ=>(bx J.1 (aX x.2) (bD gd x.2 J.1 λM=>(obind (fM (J.2.1.1,J.p2,M)) λU=>(jn (α:=Bool×(dD×List gw)×eE×gw×eE×List Bool) (bd M.1 0 (bcase (!U.2) (aE (ai,J.2.1,J.p2,(0,M.2),U.1,J.q3)) (obind (ci (J.q3,0,M.2)) λZ=>(aE ((!Z),J.2.1,J.p2,(0,M.2),U.1,J.q3)))) ah) λI=>(bcase I.1 (aE (J.1,12)) (jn (α:=(dD×List gw)×eE×eE×List Bool) (bd I.p3.1 0 (bd I.p3.2.1 3 (bB (a_ (al I.q5+al ([ai])) 1) (aE (I.2.1,I.p2,I.p4,(I.q5++([ai]))))) (bB (a_ (al I.q5+al ([(decide ((I.p3.2.1:Int)=23))])) 1) (aE (I.2.1,I.p2,I.p4,(I.q5++([(decide ((I.p3.2.1:Int)=23))])))))) ah) λY=>(cL ((cC J.1),Y.1,Y.2.2))))))) (aE (0,0)))) (0,x,y2,([]:List Bool))))))))
def pa (x:dD×List gw):Option (Int×Int):=lE @iter x
def eh (x:dD×List gw):Option (Int×Int):=lE @fH x
def jI (it:xU) (x:dD×List gw):Option (Int×Int):=
 (bx 400 (aX x.2) (af (0,2)) (obind (dN x.1) λy1=>(bcase (!y1) (af (0,1)) (obind (di x.1) λy2=>(bB (c7 0 (aX x.1.p4)&&c7 (aX x.1.p4) (aX x.1.p4)&&a_ (aT (aX x.1.p4)) 24&&decide (((aX x.1.p4):Int)=2)) (it (Int×(dD×List gw)×eE×(List Bool)×List Bool) _ (λJ=>(bx J.1 (aX x.2) (bD gd x.2 J.1 λM=>(obind (fM (J.2.1.1,J.p2,M)) λU=>(jn (α:=Bool×(dD×List gw)×eE×gw×eE×(List Bool)×List Bool) (bd M.1 0 (bcase (!U.2) (aE (ai,J.2.1,J.p2,(0,M.2),U.1,J.q3)) (obind (ci (J.p3,0,M.2)) λy7=>(aE ((!y7),J.2.1,J.p2,(0,M.2),U.1,J.q3)))) (bd M.1 1 (bcase (!U.2) (aE (ai,J.2.1,J.p2,(1,M.2),U.1,J.q3)) (obind (ci (J.q4,1,M.2)) λZ=>(aE ((!Z),J.2.1,J.p2,(1,M.2),U.1,J.q3)))) ah)) λI=>(bcase I.1 (aE (J.1,12)) (jn (α:=(dD×List gw)×eE×eE×(List Bool)×List Bool) (bd I.p3.1 0 (bd I.p3.2.1 3 (bB (a_ (al I.p5+al ([ai])) 1) (aE (I.2.1,I.p2,I.p4,(I.p5++([ai])),I.q6))) (bB (a_ (al I.p5+al ([(decide ((I.p3.2.1:Int)=23))])) 1) (aE (I.2.1,I.p2,I.p4,(I.p5++([(decide ((I.p3.2.1:Int)=23))])),I.q6)))) (bd I.p3.1 1 (bd I.p3.2.1 3 (bB (a_ (al I.q6+al ([ai])) 1) (aE (I.2.1,I.p2,I.p4,I.p5,(I.q6++([ai]))))) (bB (a_ (al I.q6+al ([(decide ((I.p3.2.1:Int)=23))])) 1) (aE (I.2.1,I.p2,I.p4,I.p5,(I.q6++([(decide ((I.p3.2.1:Int)=23))])))))) ah)) λY=>(cL ((cC J.1),Y.1,Y.2.2))))))) (aE (0,0)))) (0,x,y2,([]:List Bool),([]:List Bool))))))))
def o_ (x:dD×List gw):Option (Int×Int):=jI @iter x
def dj (x:dD×List gw):Option (Int×Int):=jI @fH x
def jH (it:xU) (x:dD×List gw):Option (Int×Int):=
 (bx 400 (aX x.2) (af (0,2)) (obind (dN x.1) λy1=>(bcase (!y1) (af (0,1)) (obind (di x.1) λy2=>(bB (c7 0 (aX x.1.p4)&&c7 (aX x.1.p4) (aX x.1.p4)&&a_ (aT (aX x.1.p4)) 24&&decide (((aX x.1.p4):Int)=3)) (it (Int×(dD×List gw)×eE×(List Bool)×(List Bool)×List Bool) _ (λJ=>(bx J.1 (aX x.2) (bD gd x.2 J.1 λM=>(obind (fM (J.2.1.1,J.p2,M)) λU=>(jn (α:=Bool×(dD×List gw)×eE×gw×eE×(List Bool)×(List Bool)×List Bool) (bd M.1 0 (bcase (!U.2) (aE (ai,J.2.1,J.p2,(0,M.2),U.1,J.q3)) (obind (ci (J.p3,0,M.2)) λy7=>(aE ((!y7),J.2.1,J.p2,(0,M.2),U.1,J.q3)))) (bd M.1 1 (bcase (!U.2) (aE (ai,J.2.1,J.p2,(1,M.2),U.1,J.q3)) (obind (ci (J.p4,1,M.2)) λy8=>(aE ((!y8),J.2.1,J.p2,(1,M.2),U.1,J.q3)))) (bd M.1 2 (bcase (!U.2) (aE (ai,J.2.1,J.p2,(2,M.2),U.1,J.q3)) (obind (ci (J.q5,2,M.2)) λZ=>(aE ((!Z),J.2.1,J.p2,(2,M.2),U.1,J.q3)))) ah))) λI=>(bcase I.1 (aE (J.1,12)) (jn (α:=(dD×List gw)×eE×eE×(List Bool)×(List Bool)×List Bool) (bd I.p3.1 0 (bd I.p3.2.1 3 (bB (a_ (al I.p5+al ([ai])) 1) (aE (I.2.1,I.p2,I.p4,(I.p5++([ai])),I.q6))) (bB (a_ (al I.p5+al ([(decide ((I.p3.2.1:Int)=23))])) 1) (aE (I.2.1,I.p2,I.p4,(I.p5++([(decide ((I.p3.2.1:Int)=23))])),I.q6)))) (bd I.p3.1 1 (bd I.p3.2.1 3 (bB (a_ (al I.p6+al ([ai])) 1) (aE (I.2.1,I.p2,I.p4,I.p5,(I.p6++([ai])),I.q7))) (bB (a_ (al I.p6+al ([(decide ((I.p3.2.1:Int)=23))])) 1) (aE (I.2.1,I.p2,I.p4,I.p5,(I.p6++([(decide ((I.p3.2.1:Int)=23))])),I.q7)))) (bd I.p3.1 2 (bd I.p3.2.1 3 (bB (a_ (al I.q7+al ([ai])) 1) (aE (I.2.1,I.p2,I.p4,I.p5,I.p6,(I.q7++([ai]))))) (bB (a_ (al I.q7+al ([(decide ((I.p3.2.1:Int)=23))])) 1) (aE (I.2.1,I.p2,I.p4,I.p5,I.p6,(I.q7++([(decide ((I.p3.2.1:Int)=23))])))))) ah))) λY=>(cL ((cC J.1),Y.1,Y.2.2))))))) (aE (0,0)))) (0,x,y2,([]:List Bool),([]:List Bool),([]:List Bool))))))))
def o9 (x:dD×List gw):Option (Int×Int):=jH @iter x
def dK (x:dD×List gw):Option (Int×Int):=jH @fH x
def jG (it:xU) (x:dD×List gw):Option (Int×Int):=
 (bx 400 (aX x.2) (af (0,2)) (obind (dN x.1) λy1=>(bcase (!y1) (af (0,1)) (obind (di x.1) λy2=>(bB (c7 0 (aX x.1.p4)&&c7 (aX x.1.p4) (aX x.1.p4)&&a_ (aT (aX x.1.p4)) 24&&decide (((aX x.1.p4):Int)=4)) (it (Int×(dD×List gw)×eE×(List Bool)×(List Bool)×(List Bool)×List Bool) _ (λJ=>(bx J.1 (aX x.2) (bD gd x.2 J.1 λM=>(obind (fM (J.2.1.1,J.p2,M)) λU=>(jn (α:=Bool×(dD×List gw)×eE×gw×eE×(List Bool)×(List Bool)×(List Bool)×List Bool) (bd M.1 0 (bcase (!U.2) (aE (ai,J.2.1,J.p2,(0,M.2),U.1,J.q3)) (obind (ci (J.p3,0,M.2)) λy7=>(aE ((!y7),J.2.1,J.p2,(0,M.2),U.1,J.q3)))) (bd M.1 1 (bcase (!U.2) (aE (ai,J.2.1,J.p2,(1,M.2),U.1,J.q3)) (obind (ci (J.p4,1,M.2)) λy8=>(aE ((!y8),J.2.1,J.p2,(1,M.2),U.1,J.q3)))) (bd M.1 2 (bcase (!U.2) (aE (ai,J.2.1,J.p2,(2,M.2),U.1,J.q3)) (obind (ci (J.p5,2,M.2)) λy9=>(aE ((!y9),J.2.1,J.p2,(2,M.2),U.1,J.q3)))) (bd M.1 3 (bcase (!U.2) (aE (ai,J.2.1,J.p2,(3,M.2),U.1,J.q3)) (obind (ci (J.q6,3,M.2)) λZ=>(aE ((!Z),J.2.1,J.p2,(3,M.2),U.1,J.q3)))) ah)))) λI=>(bcase I.1 (aE (J.1,12)) (jn (α:=(dD×List gw)×eE×eE×(List Bool)×(List Bool)×(List Bool)×List Bool) (bd I.p3.1 0 (bd I.p3.2.1 3 (bB (a_ (al I.p5+al ([ai])) 1) (aE (I.2.1,I.p2,I.p4,(I.p5++([ai])),I.q6))) (bB (a_ (al I.p5+al ([(decide ((I.p3.2.1:Int)=23))])) 1) (aE (I.2.1,I.p2,I.p4,(I.p5++([(decide ((I.p3.2.1:Int)=23))])),I.q6)))) (bd I.p3.1 1 (bd I.p3.2.1 3 (bB (a_ (al I.p6+al ([ai])) 1) (aE (I.2.1,I.p2,I.p4,I.p5,(I.p6++([ai])),I.q7))) (bB (a_ (al I.p6+al ([(decide ((I.p3.2.1:Int)=23))])) 1) (aE (I.2.1,I.p2,I.p4,I.p5,(I.p6++([(decide ((I.p3.2.1:Int)=23))])),I.q7)))) (bd I.p3.1 2 (bd I.p3.2.1 3 (bB (a_ (al I.p7+al ([ai])) 1) (aE (I.2.1,I.p2,I.p4,I.p5,I.p6,(I.p7++([ai])),I.q8))) (bB (a_ (al I.p7+al ([(decide ((I.p3.2.1:Int)=23))])) 1) (aE (I.2.1,I.p2,I.p4,I.p5,I.p6,(I.p7++([(decide ((I.p3.2.1:Int)=23))])),I.q8)))) (bd I.p3.1 3 (bd I.p3.2.1 3 (bB (a_ (al I.q8+al ([ai])) 1) (aE (I.2.1,I.p2,I.p4,I.p5,I.p6,I.p7,(I.q8++([ai]))))) (bB (a_ (al I.q8+al ([(decide ((I.p3.2.1:Int)=23))])) 1) (aE (I.2.1,I.p2,I.p4,I.p5,I.p6,I.p7,(I.q8++([(decide ((I.p3.2.1:Int)=23))])))))) ah)))) λY=>(cL ((cC J.1),Y.1,Y.2.2))))))) (aE (0,0)))) (0,x,y2,([]:List Bool),([]:List Bool),([]:List Bool),([]:List Bool))))))))
def o8 (x:dD×List gw):Option (Int×Int):=jG @iter x
def ef (x:dD×List gw):Option (Int×Int):=jG @fH x
def mn (x:dD×List gw):Option (Int×Int):=orE (ef x) (orE (dK x) (orE (dj x) (eh x)))
def xC (it:xU) (x:dD×List gw):Option ((List (List Int))×Int):=
 (obind (mn x) λY=>(jd Y.2 0 (af (([]:List (List Int)),12)) (obind (pH x.1) λU=>(bB (c7 0 (aX x.2)&&c7 (aX x.2) (aX x.2)&&a_ (aT (aX x.2)) 24) (it (Int×(dD×List gw)×Yd0×List (List Int)) _ (λI=>(bx I.1 (aX x.2) (bD gd x.2 I.1 λM=>(obind (sh (I.2.1.1,I.p2,M)) λJ=>(ck (fe I.1 (al I.q3)) (cL ((cC I.1),I.2.1,J.1,(cQ I.q3 I.1 J.2)))))) (aE (I.q3,0)))) (0,x,U,(aG (aT (aX x.2)) ([]:List Int))))))))
def BK (x:dD×List gw):Option ((List (List Int))×Int):=xC @iter x
def mY (x:dD×List gw):Option ((List (List Int))×Int):=xC @fH x
def EP (it:xU) (x:dD×List gw):Option (Yd5×Int):=
 (obind (mY x) λY=>(jd Y.2 0 (af (([]:List (Int×Int)),Y.2)) (obind (um x.2) λy2=>(it (Int×(dD×List gw)×List (Int×Int)) _ (λJ=>(bx J.1 (aX x.2) (it (Int×(dD×List gw)×List (Int×Int)) _ (λI=>(bx I.1 J.1 (jn (α:=(dD×List gw)×List (Int×Int)) (jn (α:=Bool×(dD×List gw)×List (Int×Int)) (obind (xv (I.2.1,I.1,J.1)) λy7=>(bcase y7 (bD (.sl aM) Y.1 J.1 λz8=>(bD iK y2 I.1 λZ=>(obind (vL (z8,Z)) λU=>(aE ((!U),I.2))))) (aE (aj,I.2)))) λM=>(bcase M.1 (bB (a_ (al M.2.2+al ([(I.1,J.1)])) 16) (aE (M.2.1,(M.2.2++([(I.1,J.1)]))))) (aE M.2))) λx5=>(cL ((cC I.1),x5))) (aE (mm ((cC J.1),I.2))))) (0,J.2)) (aE (J.2.2,0)))) (0,x,([]:List (Int×Int)))))))
def Ep (x:dD×List gw):Option (Yd5×Int):=EP @iter x
def tS (x:dD×List gw):Option (Yd5×Int):=EP @fH x
def Oy (it:xU) (x:Unit):Option dD:=
 (it Yd3 _ (λJ=>(bx J.1 (aO (al ([[109,97,105,110],[116,49],[116,50],[116,51]]))) (it Yd3 _ (λI=>(bx I.1 6 (bB (a_ (al I.q6+al ([(J.1,I.1,(bk .i64 ((bk .i64 ((bk .i64 (10*J.1))+I.1))+1)))])) 24) (cL ((cC I.1),I.2.1,I.p2,I.p3,I.p4,I.p5,(I.q6++([(J.1,I.1,(bk .i64 ((bk .i64 ((bk .i64 (10*J.1))+I.1))+1)))]))))) (aE (mm ((cC J.1),I.2))))) (0,J.2)) (aE J.2))) (0,[([120],0,0,aj,0),([121],0,0,aj,1),([118],0,0,ai,0),([113],0,2,aj,0),([113],1,2,aj,0)],[([109],aj),([110],aj),([114],ai)],[([99],0)],[[102]],[[109,97,105,110],[116,49],[116,50],[116,51]],([]:List (Int×Int×Int))))
def NX (x:Unit):Option dD:=Oy @iter x
def CM (x:Unit):Option dD:=Oy @fH x
def xt (x:Bool):Option (dD×List gw):=
 (obind (CM ()) λI=>(jn (α:=dD×List gw) (bcase x (kz gd ([(0,1,(-1),0,(-1),([]:List Int),([]:List Int)),(0,20,1,0,0,([]:List Int),([]:List Int)),(1,1,(-1),0,(-1),([]:List Int),([]:List Int)),(0,6,0,0,0,([]:List Int),([]:List Int)),(0,4,0,1,0,([]:List Int),([]:List Int)),(0,7,0,0,0,([]:List Int),([]:List Int)),(1,6,0,0,6,([]:List Int),([]:List Int)),(1,4,0,2,6,([]:List Int),([]:List Int))]) 0 λz3=>(kz gd ([(0,1,(-1),0,(-1),([]:List Int),([]:List Int)),(0,20,1,0,0,([]:List Int),([]:List Int)),(1,1,(-1),0,(-1),([]:List Int),([]:List Int)),(0,6,0,0,0,([]:List Int),([]:List Int)),(0,4,0,1,0,([]:List Int),([]:List Int)),(0,7,0,0,0,([]:List Int),([]:List Int)),(1,6,0,0,6,([]:List Int),([]:List Int)),(1,4,0,2,6,([]:List Int),([]:List Int))]) 1 λZ=>(kz gd ([(0,1,(-1),0,(-1),([]:List Int),([]:List Int)),(0,20,1,0,0,([]:List Int),([]:List Int)),(1,1,(-1),0,(-1),([]:List Int),([]:List Int)),(0,6,0,0,0,([]:List Int),([]:List Int)),(0,4,0,1,0,([]:List Int),([]:List Int)),(0,7,0,0,0,([]:List Int),([]:List Int)),(1,6,0,0,6,([]:List Int),([]:List Int)),(1,4,0,2,6,([]:List Int),([]:List Int))]) 2 λY=>(kz gd ([(0,1,(-1),0,(-1),([]:List Int),([]:List Int)),(0,20,1,0,0,([]:List Int),([]:List Int)),(1,1,(-1),0,(-1),([]:List Int),([]:List Int)),(0,6,0,0,0,([]:List Int),([]:List Int)),(0,4,0,1,0,([]:List Int),([]:List Int)),(0,7,0,0,0,([]:List Int),([]:List Int)),(1,6,0,0,6,([]:List Int),([]:List Int)),(1,4,0,2,6,([]:List Int),([]:List Int))]) 6 λU=>(kz gd ([(0,1,(-1),0,(-1),([]:List Int),([]:List Int)),(0,20,1,0,0,([]:List Int),([]:List Int)),(1,1,(-1),0,(-1),([]:List Int),([]:List Int)),(0,6,0,0,0,([]:List Int),([]:List Int)),(0,4,0,1,0,([]:List Int),([]:List Int)),(0,7,0,0,0,([]:List Int),([]:List Int)),(1,6,0,0,6,([]:List Int),([]:List Int)),(1,4,0,2,6,([]:List Int),([]:List Int))]) 4 λM=>(kz gd ([(0,1,(-1),0,(-1),([]:List Int),([]:List Int)),(0,20,1,0,0,([]:List Int),([]:List Int)),(1,1,(-1),0,(-1),([]:List Int),([]:List Int)),(0,6,0,0,0,([]:List Int),([]:List Int)),(0,4,0,1,0,([]:List Int),([]:List Int)),(0,7,0,0,0,([]:List Int),([]:List Int)),(1,6,0,0,6,([]:List Int),([]:List Int)),(1,4,0,2,6,([]:List Int),([]:List Int))]) 7 λJ=>(aE (I,[z3,Z,Y,U,M,J])))))))) (aE (I,[(0,1,(-1),0,(-1),([]:List Int),([]:List Int)),(0,20,1,0,0,([]:List Int),([]:List Int)),(1,1,(-1),0,(-1),([]:List Int),([]:List Int)),(0,6,0,0,0,([]:List Int),([]:List Int)),(0,4,0,1,0,([]:List Int),([]:List Int)),(0,7,0,0,0,([]:List Int),([]:List Int)),(1,6,0,0,6,([]:List Int),([]:List Int)),(1,4,0,2,6,([]:List Int),([]:List Int))]))) λx2=>(af x2)))
def tu (x:Unit):Option (Bool):=
 (obind (xt aj) λY=>(obind (tS Y) λM=>(obind (xt ai) λU=>(obind (tS U) λI=>(jn (α:=Bool) (bd M.2 0 (bd I.2 0 (bd (aX M.1) 0 (bd (aX I.1) 1 (bD iK I.1 0 λJ=>(aE (PD (.pr aM (.pr aM .un)) (J.1,J.2,()) (4,5,()) !=aj))) (aE aj)) (aE aj)) (aE aj)) (aE aj)) λZ=>(af Z))))))
def s7:Nat:=1000000000
def jl (a b:List Int):List Int:=(c4 (max a.length b.length)).map λi=>ik (a.getD i 0) (b.getD i 0)
theorem pJ (a b:List Int):(jl a b).length=max a.length b.length:=by simp[jl]
theorem vM (a b:List Int) (i:Nat):(jl a b).getD i 0=ik (a.getD i 0) (b.getD i 0):=by
 unfold jl;simp only[aA,bc];by_cases h:i<max a.length b.length
 .rw[List.getElem?_range h];rfl
 .rw[bR (by simp only[jM];omega),bR (l:=a) (by omega),bR (l:=b) (by omega)];rfl
theorem Fq (c:List Int) (i:Nat):iV (c,(i:Int))=af (c.getD i 0):=by
 unfold iV bx uO aX aE;simp only[];rw[sW (by omega)];simp only[cN,jb];by_cases h:i<c.length
 .rw[MF (by simp;omega)];simp only[cN];rw[cj (cS h),sr];rfl
 .rw[qr (by simp;omega)];simp only[cU];rw[aA,bR (by omega)];rfl
theorem alh:xq=iV:=rfl
theorem adv:pA=kc:=rfl
theorem XB (a b:List Int) (U:a.length<=s7) (hb:b.length<=s7):kc (a,b)=af (jl a b):=by
 unfold s7 at U hb;unfold kc vp ck bx bB aX cL aE cC;have hm:max a.length b.length<=1000000000:=by omega
 rw[cj (by simp only[ur];rw[qr (by omega),qr (by omega),s_ (by simp;omega) (by simp;omega)];rfl)];simp only[ur,dQ,eK];have:=sk (σ:=Int×List Int) (R:=List Int) (max a.length b.length) (by omega) (λi=>((i:Int),(c4 (max a.length b.length)).map λk=>if k<i then ik (a.getD k 0) (b.getD k 0) else 0)) (f:=(λI=>(bcase (fO I.1 (aO (max a.length b.length))) (obind (iV (a,I.1)) λM=>(obind (iV (b,I.1)) λJ=>(chk (fe I.1 (al I.2)) λ_=>(chk (fe I.1 (al I.2)) λ_=>(af (mm ((bk .i64 (I.1+1)),(cQ I.2 I.1 (ik M J))))))))) (af (bQ I.2))))) (r:=jl a b) ?_ ?_
 .refine Eq.trans ?_ this;congr 1;simp only[Int.natCast_zero,xa,eA,aD,Bu];apply dA<;>simp
 .intro i hi;simp only[];rw[sV (by simp;omega),cU,Fq,Fq,cJ,cJ,cj (cS (by simpa using hi)),cj (cS (by simpa using hi)),nA hi (by omega),gf];congr 3;apply dA
  .simp
  .intro k h1 h2;simp only[bX,jM] at h2;simp only[uZ,qP,nk];by_cases e:i=k
   .subst e;simp
   .by_cases h:k<i
    .rw[ay e,aF h,aF (by omega)]
    .rw[ay e,ay h,ay (by omega)]
 .simp only[];rw[sW (by simp),cN];congr 2;unfold jl;apply pV;intro k hk;rw[aF (jL.1 hk)]
theorem Zo (a b:List Int) (U:a.length<=s7) (hb:b.length<=s7):tB (a,b)=af (jl a b,b):=by
 unfold s7 at U hb;unfold tB HK ck bx bB aX cL aE cC;have hm:max a.length b.length<=1000000000:=by omega
 rw[cj (by simp only[ur];rw[qr (by omega),qr (by omega),s_ (by simp;omega) (by simp;omega)];rfl)];simp only[ur,dQ,eK];have:=sk (σ:=Int×List Int×List Int) (R:=List Int×List Int) (max a.length b.length) (by omega) (λi=>((i:Int),b,(c4 (max a.length b.length)).map λk=>if k<i then ik (a.getD k 0) (b.getD k 0) else 0)) (f:=(λI=>(bcase (fO I.1 (aO (max a.length b.length))) (obind (iV (a,I.1)) λM=>(obind (iV (I.2.1,I.1)) λJ=>(chk (fe I.1 (al I.2.2)) λ_=>(chk (fe I.1 (al I.2.2)) λ_=>(af (mm ((bk .i64 (I.1+1)),I.2.1,(cQ I.2.2 I.1 (ik M J))))))))) (af (bQ (I.2.2,I.2.1)))))) (r:=(jl a b,b)) ?_ ?_
 .refine Eq.trans ?_ this;congr 1;simp only[Int.natCast_zero,xa,eA,aD,Bu];apply dA<;>simp
 .intro i hi;simp only[];rw[sV (by simp;omega),cU,Fq,Fq,cJ,cJ,cj (cS (by simpa using hi)),cj (cS (by simpa using hi)),nA hi (by omega),gf];congr 4;apply dA
  .simp
  .intro k h1 h2;simp only[bX,jM] at h2;simp only[uZ,qP,nk];by_cases e:i=k
   .subst e;simp
   .by_cases h:k<i
    .rw[ay e,aF h,aF (by omega)]
    .rw[ay e,ay h,ay (by omega)]
 .simp only[];rw[sW (by simp),cN];congr 3;unfold jl;apply pV;intro k hk;rw[aF (jL.1 hk)]
theorem S7 (a b:List Int) (I:a.length<=s7) (hb:b.length<=s7):BR (a,b)=af (jl a b):=by
 unfold BR;rw[Zo a b I hb,cJ];exact P4 rfl _
def tk (c:List Int) (t:Nat):List Int:=(c++aG (t+1-c.length) 0).set t (c.getD t 0+1)
theorem Mj (c:List Int) (t:Nat):(tk c t).length=max c.length (t+1):=by simp[tk];omega
theorem aib (c:List Int) (n i:Nat):(c++aG n 0).getD i 0=c.getD i 0:=by
 simp only[aA];by_cases h:i<c.length
 .rw[bO h]
 .rw[b7 (by omega),bR (l:=c) (by omega),lm];split<;>rfl
theorem H4 (c:List Int) (t i:Nat):(tk c t).getD i 0=if i=t then c.getD t 0+1 else c.getD i 0:=by
 unfold tk;rw[aA,oN];by_cases h:t=i
 .subst h;rw[aF rfl,aF (by simp;omega),aF rfl];rfl
 .rw[ay h,ay (λe=>h e.symm),<-aA,aib]
theorem abm (c:List Int) (n:Nat) (h:c.length<=n):Ts (aG n 0) c=c++aG (n-c.length) 0:=by
 unfold Ts;rw[eK,fX h,List.drop_replicate]
theorem afq (c:List Int) (t:Nat) (hc:c.length<=s7) (ht:t<4) (h0:0<=c.getD t 0) (h1:c.getD t 0<9223372036854775807):sj (c,(t:Int))=af (tk c t):=by
 unfold s7 at hc;unfold sj ck iR bB aX aE cC;simp only[];rw[qr (by omega),cU,jb,sV (by omega)];simp only[cU,jb];have e1:ik (aO c.length) (bk .i64 ((t:Int)+1))=((max c.length (t+1):Nat):Int):=by
  rw[nA ht (by omega)];exact ur _ _
 rw[e1];rw[cj (by rw[qr (by omega),qr (by omega),s_ (by simp;omega) (by simp;omega)];rfl)];rw[dQ];have e2:Ts (aG (max c.length (t+1)) (0:Int)) c=c++aG (t+1-c.length) 0:=by
  rw[abm c _ (by omega)];rw[show max c.length (t+1)-c.length=t+1-c.length from by omega]
 rw[e2];have hl:t<(c++aG (t+1-c.length) (0:Int)).length:=by simp;omega
 rw[cj (cS hl),cj (cS hl),jb];have e3:aJ (T:=.int .i64) (c++aG (t+1-c.length) (0:Int)) (t:Int)=c.getD t 0:=by
  rw[sr];exact aib c _ t
 simp only[];rw[e3,sV h1,cU,cj (cS hl),cj (cS hl),cj (cS hl),cj (cS hl),jb,ZM (by omega) (by omega),gf];rfl
theorem ad2 (c:List Int) (hc:c.length<=s7):ud c=af c:=by
 unfold s7 at hc;unfold ud bB;rw[cj (s_ (by omega) (by omega))]
theorem Tl (c:List Int) (hc:c.length<=s7):BS c=af c:=by
 unfold s7 at hc;unfold BS;rw[cj (s_ (by omega) (by omega))]
theorem Nq (c:List Int) (hc:c.length<=s7):vh c=af c:=by
 unfold s7 at hc;unfold vh wB bB;rw[cj (s_ (by simp;omega) (by simp;omega)),cJ];exact P4 rfl _
theorem Nr (c:List Int) (hc:c.length<=s7):oU c=af c:=Tl c hc
theorem TY (c:List Int) (t:Nat) (hc:c.length<=s7) (ht:t<4) (h0:0<=c.getD t 0) (h1:c.getD t 0<9223372036854775807):py (c,(t:Int))=af (tk c t):=by
 unfold s7 at hc;unfold py Af ck bx iR bB aX cL aE;simp only[];rw[ad2 c (by unfold s7;omega),cJ,sW (by omega),cN,jb,MF (by omega)];simp only[cN];have:=sk (σ:=List Int) (R:=List Int) (t+1-c.length) (by omega) (λi=>c++aG i 0) (f:=(λI=>(bcase (c7 (aO (al I)) (t:Int)) (chk (a_ (al I+al ([(0:Int)])) 8) λ_=>(af (mm (I++([0]))))) (obind (jn (α:=List Int) (chk (fe (t:Int) (al I)) λ_=>(chk (fe (t:Int) (al I)) λ_=>(bcase (fO (aJ (T:=(.int .i64)) I (t:Int)) 9223372036854775807) (chk (fe (t:Int) (al I)) λ_=>(chk (fe (t:Int) (al I)) λ_=>(chk (fe (t:Int) (al I)) λ_=>(chk (fe (t:Int) (al I)) λ_=>(af (bQ (cQ I (t:Int) (bk .i64 ((aJ (T:=(.int .i64)) I (t:Int))+1))))))))) (af (bQ I))))) λJ=>(af J)) λr=>af (bQ r))))) (r:=tk c t) ?_ ?_
 .simpa using this
 .intro i hi;rw[qr (by simp;omega),cU,cj (s_ (by simp;omega) (by simp;omega)),iv,<-uL]
 .have hl:t<(c++aG (t+1-c.length) (0:Int)).length:=by simp;omega
  have e3:aJ (T:=.int .i64) (c++aG (t+1-c.length) (0:Int)) (t:Int)=c.getD t 0:=by
   rw[sr];exact aib c _ t
  rw[MF (by simp;omega),cN,cj (cS hl),cj (cS hl),e3,sV h1,cU,cj (cS hl),cj (cS hl),cj (cS hl),cj (cS hl),jb,cJ,ZM (by omega) (by omega),gf];rfl
def GL (l:List (List Int)):Prop:=l.length<=s7/\∀ c∈l,c.length<=s7
abbrev HTp:Type:=List (List Int)×List (List Int)×List (List Int)×List (List Int)×List (List Int)×List (List Int)×List Int×List (List Int)×List Int
def GH (h:HTp):Prop:=GL h.1/\GL h.2.1/\GL h.2.2.1/\GL h.2.2.2.1/\GL h.2.2.2.2.1/\GL h.2.2.2.2.2.1/\h.2.2.2.2.2.2.1.length<=s7/\GL h.2.2.2.2.2.2.2.1/\h.2.2.2.2.2.2.2.2.length<=s7
theorem Jc {l:List (List Int)} {i:Nat} (h:i<l.length):l.getD i []∈l:=by
 rw[aA,aB h];exact u_ h
theorem GL.at {l:List (List Int)} (h:GL l) (i:Nat):(l.getD i []).length<=s7:=by
 by_cases hi:i<l.length
 .exact h.2 _ (Jc hi)
 .rw[aA,bR (by omega)];simp
theorem YL (g:List Int->Option (List Int)) (l:List (List Int)) (hl:l.length<=s7) (hg:∀ c∈l,g c=af c):
 fH (σ:=Int×List (List Int)) (λI=>(bcase (fO I.1 (aO (al l))) (chk (fe I.1 (al l)) λ_=>(obind (g (aJ (T:=(.sl (.int .i64))) l I.1)) λJ=>(chk (fe I.1 (al I.2)) λ_=>(chk (fe I.1 (al I.2)) λ_=>(af (mm ((bk .i64 (I.1+1)),(cQ I.2 I.1 J)))))))) (af (bQ I.2)))) (0,(aG (aT (aO (al l))) ([]:List Int)))=af l:=by
 unfold s7 at hl;have:=sk (σ:=Int×List (List Int)) (R:=List (List Int)) l.length (by omega) (λi=>((i:Int),(c4 l.length).map λk=>if k<i then l.getD k [] else [])) (f:=(λI=>(bcase (fO I.1 (aO (al l))) (chk (fe I.1 (al l)) λ_=>(obind (g (aJ (T:=(.sl (.int .i64))) l I.1)) λJ=>(chk (fe I.1 (al I.2)) λ_=>(chk (fe I.1 (al I.2)) λ_=>(af (mm ((bk .i64 (I.1+1)),(cQ I.2 I.1 J)))))))) (af (bQ I.2))))) (r:=l) ?_ ?_
 .refine Eq.trans ?_ this;congr 1;simp only[Int.natCast_zero,xa,eA,aD,Bu,au,dQ];apply dA<;>simp
 .intro i hi;simp only[];rw[sV (by simp;omega),cU,cj (cS hi),sr,show (l.getD i (Ty.zero (.sl (.int .i64))))=l.getD i [] from rfl,hg _ (Jc hi),cJ,cj (cS (by simpa using hi)),cj (cS (by simpa using hi)),nA hi (by omega),gf];congr 3;apply dA
  .simp
  .intro k h1 h2;simp only[bX,jM] at h2;simp only[uZ,qP,nk];by_cases e:i=k
   .subst e;simp
   .by_cases h:k<i
    .rw[ay e,aF h,aF (by omega)]
    .rw[ay e,ay h,ay (by omega)]
 .simp only[];rw[sW (by simp),cN];congr 2;apply dA
  .simp
  .intro k h1 h2;simp only[qP,nk];rw[aF h2,aA,aB h2];rfl
theorem rI (l:List (List Int)) (h:GL l):ij l=af l:=by
 have hl:=h.1;unfold s7 at hl;unfold ij xB ck bx uO bB aX cL aE cC;rw[cj (by rw[qr (by simp),qr (by omega),s_ (by simp;omega) (by simp;omega)];rfl)];exact YL BS l h.1 λc hc=>Tl c (h.2 c hc)
theorem YM (h:HTp) (g:GH h):uo h=af (h.2.2.2.2.2.2.1,h.1,h.2.1,h.2.2.1,h.2.2.2.1,h.2.2.2.2.1,h.2.2.2.2.2.1,h.2.2.2.2.2.2.2.1,h.2.2.2.2.2.2.2.2):=by
 obtain⟨g1,g2,g3,Z,Y,U,M,J,I⟩:=g;unfold uo aY bi bw cu dU kC pU;rw[rI _ g1,cJ,rI _ g2,cJ,rI _ g3,cJ,rI _ Z,cJ,rI _ Y,cJ,rI _ U,cJ,Nr _ M,cJ,rI _ J,cJ,Nr _ I,cJ]
theorem aco (a b:List Int) (I:a.length<=s7) (hb:b.length<=s7) (h:∀ i,a.getD i 0<=b.getD i 0):r8 (a,b)=af ai:=by
 unfold s7 at I hb;unfold r8 C7 bx aX cL aE cC;refine sk (σ:=Int) (max a.length b.length) (by omega) (λi=>(i:Int)) (λi hi=>?_) ?_
 .simp only[ur];rw[sV (by omega),cU,alh,Fq,Fq,cJ,cJ,sW (h i),cN,nA hi (by omega)]
 .simp only[ur];rw[sW (by omega),cN]
theorem afv (a b:List Int) (I:a.length<=s7) (hb:b.length<=s7) (h:∀ i,a.getD i 0=b.getD i 0):tQ (a,b)=af ai:=by
 unfold tQ aE;rw[aco a b I hb λi=>Int.le_of_eq (h i),cJ,cU,aco b a hb I λi=>Int.le_of_eq (h i).symm,cJ,jb]
theorem Zc (a:List Int) (h:a.length<=s7):tQ (a,a)=af ai:=afv a a h h λ_=>rfl
theorem Po (l:List (List Int)) (h:GL l):j7 (l,l)=af ai:=by
 have hl:=h.1;unfold s7 at hl;unfold j7 tF bx jd uO aX cL aE cC;simp only[cI,Bool.not_true,cN];refine sk (σ:=Int) l.length (by omega) (λi=>(i:Int)) (λi hi=>?_) ?_
 .rw[sV (by simp;omega),cU,cj (cS hi),cj (cS hi),qA,Zc _ (h.at i),cJ];simp only[Bool.not_true,cN];rw[nA hi (by omega)]
 .rw[sW (by simp),cN]
abbrev vS:Type:=List (List UInt8×Int×Int×Bool×Int)×List (List UInt8×Bool)×List (List UInt8×Int)×List (List UInt8)×List (List UInt8)×List (Int×Int×Int)
def h0 (w:vS):HTp:=(aG w.2.2.2.2.1.length [],aG w.2.2.2.2.1.length [],aG w.2.1.length [],aG w.2.1.length [],aG w.1.length [],aG w.2.2.2.1.length [],[],aG w.2.2.2.2.1.length [],aG w.2.2.2.2.1.length (-1))
theorem ack (w:vS) (h1:w.1.length<=s7) (h2:w.2.1.length<=s7) (M:w.2.2.2.1.length<=s7) (J:w.2.2.2.2.1.length<=s7):pH w=af (h0 w):=by
 unfold s7 at h1 h2 M J;have c:∀ n b:Nat,n<=1000000000->b<=24->(c7 0 (aO n)&&c7 (aO n) (aO n)&&a_ (aT (aO n)) b)=ai:=λn b hn hb=>by
  have:n*b<=n*24:=Nat.mul_le_mul_left n hb;rw[qr (by simp),qr (by omega),s_ (by simp;omega) (by simp;omega)];rfl
 unfold pH Ah aY bi bw cu dU kC pU ck bx bB aX cL aE cC;rw[cj (c _ 24 J (by omega)),cj (c _ 24 J (by omega)),cj (c _ 24 h2 (by omega)),cj (c _ 24 h2 (by omega)),cj (c _ 24 h1 (by omega)),cj (c _ 24 M (by omega)),cj (c _ 24 J (by omega)),cj (c _ 8 J (by omega))];simp only[au,dQ,eK];have:=sk (σ:=Int×(List (List Int))×(List (List Int))×(List (List Int))×(List (List Int))×(List (List Int))×(List (List Int))×(List (List Int))×List Int) (R:=HTp) w.2.2.2.2.1.length (by omega) (λi=>((i:Int),aG w.2.2.2.2.1.length [],aG w.2.2.2.2.1.length [],aG w.2.1.length [],aG w.2.1.length [],aG w.1.length [],aG w.2.2.2.1.length [],aG w.2.2.2.2.1.length [],(c4 w.2.2.2.2.1.length).map λk=>if k<i then -1 else 0)) (f:=(λI=>(bcase (fO I.1 (w.2.2.2.2.1.length:Int)) (chk (fe I.1 (al I.2.2.2.2.2.2.2.2)) λ_=>(chk (fe I.1 (al I.2.2.2.2.2.2.2.2)) λ_=>(af (mm ((bk .i64 (I.1+1)),I.2.1,I.2.2.1,I.2.2.2.1,I.2.2.2.2.1,I.2.2.2.2.2.1,I.2.2.2.2.2.2.1,I.2.2.2.2.2.2.2.1,(cQ I.2.2.2.2.2.2.2.2 I.1 (-1))))))) (af (bQ (I.2.1,I.2.2.1,I.2.2.2.1,I.2.2.2.2.1,I.2.2.2.2.2.1,I.2.2.2.2.2.2.1,([]:List Int),I.2.2.2.2.2.2.2.1,I.2.2.2.2.2.2.2.2)))))) (r:=h0 w) ?_ ?_
 .refine Eq.trans ?_ this;congr 1;simp only[Int.natCast_zero,xa,eA,aD,Bu];apply dA<;>simp
 .intro i hi;simp only[];rw[sV (by omega),cU,cj (cS (by simpa using hi)),cj (cS (by simpa using hi)),nA hi (by omega),gf];congr 3;simp only[aD,Bu];apply dA
  .simp
  .intro k h1 h2;simp only[bX,jM] at h2;simp only[uZ,qP,nk];by_cases e:i=k
   .subst e;simp
   .by_cases h:k<i
    .rw[ay e,aF h,aF (by omega)]
    .rw[ay e,ay h,ay (by omega)]
 .simp only[];rw[sW (by omega),cN];unfold h0;congr 3;simp only[aD,Bu];apply dA
  .simp
  .intro k h1 h2;simp only[eK] at h2;simp only[qP,nk,List.getElem_replicate];rw[aF h2]
theorem qp (x y:Int):ik x y=max x y:=by
 unfold ik;by_cases h:x<y
 .rw[sV h,aF rfl];omega
 .rw[sW (by omega)];simp;omega
theorem Uj (a b c:Int):ik (ik a b) c=ik a (ik b c):=by
 simp only[qp];omega
theorem wD {a b:List Int} (hl:a.length=b.length) (h:∀ i,a.getD i 0=b.getD i 0):a=b:=by
 apply dA hl;intro i h1 h2;have:=h i;simpa[aA,aB h1,aB h2] using this
theorem qn (a b c:List Int):jl (jl a b) c=jl a (jl b c):=
 wD (by simp only[pJ];omega) λi=>by simp only[vM,Uj]
def En (n:Int) (c:List Int):Prop:=c.length<=4/\∀ i,0<=c.getD i 0/\c.getD i 0<=n
theorem En.nil {n:Int} (h:0<=n):En n []:=⟨by simp,λi=>by simp;exact h⟩
theorem En.mono {n m:Int} {c:List Int} (h:En n c) (hm:n<=m):En m c:=⟨h.1,λi=>⟨(h.2 i).1,Int.le_trans (h.2 i).2 hm⟩⟩
theorem En.jl {n:Int} {a b:List Int} (I:En n a) (hb:En n b):En n (jl a b):=⟨by rw[pJ];have:=I.1;have:=hb.1;omega,λi=>by
 rw[vM];obtain⟨h1,h2⟩:=I.2 i;obtain⟨M,J⟩:=hb.2 i;unfold ik;split<;>exact⟨by assumption,by assumption⟩⟩
theorem En.tk {n:Int} {c:List Int} {t:Nat} (h:En n c) (ht:t<4):En (n+1) (tk c t):=⟨by rw[Mj];have:=h.1;omega,λi=>by
 rw[H4];obtain⟨h1,h2⟩:=h.2 i;obtain⟨J,I⟩:=h.2 t;split<;>omega⟩
theorem ml {n:Int} {c:List Int} (h:En n c):jl c []=c:=wD (by simp[pJ]) λi=>by
 rw[vM,qp];have:=(h.2 i).1;simp only[List.getD_nil];omega
theorem aid {n:Int} {c:List Int} (h:En n c):jl [] c=c:=wD (by simp[pJ]) λi=>by
 rw[vM,qp];have:=(h.2 i).1;simp only[List.getD_nil];omega
def Bq (n:Int) (l:List (List Int)):Prop:=∀ i,En n (l.getD i [])
theorem Bq.mono {n m:Int} {l:List (List Int)} (h:Bq n l) (hm:n<=m):Bq m l:=λi=>(h i).mono hm
theorem Bq.set {n:Int} {l:List (List Int)} (h:Bq n l) {c:List Int} (hc:En n c) (j:Nat):Bq n (l.set j c):=λi=>by
 rw[aA,oN];by_cases e:j=i
 .subst e;rw[aF rfl];split
  .exact hc
  .have:=h j;simp only[aA] at this;rename_i hj;rw[bR (by omega)] at this;exact this
 .rw[ay e,<-aA];exact h i
theorem Bq.repl {n:Int} (h:0<=n) (k:Nat):Bq n (aG k []):=λi=>by
 rw[aA,lm];split<;>exact En.nil h
structure HS where
 T:List (List Int)
 S:List (List Int)
 L:List (List Int)
 R:List (List Int)
 C:List (List Int)
 F:List (List Int)
 X:List Int
 N:List (List Int)
 W:List Int
def HS.t (h:HS):HTp:=(h.T,h.S,h.L,h.R,h.C,h.F,h.X,h.N,h.W)
structure EV where
 th:Nat
 k:Nat
 ob:Nat
 va:Int
abbrev WTc:=List (List UInt8×Int)
def NZ (I:WTc) (o:Nat):Nat:=((I.getD o ([],0)).2).toNat
def HZ (I:List (List UInt8×Int×Int×Bool×Int)) (o:Nat):Bool:=(I.getD o ([],0,0,aj,0)).2.2.2.1
def s9 (w:vS) (h:HS) (e:EV):List (List Int):=
 if e.k=1 then [h.S.getD e.th []]
 else if e.k=21 then [h.T.getD e.ob []]
 else if e.k=6\/e.k=10 then [h.L.getD e.ob [],h.R.getD e.ob []]
 else if e.k=8 then [h.L.getD e.ob []]
 else if e.k=17 then [h.L.getD (NZ w.2.2.1 e.ob) [],h.R.getD (NZ w.2.2.1 e.ob) [],h.N.getD e.th []]
 else if e.k=3 then [h.C.getD e.ob []]
 else if e.k=23 then [h.F.getD e.ob []]
 else if e.k=12 then [h.X]
 else []
def AC (w:vS) (h:HS) (e:EV):List Int:=tk ((s9 w h e).foldl jl (h.T.getD e.th [])) e.th
def jat (l:List (List Int)) (i:Nat) (c:List Int):List (List Int):=l.set i (jl (l.getD i []) c)
def Cn (p:Nat->Bool) (c:List Int) (h:HS):HS:={h with N:=h.N.mapIdx λu x=>if p u then c else x,W:=h.W.mapIdx λu x=>if p u then -1 else x}
def jV (w:vS) (h:HS) (e:EV) (c:List Int):HS:=
 let h:={h with T:=h.T.set e.th c}
 if e.k=20 then {h with S:=h.S.set e.ob c}
 else if e.k=7\/e.k=11 then {h with L:=jat h.L e.ob c}
 else if e.k=9 then {h with R:=jat h.R e.ob c}
 else if e.k=16 then {h with L:=jat h.L (NZ w.2.2.1 e.ob) c,W:=h.W.set e.th e.ob}
 else if e.k=4 then (if HZ w.1 e.ob then {h with C:=jat h.C e.ob c} else h)
 else if e.k=22 then {h with F:=jat h.F e.ob c}
 else if e.k=13 then {h with X:=jl h.X c}
 else if e.k=18 then (if 0<=e.va/\e.va<h.N.length then {h with N:=h.N.set e.va.toNat c,W:=h.W.set e.va.toNat (-1)} else h)
 else if e.k=19 then Cn (λu=>decide (h.W.getD u 0=(e.ob:Int))) c h
 else h
def Mm (w:vS) (h:HS) (e:EV):HS×List Int:=(jV w h e (AC w h e),AC w h e)
structure EOK (w:vS) (h:HS) (e:EV):Prop where
 th4:e.th<4
 th:e.th<h.T.length
 k1:1<=e.k
 k2:e.k<=23
 sp:e.k=20\/e.k=21->e.ob<h.T.length
 lk:6<=e.k/\e.k<=11->e.ob<h.L.length
 cd:e.k=16\/e.k=17->e.ob<w.2.2.1.length/\0<=(w.2.2.1.getD e.ob ([],0)).2/\NZ w.2.2.1 e.ob<h.L.length
 ce:e.k=3\/e.k=4->e.ob<h.C.length/\e.ob<w.1.length
 fu:e.k=22\/e.k=23->e.ob<h.F.length
structure XC (n:Int) (h:HS):Prop where
 n0:0<=n
 n1:n<=1000000
 T:Bq n h.T
 S:Bq n h.S
 L:Bq n h.L
 R:Bq n h.R
 C:Bq n h.C
 F:Bq n h.F
 X:En n h.X
 N:Bq n h.N
 lT:h.T.length<=1000
 lS:h.S.length=h.T.length
 lN:h.N.length=h.T.length
 lW:h.W.length=h.T.length
 lL:h.L.length<=1000
 lR:h.R.length=h.L.length
 lC:h.C.length<=1000
 lF:h.F.length<=1000
theorem En.lb {n:Int} {c:List Int} (h:En n c):c.length<=s7:=by have:=h.1;unfold s7;omega
theorem Bq.GL {n:Int} {l:List (List Int)} (h:Bq n l) (hl:l.length<=1000):GL l:=⟨by unfold s7;omega,λc hc=>by
 obtain⟨i,hi⟩:=e9 hc;have:=(h i).lb
 rwa [aA,hi] at this⟩
theorem XC.GH {n:Int} {h:HS} (o:XC n h):GH h.t:=
 ⟨o.T.GL o.lT,o.S.GL (by rw[o.lS];exact o.lT),o.L.GL o.lL,o.R.GL (by rw[o.lR];exact o.lL),o.C.GL o.lC,o.F.GL o.lF,o.X.lb,o.N.GL (by rw[o.lN];exact o.lT),by show h.W.length<=s7;have:=o.lT;rw[o.lW];unfold s7;omega⟩
theorem En.join {n:Int} {a b:List Int} (I:En n a) (hb:En n b):kc (a,b)=af (AI.jl a b):=XB a b I.lb hb.lb
theorem TI {n:Int} {w:vS} {h:HS} (o:XC n h) (e:EV):∀ c∈s9 w h e,En n c:=by
 intro c hc;unfold s9 at hc;repeat' (split at hc)
 all_goals simp only[bm,ct,f_] at hc
 .subst hc;exact o.S _
 .subst hc;exact o.T _
 .rcases hc with rfl|rfl
  .exact o.L _
  .exact o.R _
 .subst hc;exact o.L _
 .rcases hc with rfl|rfl|rfl
  .exact o.L _
  .exact o.R _
  .exact o.N _
 .subst hc;exact o.C _
 .subst hc;exact o.F _
 .subst hc;exact o.X
theorem C' {n:Int}:∀ (l:List (List Int)) (c:List Int),En n c->(∀ x∈l,En n x)->En n (l.foldl jl c)
 |[],_,hc,_=>hc
 |x::r,c,hc,h=>C' r _ (hc.jl (h x (dh ..))) λy I=>h y (cH _ I)
theorem O5 {n:Int} {w:vS} {h:HS} (o:XC n h) {e:EV} (he:e.th<4):En (n+1) (AC w h e):=(C' _ _ (o.T _) (TI o e)).tk he
theorem Bq.jat {n:Int} {l:List (List Int)} {c:List Int} (h:Bq n l) (hc:En n c) (i:Nat):Bq n (jat l i c):=h.set ((h i).jl hc) i
theorem Bq.mapIdx {n:Int} {l:List (List Int)} {c:List Int} (h:Bq n l) (hc:En n c) (p:Nat->Bool):Bq n (l.mapIdx λu x=>if p u then c else x):=λi=>by
 rw[aA,D6];have:=h i;rw[aA] at this;cases I:l[i]? with
 |none=>rw[I] at this;exact this
 |some x=>
  rw[I] at this;simp only[cg,uW];split
  .exact hc
  .exact this
theorem Z0 {n:Int} {w:vS} {h:HS} (o:XC n h) (hn:n+1<=1000000) {e:EV} (he:e.th<4):XC (n+1) (Mm w h e).1:=by
 have hc:=O5 (w:=w) o he;have m:n<=n+1:=by omega
 have oT:Bq (n+1) (h.T.set e.th (AC w h e)):=(o.T.mono m).set hc _;have b:XC (n+1) {h with T:=h.T.set e.th (AC w h e)}:=⟨by have:=o.n0;omega,hn,oT,o.S.mono m,o.L.mono m,o.R.mono m,o.C.mono m,o.F.mono m,o.X.mono m,o.N.mono m,by simpa using o.lT,by simpa using o.lS,by simpa using o.lN,by simpa using o.lW,o.lL,o.lR,o.lC,o.lF⟩
 unfold Mm jV;simp only[];repeat' split
 .exact {b with S:=(o.S.mono m).set hc _,lS:=by simpa using b.lS}
 .exact {b with L:=(o.L.mono m).jat hc _,lL:=by simpa[jat] using b.lL,lR:=by simpa[jat] using b.lR}
 .exact {b with R:=(o.R.mono m).jat hc _,lR:=by simpa[jat] using b.lR}
 .exact {b with L:=(o.L.mono m).jat hc _,lL:=by simpa[jat] using b.lL,lR:=by simpa[jat] using b.lR,lW:=by simpa using b.lW}
 .exact {b with C:=(o.C.mono m).jat hc _,lC:=by simpa[jat] using b.lC}
 .exact b
 .exact {b with F:=(o.F.mono m).jat hc _,lF:=by simpa[jat] using b.lF}
 .exact {b with X:=(o.X.mono m).jl hc}
 .exact {b with N:=(o.N.mono m).set hc _,lN:=by simpa using b.lN,lW:=by simpa using b.lW}
 .exact b
 .exact {b with N:=(o.N.mono m).mapIdx hc _,lN:=by simpa[Cn] using b.lN,lW:=by simpa[Cn] using b.lW}
 .exact b
theorem ac2 {a b:Nat} (h:a=b):aC a b=ai:=by subst h;exact uX a
theorem Rq (l:List (List Int)) (i:Nat) (h:i<l.length):tR ((i:Int),l)=af (l.getD i [],l):=by
 unfold tR ck bx aX aE;simp only[];rw[sW (by omega)];simp only[cN,jb];rw[MF (by simp;omega)];simp only[cN];rw[cj (cS h),cj (cS h),qA]
theorem tV {n:Int} (l:List (List Int)) (i:Nat) (c:List Int) (h:i<l.length) (hl:Bq n l) (hc:En n c):lA ((i:Int),l,c)=af (jat l i c,c):=by
 unfold lA ck iR aX aE;simp only[];rw[qr (by omega)];simp only[cU,jb];rw[sV (by simp;omega)];simp only[cU];rw[cj (cS h),cj (cS h),qA,S7 _ _ (hl i).lb hc.lb,cJ,cj (cS h),cj (cS h),gf];rfl
theorem rC (l:List (List Int)) (i:Nat) (c:List Int):(jat l i c).length=l.length:=by simp[jat]
theorem We {n:Int} (h:HS) (u:Nat) (c:List Int) (h1:u<h.N.length) (h2:u<h.W.length) (hc:En n c):wy ((u:Int),h.X,h.T,h.S,h.L,h.R,h.C,h.F,h.N,h.W,c)=af (h.X,h.T,h.S,h.L,h.R,h.C,h.F,h.N.set u c,h.W.set u (-1),c):=by
 unfold wy aY bi bw cu dU kC zV Ci Prod.q10 ck;simp only[];rw[Nq c hc.lb,cJ,cj (cS h1),cj (cS h1),cj (cS h2),cj (cS h2),gf,gf]
theorem Ov (I:WTc) (i:Nat):aJ (T:=.st (.pr .str (.int .i64))) I (i:Int)=I.getD i ([],0):=sr (T:=.st (.pr .str (.int .i64))) I i
theorem WU (I:List (List UInt8×Int×Int×Bool×Int)) (i:Nat):aJ (T:=.st (.pr .str (.pr (.int .i64) (.pr (.int .i64) (.pr .bool (.int .i64)))))) I (i:Int)=I.getD i ([],0,0,aj,0):=sr (T:=.st (.pr .str (.pr (.int .i64) (.pr (.int .i64) (.pr .bool (.int .i64)))))) I i
abbrev ETp:Type:=Int×Int×Int×Int×Int×List Int×List Int
structure EvT (e:EV) (x:ETp):Prop where
 th:x.1=(e.th:Int)
 k:x.2.1=(e.k:Int)
 ob:e.k∈[3,4,6,7,8,9,10,11,16,17,18,19,20,21,22,23]->x.2.2.1=(e.ob:Int)
 va:x.2.2.2.1=e.va
theorem HA {k:Nat} {z:Int} (I:z=(k:Int)) (h1:1<=k) (h2:k<=23):(k=1/\z=1)\/(k=2/\z=2)\/(k=3/\z=3)\/(k=4/\z=4)\/(k=5/\z=5)\/(k=6/\z=6)\/(k=7/\z=7)\/(k=8/\z=8)\/(k=9/\z=9)\/(k=10/\z=10)\/(k=11/\z=11)\/(k=12/\z=12)\/(k=13/\z=13)\/(k=14/\z=14)\/(k=15/\z=15)\/(k=16/\z=16)\/(k=17/\z=17)\/(k=18/\z=18)\/(k=19/\z=19)\/(k=20/\z=20)\/(k=21/\z=21)\/(k=22/\z=22)\/(k=23/\z=23):=by
 have h:k=1\/k=2\/k=3\/k=4\/k=5\/k=6\/k=7\/k=8\/k=9\/k=10\/k=11\/k=12\/k=13\/k=14\/k=15\/k=16\/k=17\/k=18\/k=19\/k=20\/k=21\/k=22\/k=23:=by omega
 subst I;rcases h with rfl|rfl|rfl|rfl|rfl|rfl|rfl|rfl|rfl|rfl|rfl|rfl|rfl|rfl|rfl|rfl|rfl|rfl|rfl|rfl|rfl|rfl|rfl<;>simp
theorem VN (a:Nat):(aC a a&&ai)=ai:=by rw[ac2 rfl];rfl
theorem acj {n:Int} {w:vS} {h:HS} (o:XC n h) {e:EV} (ok:EOK w h e) {x:ETp} (hx:EvT e x):uq (x,h.X,w,h.T,h.S,h.L,h.R,h.C,h.F,h.N,h.W)=af (s9 w h e,x,h.X,w,h.T,h.S,h.L,h.R,h.C,h.F,h.N,h.W):=by
 obtain⟨x1,x2,M,x4,x5,x6,x7⟩:=x;obtain⟨w1,w2,U,w4,w5,w6⟩:=w;obtain⟨th,k,ob,va⟩:=e;obtain⟨q1,Y,q3,q4⟩:=hx;simp only at q1 Y q3 q4;subst q1 q4;have t1:=ok.th;simp only at t1;have fS:fe (th:Int) h.S.length=ai:=cS (by rw[o.lS];exact t1);have fN:fe (th:Int) h.N.length=ai:=cS (by rw[o.lN];exact t1);have fT:k=21->fe (ob:Int) h.T.length=ai/\M=(ob:Int):=λe=>by
  subst e;have:=ok.sp (.inr rfl);exact⟨cS this,q3 (by decide)⟩
 have fL:(k=6\/k=10\/k=8)->fe (ob:Int) h.L.length=ai/\fe (ob:Int) h.R.length=ai/\M=(ob:Int):=λe=>by
  have h1:ob<h.L.length:=ok.lk (by rcases e with rfl|rfl|rfl<;>(simp only[];omega));exact⟨cS h1,cS (by rw[o.lR];exact h1),q3 (by rcases e with rfl|rfl|rfl<;>decide)⟩
 have fC:k=3->fe (ob:Int) h.C.length=ai/\M=(ob:Int):=λe=>by
  subst e;have:=(ok.ce (.inl rfl)).1;exact⟨cS this,q3 (by decide)⟩
 have fF:k=23->fe (ob:Int) h.F.length=ai/\M=(ob:Int):=λe=>by
  subst e;have:=ok.fu (.inr rfl);exact⟨cS this,q3 (by decide)⟩
 unfold uq s9 D3 aY bi bw cu dU kC zV Ci Prod.q10 Prod.q11 cY fh ck bd uO bB aE;rcases HA Y ok.k1 ok.k2 with ⟨e,e'⟩|⟨e,e'⟩|⟨e,e'⟩|⟨e,e'⟩|⟨e,e'⟩|⟨e,e'⟩|⟨e,e'⟩|⟨e,e'⟩|⟨e,e'⟩|⟨e,e'⟩|⟨e,e'⟩|⟨e,e'⟩|⟨e,e'⟩|⟨e,e'⟩|⟨e,e'⟩|⟨e,e'⟩|⟨e,e'⟩|⟨e,e'⟩|⟨e,e'⟩|⟨e,e'⟩|⟨e,e'⟩|⟨e,e'⟩|⟨e,e'⟩<;>clear Y<;>subst e<;>subst e'
 case inr.inr.inr.inr.inr.inr.inr.inr.inr.inr.inr.inr.inr.inr.inr.inr.inl=>
  have q3:=q3 (by decide);subst q3;obtain⟨d1,d2,Z⟩:=ok.cd (.inr rfl);simp only at d1 d2 Z;have d4:NZ U ob<h.R.length:=by rw[o.lR];exact Z
  have e1:(U.getD ob ([],0)).2=((NZ U ob:Nat):Int):=by unfold NZ;omega
  simp only[aU,cz,cI,cU,cN,jb,cj,cS d1,Ov,e1,Rq _ _ Z,Rq _ _ d4,cJ,VN,fN,qA];rfl
 case inr.inr.inl=>
  obtain⟨I,rfl⟩:=fC rfl;simp only[aU,cz,cI,cU,cN,jb,cj,I,qA];rfl
 case inr.inr.inr.inr.inr.inr.inr.inr.inr.inr.inr.inr.inr.inr.inr.inr.inr.inr.inr.inr.inr.inr=>
  obtain⟨I,rfl⟩:=fF rfl;simp only[aU,cz,cI,cU,cN,jb,cj,I,qA];rfl
 case inr.inr.inr.inr.inr.inr.inr.inr.inr.inr.inr.inr.inr.inr.inr.inr.inr.inr.inr.inr.inl=>
  obtain⟨I,rfl⟩:=fT rfl;simp only[aU,cz,cI,cU,cN,jb,cj,I,qA];rfl
 case inl=>
  simp only[aU,cz,cI,cU,cN,jb,cj,fS,qA];rfl
 case inr.inr.inr.inr.inr.inl=>
  obtain⟨I,J,rfl⟩:=fL (by decide);simp only[aU,cz,cI,cU,cN,jb,cj,I,J,qA];rfl
 case inr.inr.inr.inr.inr.inr.inr.inr.inr.inl=>
  obtain⟨I,J,rfl⟩:=fL (by decide);simp only[aU,cz,cI,cU,cN,jb,cj,I,J,qA];rfl
 case inr.inr.inr.inr.inr.inr.inr.inl=>
  obtain⟨I,J,rfl⟩:=fL (by decide);simp only[aU,cz,cI,cU,cN,jb,cj,I,J,qA];rfl
 all_goals
  simp only[aU,cz,cI,cU,cN,jb];rfl
theorem MC {σ R:Type} {f:σ->Option (σ⊕R)} {x0:σ} {r:R} (n:Nat) (hn:n<18446744073709551616) (st:Nat->σ) (I:x0=st 0) (h0:∀ i,i<n->f (st i)=af (.inl (st (i+1)))) (h1:f (st n)=af (.inr r)):fH f x0=af r:=by
 subst I;exact sk n hn st h0 h1
def KY {α:Type} (p:Nat->Bool) (c:α) (u:Nat) (l:List α):List α:=l.mapIdx λk x=>if decide (k<u)&&p k then c else x
theorem ZO {α:Type} (p:Nat->Bool) (c:α) (l:List α):KY p c 0 l=l:=by
 unfold KY;apply dA
 .simp
 .intro i h1 h2;simp
theorem HY {α:Type} (p:Nat->Bool) (c:α) (u:Nat) (l:List α):(KY p c u l).length=l.length:=by simp[KY]
theorem PL {α:Type} (p:Nat->Bool) (c:α) (u:Nat) (l:List α) (h:l.length<=u):KY p c u l=l.mapIdx λk x=>if p k then c else x:=by
 unfold KY;apply dA
 .simp
 .intro i h1 h2;simp only[List.length_mapIdx] at h1;simp only[List.getElem_mapIdx];rw[show decide (i<u)=ai from aQ (by omega)];rfl
theorem V9 {α:Type} (p:Nat->Bool) (c:α) (u:Nat) (l:List α) (hp:p u=ai):(KY p c u l).set u c=KY p c (u+1) l:=by
 unfold KY;apply dA
 .simp
 .intro i h1 h2;simp only[uZ,List.getElem_mapIdx];by_cases e:u=i
  .subst e;simp[hp]
  .rw[ay e];by_cases h:i<u
   .rw[aQ h,aQ (show i<u+1 by omega)]
   .rw[bL h,bL (show ¬i<u+1 by omega)]
theorem PK {α:Type} (p:Nat->Bool) (c:α) (u:Nat) (l:List α) (hp:p u=aj):KY p c u l=KY p c (u+1) l:=by
 unfold KY;apply dA
 .simp
 .intro i h1 h2;simp only[List.getElem_mapIdx];by_cases e:u=i
  .subst e;simp[hp]
  .by_cases h:i<u
   .rw[aQ h,aQ (show i<u+1 by omega)]
   .rw[bL h,bL (show ¬i<u+1 by omega)]
theorem ahz (p:Nat->Bool) (c:Int) (u:Nat) (l:List Int):(KY p c u l).getD u 0=l.getD u 0:=by
 unfold KY;rw[aA,D6,aA];cases l[u]? with
 |none=>rfl
 |some x=>simp
def HS.e (h:HS) (c:List Int):List Int×List (List Int)×List (List Int)×List (List Int)×List (List Int)×List (List Int)×List (List Int)×List (List Int)×List Int×List Int:=(h.X,h.T,h.S,h.L,h.R,h.C,h.F,h.N,h.W,c)
theorem abg {n:Int} {w:vS} {h:HS} (o:XC n h) (hn:n+1<=1000000) {e:EV} (ok:EOK w h e) {x:ETp} (hx:EvT e x) {c:List Int} (hc:En (n+1) c):rz ((w,x),h.e c)=af ((jV w h e c).e c):=by
 obtain⟨x1,x2,x3,I,x5,x6,x7⟩:=x;obtain⟨M,w2,U,w4,w5,w6⟩:=w;obtain⟨th,k,ob,va⟩:=e;obtain⟨q1,q2,q3,q4⟩:=hx;simp only at q1 q2 q3 q4;subst q1 q4;have t1:=ok.th;simp only at t1;have m:n<=n+1:=by omega
 have fT:fe (th:Int) h.T.length=ai:=cS t1;have fW:fe (th:Int) h.W.length=ai:=cS (by rw[o.lW];exact t1);have J:=Nq c hc.lb;unfold rz Ag HS.e D3 Prod.p11 Prod.p12 Prod.p13 Prod.p14 Prod.p15 Prod.p16 Prod.p17 aY bi bw cu dU kC zV Ci Prod.q10 Prod.q16 Prod.q17 Prod.q18 cY kB Prod.q9 ck bd bx iR uO bB aX cL aE cC;rcases HA q2 ok.k1 ok.k2 with ⟨e,e'⟩|⟨e,e'⟩|⟨e,e'⟩|⟨e,e'⟩|⟨e,e'⟩|⟨e,e'⟩|⟨e,e'⟩|⟨e,e'⟩|⟨e,e'⟩|⟨e,e'⟩|⟨e,e'⟩|⟨e,e'⟩|⟨e,e'⟩|⟨e,e'⟩|⟨e,e'⟩|⟨e,e'⟩|⟨e,e'⟩|⟨e,e'⟩|⟨e,e'⟩|⟨e,e'⟩|⟨e,e'⟩|⟨e,e'⟩|⟨e,e'⟩<;>clear q2<;>subst e<;>subst e'
 case inr.inr.inr.inr.inr.inr.inr.inr.inr.inr.inr.inr.inr.inr.inr.inr.inr.inr.inr.inl=>
  obtain rfl:=q3 (by decide);have f:fe (ob:Int) h.S.length=ai:=cS (by rw[o.lS];exact ok.sp (.inl rfl));simp only[aU,cz,cI,cU,cN,jb,cJ,cj,J,fT,f,gf];rfl
 case inr.inr.inr.inr.inr.inr.inl=>
  obtain rfl:=q3 (by decide);have f:ob<h.L.length:=ok.lk (by simp only[];omega);simp only[aU,cz,cI,cU,cN,jb,cJ,cj,J,fT,gf,tV _ _ _ f (o.L.mono m) hc,rC,VN];rfl
 case inr.inr.inr.inr.inr.inr.inr.inr.inr.inr.inl=>
  obtain rfl:=q3 (by decide);have f:ob<h.L.length:=ok.lk (by simp only[];omega);simp only[aU,cz,cI,cU,cN,jb,cJ,cj,J,fT,gf,tV _ _ _ f (o.L.mono m) hc,rC,VN];rfl
 case inr.inr.inr.inr.inr.inr.inr.inr.inl=>
  obtain rfl:=q3 (by decide);have f:ob<h.R.length:=by rw[o.lR];exact ok.lk (by simp only[];omega)
  simp only[aU,cz,cI,cU,cN,jb,cJ,cj,J,fT,gf,tV _ _ _ f (o.R.mono m) hc,rC,VN];rfl
 case inr.inr.inr.inr.inr.inr.inr.inr.inr.inr.inr.inr.inr.inr.inr.inl=>
  obtain rfl:=q3 (by decide);obtain⟨Z,d2,d3⟩:=ok.cd (.inl rfl);simp only at Z d2 d3;have e1:(U.getD ob ([],0)).2=((NZ U ob:Nat):Int):=by unfold NZ;omega
  simp only[aU,cz,cI,cU,cN,jb,cJ,cj,J,fT,fW,gf,cS Z,Ov,e1,tV _ _ _ d3 (o.L.mono m) hc,rC,VN];rfl
 case inr.inr.inr.inl=>
  obtain rfl:=q3 (by decide);obtain⟨Z,d2⟩:=ok.ce (.inr rfl);simp only at Z d2;simp only[aU,cz,cI,cU,cN,jb,cJ,cj,J,fT,gf,cS d2,WU];cases hv:(M.getD ob ([],0,0,aj,0)).2.2.2.1 with
  |true=>
   simp only[cU,cJ,cj,tV _ _ _ Z (o.C.mono m) hc,rC,VN,jb];have Y:jV (M,w2,U,w4,w5,w6) h ⟨th,4,ob,I⟩ c=if HZ M ob then {h with T:=h.T.set th c,C:=jat h.C ob c} else {h with T:=h.T.set th c}:=rfl
   rw[Y,show HZ M ob=ai from hv];rfl
  |false=>
   simp only[cN,jb];have Y:jV (M,w2,U,w4,w5,w6) h ⟨th,4,ob,I⟩ c=if HZ M ob then {h with T:=h.T.set th c,C:=jat h.C ob c} else {h with T:=h.T.set th c}:=rfl
   rw[Y,show HZ M ob=aj from hv];rfl
 case inr.inr.inr.inr.inr.inr.inr.inr.inr.inr.inr.inr.inr.inr.inr.inr.inr.inr.inr.inr.inr.inl=>
  obtain rfl:=q3 (by decide);have f:ob<h.F.length:=ok.fu (.inl rfl);simp only[aU,cz,cI,cU,cN,jb,cJ,cj,J,fT,gf,tV _ _ _ f (o.F.mono m) hc,rC,VN];rfl
 case inr.inr.inr.inr.inr.inr.inr.inr.inr.inr.inr.inr.inl=>
  simp only[aU,cz,cI,cU,cN,jb,cJ,cj,J,fT,gf,S7 _ _ (o.X.mono m).lb hc.lb];rfl
 case inr.inr.inr.inr.inr.inr.inr.inr.inr.inr.inr.inr.inr.inr.inr.inr.inr.inl=>
  simp only[aU,cz,cI,cU,cN,jb,cJ,cj,J,fT,gf];have Y:jV (M,w2,U,w4,w5,w6) h ⟨th,18,ob,I⟩ c=if 0<=I/\I<h.N.length then {h with T:=h.T.set th c,N:=h.N.set I.toNat c,W:=h.W.set I.toNat (-1)} else {h with T:=h.T.set th c}:=rfl
  rw[Y];by_cases h0:0<=I
  .by_cases h1:I<h.N.length
   .rw[qr h0];simp only[cU,jb];rw[sV (show I<aO h.N.length from h1)];obtain⟨v,rfl⟩:∃ v:Nat,I=(v:Int):=⟨I.toNat,by omega⟩
    have v1:v<h.N.length:=by omega
    have v2:v<h.W.length:=by rw[o.lW,<-o.lN];exact v1
    have:=We {h with T:=h.T.set th c} v c v1 v2 hc;simp only[] at this;simp only[cU,this,cJ,sF,cj,ac2 rfl,kG,jb];rw[aF ⟨h0,h1⟩];rfl
   .rw[qr h0];simp only[cU,jb];rw[sW (show aO h.N.length<=I from Cf.1 h1)];simp only[cN,jb];rw[ay (λq=>h1 q.2)]
  .rw[MF (by omega)];simp only[cN,jb];rw[ay (λq=>h0 q.1)]
 case inr.inr.inr.inr.inr.inr.inr.inr.inr.inr.inr.inr.inr.inr.inr.inr.inr.inr.inl=>
  obtain rfl:=q3 (by decide);simp only[aU,cz,cI,cU,cN,jb,cJ,cj,J,fT,gf];rw[MC (r:=bQ (h.X,h.T.set th c,h.S,h.L,h.R,h.C,h.F,KY (λu=>decide (h.W.getD u 0=(ob:Int))) c h.W.length h.N,KY (λu=>decide (h.W.getD u 0=(ob:Int))) (-1) h.W.length h.W,c)) h.W.length (by have:=o.lW;have:=o.lT;omega)
   (λi=>((i:Int),h.X,h.T.set th c,h.S,h.L,h.R,h.C,h.F,KY (λu=>decide (h.W.getD u 0=(ob:Int))) c i h.N,KY (λu=>decide (h.W.getD u 0=(ob:Int))) (-1) i h.W,c,(th:Int),(19:Int),(ob:Int),I,x5,x6,x7)) ?_ ?_ ?_]
  .simp only[jb];rw[PL _ _ _ h.W (bW _),PL _ _ _ h.N (by rw[o.lN,o.lW];exact bW _)];rfl
  .simp only[ZO];rfl
  .intro i hi;simp only[];have hN:i<(KY (λu=>decide (h.W.getD u 0=(ob:Int))) c i h.N).length:=by rw[HY,o.lN,<-o.lW];exact hi
   have hW:i<(KY (λu=>decide (h.W.getD u 0=(ob:Int))) (-1) i h.W).length:=by rw[HY];exact hi
   rw[sV (by simp;omega),cU,cj (cS hW),cj (cS hW),aij,ahz];have ws:=nA hi (show h.W.length<=1099511627776 by have:=o.lW;have:=o.lT;omega);by_cases hp:h.W.getD i 0=(ob:Int)
   .rw[aQ hp,cU];have:=We {h with T:=h.T.set th c,N:=KY (λu=>decide (h.W.getD u 0=(ob:Int))) c i h.N,W:=KY (λu=>decide (h.W.getD u 0=(ob:Int))) (-1) i h.W} i c hN hW hc;simp only[] at this;rw[this,cJ,cj (by simp only[sF,ac2 rfl,kG]),jb,ws,V9 _ _ _ _ (aQ hp),V9 _ _ _ _ (aQ hp)]
   .rw[bL hp,cN,jb,ws,<-PK _ _ _ _ (bL hp),<-PK _ _ _ _ (bL hp)]
  .simp only[];rw[sW (by simp),cN]
 all_goals
  simp only[aU,cz,cI,cU,cN,jb,cJ,cj,J,fT,gf];rfl
theorem UR (l:List (List Int)) (c:List Int) (i:Nat) (hi:i<l.length):(l.take (i+1)).foldl jl c=jl ((l.take i).foldl jl c) (l.getD i []):=by
 rw[List.take_add_one,dP,aB hi,aA,aB hi];rfl
theorem PW (w:vS) (h:HS) (e:EV):(s9 w h e).length<=3:=by
 unfold s9;repeat' split
 all_goals simp
theorem ais {n:Int} {w:vS} {h:HS} (o:XC n h) (e:EV) (i:Nat):0<=((s9 w h e).foldl jl (h.T.getD e.th [])).getD i 0/\((s9 w h e).foldl jl (h.T.getD e.th [])).getD i 0<9223372036854775807:=by
 have:=(C' _ _ (o.T e.th) (TI (w:=w) o e)).2 i;have:=o.n1;omega
theorem FM (w:vS) (h:HS) (e:EV) (c:List Int):(jV w h e c).T.length=h.T.length/\(jV w h e c).S.length=h.S.length/\(jV w h e c).L.length=h.L.length/\(jV w h e c).R.length=h.R.length/\(jV w h e c).C.length=h.C.length/\(jV w h e c).F.length=h.F.length/\(jV w h e c).N.length=h.N.length/\(jV w h e c).W.length=h.W.length:=by
 unfold jV;simp only[];repeat' split
 all_goals simp[jat,Cn]
theorem aft {n:Int} {w:vS} {h:HS} (o:XC n h) (hn:n+1<=1000000) {e:EV} (ok:EOK w h e) {x:ETp} (hx:EvT e x):sh (w,h.t,x)=af ((Mm w h e).1.t,(Mm w h e).2):=by
 have s2:=acj o ok hx;have hce:En (n+1) (AC w h e):=O5 o ok.th4;have en:=abg o hn ok hx hce;have cp:=YM h.t o.GH;have sl:=PW w h e;have sE:=TI (w:=w) o e;have hlen:=FM w h e (AC w h e);obtain⟨x1,x2,x3,x4,x5,x6,x7⟩:=x;obtain⟨Z,Y,U,M,J,I⟩:=w;have t1:=hx.th;simp only at t1;subst t1;unfold HS.t at cp;simp only[] at cp;have fT:fe (e.th:Int) h.T.length=ai:=cS ok.th;unfold sh C8 HS.t D3 Prod.p11 aY bi bw cu dU kC zV Ci Prod.q11 Prod.q12 cY fh pU Prod.q9 ck bx uO bB aX cL cC;simp only[];rw[cp,cJ];simp only[];rw[cj fT,cj fT,s2,cJ];simp only[];rw[cj (by simp only[ac2 rfl,kG])];refine MC (s9 (Z,Y,U,M,J,I) h e).length (by omega) (λi=>((i:Int),(Z,Y,U,M,J,I),((e.th:Int),x2,x3,x4,x5,x6,x7),h.X,((s9 (Z,Y,U,M,J,I) h e).take i).foldl jl (h.T.getD e.th []),h.T,h.S,h.L,h.R,h.C,h.F,h.N,h.W)) ?_ ?_ ?_
 .simp only[qA,List.take_zero,List.foldl_nil];rfl
 .intro i hi;simp only[];rw[sV (by simp;omega),cU,cj (cS hi),qA,(C' _ _ (o.T e.th) (λy hy=>sE y (gV hy))).join (sE _ (Jc hi)),cJ,nA hi (by omega),UR _ _ _ hi]
 .simp only[];rw[sW (by simp),cN,fX (bW _)];have hl:=ais (w:=(Z,Y,U,M,J,I)) o e e.th;rw[afq _ e.th (C' _ _ (o.T e.th) sE).lb ok.th4 hl.1 hl.2,cJ];unfold HS.e at en;unfold AC at en hlen;rw[en,cJ];simp only[];rw[cj (by rw[hlen.1,hlen.2.1,hlen.2.2.1,hlen.2.2.2.1,hlen.2.2.2.2.1,hlen.2.2.2.2.2.1,hlen.2.2.2.2.2.2.1,hlen.2.2.2.2.2.2.2];simp only[ac2 rfl,kG])];rfl
abbrev vZ:Ty:=(.st (.pr (.int .i64) (.sl (.st (.pr (.int .i64) (.pr (.int .i64) (.pr (.int .i64) (.pr (.int .i64) (.pr (.int .i64) (.int .i64))))))))))
abbrev Bw:Ty:=(.st (.pr (.int .i64) (.pr (.int .i64) (.pr (.int .i64) (.pr (.int .i64) (.pr (.int .i64) (.int .i64)))))))
abbrev uN:Ty:=(.st (.pr (.int .i64) (.pr (.sl (.int .i64)) (.pr (.sl (.sl (.int .i64))) (.int .i64)))))
abbrev yL:Ty:=(.st (.pr .str (.pr (.int .i64) (.pr (.sl .str) (.sl .sm)))))
abbrev tDc:Ty:=(.st (.pr (.int .i64) (.pr (.int .i64) (.pr .str (.pr (.int .i64) (.pr (.int .i64) .str))))))
abbrev tE:Ty:=(.st (.pr (.int .i64) (.pr (.int .i64) (.pr (.int .i64) (.pr (.int .i64) (.pr (.int .i64) (.pr (.sl (.int .i64)) (.sl (.int .i64)))))))))
abbrev TD:Ty:=(.st (.pr .str .bool))
abbrev PP:Ty:=(.st (.pr .str (.pr (.int .i64) (.pr (.int .i64) (.pr .bool (.int .i64))))))
abbrev xX:Ty:=(.st (.pr (.int .i64) (.pr (.int .i64) (.int .i64))))
abbrev Tq:Ty:=(.st (.pr .str (.int .i64)))
abbrev An:Ty:=(.st (.pr (.int .i64) (.sl (.int .i64))))
abbrev jx:Ty:=(.st (.pr (.int .i64) (.pr (.int .i64) .bool)))
def Ok {R:Type} (o:Option R) (Q:R->Prop):Prop:=∃ y,o=af y/\Q y
theorem Ok.mono {R:Type} {o:Option R} {Q Q':R->Prop} (h:Ok o Q) (hq:∀ y,Q y->Q' y):Ok o Q':=by obtain⟨y,h1,h2⟩:=h;exact⟨y,h1,hq y h2⟩
theorem ar {R:Type} {y:R} {Q:R->Prop} (h:Q y):Ok (af y) Q:=⟨y,rfl,h⟩
theorem agw {R:Type} {o:Option R} {y:R} {Q:R->Prop} (e:o=af y) (h:Q y):Ok o Q:=⟨y,e,h⟩
theorem bf {R:Type} {b:Bool} {k:Option R} {Q:R->Prop} (h:b=ai) (hk:Ok k Q):Ok (chk b λ_=>k) Q:=by subst h;exact hk
theorem aP {R:Type} {b:Bool} {t f:Option R} {Q:R->Prop} (ht:b=ai->Ok t Q) (hf:b=aj->Ok f Q):Ok (bcase b t f) Q:=by
 cases b with
 |true=>exact ht rfl
 |false=>exact hf rfl
theorem fG {R:Type} {b:Bool} {t f:Option R} {Q:R->Prop} (h:b=ai) (ht:Ok t Q):Ok (bcase b t f) Q:=by subst h;exact ht
theorem fP {R:Type} {b:Bool} {t f:Option R} {Q:R->Prop} (h:b=aj) (hf:Ok f Q):Ok (bcase b t f) Q:=by subst h;exact hf
theorem ax {α R:Type} {o:Option α} {k:α->Option R} {P:α->Prop} {Q:R->Prop} (h:Ok o P) (hk:∀ x,P x->Ok (k x) Q):Ok (obind o k) Q:=by
 obtain⟨x,rfl,I⟩:=h;exact hk x I
theorem aV {α R:Type} {o:Option α} {k:α->Option R} {x:α} {Q:R->Prop} (h:o=af x) (hk:Ok (k x) Q):Ok (obind o k) Q:=by subst h;exact hk
theorem aS {α R:Type} {x:α} {k:α->Option R} {Q:R->Prop} (h:Ok (k x) Q):Ok (lt x k) Q:=h
theorem aZ {α R:Type} {o:Option (R⊕α)} {k:α->Option R} {Q:R->Prop} (P:α->Prop) (h:Ok o λr=>match r with|.inl r=>Q r|.inr x=>P x) (hk:∀ x,P x->Ok (k x) Q):Ok (jn o k) Q:=by
 obtain⟨r,rfl,hr⟩:=h;cases r with
 |inl r=>exact⟨r,rfl,hr⟩
 |inr x=>exact hk x hr
theorem gy {α R:Type} {o:Option (R⊕α)} {k:α->Option R} {Q:R->Prop} (h:Ok o λr=>match r with|.inl r=>Q r|.inr x=>Ok (k x) Q):Ok (jn o k) Q:=aZ (λx=>Ok (k x) Q) h λ_ h=>h
theorem ae2 {α R:Type} {a b:α} {r:Option R} {Q:R->Prop} (e:a=b) (h:Ok r Q):Ok (same a b r) Q:=by unfold same;rw[aF e];exact h
theorem pZ {σ R:Type} {f:σ->Option (σ⊕R)} {Q:R->Prop} (μ:σ->Nat) (I:σ->Prop) (h:∀ x,I x->Ok (f x) λr=>match r with|.inl y=>I y/\μ y<μ x|.inr r=>Q r) {x:σ} (J:I x):Ok (iter f x) Q:=by
 have key:∀ n x,μ x<n->I x->∃ m r,iterN f m x=af r/\Q r:=by
  intro n;induction n with
  |zero=>intro x hm;omega
  |succ n M=>
   intro x hm J;obtain⟨r,h1,h2⟩:=h x J;cases r with
   |inl y=>
    obtain⟨m,r,Y,U⟩:=M y (by have:=h2.2;omega) h2.1;exact⟨m+1,r,by rw[iterN,h1];exact Y,U⟩
   |inr r=>exact⟨1,r,by rw[iterN,h1],h2⟩
 obtain⟨m,r,h1,h2⟩:=key (μ x+1) x (Ce _) J;exact⟨r,yY h1,h2⟩
theorem b9 {σ R:Type} {f:σ->Option (σ⊕R)} {Q:R->Prop} (n:Nat) (I:Nat->σ->Prop) (h0:∀ i x,i<n->I i x->Ok (f x) λr=>match r with|.inl y=>I (i+1) y|.inr r=>Q r) (h1:∀ x,I n x->Ok (f x) λr=>match r with|.inl _=>False|.inr r=>Q r) {x:σ} (U:I 0 x):Ok (iter f x) Q:=by
 have key:∀ m i x,i+m=n->I i x->∃ k r,iterN f k x=af r/\Q r:=by
  intro m;induction m with
  |zero=>
   intro i x hi U;have:i=n:=by omega
   subst this;obtain⟨r,M,J⟩:=h1 x U;cases r with
   |inl y=>exact J.elim
   |inr r=>exact⟨1,r,by rw[iterN,M],J⟩
  |succ m Y=>
   intro i x hi U;obtain⟨r,M,J⟩:=h0 i x (by omega) U;cases r with
   |inl y=>
    obtain⟨k,r,g3,Z⟩:=Y (i+1) y (by omega) J;exact⟨k+1,r,by rw[iterN,M];exact g3,Z⟩
   |inr r=>exact⟨1,r,by rw[iterN,M],J⟩
 obtain⟨m,r,M,J⟩:=key n 0 x (by omega) U;exact⟨r,yY M,J⟩
def itQ {σ R:Type} (f:σ->Option (σ⊕R)) (Q:R->Prop):σ⊕R->Prop
 |.inl y=>Ok (iter f y) Q
 |.inr r=>Q r
def jnQ {α R:Type} (k:α->Option R) (Q:R->Prop):R⊕α->Prop
 |.inl r=>Q r
 |.inr x=>Ok (k x) Q
theorem ae1 {σ R:Type} {f:σ->Option (σ⊕R)} {x:σ} {Q:R->Prop} (h:Ok (f x) (itQ f Q)):Ok (iter f x) Q:=by
 obtain⟨r,h1,h2⟩:=h;cases r with
 |inr r=>exact⟨r,yY (n:=1) (by rw[iterN,h1]),h2⟩
 |inl y=>
  obtain⟨z,I,J⟩:=h2;unfold iter at I;split at I
  .exact⟨z,yY (n:=_+1) (by rw[iterN,h1];exact I),J⟩
  .cases I
theorem WC {σ R:Type} {f:σ->Option (σ⊕R)} {y:σ} {Q:R->Prop} (h:Ok (iter f y) Q):Ok (af (.inl y)) (itQ f Q):=⟨_,rfl,h⟩
theorem WA {σ R:Type} {f:σ->Option (σ⊕R)} {r:R} {Q:R->Prop} (h:Ok (af r) Q):Ok (af (.inr r)) (itQ f Q):=by
 obtain⟨_,h1,h2⟩:=h;cases h1;exact⟨_,rfl,h2⟩
theorem Wy {α R:Type} {o:Option (R⊕α)} {k:α->Option R} {Q:R->Prop} (h:Ok o (jnQ k Q)):Ok (jn o k) Q:=by
 obtain⟨r,rfl,hr⟩:=h;cases r with
 |inl r=>exact⟨r,rfl,hr⟩
 |inr x=>exact hr
theorem Wz {α R:Type} {r:R} {k:α->Option R} {Q:R->Prop} (h:Ok (af r) Q):Ok (af (.inl r)) (jnQ k Q):=by
 obtain⟨_,h1,h2⟩:=h;cases h1;exact⟨_,rfl,h2⟩
theorem Wx {α R:Type} {x:α} {k:α->Option R} {Q:R->Prop} (h:Ok (k x) Q):Ok (af (.inr x)) (jnQ k Q):=⟨_,rfl,h⟩
def oQ {α R:Type} (k:α->Option R) (Q:R->Prop) (x:α):Prop:=Ok (k x) Q
theorem Ql {α R:Type} {o:Option α} {k:α->Option R} {Q:R->Prop} (h:Ok o (oQ k Q)):Ok (obind o k) Q:=ax h λ_ h=>h
theorem Qk {α R:Type} {x:α} {k:α->Option R} {Q:R->Prop} (h:Ok (k x) Q):Ok (af x) (oQ k Q):=⟨_,rfl,h⟩
theorem aeg {j:Int} {n:Nat}:fe j n=ai↔0<=j/\j<n:=by simp[fe,c7,fO]
theorem N_ {a b:Int}:c7 a b=ai↔a<=b:=by simp[c7]
theorem tD {a b:Int}:fO a b=ai↔a<b:=by simp[fO]
theorem gg {a b:Int}:fO a b=aj↔b<=a:=by simp[fO]
theorem lY {a b:Int}:c7 a b=aj↔b<a:=by simp[c7]
theorem XL {n b:Nat}:a_ n b=ai↔n<=1099511627776/\n*b<=1099511627776:=by simp[a_]
theorem cE {R:Type} {o:Option R} {v:R} (h:Ok o (·=v)):o=af v:=by obtain⟨y,h1,h2⟩:=h;rw[h1,h2]
section steps
variable {R:Type} {k t f:Option R} {Q:R->Prop}
theorem aR {j:Int} {n:Nat} (h0:0<=j) (h1:j<n) (hk:Ok k Q):Ok (chk (fe j n) λ_=>k) Q:=bf (aeg.2 ⟨h0,h1⟩) hk
theorem bg {n b:Nat} (h0:n<=1073741824) (h1:b<=1024) (hk:Ok k Q):Ok (chk (a_ n b) λ_=>k) Q:=
 bf (XL.2 ⟨by omega,dg (Nat.mul_le_mul h0 h1) (by omega)⟩) hk
theorem dG {a b:Bool} (h:Ok (chk a λ_=>chk b λ_=>k) Q):Ok (chk (a&&b) λ_=>k) Q:=by
 cases a with
 |true=>exact h
 |false=>obtain⟨y,h,_⟩:=h;cases h
theorem e_ {a b:Int} (h:a<=b) (hk:Ok k Q):Ok (chk (c7 a b) λ_=>k) Q:=bf (N_.2 h) hk
theorem Ab {a b:Int} (h:a<b) (hk:Ok k Q):Ok (chk (fO a b) λ_=>k) Q:=bf (tD.2 h) hk
theorem WD {p:Prop} {i:Decidable p} (h:p) (hk:Ok k Q):Ok (chk (decide p) λ_=>k) Q:=bf (aQ h) hk
theorem yR {p:Prop} {i:Decidable p} (h:¬p) (hk:Ok k Q):Ok (chk (!decide p) λ_=>k) Q:=bf (by simp[h]) hk
theorem lw {a b:Nat} (h:a=b) (hk:Ok k Q):Ok (chk (aC a b) λ_=>k) Q:=bf (by subst h;exact uX a) hk
theorem AJ (hk:Ok k Q):Ok (chk ai λ_=>k) Q:=hk
theorem bF {a b:Int} (ht:a<b->Ok t Q) (hf:b<=a->Ok f Q):Ok (bcase (fO a b) t f) Q:=aP (λh=>ht (tD.1 h)) (λh=>hf (gg.1 h))
theorem eY {a b:Int} (ht:a<=b->Ok t Q) (hf:b<a->Ok f Q):Ok (bcase (c7 a b) t f) Q:=aP (λh=>ht (N_.1 h)) (λh=>hf (lY.1 h))
theorem aK {p:Prop} {i:Decidable p} (ht:p->Ok t Q) (hf:¬p->Ok f Q):Ok (bcase (decide p) t f) Q:=aP (λh=>ht (bt h)) (λh=>hf (Tt h))
theorem b_ {p:Prop} {i:Decidable p} (ht:¬p->Ok t Q) (hf:p->Ok f Q):Ok (bcase (!decide p) t f) Q:=aP (λh=>ht (by simpa using h)) (λh=>hf (by simpa using h))
theorem ec {b:Bool} (ht:b=aj->Ok t Q) (hf:b=ai->Ok f Q):Ok (bcase (!b) t f) Q:=aP (λh=>ht (by simpa using h)) (λh=>hf (by simpa using h))
theorem Qm (ht:Ok t Q):Ok (bcase ai t f) Q:=ht
theorem gz (hf:Ok f Q):Ok (bcase aj t f) Q:=hf
theorem ch {j:Int} {n:Nat} (hk:Ok k Q) (h0:0<=j:=by first|omega|(dsimp only;omega)) (h1:j<n:=by first|omega|(dsimp only;omega)):Ok (chk (fe j n) λ_=>k) Q:=aR h0 h1 hk
theorem du {a b:Int} (ht:Ok t Q) (h:a<b:=by first|omega|(dsimp only[au];omega)):Ok (bcase (fO a b) t f) Q:=bF (λ_=>ht) λg=>cV h (Cf.2 g)
theorem dv {a b:Int} (hf:Ok f Q) (h:b<=a:=by first|omega|(dsimp only[au];omega)):Ok (bcase (fO a b) t f) Q:=bF (λg=>cV g (Cf.2 h)) λ_=>hf
end steps
theorem qU:(∀ (p:Prop) [Decidable p],(decide p=ai)=p)/\(∀ p:Prop,(True\/p)=True)/\(∀ p:Prop,(p\/True)=True)/\(∀ p:Prop,(True->p)=p)/\(∀ p:Prop,(True/\p)=p)/\∀ p:Prop,(p/\True)=p:=⟨λ_=>be,true_or,or_true,λ_=>true_implies _,Bu,and_true⟩
theorem sU:(∀ i:Decidable True,@decide True i=ai)/\(∀ i:Decidable False,@decide False i=aj)/\(∀ {R:Type} (t f:Option R),bcase ai t f=t)/\(∀ {R:Type} (t f:Option R),bcase aj t f=f)/\(∀ {α R:Type} (x:α) (k:α->Option R),jn (af (.inr x)) k=k x)/\(∀ {α R:Type} (r:R) (k:α->Option R),jn (af (.inl r)) k=af r)/\(∀ {α R:Type} (x:α) (k:α->Option R),obind (af x) k=k x)/\(∀ {α R:Type} (x:α) (k:α->Option R),lt x k=k x)/\(!ai)=aj/\(!aj)=ai:=⟨cI,cz,λ_ _=>rfl,λ_ _=>rfl,λ_ _=>rfl,λ_ _=>rfl,λ_ _=>rfl,λ_ _=>rfl,rfl,rfl⟩
structure IM (p q:Prop):Prop where
 h:p->q
inductive OS {R:Type}:Option R->(R->Prop)->Prop where
 |cand {a b:Bool} {k:Option R} {Q:R->Prop} (h:Ok (chk a λ_=>chk b λ_=>k) Q):OS (chk (a&&b) λ_=>k) Q
 |fe {j:Int} {n:Nat} {k:Option R} {Q:R->Prop} (h0:0<=j) (h1:j<n) (hk:Ok k Q):OS (chk (fe j n) λ_=>k) Q
 |room {n b:Nat} {k:Option R} {Q:R->Prop} (h0:n<=1073741824) (h1:b<=1024) (hk:Ok k Q):OS (chk (a_ n b) λ_=>k) Q
 |cile {a b:Int} {k:Option R} {Q:R->Prop} (h:a<=b) (hk:Ok k Q):OS (chk (c7 a b) λ_=>k) Q
 |cilt {a b:Int} {k:Option R} {Q:R->Prop} (h:a<b) (hk:Ok k Q):OS (chk (fO a b) λ_=>k) Q
 |cdec {p:Prop} {i:Decidable p} {k:Option R} {Q:R->Prop} (h:p) (hk:Ok k Q):OS (chk (decide p) λ_=>k) Q
 |cndec {p:Prop} {i:Decidable p} {k:Option R} {Q:R->Prop} (h:¬p) (hk:Ok k Q):OS (chk (!decide p) λ_=>k) Q
 |cbeq {a b:Nat} {k:Option R} {Q:R->Prop} (h:a=b) (hk:Ok k Q):OS (chk (aC a b) λ_=>k) Q
 |cT {k:Option R} {Q:R->Prop} (hk:Ok k Q):OS (chk ai λ_=>k) Q
 |lt {α:Type} {x:α} {k:α->Option R} {Q:R->Prop} (h:Ok (k x) Q):OS (lt x k) Q
 |b1 {t f:Option R} {Q:R->Prop} (h:Ok t Q):OS (bcase ai t f) Q
 |b0 {t f:Option R} {Q:R->Prop} (h:Ok f Q):OS (bcase aj t f) Q
 |fO {a b:Int} {t f:Option R} {Q:R->Prop} (ht:IM (a<b) (Ok t Q)) (hf:IM (b<=a) (Ok f Q)):OS (bcase (fO a b) t f) Q
 |c7 {a b:Int} {t f:Option R} {Q:R->Prop} (ht:IM (a<=b) (Ok t Q)) (hf:IM (b<a) (Ok f Q)):OS (bcase (c7 a b) t f) Q
 |dec {p:Prop} {i:Decidable p} {t f:Option R} {Q:R->Prop} (ht:IM p (Ok t Q)) (hf:IM (¬p) (Ok f Q)):OS (bcase (decide p) t f) Q
 |ndec {p:Prop} {i:Decidable p} {t f:Option R} {Q:R->Prop} (ht:IM (¬p) (Ok t Q)) (hf:IM p (Ok f Q)):OS (bcase (!decide p) t f) Q
 |not {b:Bool} {t f:Option R} {Q:R->Prop} (ht:IM (b=aj) (Ok t Q)) (hf:IM (b=ai) (Ok f Q)):OS (bcase (!b) t f) Q
 |bcase {b:Bool} {t f:Option R} {Q:R->Prop} (ht:IM (b=ai) (Ok t Q)) (hf:IM (b=aj) (Ok f Q)):OS (bcase b t f) Q
 |jc {α:Type} {o:Option (R⊕α)} {k:α->Option R} {Q:R->Prop} (h:Ok o λr=>match r with|.inl r=>Q r|.inr x=>Ok (k x) Q):OS (jn o k) Q
 |some {y:R} {Q:R->Prop} (h:Q y):OS (af y) Q
theorem OS.ok {R:Type} {o:Option R} {Q:R->Prop} (h:OS o Q):Ok o Q:=by
 cases h with
 |cand h=>exact dG h
 |fe a b h=>exact aR a b h
 |room a b h=>exact bg a b h
 |cile a h=>exact e_ a h
 |cilt a h=>exact Ab a h
 |cdec a h=>exact WD a h
 |cndec a h=>exact yR a h
 |cbeq a h=>exact lw a h
 |cT h=>exact h
 |lt h=>exact h
 |b1 h=>exact h
 |b0 h=>exact h
 |fO a b=>exact bF a.h b.h
 |c7 a b=>exact eY a.h b.h
 |dec a b=>exact aK a.h b.h
 |ndec a b=>exact b_ a.h b.h
 |not a b=>exact ec a.h b.h
 |bcase a b=>exact aP a.h b.h
 |jc h=>
  obtain⟨r,e,h⟩:=h;exact gy ⟨r,e,by cases r<;>exact h⟩
 |some h=>exact ar h
theorem bcT {R:Type} (t f:Option R):bcase ai t f=t:=rfl
theorem bcF {R:Type} (t f:Option R):bcase aj t f=f:=rfl
theorem jnr {α R:Type} (x:α) (k:α->Option R):jn (af (.inr x)) k=k x:=rfl
theorem WE {α R:Type} (x:α) (k:α->Option R):obind (af x) k=k x:=rfl
theorem IE {k:Int}:k=1\/k=2\/k=3\/k=4\/k=5\/k=6\/k=7\/k=8\/k=9\/k=10\/k=11\/k=12\/k=13\/k=14\/k=15\/k=16\/k=17\/k=18\/k=19\/k=20\/k=21\/k=22\/k=23\/((∀ j:Int,1<=j->j<=23->(k=j)=False)/\(k<1\/23<k)):=by
 by_cases h:1<=k/\k<=23
 .omega
 .have:(∀ j:Int,1<=j->j<=23->(k=j)=False)/\(k<1\/23<k):=⟨λj h1 h2=>eq_false (by omega),by omega⟩
  repeat (first|exact this|refine Or.inr ?_)
theorem ic {n:Int} (h0: -9223372036854775808<=n) (h1:n<=9223372036854775807):bk .i64 n=n:=by
 rw[Hr];unfold Mg;simp[c7,h0,h1]
theorem gM {i:Nat} (h:i<9223372036854775807):bk .i64 ((i:Int)+1)=((i+1:Nat):Int):=by rw[ic (by omega) (by omega)];omega
theorem zg {T:Ty} (xs:List T.den) (i:Nat):aJ xs (i:Int)=xs.getD i T.zero:=by unfold aJ;simp
theorem Ow (xs:List Int) (i:Nat):aJ (T:=.int .i64) xs (i:Int)=xs.getD i 0:=zg (T:=.int .i64) xs i
theorem bH {T:Ty} {xs:List T.den} {j:Int} (h0:0<=j) (h1:j<xs.length):aJ xs j∈xs:=by
 unfold aJ;rw[aA,aB (by omega)];exact u_ _
theorem bT {α:Type} (xs:List α) (j:Int) (x:α):(cQ xs j x).length=xs.length:=by unfold cQ;simp
theorem Cu {α:Type} {xs:List α} {j:Int} {x y:α} (h:y∈cQ xs j x):y∈xs\/y=x:=List.mem_or_eq_of_mem_set h
abbrev WT:Type:=List (List UInt8×Int×Int×Bool×Int)×List (List UInt8×Bool)×List (List UInt8×Int)×List (List UInt8)×List (List UInt8)×List (Int×Int×Int)
abbrev SY:Type:=List (Int×List Int)×Int×List Bool×List (Int×Int×Bool)
theorem aas (a b:Int):qh (a,b)=af (decide (0<=a/\a<b)):=by
 refine cE ?_;unfold qh iR aE;with_reducible repeat' first|(refine OS.ok ?_;constructor)|refine IM.mk λ_=>?_
 .by_cases h:a<b<;>simp[*,fO]
 .simp;omega
theorem V7 (l:List Int) (n:Int) (hl:l.length<=1000000):qi (l,n)=af (l.contains n):=by
 refine cE ?_;unfold qi bd bx bD aX cL aE cC;refine b9 l.length (λi x=>x=(i:Int)/\∀ k,k<i->l.getD k 0≠n) ?_ ?_ ⟨rfl,λk hk=>by omega⟩
 .rintro i x hi ⟨rfl,I⟩;with_reducible repeat' first|(refine OS.ok ?_;constructor)|refine IM.mk λ_=>?_
  all_goals try simp only[au,qU] at*
  .omega
  .omega
  .rename_i h;rw[Ow] at h;show ai=_
   symm
   rw[sR,<-h,aA,aB hi];exact u_ _
  .rename_i h;rw[Ow] at h;refine ⟨gM (by omega),λk hk=>?_⟩;rcases bZ k i with h1|h1
   .exact I k h1
   .rw[show k=i by omega];exact h
  .omega
 .rintro x ⟨rfl,I⟩;with_reducible repeat' first|(refine OS.ok ?_;constructor)|refine IM.mk λ_=>?_
  all_goals try simp only[au,qU] at*
  .omega
  .omega
  .omega
  .omega
  .symm
   rw[Bool.eq_false_iff];intro hc;rw[sR] at hc;obtain⟨k,hk,he⟩:=List.getElem_of_mem hc;exact I k hk (by rw[aA,aB hk];exact he)
theorem im {T:Ty} {xs:List T.den} {p:T.den->Prop} (h:∀ k:Nat,k<al xs->p (aJ xs (k:Int))):∀ c∈xs,p c:=λc hc=>by
 obtain⟨k,hk,he⟩:=List.getElem_of_mem hc;have:=h k hk;rw[zg,aA,aB hk,uW,he] at this;exact this
theorem Py (w:WT) (s:SY) (hw:w.2.2.1.length<=1000000):Ok (rk (w,s)) λb=>b=ai->(∀ c∈w.2.2.1,0<=c.2/\c.2<w.2.1.length)/\s.1.length=w.2.1.length/\s.2.2.1.length=w.2.2.2.1.length/\s.2.2.2.length=w.2.2.2.2.1.length:=by
 unfold rk aY bi bw cY bd bx bD aX cL aE cC;refine b9 w.2.2.1.length (λi x=>x.1=(i:Int)/\x.2=(w,s)/\∀ k:Nat,k<i->0<=(aJ (T:=Tq) w.2.2.1 (k:Int)).2/\(aJ (T:=Tq) w.2.2.1 (k:Int)).2<w.2.1.length) ?_ ?_ ⟨rfl,rfl,λk hk=>by omega⟩
 .rintro i ⟨Y,U⟩ hi ⟨J,I,M⟩;dsimp only at J I;subst J;subst I;with_reducible repeat' first|(refine OS.ok ?_;constructor)|refine IM.mk λ_=>?_
  all_goals try simp only[au,qU] at*
  all_goals first|omega|skip
  .intro h;cases h
  .intro h;cases h
  .refine ⟨gM (by omega),λk hk=>?_⟩;rcases bZ k i with h1|h1
   .exact M k h1
   .rename_i h2 Z;rw[show k=i by omega];exact⟨h2,Z⟩
 .rintro⟨Y,U⟩ ⟨J,I,M⟩;dsimp only at J I;subst J;subst I;with_reducible repeat' first|(refine OS.ok ?_;constructor)|refine IM.mk λ_=>?_
  all_goals try simp only[au,qU] at*
  all_goals first|omega|skip
  refine ax (P:=λb=>b=ai->s.1.length=w.2.1.length/\s.2.2.1.length=w.2.2.2.1.length/\s.2.2.2.length=w.2.2.2.2.1.length) ?_ ?_
  .with_reducible repeat' first|(refine OS.ok ?_;constructor)|refine IM.mk λ_=>?_
   all_goals try simp only[au,qU] at*
   .intro h;omega
   .intro h;cases h
   .intro h;cases h
  .intro b hb;with_reducible repeat' first|(refine OS.ok ?_;constructor)|refine IM.mk λ_=>?_
   exact λh=>⟨im (T:=Tq) M,hb h⟩
structure NM (w:WT) (k o:Int):Prop where
 k1:1<=k
 k2:k<=23
 ce:k=3\/k=4->0<=o/\o<w.1.length
 lk:6<=k/\k<=11->0<=o/\o<w.2.1.length
 cd:16<=k/\k<=19->0<=o/\o<w.2.2.1.length
 th:k=20\/k=21->0<=o/\o<w.2.2.2.2.1.length
 fu:k=22\/k=23->0<=o/\o<w.2.2.2.1.length
 no:k=1\/k=2\/k=5\/(12<=k/\k<=15)->o= -1
 mu:k=6\/k=7->(aJ (T:=TD) w.2.1 o).2=aj
 rw:8<=k/\k<=11->(aJ (T:=TD) w.2.1 o).2=ai
theorem aad (w:WT) (k o:Int):Ok (uh (w,k,o)) λb=>b=ai->NM w k o:=by
 unfold uh aY bi bw cu bd bD aX aE;rcases @IE k with rfl|rfl|rfl|rfl|rfl|rfl|rfl|rfl|rfl|rfl|rfl|rfl|rfl|rfl|rfl|rfl|rfl|rfl|rfl|rfl|rfl|rfl|rfl|⟨hk,I⟩
 case inr.inr.inr.inr.inr.inr.inr.inr.inr.inr.inr.inr.inr.inr.inr.inr.inr.inr.inr.inr.inr.inr.inr=>
  simp only[hk 1 (by decide) (by decide),hk 2 (by decide) (by decide),hk 3 (by decide) (by decide),hk 4 (by decide) (by decide),hk 5 (by decide) (by decide),hk 6 (by decide) (by decide),hk 7 (by decide) (by decide),hk 8 (by decide) (by decide),hk 9 (by decide) (by decide),hk 10 (by decide) (by decide),hk 11 (by decide) (by decide),hk 12 (by decide) (by decide),hk 13 (by decide) (by decide),hk 14 (by decide) (by decide),hk 15 (by decide) (by decide),hk 16 (by decide) (by decide),hk 17 (by decide) (by decide),hk 18 (by decide) (by decide),hk 19 (by decide) (by decide),hk 20 (by decide) (by decide),hk 21 (by decide) (by decide),hk 22 (by decide) (by decide),hk 23 (by decide) (by decide),aU,bn,sU];exact ar λh=>by cases h
 all_goals simp only[aU,bn,sU,aas]
 all_goals with_reducible repeat' first|(refine OS.ok ?_;constructor)|refine IM.mk λ_=>?_
 all_goals try simp only[au,qU] at*
 all_goals first|omega|(intro h;cases h;done)|(intro h;constructor<;>first|omega|(intro h2;first|omega|(simpa using h)))
structure SB (n:Nat) (s:SY):Prop where
 n1:n<=100000
 lk:s.1.length<=1000
 rd:∀ l∈s.1,l.2.length<=n
 dn:s.2.2.1.length<=1000
 th:s.2.2.2.length<=1000
structure EN (w:WT) (s:SY) (t k o:Int):Prop where
 nm:NM w k o
 t0:0<=t
 t1:t<w.2.2.2.2.1.length
 cd:∀ c∈w.2.2.1,0<=c.2/\c.2<w.2.1.length
 e1:s.1.length=w.2.1.length
 e2:s.2.2.1.length=w.2.2.2.1.length
 e3:s.2.2.2.length=w.2.2.2.2.1.length
structure V2 (w:WT) (s:SY) (t k o:Int):Prop where
 b:k=1->(aJ (T:=jx) s.2.2.2 t).1=1
 wk:k=17->(aJ (T:=jx) s.2.2.2 t).1=4/\(aJ (T:=jx) s.2.2.2 t).2.1=o/\(aJ (T:=An) s.1 (aJ (T:=Tq) w.2.2.1 o).2).1= -1
 r:k≠1->k≠17->(aJ (T:=jx) s.2.2.2 t).1=2
 aq:k=6\/k=8\/k=10->(aJ (T:=An) s.1 o).1= -1
 wr:k=10->(aJ (T:=An) s.1 o).2.length=0
 ra:k=8->(aJ (T:=An) s.1 o).2.contains t=aj
 rl:k=7\/k=11->(aJ (T:=An) s.1 o).1=t
 rr:k=9->(aJ (T:=An) s.1 o).2.contains t=ai
 xb:k=12->s.2.1= -1
 xe:k=13->s.2.1=t
 ab:k=14->(aJ (T:=jx) s.2.2.2 t).2.2=aj
 ae:k=15->(aJ (T:=jx) s.2.2.2 t).2.2=ai
 nt:k=16\/k=18\/k=19->(aJ (T:=An) s.1 (aJ (T:=Tq) w.2.2.1 o).2).1=t
 sp:k=20->¬o=t/\(aJ (T:=jx) s.2.2.2 o).1=0
 jo:k=21->¬o=t/\(aJ (T:=jx) s.2.2.2 o).1=5
 se:k=22->aJ (T:=.bool) s.2.2.1 o=aj
 ge:k=23->aJ (T:=.bool) s.2.2.1 o=ai
theorem KQ {n:Nat} (w:WT) (s:SY) (hs:SB n s) (hw:w.2.2.1.length<=1000) (t k o:Int):Ok (j9 (w,s,t,k,o)) λb=>b=ai->EN w s t k o/\V2 w s t k o:=by
 unfold j9 aY bi bw bK dx cY bd jd bD aX aE;refine aZ (λx=>x.2=(w,s)/\(x.1=aj->EN w s t k o)) ?_ ?_
 .refine ax (Py w s (by omega)) λb hb=>?_
  with_reducible repeat' first|(refine OS.ok ?_;constructor)|refine IM.mk λ_=>?_
  .exact⟨rfl,λh=>by cases h⟩
  .simp only[aas,WE];with_reducible repeat' first|(refine OS.ok ?_;constructor)|refine IM.mk λ_=>?_
   .exact⟨rfl,λh=>by cases h⟩
   .refine ax (aad w k o) λc hc=>?_
    with_reducible repeat' first|(refine OS.ok ?_;constructor)|refine IM.mk λ_=>?_
    all_goals try simp only[au,qU] at*
    rename_i h1 h2;obtain⟨f1,Z,f3,Y⟩:=hb h1;exact λh=>⟨hc (by simpa using h),by omega,by omega,f1,Z,f3,Y⟩
 .rintro⟨x1,x2⟩ ⟨I,J⟩;dsimp only at I J;subst I;refine aP (λh=>ar λh=>by cases h) (λh=>?_);have he:=J h;obtain⟨nm,t0,t1,cd,e1,e2,e3⟩:=id he;obtain⟨_,_,ce,lk,cn,th,fu⟩:=nm;have hm:16<=k/\k<=19->0<=(aJ (T:=Tq) w.2.2.1 o).2/\(aJ (T:=Tq) w.2.2.1 o).2<w.2.1.length:=λh=>cd _ (bH (cn h).1 (cn h).2)
  have U:6<=k/\k<=11->qi ((aJ (T:=An) s.1 o).2,t)=af ((aJ (T:=An) s.1 o).2.contains t):=λh=>V7 _ _ (by
   have:=hs.rd _ (bH (T:=An) (lk h).1 (by have:=(lk h).2;omega));have:=hs.n1;omega)
  rcases @IE k with rfl|rfl|rfl|rfl|rfl|rfl|rfl|rfl|rfl|rfl|rfl|rfl|rfl|rfl|rfl|rfl|rfl|rfl|rfl|rfl|rfl|rfl|rfl|⟨hk,M⟩
  case inr.inr.inr.inr.inr.inr.inr.inr.inr.inr.inr.inr.inr.inr.inr.inr.inr.inr.inr.inr.inr.inr.inr=>omega
  all_goals simp only[aU,bn,sU]
  all_goals with_reducible repeat' first|(refine OS.ok ?_;constructor)|refine IM.mk λ_=>?_
  all_goals try simp only[U (by omega),WE]
  all_goals with_reducible repeat' first|(refine OS.ok ?_;constructor)|refine IM.mk λ_=>?_
  all_goals try simp only[au,qU] at*
  all_goals first|omega|(intro h;cases h;done)|exact (hm ⟨by decide,by decide⟩).1|(rw [e1];exact (hm ⟨by decide,by decide⟩).2)|(intro h;refine ⟨he,?_⟩;constructor<;>first|omega|(intros;first|omega|assumption|(simpa using h)|exact⟨by assumption,by first|assumption|exact⟨by assumption,by assumption⟩⟩))|(refine ⟨he,?_⟩;constructor<;>first|omega|(intros;first|omega|assumption))
def lP:List Int->Int->List Int
 |[],n=>[n]
 |x::r,n=>if x<n then x::lP r n else if x=n then x::r else n::x::r
theorem Eg (n:Int):∀ (i:Nat) (l:List Int),i<=l.length->(∀ k,k<i->l.getD k 0<n)->lP l n=l.take i++lP (l.drop i) n
 |0,l,_,_=>by simp
 |i+1,[],h,_=>by simp at h
 |i+1,x::r,h,hk=>by
  have h0:=hk 0 (by omega);simp at h0;have:=Eg n i r (by simpa using h) (λk I=>by have:=hk (k+1) (by omega);simpa using this);rw[lP,aF h0,this,vX,vY,gm]
theorem Fv (n:Int):∀ l:List Int,(lP l n).length<=l.length+1
 |[]=>by simp[lP]
 |x::r=>by
  have:=Fv n r;rw[lP];split
  .simp;omega
  .split<;>simp
theorem If {n y:Int}:∀ {l:List Int},y∈lP l n↔y=n\/y∈l
 |[]=>by simp[lP]
 |x::r=>by
  have:=If (n:=n) (y:=y) (l:=r);rw[lP];split
  .simp[this];constructor
   .rintro (h|h|h)<;>simp[h]
   .rintro (h|h|h)<;>simp[h]
  .split
   .rename_i h;subst h;simp
   .simp
def Hl:List Int->Prop
 |[]=>True
 |x::r=>(∀ y∈r,x<y)/\Hl r
theorem Qh {n:Int}:∀ {l:List Int},Hl l->Hl (lP l n)
 |[],_=>by simp[lP,Hl]
 |x::r,h=>by
  rw[lP];split
  .rename_i J;refine ⟨λy I=>?_,Qh h.2⟩;rcases If.1 I with rfl|I
   .exact J
   .exact h.1 y I
  .split
   .exact h
   .rename_i h1 h2;refine ⟨λy I=>?_,h⟩;rcases bm.1 I with rfl|I
    .omega
    .have:=h.1 y I;omega
theorem acn (l:List Int) (n:Int) (hl:l.length<=1000000):ww (l,n)=af (lP l n):=by
 refine cE ?_;unfold ww bx bB bD aX cL aE cC;have fin:∀ i:Nat,i<=l.length->(∀ k,k<i->l.getD k 0<n)->(i<l.length->¬l.getD i 0<n/\l.getD i 0≠n)->l.take i++[n]++l.drop i=lP l n:=λi hi hk hn=>by
  rw[Eg n i l hi hk];cases hd:l.drop i with
  |nil=>simp[lP]
  |cons y r=>
   have hlt:i<l.length:=by
    rcases bZ i l.length with h|h
    .exact h
    .rw[List.drop_eq_nil_of_le h] at hd;cases hd
   have J:l.getD i 0=y:=by
    rw[aA,<-List.head?_drop,hd];rfl
   obtain⟨h1,h2⟩:=hn hlt;rw[J] at h1 h2;rw[lP,ay h1,ay h2];simp
 refine b9 l.length (λi x=>x=(i:Int)/\∀ k,k<i->l.getD k 0<n) ?_ ?_ ⟨rfl,λk hk=>by omega⟩
 .rintro i x hi ⟨rfl,I⟩;by_cases hlt:l.getD i 0<n
  .with_reducible repeat' first|(refine OS.ok ?_;constructor)|refine IM.mk λ_=>?_
   all_goals try simp only[au,qU] at*
   all_goals first|omega|skip
   .refine ⟨gM (by omega),λk hk=>?_⟩;rcases bZ k i with h1|h1
    .exact I k h1
    .rw[show k=i by omega];exact hlt
   .rename_i h;exact cV hlt (Cf.2 h)
  .have key:l.getD i 0=n->lP l n=l:=λhe=>by
    rw[Eg n i l (by omega) I];cases hd:l.drop i with
    |nil=>have:=gI al hd;simp at this;omega
    |cons y r=>
     have J:l.getD i 0=y:=by rw[aA,<-List.head?_drop,hd];rfl
     rw[J] at he;rw[lP,ay (by omega),aF he,<-hd,Bs]
   with_reducible repeat' first|(refine OS.ok ?_;constructor)|refine IM.mk λ_=>?_
   all_goals try simp only[au,qU] at*
   all_goals first|omega|skip
   .rename_i h;exact cV h hlt
   .refine ax (P:=λr=>r=lP l n) ?_ λr hr=>ar hr
    with_reducible repeat' first|(refine OS.ok ?_;constructor)|refine IM.mk λ_=>?_
    all_goals try simp only[au,qU] at*
    all_goals first|omega|skip
    .rename_i h;exact (key h).symm
    .simp;omega
    .simp;omega
    .simp;omega
    .rename_i h;simpa using fin i (by omega) I (λ_=>⟨hlt,h⟩)
 .rintro x ⟨rfl,I⟩;with_reducible repeat' first|(refine OS.ok ?_;constructor)|refine IM.mk λ_=>?_
  all_goals try simp only[au,qU] at*
  all_goals first|omega|skip
  refine ax (P:=λr=>r=lP l n) ?_ λr hr=>ar hr
  with_reducible repeat' first|(refine OS.ok ?_;constructor)|refine IM.mk λ_=>?_
  all_goals try simp only[au,qU] at*
  all_goals first|omega|skip
  .simp;omega
  .simp;omega
  .simp;omega
  .simpa using fin l.length (by omega) I (λh=>by omega)
def xg (a b:List Int):List Int:=b.foldl lP (a.foldl lP [])
theorem wG:∀ (b acc:List Int),(b.foldl lP acc).length<=acc.length+b.length
 |[],acc=>by simp
 |x::r,acc=>by
  have:=wG r (lP acc x);have:=Fv x acc;rw[xd,bY];omega
theorem Jh:∀ {b acc:List Int},Hl acc->Hl (b.foldl lP acc)
 |[],_,h=>h
 |x::r,acc,h=>by rw[xd];exact Jh (Qh h)
theorem Jg {y:Int}:∀ {b acc:List Int},y∈b.foldl lP acc↔y∈acc\/y∈b
 |[],acc=>by simp
 |x::r,acc=>by
  rw[xd,Jg,If];simp;constructor
  .rintro ((h|h)|h)<;>simp[h]
  .rintro (h|h|h)<;>simp[h]
theorem PO (a b:List Int):Hl (xg a b):=Jh (Jh trivial)
theorem H3 {a b:List Int} {y:Int}:y∈xg a b↔y∈a\/y∈b:=by unfold xg;rw[Jg,Jg];simp
theorem ZS (a b:List Int):(xg a b).length<=a.length+b.length:=by
 have:=wG b (a.foldl lP []);have:=wG a [];unfold xg;simp at *;omega
theorem MJ {b acc:List Int} {i:Nat} (hi:i<b.length):(b.take (i+1)).foldl lP acc=lP ((b.take i).foldl lP acc) (b.getD i 0):=by
 rw[oM hi,dP,aA,aB hi];rfl
theorem SS (a b:List Int) (M:a.length<=400000) (hb:b.length<=400000):rm (a,b)=af (xg a b):=by
 refine cE ?_;unfold rm bx bD aX cL aE cC;refine b9 a.length (λi x=>x.2=(i:Int)/\x.1=(a.take i).foldl lP []) ?_ ?_ ⟨rfl,rfl⟩
 .rintro i ⟨J,I⟩ hi ⟨h1,h2⟩;dsimp only at h1 h2;subst h1;subst h2;have hl:((a.take i).foldl lP []).length<=1000000:=by have:=wG (a.take i) [];have:=pW i a;simp at *;omega
  with_reducible repeat' first|(refine OS.ok ?_;constructor)|refine IM.mk λ_=>?_
  all_goals try simp only[au,qU] at*
  all_goals first|omega|skip
  refine aV (acn _ _ hl) (ar ?_);dsimp only;refine ⟨gM (by omega),?_⟩;rw[Ow,MJ hi]
 .rintro⟨J,I⟩ ⟨h1,h2⟩;dsimp only at h1 h2;subst h1;subst h2;rw[cP];have hla:=wG a [];with_reducible repeat' first|(refine OS.ok ?_;constructor)|refine IM.mk λ_=>?_
  all_goals try simp only[au,qU] at*
  all_goals first|omega|skip
  refine ax (P:=λr=>r=xg a b) ?_ λr hr=>ar hr
  refine b9 b.length (λi x=>x.2=(i:Int)/\x.1=(b.take i).foldl lP (a.foldl lP [])) ?_ ?_ ⟨rfl,rfl⟩
  .rintro i ⟨J,I⟩ hi ⟨h1,h2⟩;dsimp only at h1 h2;subst h1;subst h2;have hl:((b.take i).foldl lP (a.foldl lP [])).length<=1000000:=by have:=wG (b.take i) (a.foldl lP []);have:=pW i b;simp at *;omega
   with_reducible repeat' first|(refine OS.ok ?_;constructor)|refine IM.mk λ_=>?_
   all_goals try simp only[au,qU] at*
   all_goals first|omega|skip
   refine aV (acn _ _ hl) (ar ?_);dsimp only;refine ⟨gM (by omega),?_⟩;rw[Ow,MJ hi]
  .rintro⟨J,I⟩ ⟨h1,h2⟩;dsimp only at h1 h2;subst h1;subst h2;rw[cP];with_reducible repeat' first|(refine OS.ok ?_;constructor)|refine IM.mk λ_=>?_
   all_goals try simp only[au,qU] at*
   all_goals first|omega|rfl
def HV (c:Int) (x:Int×Int×Bool):Bool:=decide (x.1=3)&&decide (x.2.1=c)
def wl (th:List (Int×Int×Bool)) (c:Int):Nat->List Int
 |0=>[]
 |i+1=>if HV c (aJ (T:=jx) th (i:Int)) then wl th c i++[(i:Int)] else wl th c i
theorem vF (th:List (Int×Int×Bool)) (c:Int):∀ i,(wl th c i).length<=i
 |0=>bW _
 |i+1=>by have:=vF th c i;rw[wl];split<;>simp<;>omega
theorem q_ {th:List (Int×Int×Bool)} {c u:Int}:∀ {i:Nat},u∈wl th c i↔0<=u/\u<i/\HV c (aJ (T:=jx) th u)=ai
 |0=>by simp[wl];omega
 |i+1=>by
  have I:= @q_ th c u i;rw[wl];by_cases hu:u=(i:Int)
  .subst hu;split
   .rename_i h;simp[h];omega
   .rename_i h;rw[I];simp[h]
  .split
   .rw[bP,I,aL];constructor
    .rintro (h|h)
     .exact⟨h.1,by omega,h.2.2⟩
     .exact cV h hu
    .intro h;exact .inl ⟨h.1,by omega,h.2.2⟩
   .rw[I];constructor
    .intro h;exact⟨h.1,by omega,h.2.2⟩
    .intro h;exact⟨h.1,by omega,h.2.2⟩
theorem alc {th:List (Int×Int×Bool)} {c:Int} {i:Nat} (h1:(aJ (T:=jx) th (i:Int)).1=3) (h2:(aJ (T:=jx) th (i:Int)).2.1=c):wl th c (i+1)=wl th c i++[(i:Int)]:=by
 rw[wl,aF];unfold HV;rw[h1,h2];simp
theorem agn {th:List (Int×Int×Bool)} {c:Int} {i:Nat} (h1:¬(aJ (T:=jx) th (i:Int)).1=3):wl th c (i+1)=wl th c i:=by
 rw[wl,ay];unfold HV;rw[bL h1];simp
theorem agm {th:List (Int×Int×Bool)} {c:Int} {i:Nat} (h1:¬(aJ (T:=jx) th (i:Int)).2.1=c):wl th c (i+1)=wl th c i:=by
 rw[wl,ay];unfold HV;rw[bL h1];simp
theorem VU (s:SY) (c:Int) (hs:s.2.2.2.length<=1000):nE (s,c)=af (wl s.2.2.2 c s.2.2.2.length):=by
 refine cE ?_;unfold nE bK bd bx bB bD aX cL aE cC;refine b9 s.2.2.2.length (λi x=>x=((i:Int),s,wl s.2.2.2 c i)) ?_ ?_ rfl
 .rintro i x hi rfl;have hl:=vF s.2.2.2 c i;with_reducible repeat' first|(refine OS.ok ?_;constructor)|refine IM.mk λ_=>?_
  all_goals try simp only[au,qU] at*
  all_goals first|omega|skip
  all_goals first|(simp;omega)|skip
  .rename_i h1 h2;rw[alc h1 h2,gM (by omega)]
  .rename_i h1 h2;rw[agm h2,gM (by omega)]
  .rename_i h1;rw[agn h1,gM (by omega)]
 .rintro x rfl;with_reducible repeat' first|(refine OS.ok ?_;constructor)|refine IM.mk λ_=>?_
  all_goals try simp only[au,qU] at*
  all_goals first|omega|rfl
def wo (l:List Int) (n:Int):List Int:=l.filter λx=> !decide (x=n)
theorem Tv (l:List Int) (n:Int) (hl:l.length<=1000000):qg (l,n)=af (wo l n):=by
 refine cE ?_;unfold qg bx jd bB bD aX cL aE cC;refine b9 l.length (λi x=>x=((i:Int),wo (l.take i) n)) ?_ ?_ rfl
 .rintro i x hi rfl;have hq:(wo (l.take i) n).length<=i:=dg (Bt ..) (pW ..);have ht:wo (l.take (i+1)) n=if aJ (T:=.int .i64) l (i:Int)=n then wo (l.take i) n else wo (l.take i) n++[aJ (T:=.int .i64) l (i:Int)]:=by
   unfold wo;rw[oM hi,xW,Ow,aA,aB hi];by_cases h:l[i]=n<;>simp[h]
  with_reducible repeat' first|(refine OS.ok ?_;constructor)|refine IM.mk λ_=>?_
  all_goals try simp only[au,qU] at*
  all_goals first|omega|skip
  .simp;omega
  .rename_i h;rw[ht,ay h,gM (by omega)]
  .rename_i h;rw[ht,aF h,gM (by omega)]
 .rintro x rfl;with_reducible repeat' first|(refine OS.ok ?_;constructor)|refine IM.mk λ_=>?_
  all_goals try simp only[au,qU] at*
  all_goals first|omega|(rw [cP])
theorem mD {T:Ty} {xs:List T.den} {i:Nat} (hi:i<al xs):dO (i+1) xs=dO i xs++[aJ xs (i:Int)]:=by
 rw[oM hi,zg,aA,aB hi];rfl
theorem qN {n:Nat} (s:SY) (hs:SB n s):ig s=af (s.2.1,s.1,s.2.2.1,s.2.2.2):=by
 refine cE ?_;obtain⟨s1,s2,J,I⟩:=s;have hn:=hs.n1;have Y:=hs.lk;have U:=hs.dn;have M:=hs.th;dsimp only at Y U M;unfold ig aY bi bw bK cY bx bB bD aX cL aE cC;with_reducible repeat' first|(refine OS.ok ?_;constructor)|refine IM.mk λ_=>?_
 all_goals try simp only[au,qU] at*
 .simp;omega
 .omega
 .simp;omega
 .omega
 refine b9 s1.length (λi x=>x=((i:Int),(s1,s2,J,I),0,s2,s1.take i,J,I)) ?_ ?_ ?_
 .rintro i x hi rfl;have hg:=hs.rd _ (bH (T:=An) (xs:=s1) (j:=(i:Int)) (by omega) (by omega));with_reducible repeat' first|(refine OS.ok ?_;constructor)|refine IM.mk λ_=>?_
  all_goals try simp only[au,qU] at*
  all_goals first|omega|skip
  .simp;omega
  .simp;omega
  .rw[gM (by omega),mD (T:=An) hi];rfl
 .rintro x rfl;with_reducible repeat' first|(refine OS.ok ?_;constructor)|refine IM.mk λ_=>?_
  all_goals try simp only[au,qU] at*
  all_goals first|omega|skip
  simp
 .simp
theorem Gy (s:SY) (c:Int) (hs:s.2.2.2.length<=1000):jz ((s.2.1,c),s.1,s.2.2.1,s.2.2.2)=af (wl s.2.2.2 c s.2.2.2.length):=by
 refine cE ?_;unfold jz;refine ax (P:=λy=>y=(wl s.2.2.2 c s.2.2.2.length,s.1,s.2.2.1,s.2.2.2)) ?_ λy I=>by subst I;exact ae2 rfl (ar rfl)
 unfold mc aY bi bw bK cY bd bx bB kz aX cL aE cC;refine b9 s.2.2.2.length (λi x=>x=((i:Int),s.1,s.2.2.1,s.2.2.2,s.2.1,wl s.2.2.2 c i)) ?_ ?_ rfl
 .rintro i x hi rfl;have hl:=vF s.2.2.2 c i;with_reducible repeat' first|(refine OS.ok ?_;constructor)|refine IM.mk λ_=>?_
  all_goals try simp only[au,qU] at*
  all_goals first|omega|skip
  all_goals first|(simp;omega)|skip
  .rename_i h1 h2;rw[alc h1 h2,gM (by omega)]
  .rename_i h1 h2;rw[agm h2,gM (by omega)]
  .rename_i h1;rw[agn h1,gM (by omega)]
 .rintro x rfl;with_reducible repeat' first|(refine OS.ok ?_;constructor)|refine IM.mk λ_=>?_
  all_goals try simp only[au,qU] at*
  all_goals first|omega|rfl
structure AP (n:Nat) (s y:SY):Prop where
 a1:y.1.length=s.1.length
 a2:y.2.2.1.length=s.2.2.1.length
 a3:y.2.2.2.length=s.2.2.2.length
 rd:∀ l∈y.1,l.2.length<=n+1
theorem AP.toSB {n:Nat} {s y:SY} (h:AP n s y) (hs:SB n s) (hn:n+1<=100000):SB (n+1) y:=
 ⟨hn,by rw[h.a1];exact hs.lk,h.rd,by rw[h.a2];exact hs.dn,by rw[h.a3];exact hs.th⟩
theorem AP.same {n:Nat} {s:SY} (hs:SB n s) (x:Int) (d:List Bool) (t:List (Int×Int×Bool)) (hd:d.length=s.2.2.1.length) (ht:t.length=s.2.2.2.length):AP n s (s.1,x,d,t):=
 ⟨rfl,hd,ht,λl hl=>iu (hs.rd l hl)⟩
theorem AP.set {n:Nat} {s:SY} (hs:SB n s) (j a:Int) (r:List Int) (hr:r.length<=n+1) (x:Int) (d:List Bool) (t:List (Int×Int×Bool)) (hd:d.length=s.2.2.1.length) (ht:t.length=s.2.2.2.length):AP n s (cQ s.1 j (a,r),x,d,t):=
 ⟨bT _ _ _,hd,ht,λl hl=>by
   rcases Cu hl with h|rfl
   .exact iu (hs.rd l h)
   .exact hr⟩
def xY (th:List (Int×Int×Bool)) (t st:Int):List (Int×Int×Bool):=cQ th t (st,(aJ (T:=jx) th t).2)
def owP (lk:List (Int×List Int)) (o t:Int):List (Int×List Int):=cQ lk o (t,(aJ (T:=An) lk o).2)
def rdP (lk:List (Int×List Int)) (o:Int) (l:List Int):List (Int×List Int):=cQ lk o ((aJ (T:=An) lk o).1,l)
def cdP (th:List (Int×Int×Bool)) (t c:Int):List (Int×Int×Bool):=cQ th t ((aJ (T:=jx) th t).1,c,(aJ (T:=jx) th t).2.2)
def atP (th:List (Int×Int×Bool)) (t:Int) (b:Bool):List (Int×Int×Bool):=cQ th t ((aJ (T:=jx) th t).1,(aJ (T:=jx) th t).2.1,b)
def CJ (th:List (Int×Int×Bool)) (l:List Int):List (Int×Int×Bool):=l.foldl (λx u=>xY x u 4) th
def Bm (l:List Int) (u:Int):Int:=if l.length=0 then -1 else if l.contains u then u else aJ (T:=.int .i64) l 0
def muP (w:WT) (o:Int):Int:=(aJ (T:=Tq) w.2.2.1 o).2
def qX (w:WT) (s:SY) (t k o u:Int):SY×Int:=
 if k=1 then ((s.1,s.2.1,s.2.2.1,xY s.2.2.2 t 2),0)
 else if k=2 then ((s.1,s.2.1,s.2.2.1,xY s.2.2.2 t 5),0)
 else if k=6\/k=10 then ((owP s.1 o t,s.2),0)
 else if k=7\/k=11 then ((owP s.1 o (-1),s.2),0)
 else if k=8 then ((rdP s.1 o (xg (aJ (T:=An) s.1 o).2 [t]),s.2),0)
 else if k=9 then ((rdP s.1 o (wo (aJ (T:=An) s.1 o).2 t),s.2),0)
 else if k=12 then ((s.1,t,s.2.2),0)
 else if k=13 then ((s.1,-1,s.2.2),0)
 else if k=14 then ((s.1,s.2.1,s.2.2.1,atP s.2.2.2 t ai),0)
 else if k=15 then ((s.1,s.2.1,s.2.2.1,atP s.2.2.2 t aj),0)
 else if k=16 then ((owP s.1 (muP w o) (-1),s.2.1,s.2.2.1,cdP (xY s.2.2.2 t 3) t o),0)
 else if k=17 then ((owP s.1 (muP w o) t,s.2.1,s.2.2.1,cdP (xY s.2.2.2 t 2) t 0),0)
 else if k=18 then (if (wl s.2.2.2 o s.2.2.2.length).length=0 then (s,-1) else ((s.1,s.2.1,s.2.2.1,xY s.2.2.2 (Bm (wl s.2.2.2 o s.2.2.2.length) u) 4),Bm (wl s.2.2.2 o s.2.2.2.length) u))
 else if k=19 then ((s.1,s.2.1,s.2.2.1,CJ s.2.2.2 (wl s.2.2.2 o s.2.2.2.length)),((wl s.2.2.2 o s.2.2.2.length).length:Int))
 else if k=20 then ((s.1,s.2.1,s.2.2.1,xY s.2.2.2 o 1),0)
 else if k=22 then ((s.1,s.2.1,cQ s.2.2.1 o ai,s.2.2.2),0)
 else (s,0)
theorem Hz (l:List Int):∀ th,(CJ th l).length=th.length:=by
 induction l with
 |nil=>intro th;rfl
 |cons x r I=>intro th;unfold CJ;rw[xd];exact (I _).trans (bT ..)
theorem aae {th:List (Int×Int×Bool)} {l:List Int} {i:Nat} (hi:i<l.length):CJ th (l.take (i+1))=xY (CJ th (l.take i)) (aJ (T:=.int .i64) l (i:Int)) 4:=by
 unfold CJ;rw[oM hi,dP,Ow,aA,aB hi];rfl
theorem To {n:Nat} (w:WT) (s:SY) (hs:SB n s) (U:w.2.2.1.length<=1000) (t k o u:Int):Ok (pe (w,s,t,k,o,u)) λy=>(y.2.2=ai->EN w s t k o/\V2 w s t k o/\AP n s y.1/\(y.1,y.2.1)=qX w s t k o u)/\(y.2.2=aj->y.1=([],0,[],[]))/\(j9 (w,s,t,k,o)=af ai->y.2.2=ai):=by
 unfold pe aY bi bw cu bK dx cY fh ck bd bx bD kz aX cL aE cC;obtain⟨b,J,hb⟩:=KQ w s hs U t k o;refine aV J ?_;refine ec (λh=>ar ⟨λh=>(by cases h),λ_=>rfl,λh2=>(by rw[J,h] at h2;cases h2)⟩) (λh=>?_);obtain⟨he,hry⟩:=hb h;refine aV (qN s hs) ?_;suffices hmain:Ok _ _ from aZ (λx=>AP n s (x.2.2.2.1,x.2.1,x.2.2.2.2)/\((x.2.2.2.1,x.2.1,x.2.2.2.2),x.1)=qX w s t k o u) hmain λx M=>ar ⟨λ_=>⟨he,hry,M⟩,λh=>(by cases h),λ_=>rfl⟩
 obtain⟨nm,t0,t1,cd,e1,e2,e3⟩:=id he;obtain⟨_,_,ce,lk,cn,th,fu⟩:=nm;have hn:=hs.n1;have hlk:=hs.lk;have hm:16<=k/\k<=19->0<=(aJ (T:=Tq) w.2.2.1 o).2/\(aJ (T:=Tq) w.2.2.1 o).2<w.2.1.length:=λh=>cd _ (bH (cn h).1 (cn h).2)
 have hr:∀ j:Int,0<=j->j<s.1.length->(aJ (T:=An) s.1 j).2.length<=n:=λj h0 h1=>hs.rd _ (bH (T:=An) h0 h1)
 rcases @IE k with rfl|rfl|rfl|rfl|rfl|rfl|rfl|rfl|rfl|rfl|rfl|rfl|rfl|rfl|rfl|rfl|rfl|rfl|rfl|rfl|rfl|rfl|rfl|⟨hk,Y⟩
 case inr.inr.inr.inr.inr.inr.inr.inr.inr.inr.inr.inr.inr.inr.inr.inr.inr.inr.inr.inr.inr.inr.inr=>omega
 all_goals simp only[aU,bn,sU]
 all_goals with_reducible repeat' first|(refine OS.ok ?_;constructor)|refine IM.mk λ_=>?_
 all_goals try simp only[au,qU] at*
 all_goals try rw[bT]
 all_goals first|omega|exact (hm ⟨by decide,by decide⟩).1|exact e1▸(hm ⟨by decide,by decide⟩).2|exact⟨AP.same hs _ _ _ rfl rfl,rfl⟩|exact⟨AP.same hs _ _ _ rfl (bT _ _ _),rfl⟩|exact⟨AP.same hs _ _ _ (bT _ _ _) rfl,rfl⟩|skip
 all_goals try exact⟨AP.set hs _ _ _ (iu (hr o (by omega) (by omega))) _ _ _ rfl rfl,rfl⟩
 .have:=hr o (by omega) (by omega);refine aV (SS _ _ (dg this (by have:=hs.n1;omega)) (by simp)) ?_;with_reducible repeat' first|(refine OS.ok ?_;constructor)|refine IM.mk λ_=>?_
  all_goals try simp only[au,qU] at*
  all_goals first|omega|skip
  exact⟨AP.set hs _ _ _ (by have:=ZS (aJ (T:=An) s.1 o).2 [t];simp at this;omega) _ _ _ rfl rfl,rfl⟩
 .have:=hr o (by omega) (by omega);have hl:(wo (aJ (T:=An) s.1 o).2 t).length<=(aJ (T:=An) s.1 o).2.length:=Bt ..;refine aV (Tv _ _ (by omega)) ?_;with_reducible repeat' first|(refine OS.ok ?_;constructor)|refine IM.mk λ_=>?_
  all_goals try simp only[au,qU] at*
  all_goals first|omega|skip
  exact⟨AP.set hs _ _ _ (dg hl (by omega)) _ _ _ rfl rfl,rfl⟩
 .exact⟨AP.set hs _ _ _ (iu (hr _ (hm ⟨by decide,by decide⟩).1 (by rw[e1];exact (hm ⟨by decide,by decide⟩).2))) _ _ _ rfl (by rw[bT,bT]),rfl⟩
 .exact⟨AP.set hs _ _ _ (iu (hr _ (hm ⟨by decide,by decide⟩).1 (by rw[e1];exact (hm ⟨by decide,by decide⟩).2))) _ _ _ rfl (by rw[bT,bT]),rfl⟩
 .refine aV (Gy s o hs.th) ?_;have hth:=hs.th;have hll:=vF s.2.2.2 o s.2.2.2.length;have hml:∀ u∈wl s.2.2.2 o s.2.2.2.length,0<=u/\u<s.2.2.2.length:=λu hu=>⟨(q_.1 hu).1,(q_.1 hu).2.1⟩
  have hap:qX w s t 18 o u=if (wl s.2.2.2 o s.2.2.2.length).length=0 then (s,-1) else ((s.1,s.2.1,s.2.2.1,xY s.2.2.2 (Bm (wl s.2.2.2 o s.2.2.2.length) u) 4),Bm (wl s.2.2.2 o s.2.2.2.length) u):=rfl
  unfold Bm at hap;revert hll hml hap;generalize wl s.2.2.2 o s.2.2.2.length=l;intro hll hml hap;with_reducible repeat' first|(refine OS.ok ?_;constructor)|refine IM.mk λ_=>?_
  all_goals try simp only[au,qU] at*
  all_goals first|omega|skip
  .have I:=hml _ (bH (T:=.int .i64) (xs:=l) (j:=0) (by omega) (by omega));rw[ay (by omega),ay (by omega)] at hap;simp only[V7 l u (by omega),WE];refine aP (λhc=>?_) λhc=>?_
   .have hu:=hml u (sR.1 hc);rw[hc,aF rfl] at hap;refine ar (aR hu.1 hu.2 (aR hu.1 hu.2 (ar ⟨AP.same hs _ _ _ rfl (bT ..),?_⟩)));rw[hap];rfl
   .rw[hc,ay (by decide)] at hap;refine ar (aR I.1 I.2 (aR I.1 I.2 (ar ⟨AP.same hs _ _ _ rfl (bT ..),?_⟩)));rw[hap];rfl
  .rw[aF (by omega)] at hap;exact⟨AP.same hs _ _ _ rfl rfl,hap.symm⟩
 .refine aV (Gy s o hs.th) ?_;have hth:=hs.th;have hll:=vF s.2.2.2 o s.2.2.2.length;have hml:∀ u∈wl s.2.2.2 o s.2.2.2.length,0<=u/\u<s.2.2.2.length:=λu hu=>⟨(q_.1 hu).1,(q_.1 hu).2.1⟩
  have hap:qX w s t 19 o u=((s.1,s.2.1,s.2.2.1,CJ s.2.2.2 (wl s.2.2.2 o s.2.2.2.length)),((wl s.2.2.2 o s.2.2.2.length).length:Int)):=rfl;rw[hap];clear hap;generalize wl s.2.2.2 o s.2.2.2.length=l at hll hml ⊢;refine b9 l.length (λi x=>x=((i:Int),s.2.1,0,s.1,s.2.2.1,CJ s.2.2.2 (l.take i))) ?_ ?_ rfl
  .rintro i x hi rfl;have I:=hml _ (bH (T:=.int .i64) (xs:=l) (j:=(i:Int)) (by omega) (by omega));have hq:=Hz (l.take i) s.2.2.2;with_reducible repeat' first|(refine OS.ok ?_;constructor)|refine IM.mk λ_=>?_
   all_goals try simp only[au,qU] at*
   all_goals first|omega|skip
   rw[gM (by omega),aae hi];rfl
  .rintro x rfl;rw[cP];with_reducible repeat' first|(refine OS.ok ?_;constructor)|refine IM.mk λ_=>?_
   all_goals try simp only[au,qU] at*
   all_goals first|omega|skip
   exact AP.same hs _ _ _ rfl (Hz ..)
abbrev SN:Type:=SY×List Int×List Int×List Int
abbrev ET:Type:=Int×Int×Int×Int×Int×List Int×List Int
theorem alr (a b:Int):CK (a,b)=af (decide (0<=a/\a<b)):=aas a b
structure NB (n:Nat) (s:SN):Prop where
 sb:SB n s.1
 c:s.2.1.length<=1000
 f:s.2.2.1.length<=1000
 k:s.2.2.2.length<=1000
structure SP (n:Nat) (s y:SN):Prop where
 ap:AP n s.1 y.1
 c:y.2.1.length=s.2.1.length
 f:y.2.2.1.length=s.2.2.1.length
 k:y.2.2.2.length=s.2.2.2.length
theorem SP.NB {n:Nat} {s y:SN} (h:SP n s y) (hs:NB n s) (hn:n+1<=100000):NB (n+1) y:=
 ⟨h.ap.toSB hs.sb hn,by rw[h.c];exact hs.c,by rw[h.f];exact hs.f,by rw[h.k];exact hs.k⟩
def sn0:SN:=(([],0,[],[]),[],[],[])
structure F16 (w:WT) (s:SN):Prop where
 c:s.2.1.length=w.1.length
 f:s.2.2.1.length=w.2.2.2.1.length
 k:s.2.2.2.length=w.2.2.2.2.1.length
theorem Zp (w:WT) (s:SN) (I:w.2.2.1.length<=1000):Ok (wj (w,s)) λb=>b=ai->F16 w s:=by
 unfold wj aY bi bw dx bd aX aE;refine gy (ax (Py w s.1 (by omega)) λb hb=>?_);with_reducible repeat' first|(refine OS.ok ?_;constructor)|refine IM.mk λ_=>?_
 all_goals try simp only[au,qU] at*
 all_goals first|(intro h;constructor<;>omega)|(intro h;cases h;done)
theorem Xq:∀ (l:List Int),(∀ k:Nat,k+1<l.length->l.getD k 0<l.getD (k+1) 0)->Hl l
 |[],_=>trivial
 |[x],_=>⟨λy M=>(by cases M),trivial⟩
 |x::y::r,h=>by
  have J:=Xq (y::r) λk hk=>by have:=h (k+1) (by simpa using hk);simpa using this
  have h0:=h 0 (by simp);simp at h0;refine ⟨λz I=>?_,J⟩;rcases bm.1 I with rfl|I
  .exact h0
  .have:=J.1 z I;omega
structure AN (c:Int) (l:List Int):Prop where
 a:Hl l
 m:∀ x:Int,x∈l->1<=x/\x<c
theorem Ip (l:List Int) (c:Int) (hl:l.length<=1000000000):Ok (nC (l,c)) λb=>b=ai->AN c l:=by
 unfold nC bx iR bD aX cL aE cC;refine b9 l.length (λi x=>x=(i:Int)/\(∀ k:Nat,k<i->1<=aJ (T:=.int .i64) l (k:Int)/\aJ (T:=.int .i64) l (k:Int)<c)/\∀ k:Nat,k+1<i->l.getD k 0<l.getD (k+1) 0) ?_ ?_ ⟨rfl,λk hk=>by omega,λk hk=>by omega⟩
 .rintro i x hi ⟨rfl,I,J⟩;have M:0<(i:Int)->bk .i64 ((i:Int)-1)=((i-1:Nat):Int):=λh=>by rw[ic (by omega) (by omega)];omega
  have hq:(0<i->l.getD (i-1) 0<l.getD i 0)->1<=aJ (T:=.int .i64) l (i:Int)/\aJ (T:=.int .i64) l (i:Int)<c->bk .i64 ((i:Int)+1)=((i+1:Nat):Int)/\(∀ k:Nat,k<i+1->1<=aJ (T:=.int .i64) l (k:Int)/\aJ (T:=.int .i64) l (k:Int)<c)/\∀ k:Nat,k+1<i+1->l.getD k 0<l.getD (k+1) 0:=λg1 Z=>by
   refine ⟨gM (by omega),λk hk=>?_,λk hk=>?_⟩
   .rcases bZ k i with h1|h1
    .exact I k h1
    .rw[show k=i by omega];exact Z
   .rcases bZ (k+1) i with h1|h1
    .exact J k h1
    .have:=g1 (by omega);rw[show k=i-1 by omega,show i-1+1=i by omega];exact this
  with_reducible repeat' first|(refine OS.ok ?_;constructor)|refine IM.mk λ_=>?_
  all_goals try simp only[au,qU] at*
  all_goals first|omega|(intro h;cases h;done)|(rw [M (by omega)];omega)|skip
  .rename_i h1 h2 Y U;rw[M Y,Ow,Ow] at U;exact hq (λ_=>U) ⟨by omega,by omega⟩
  .exact hq (λh=>by omega) ⟨by omega,by omega⟩
 .rintro x ⟨rfl,I,J⟩;with_reducible repeat' first|(refine OS.ok ?_;constructor)|refine IM.mk λ_=>?_
  all_goals try simp only[au,qU] at*
  all_goals first|omega|skip
  exact⟨Xq l λk hk=>J k hk,im (T:=.int .i64) I⟩
structure VA (w:WT) (sy:SY) (ce fu:List Int) (t k o v:Int):Prop where
 ld:k=3->v=aJ (T:=.int .i64) ce o
 gt:k=23->v=aJ (T:=.int .i64) fu o
 br:k=5->v=0\/v=1
 el:¬k=3->¬k=23->¬k=5->¬k=4->¬k=22->v=(qX w sy t k o v).2
theorem ite2 {c:Prop} [Decidable c] {a b:SY×Int} (I:a.2=0) (hb:b.2=0):(if c then a else b).2=0:=by by_cases h:c<;>simp[h,I,hb]
theorem ahd (w:WT) (sy:SY) (t k o u:Int) (h1:¬k=18) (h2:¬k=19):(qX w sy t k o u).2=0:=by
 unfold qX;rw[ay h1,ay h2];repeat (first|exact rfl|refine ite2 rfl ?_)
theorem Xu (w:WT) (sy:SY) (t k o u I:Int) (h1:¬k=18):qX w sy t k o u=qX w sy t k o I:=by
 unfold qX;rw[ay h1,ay h1]
theorem Fi (w:WT) (sy:SY) (t o u:Int):qX w sy t 18 o u=if (wl sy.2.2.2 o sy.2.2.2.length).length=0 then (sy,-1) else ((sy.1,sy.2.1,sy.2.2.1,xY sy.2.2.2 (Bm (wl sy.2.2.2 o sy.2.2.2.length) u) 4),Bm (wl sy.2.2.2 o sy.2.2.2.length) u):=rfl
theorem aj1 (w:WT) (sy:SY) (t o u:Int):(qX w sy t 19 o u).2=((wl sy.2.2.2 o sy.2.2.2.length).length:Int):=rfl
theorem ZR {n:Nat} (w:WT) (s:SN) (hs:NB n s) (hf:F16 w s) (e:ET) (he:EN w s.1 e.1 e.2.1 e.2.2.1):Ok (ue (s,e)) λb=>b=ai->VA w s.1 s.2.1 s.2.2.1 e.1 e.2.1 e.2.2.1 e.2.2.2.1:=by
 obtain⟨t,k,o,v,si,de,fr⟩:=e;obtain⟨s1,s2,s3,s4⟩:=s;obtain⟨nm,t0,t1,cd,e1,e2,e3⟩:=he;obtain⟨_,_,ce,lk,cn,th,fu,_,_,_⟩:=nm;obtain⟨f1,f2,f3⟩:=hf;have hth:=hs.sb.th;dsimp only at*
 unfold ue aY bi bw cu bK bd bx iR bD aX aE;have hW:=VU s1 o hth;have hWl:=vF s1.2.2.2 o s1.2.2.2.length;refine aK (λh=>?_) λn3=>?_
 .have h:k=3:=h;obtain⟨Z,Y⟩:=ce (.inl h);exact aR Z (by rw[f1];exact Y) (aS (ar λh2=>⟨λ_=>bt h2,λI=>by omega,λI=>by omega,λI=>(I h).elim⟩))
 refine aK (λh=>?_) λJ=>?_
 .have h:k=23:=h;obtain⟨Z,Y⟩:=fu (.inr h);exact aR Z (by rw[f2];exact Y) (aS (ar λh2=>⟨λI=>by omega,λ_=>bt h2,λI=>by omega,λ_ I=>(I h).elim⟩))
 refine aK (λh=>?_) λn5=>?_
 .have h:k=5:=h;exact gy (aK (λh2=>ar (ar λ_=>⟨λI=>by omega,λI=>by omega,λ_=>.inl h2,λ_ _ I=>(I h).elim⟩)) λ_=>ar (ar λh2=>⟨λI=>by omega,λI=>by omega,λ_=>.inr (bt h2),λ_ _ I=>(I h).elim⟩))
 refine aZ (λx=>x.2=((s1,s2,s3,s4),t,k,o,v,si,de,fr)/\(x.1=ai->k=4\/k=22)) (aK (λh=>ar ⟨rfl,λ_=>.inl h⟩) λ_=>ar ⟨rfl,λh=>.inr (bt h)⟩) ?_;rintro⟨b,x⟩ ⟨e,hb⟩;dsimp only at e hb;subst e;refine aP (λh=>ar λ_=>⟨λI=>(n3 I).elim,λI=>(J I).elim,λI=>(n5 I).elim,λ_ _ _ h4 h5=>(hb h).elim (λh=>(h4 h).elim) λh=>(h5 h).elim⟩) λ_=>?_
 have fin:v=(qX w s1 t k o v).2->VA w s1 s2 s3 t k o v:=λh=>⟨λI=>(n3 I).elim,λI=>(J I).elim,λI=>(n5 I).elim,λ_ _ _ _ _=>h⟩
 refine aK (λh=>?_) λU=>?_
 .have h:k=18:=h;subst h;rw[Fi] at fin;refine aV hW ?_;revert fin hWl;generalize wl s1.2.2.2 o s1.2.2.2.length=l;intro hWl fin;refine aK (λh=>ar λh2=>fin ?_) λh=>?_
  .dsimp only[au] at h;rw[aF (by omega)];exact bt h2
  .dsimp only[au] at h;have hne:¬l.length=0:=by omega
   refine gy (eY (λ_=>bF (λ_=>?_) λ_=>ar (ar λh=>(by cases h))) λ_=>ar (ar λh=>(by cases h)));refine aV (V7 _ _ (by omega)) (ar (ar λh2=>fin ?_));rw[ay hne];unfold Bm;rw[ay hne,aF h2]
 refine aK (λh=>?_) λM=>?_
 .have h:k=19:=h;subst h;exact aV hW (ar λh2=>fin (bt h2))
 exact ar λh2=>fin (by rw[ahd _ _ _ _ _ _ U M];exact bt h2)
structure S16 (w:WT) (s:SN) (e:ET):Prop where
 rd:V2 w s.1 e.1 e.2.1 e.2.2.1
 s1:e.2.1=1\/e.2.1=2->e.2.2.2.2.1= -1
 s2:¬(e.2.1=1\/e.2.1=2)->0<=e.2.2.2.2.1/\e.2.2.2.2.1<w.2.2.2.2.2.length/\(aJ (T:=xX) w.2.2.2.2.2 e.2.2.2.2.1).1=e.1
 de:0<e.2.2.2.2.2.1.length->e.2.1=5\/(e.2.1=3\/e.2.1=4)/\¬(aJ (T:=PP) w.1 e.2.2.1).2.2.1=0
 fr:0<e.2.2.2.2.2.2.length->e.2.1=4\/e.2.1=22
 nd:AN (aJ (T:=.int .i64) s.2.2.2 e.1) e.2.2.2.2.2.1
 nf:AN (aJ (T:=.int .i64) s.2.2.2 e.1) e.2.2.2.2.2.2
 va:VA w s.1 s.2.1 s.2.2.1 e.1 e.2.1 e.2.2.1 e.2.2.2.1
def YT (ce:List Int) (e:ET):List Int:=if e.2.1=4 then cQ ce e.2.2.1 e.2.2.2.1 else ce
def ZI (fu:List Int) (e:ET):List Int:=if e.2.1=22 then cQ fu e.2.2.1 e.2.2.2.1 else fu
def nxP (w:WT) (s:SN) (e:ET):SN:=((qX w s.1 e.1 e.2.1 e.2.2.1 e.2.2.2.1).1,YT s.2.1 e,ZI s.2.2.1 e,cQ s.2.2.2 e.1 (bk .i64 (aJ (T:=.int .i64) s.2.2.2 e.1+1)))
theorem Fl {n:Nat} (w:WT) (s:SN) (hs:NB n s) (hw:w.2.2.1.length<=1000) (e:ET) (hd:e.2.2.2.2.2.1.length<=1000000000) (hf:e.2.2.2.2.2.2.length<=1000000000):Ok (ri (w,s,e)) λy=>(y.2=ai->EN w s.1 e.1 e.2.1 e.2.2.1/\SP n s y.1/\S16 w s e/\y.1=nxP w s e)/\(y.2=aj->y.1=sn0):=by
 have Z:∀ {Q:SN×Bool->Prop},Q (sn0,aj)->Ok (af (sn0,aj)) Q:=λh=>ar h
 have z0:((sn0,aj).2=ai->EN w s.1 e.1 e.2.1 e.2.2.1/\SP n s (sn0,aj).1/\S16 w s e/\(sn0,aj).1=nxP w s e)/\((sn0,aj).2=aj->(sn0,aj).1=sn0):=⟨λh=>(by cases h),λ_=>rfl⟩
 unfold ri aY bi bw cu dU bK dx cY fh kB ck bd bx jd bB bD kz aX cL aE cC;refine aZ (λx=>x.2=(w,s,e,0)/\(x.1=aj->F16 w s/\(EN w s.1 e.1 e.2.1 e.2.2.1/\V2 w s.1 e.1 e.2.1 e.2.2.1)/\j9 (w,s.1,e.1,e.2.1,e.2.2.1)=af ai)) ?_ ?_
 .refine ax (Zp w s hw) λb hb=>?_
  with_reducible repeat' first|(refine OS.ok ?_;constructor)|refine IM.mk λ_=>?_
  .exact⟨rfl,λh=>(by cases h)⟩
  simp only[alr,WE];with_reducible repeat' first|(refine OS.ok ?_;constructor)|refine IM.mk λ_=>?_
  .exact⟨rfl,λh=>(by cases h)⟩
  .exact⟨rfl,λh=>(by cases h)⟩
  .exact⟨rfl,λh=>(by cases h)⟩
  obtain⟨c,hc0,hc⟩:=KQ w s.1 hs.sb hw e.1 e.2.1 e.2.2.1;refine aV hc0 (ar ⟨rfl,λh=>?_⟩);have h:c=ai:=by simpa using h
  exact⟨hb (by assumption),hc h,h▸hc0⟩
 rintro⟨J,M⟩ ⟨I,hx⟩;dsimp only at I hx;subst I;refine aP (λ_=>Z z0) λh1=>?_
 obtain⟨hF,⟨hE,hR⟩,hEn⟩:=hx h1;clear hx h1;refine aZ (λx=>x=(w,s,e,0)/\(e.2.1=1\/e.2.1=2->e.2.2.2.2.1= -1)/\(¬(e.2.1=1\/e.2.1=2)->0<=e.2.2.2.2.1/\e.2.2.2.2.1<w.2.2.2.2.2.length/\(aJ (T:=xX) w.2.2.2.2.2 e.2.2.2.2.1).1=e.1)) ?_ ?_
 .refine aZ (λx=>x.2=(w,s,e,0)/\(x.1=ai->e.2.1=1\/e.2.1=2)/\(x.1=aj->¬(e.2.1=1\/e.2.1=2))) ?_ ?_
  .refine aK (λh=>ar ⟨rfl,λ_=>.inl h,λh=>(by cases h)⟩) λh=>ar ⟨rfl,λh2=>.inr (bt h2),λh2=>?_⟩
   have:=Tt h2;exact λY=>Y.elim h this
  rintro⟨J,M⟩ ⟨I,hy1,hy2⟩;dsimp only at I hy1 hy2;subst I;refine aP (λhk=>?_) λhk=>?_
  .exact b_ (λ_=>ar z0) λh=>ar ⟨rfl,λ_=>h,λY=>(Y (hy1 hk)).elim⟩
  .refine aZ (λx=>x.2=(w,s,e,0)/\(x.1=aj->0<=e.2.2.2.2.1/\e.2.2.2.2.1<w.2.2.2.2.2.length/\(aJ (T:=xX) w.2.2.2.2.2 e.2.2.2.2.1).1=e.1)) ?_ ?_
   .simp only[alr,WE];refine b_ (λ_=>ar ⟨rfl,λh=>(by cases h)⟩) λh=>aR h.1 h.2 (aS (ar ⟨rfl,λh2=>⟨h.1,h.2,?_⟩⟩))
    simpa using h2
   rintro⟨J,M⟩ ⟨I,Z⟩;dsimp only at I Z;subst I;exact aP (λ_=>ar z0) λh=>ar ⟨rfl,λY=>((hy2 hk) Y).elim,λ_=>Z h⟩
 rintro x ⟨rfl,hS1,hS2⟩;obtain⟨nm,t0,t1,cd,e1,e2,e3⟩:=id hE;obtain⟨_,_,ce,lk,cn,th,fu,_,_,_⟩:=nm;obtain⟨f1,f2,f3⟩:=id hF;refine aZ (λx=>x.2=(w,s,e,0)/\(x.1=ai->e.2.1=3\/e.2.1=4)) ?_ ?_
 .with_reducible repeat' first|(refine OS.ok ?_;constructor)|refine IM.mk λ_=>?_
  .exact⟨rfl,λ_=>.inl (by assumption)⟩
  .exact⟨rfl,λh=>.inr (bt h)⟩
 rintro⟨J,M⟩ ⟨I,U⟩;dsimp only at I U;subst I;refine aZ (λx=>x.2=(w,s,e,0)/\(x.1=aj->0<e.2.2.2.2.2.1.length->e.2.1=5\/(e.2.1=3\/e.2.1=4)/\¬(aJ (T:=PP) w.1 e.2.2.1).2.2.1=0)) ?_ ?_
 .refine bF (λ_=>b_ (λ_=>aP (λh=>?_) λ_=>ar ⟨rfl,λh=>(by cases h)⟩) λh5=>ar ⟨rfl,λ_ _=>.inl h5⟩) λh=>ar ⟨rfl,λ_ h2=>?_⟩
  .refine aR (ce (U h)).1 (ce (U h)).2 (aS (ar ⟨rfl,λh2 _=>.inr ⟨U h,?_⟩⟩));simpa using h2
  .dsimp only[au] at h;omega
 rintro⟨J,M⟩ ⟨I,hDe⟩;dsimp only at I hDe;subst I;refine aP (λ_=>Z z0) λhde=>?_
 refine aZ (λx=>x.2=(w,s,e,0)/\(x.1=aj->0<e.2.2.2.2.2.2.length->e.2.1=4\/e.2.1=22)) ?_ ?_
 .refine bF (λ_=>b_ (λ_=>ar ⟨rfl,λh _=>.inr (by simpa using h)⟩) λh4=>ar ⟨rfl,λ_ _=>.inl h4⟩) λh=>ar ⟨rfl,λ_ h2=>?_⟩
  dsimp only[au] at h;omega
 rintro⟨J,M⟩ ⟨I,hFr⟩;dsimp only at I hFr;subst I;refine aP (λ_=>Z z0) λhfr=>?_
 have hk:=hs.k;have hc:=hs.c;have hfu:=hs.f;refine aZ (λx=>x.2=(w,s,e,0)/\(x.1=aj->AN (aJ (T:=.int .i64) s.2.2.2 e.1) e.2.2.2.2.2.1/\AN (aJ (T:=.int .i64) s.2.2.2 e.1) e.2.2.2.2.2.2/\VA w s.1 s.2.1 s.2.2.1 e.1 e.2.1 e.2.2.1 e.2.2.2.1)) ?_ ?_
 .have hv:=ZR w s hs hF e hE;refine aR t0 (by rw[f3];exact t1) (aS (ax (Ip _ _ hd) λb hb=>?_));refine ec (λ_=>ar ⟨rfl,λh=>(by cases h)⟩) λb1=>?_
  refine aR t0 (by rw[f3];exact t1) (aS (ax (Ip _ _ hf) λb hb2=>?_));refine ec (λ_=>ar ⟨rfl,λh=>(by cases h)⟩) λb2=>?_
  exact ax hv λb hb3=>ar ⟨rfl,λh=>⟨hb b1,hb2 b2,hb3 (by simpa using h)⟩⟩
 rintro⟨J,M⟩ ⟨I,hNum⟩;dsimp only at I hNum;subst I;refine aP (λ_=>Z z0) λhnu=>?_
 obtain⟨hN1,hN2,hVA⟩:=hNum hnu;have hS:S16 w s e:=⟨hR,hS1,hS2,hDe hde,hFr hfr,hN1,hN2,hVA⟩
 refine bg (by simp;omega) (by omega) (bg (by simp;omega) (by omega) (bg (by simp;omega) (by omega) ?_));refine aZ (λx=>x.2=(w,s,e,0,0,s.2.1,s.2.2.1,s.2.2.2)/\qX w s.1 e.1 e.2.1 e.2.2.1 x.1=qX w s.1 e.1 e.2.1 e.2.2.1 e.2.2.2.1) ?_ ?_
 .exact aK (λ_=>ar ⟨rfl,rfl⟩) λh=>ar ⟨rfl,Xu _ _ _ _ _ _ _ h⟩
 rintro⟨J,M⟩ ⟨I,hxu⟩;dsimp only at I hxu;subst I;refine ax (To w s.1 hs.sb hw e.1 e.2.1 e.2.2.1 J) λy hy=>?_
 obtain⟨_,_,hap,hyq⟩:=hy.1 (hy.2.2 hEn);rw[hxu] at hyq;refine aZ (λx=>x.1=e/\x.2.2.1=y.1/\x.2.2.2.1=YT s.2.1 e/\x.2.2.2.2=(s.2.2.1,s.2.2.2)) ?_ ?_
 .unfold YT;refine aK (λh=>?_) λh=>ar ⟨rfl,rfl,(ay h).symm,rfl⟩
  have hc4:=ce (.inr h);with_reducible repeat' first|(refine OS.ok ?_;constructor)|refine IM.mk λ_=>?_
  all_goals try simp only[au,qU] at*
  all_goals first|omega|exact (aF h).symm
 rintro⟨J,M,x3,x4,x5,x6⟩ ⟨h1,h2,Y,h4⟩;simp only[aD] at h1 h2 Y h4;obtain⟨rfl,rfl⟩:=h4;subst h1;subst h2;subst Y;refine aZ (λx=>x.1=J/\x.2.2.1=y.1/\x.2.2.2.1=YT s.2.1 J/\x.2.2.2.2.1=ZI s.2.2.1 J/\x.2.2.2.2.2=s.2.2.2) ?_ ?_
 .unfold ZI;refine aK (λh=>?_) λh=>ar ⟨rfl,rfl,rfl,(ay h).symm,rfl⟩
  have hc4:=fu (.inl h);with_reducible repeat' first|(refine OS.ok ?_;constructor)|refine IM.mk λ_=>?_
  all_goals try simp only[au,qU] at*
  all_goals first|omega|exact (aF h).symm
 rintro⟨J,M,x3,x4,x5,x6⟩ ⟨h1,h2,h4,h5,h6⟩;simp only at h1 h2 h4 h5 h6;subst h1;subst h2;subst h4;subst h5;subst h6;have l1:(YT s.2.1 J).length=s.2.1.length:=by unfold YT;split<;>simp[bT]
 have l2:(ZI s.2.2.1 J).length=s.2.2.1.length:=by unfold ZI;split<;>simp[bT]
 with_reducible repeat' first|(refine OS.ok ?_;constructor)|refine IM.mk λ_=>?_
 all_goals try simp only[au,qU] at*
 all_goals first|omega|skip
 exact⟨⟨hE,⟨hap,l1,l2,by rw[bT]⟩,hS,by unfold nxP;rw[<- hyq]⟩,λh=>(by cases h)⟩
theorem S6:Ok (ko ()) λl=>l.length=22:=by
 unfold ko;with_reducible repeat' first|(refine OS.ok ?_;constructor)|refine IM.mk λ_=>?_
 all_goals rfl
theorem Px (s:List UInt8):Ok (jC s) λ_=>True:=by
 unfold jC bx bD aX cL aE cC;refine ax S6 λl hl=>?_
 refine b9 l.length (λi x=>x=(i:Int)) ?_ ?_ rfl
 .rintro i x hi rfl;with_reducible repeat' first|(refine OS.ok ?_;constructor)|refine IM.mk λ_=>?_
  all_goals try simp only[au,qU] at*
  all_goals first|omega|exact gM (by omega)
 .rintro x rfl;with_reducible repeat' first|(refine OS.ok ?_;constructor)|refine IM.mk λ_=>?_
  all_goals try simp only[au,qU] at*
  all_goals omega
theorem Nm (c:Int):Ok (ll c) λ_=>True:=by
 unfold ll iR aE;with_reducible repeat' first|(refine OS.ok ?_;constructor)|refine IM.mk λ_=>?_
 all_goals exact trivial
theorem aaq (c:Int):Ok (pi c) λ_=>True:=by
 unfold pi ru iR aE;refine gy (ax (Nm c) λ_ _=>?_);with_reducible repeat' first|(refine OS.ok ?_;constructor)|refine IM.mk λ_=>?_
 all_goals try exact trivial
 refine ax (P:=λ_=>True) ?_ λ_ _=>?_
 .with_reducible repeat' first|(refine OS.ok ?_;constructor)|refine IM.mk λ_=>?_
  all_goals exact trivial
 .with_reducible repeat' first|(refine OS.ok ?_;constructor)|refine IM.mk λ_=>?_
  all_goals exact trivial
theorem ip (s:List UInt8):Ok (fd s) λ_=>True:=by
 unfold fd bx uO aX cL aE cC;refine aZ (λb=>b=aj->s.length<=12) ?_ ?_
 .with_reducible repeat' first|(refine OS.ok ?_;constructor)|refine IM.mk λ_=>?_
  .exact λh=>(by cases h)
  .exact λh=>(by cases h)
  .omega
  .simp only[au] at *;omega
  refine ax (Nm _) λ_ _=>?_
  with_reducible repeat' first|(refine OS.ok ?_;constructor)|refine IM.mk λ_=>?_
  .exact λh=>(by cases h)
  refine ax (Px _) λ_ _=>ar λ_=>?_
  simp only[au] at *;omega
 .rintro b hb;refine aP (λ_=>ar trivial) λh=>?_
  have hb:=hb h;refine b9 s.length (λi x=>x=(i:Int)) ?_ ?_ rfl
  .rintro i x hi rfl;with_reducible repeat' first|(refine OS.ok ?_;constructor)|refine IM.mk λ_=>?_
   all_goals try simp only[au,qU] at*
   all_goals first|omega|skip
   refine ax (aaq _) λ_ _=>?_
   with_reducible repeat' first|(refine OS.ok ?_;constructor)|refine IM.mk λ_=>?_
   .exact trivial
   .exact gM (by omega)
  .rintro x rfl;with_reducible repeat' first|(refine OS.ok ?_;constructor)|refine IM.mk λ_=>?_
   all_goals try simp only[au,qU] at*
   all_goals first|omega|exact trivial
theorem yC (l:List (List UInt8)) (s:List UInt8) (hl:l.length<=1000000000):Ok (iU (l,s)) λr=> -1<=r/\r<l.length/\(0<=r->aJ (T:=.str) l r=s)/\(r<0->s∉l):=by
 unfold iU bx bD aX cL aE cC;refine b9 l.length (λi x=>x=(i:Int)/\∀ k:Nat,k<i->aJ (T:=.str) l (k:Int)≠s) ?_ ?_ ⟨rfl,λk hk=>by omega⟩
 .rintro i x hi ⟨rfl,I⟩;with_reducible repeat' first|(refine OS.ok ?_;constructor)|refine IM.mk λ_=>?_
  all_goals try simp only[au,qU] at*
  all_goals first|omega|skip
  .exact⟨by omega,by omega,λ_=>by assumption,λh=>by omega⟩
  .refine ⟨gM (by omega),λk hk=>?_⟩;rcases bZ k i with h1|h1
   .exact I k h1
   .rw[show k=i by omega];assumption
 .rintro x ⟨rfl,I⟩;with_reducible repeat' first|(refine OS.ok ?_;constructor)|refine IM.mk λ_=>?_
  all_goals try simp only[au,qU] at*
  all_goals first|omega|skip
  exact⟨by omega,by omega,λh=>by omega,λ_ h=>im (T:=.str) (p:=λc=>c≠s) I s h rfl⟩
structure VL (w:WT):Prop where
 c:w.1.length<=12
 l:w.2.1.length<=4
 d:w.2.2.1.length<=2
 f:w.2.2.2.1.length<=2
 t0:1<=w.2.2.2.2.1.length
 t:w.2.2.2.2.1.length<=4
 s:w.2.2.2.2.2.length<=60
theorem aab (w:WT) (h:VL w):Ok (pf w) λy=>y.1.length<=100:=by
 obtain⟨I,U,M,w4,Z,Y⟩:=w;obtain⟨h1,h2,h3,h4,_,h5,h6⟩:=h;dsimp only at*
 unfold pf aY bi bw cu dx kB bd bx jd bB bD aX cL aE cC;refine pZ (λx=>((I.length:Int)-x.1).toNat) (λx=>x.2.1=(I,U,M,w4,Z,Y)/\0<=x.1/\x.1<=(I.length:Int)/\(x.2.2.length:Int)<=x.1) ?_ ⟨rfl,by simp,by simp,by simp⟩;rintro⟨x1,x2,x3⟩ ⟨e,g1,g2,g3⟩;dsimp only at e g1 g2 g3;subst e;refine bF (λg4=>?_) λg4=>?_
 .dsimp only[au] at g4;refine aZ (λx=>x.2.1=(I,U,M,w4,Z,Y)/\x1<x.1/\x.1<=(I.length:Int)/\(x.2.2.length:Int)<=x.1) ?_ ?_
  .refine ch (aS (bg (by simp;omega) (by omega) ?_));refine aK (λ_=>?_) λ_=>?_
   .with_reducible repeat' first|(refine OS.ok ?_;constructor)|refine IM.mk λ_=>?_
    .exact kY _
    .rw[ic (by omega) (by omega)];exact⟨rfl,by dsimp only;omega,by dsimp only;omega,by simp;omega⟩
   .generalize hz:aJ _ x1=z;obtain⟨z1,(z2:Int),(J:Int),z4,z5⟩:=z;dsimp only;refine aZ (λx=>x.2=((I,U,M,w4,Z,Y),x3++[z1],z1,z2,J,z4,z5)/\(x.1=aj->1<=J/\J<=4/\x1+J<=I.length)) ?_ ?_
    .with_reducible repeat' first|(refine OS.ok ?_;constructor)|refine IM.mk λ_=>?_
     .exact⟨rfl,λh=>(by cases h)⟩
     .exact⟨rfl,λh=>(by cases h)⟩
     .refine ⟨rfl,λh=>?_⟩;dsimp only[au] at*
      rw[ic (by omega) (by omega),gg] at h;omega
    .rintro⟨b,y⟩ ⟨e,hb⟩;dsimp only at e hb;subst e;refine aP (λ_=>ar (kY _)) λh=>?_
     obtain⟨q1,q2,q3⟩:=hb h;refine pZ (λx=>(J-x.1).toNat) (λx=>x.2=((I,U,M,w4,Z,Y),x3++[z1],z1,z2,J,z4,z5)/\0<=x.1/\x.1<=J) ?_ ⟨rfl,by simp,by dsimp only;omega⟩;rintro⟨k,y⟩ ⟨e,k0,k1⟩;dsimp only at e k0 k1;subst e;refine bF (λk2=>?_) λk2=>?_
     .dsimp only at k2;have e1:bk .i64 (x1+k)=x1+k:=ic (by omega) (by omega);refine aR (by dsimp only;rw[e1];omega) (by dsimp only;rw[e1];omega) (aS ?_);refine aZ (λx=>x.2=((I,U,M,w4,Z,Y),x3++[z1],z1,z2,J,z4,z5)) ?_ ?_
      .with_reducible repeat' first|(refine OS.ok ?_;constructor)|refine IM.mk λ_=>?_
       all_goals rfl
      .rintro⟨b,y⟩ e;dsimp only at e;subst e;refine aP (λ_=>ar (kY _)) λ_=>ar ?_
       dsimp only;rw[ic (by omega) (by omega)];exact⟨⟨rfl,by omega,by omega⟩,by omega⟩
     .dsimp only at k2;refine ar ?_;dsimp only;rw[ic (by omega) (by omega)];exact⟨rfl,by omega,by omega,by simp;omega⟩
  .rintro⟨y1,y2,y3⟩ ⟨e,g5,g6,g7⟩;dsimp only at e g5 g6 g7;subst e;refine ar ⟨⟨rfl,by dsimp only;omega,g6,g7⟩,?_⟩;dsimp only;omega
 .dsimp only[au] at g4;refine ax (P:=λy=>y.1.length<=100) ?_ λy hy=>ar hy
  refine b9 U.length (λi x=>x.1=(i:Int)/\x.2.1=(I,U,M,w4,Z,Y)/\x.2.2.length<=12+i) ?_ ?_ ⟨rfl,rfl,by dsimp only;omega⟩
  .rintro i ⟨a,b,c⟩ hi ⟨e1,e2,e3⟩;dsimp only at e1 e2 e3;subst e1;subst e2;with_reducible repeat' first|(refine OS.ok ?_;constructor)|refine IM.mk λ_=>?_
   all_goals try simp only[au,qU] at*
   all_goals first|omega|(simp;omega)|skip
   exact⟨gM (by omega),by simp;omega⟩
  .rintro⟨a,b,c⟩ ⟨e1,e2,e3⟩;dsimp only at e1 e2 e3;subst e1;subst e2;refine bF (λg4=>(by dsimp only[au] at g4;omega)) λ_=>?_
   refine ax (P:=λy=>y.1.length<=100) ?_ λy hy=>ar hy
   refine b9 M.length (λi x=>x.1=(i:Int)/\x.2.1=(I,U,M,w4,Z,Y)/\x.2.2.length<=16+i) ?_ ?_ ⟨rfl,rfl,by dsimp only;omega⟩
   .rintro i ⟨a,b,c⟩ hi ⟨e1,e2,e3⟩;dsimp only at e1 e2 e3;subst e1;subst e2;with_reducible repeat' first|(refine OS.ok ?_;constructor)|refine IM.mk λ_=>?_
    all_goals try simp only[au,qU] at*
    all_goals first|omega|(simp;omega)|skip
    exact⟨gM (by omega),by simp;omega⟩
   .rintro⟨a,b,c⟩ ⟨e1,e2,e3⟩;dsimp only at e1 e2 e3;subst e1;subst e2;refine bF (λg4=>(by dsimp only[au] at g4;omega)) λ_=>?_
    refine ax (P:=λy=>y.1.length<=100) ?_ λy hy=>ar hy
    with_reducible repeat' first|(refine OS.ok ?_;constructor)|refine IM.mk λ_=>?_
    all_goals try simp only[au,qU] at*
    all_goals first|omega|(simp;omega)
def Tr (T:Int) (o:Option (Int×Int)) (s:Int×Int×Int):Option (Int×Int):=
 match o with
 |none=>ah
 |some (t,n)=>if s.1=t/\s.2.1=n then af (t,n+1) else if t<s.1/\s.1<T/\s.2.1=0 then af (s.1,1) else ah
def K0 (T:Int) (l:List (Int×Int×Int)):Option (Int×Int):=l.foldl (Tr T) (af (0,0))
def SV0 (w:WT):Prop:=K0 w.2.2.2.2.1.length w.2.2.2.2.2≠ah
theorem H8 {T:Int} {l:List (Int×Int×Int)} {i:Nat} (hi:i<l.length):K0 T (l.take (i+1))=Tr T (K0 T (l.take i)) (aJ (T:=xX) l (i:Int)):=by
 rw[mD (T:=xX) hi];unfold K0;rw[dP];rfl
theorem Bn (w:WT):Ok (g_ w) λb=>b=ai->VL w/\SV0 w:=by
 unfold g_ aY bi bw cu cY fh bd bx iR jd bB bD aX cL aE cC;refine aZ (λx=>x.2=w/\(x.1=aj->VL w)) ?_ ?_
 .with_reducible repeat' first|(refine OS.ok ?_;constructor)|refine IM.mk λ_=>?_
  all_goals first|exact⟨rfl,λh=>(by cases h)⟩|skip
  dsimp only[au] at*
  refine ⟨rfl,λh=>?_⟩;rw[gg] at h;constructor<;>omega
 rintro⟨b,x⟩ ⟨e,hb⟩;dsimp only at e hb;subst e;refine aP (λ_=>ar λh=>(by cases h)) λh=>?_
 have hv:=hb h;refine ax (aab _ hv) λy hy=>?_
 refine ec (λ_=>ar λh=>(by cases h)) λ_=>?_
 obtain⟨w1,w2,U,Z,J,I⟩:=x;have h6:=hv.s;have h3:=hv.d;dsimp only at h6 h3;refine b9 y.1.length (λi x=>x.1=(i:Int)/\x.2=(w1,w2,U,Z,J,I)) ?_ ?_ ⟨rfl,rfl⟩
 .rintro i ⟨a,b⟩ hi ⟨e1,e2⟩;dsimp only at e1 e2;subst e1;subst e2;refine bF (λY=>?_) λY=>(by dsimp only[au] at Y;omega)
  refine aZ (λx=>x.2=(w1,w2,U,Z,J,I)) ?_ ?_
  .refine ch (aS (ax (ip _) λ_ _=>?_));refine ec (λ_=>ar rfl) λ_=>?_
   with_reducible repeat' first|(refine OS.ok ?_;constructor)|refine IM.mk λ_=>?_
   all_goals try simp only[au,qU] at*
   all_goals first|omega|skip
   refine ax (yC _ _ (by simp;omega)) λ_ _=>ar rfl
  .rintro⟨a,b⟩ e;dsimp only at e;subst e;with_reducible repeat' first|(refine OS.ok ?_;constructor)|refine IM.mk λ_=>?_
   .exact λh=>(by cases h)
   .dsimp only;exact⟨gM (by omega),rfl⟩
 rintro⟨a,b⟩ ⟨e1,e2⟩;dsimp only at e1 e2;subst e1;subst e2;refine bF (λY=>(by dsimp only[au] at Y;omega)) λ_=>?_
 refine ax (P:=λb=>b=ai->VL (w1,w2,U,Z,J,I)/\SV0 (w1,w2,U,Z,J,I)) ?_ λy hy=>ar hy
 refine b9 U.length (λi x=>x.1=(i:Int)/\x.2=(w1,w2,U,Z,J,I)) ?_ ?_ ⟨rfl,rfl⟩
 .rintro i ⟨a,b⟩ hi ⟨e1,e2⟩;dsimp only at e1 e2;subst e1;subst e2;refine bF (λY=>?_) λY=>(by dsimp only[au] at Y;omega)
  refine ch (aS ?_);refine aZ (λx=>x.2=(w1,w2,U,Z,J,I)) ?_ ?_
  .with_reducible repeat' first|(refine OS.ok ?_;constructor)|refine IM.mk λ_=>?_
   all_goals try simp only[au,qU] at*
   all_goals first|omega|rfl
  .rintro⟨a,b⟩ e;dsimp only at e;subst e;with_reducible repeat' first|(refine OS.ok ?_;constructor)|refine IM.mk λ_=>?_
   .exact λh=>(by cases h)
   .dsimp only;exact⟨gM (by omega),rfl⟩
 rintro⟨a,b⟩ ⟨e1,e2⟩;dsimp only at e1 e2;subst e1;subst e2;refine bF (λY=>(by dsimp only[au] at Y;omega)) λ_=>?_
 refine ax (P:=λb=>b=ai->VL (w1,w2,U,Z,J,I)/\SV0 (w1,w2,U,Z,J,I)) ?_ λy hy=>ar hy
 refine b9 I.length (λi x=>x.1=(i:Int)/\x.2=(w1,w2,U,Z,J,I)/\K0 J.length (I.take i)=af (if i=0 then (0,0) else ((aJ (T:=xX) I ((i-1:Nat):Int)).1,(aJ (T:=xX) I ((i-1:Nat):Int)).2.1+1))/\(¬i=0->(0:Int)<=(aJ (T:=xX) I ((i-1:Nat):Int)).2.1/\(i:Int)>(aJ (T:=xX) I ((i-1:Nat):Int)).2.1)) ?_ ?_ ⟨rfl,rfl,rfl,λh=>(h rfl).elim⟩
 .rintro i ⟨a,b⟩ hi ⟨e1,e2,e3,hpb⟩;dsimp only at e1 e2;subst e1;subst e2;have hw:¬(i:Int)=0->bk .i64 ((i:Int)-1)=((i-1:Nat):Int):=λh=>by rw[ic (by omega) (by omega)];omega
  have hnx:=H8 (T:=J.length) hi;rw[e3] at hnx;clear e3;refine bF (λY=>?_) λY=>(by dsimp only[au] at Y;omega)
  refine aZ (λx=>x=(w1,w2,U,Z,J,I)/\K0 J.length (I.take (i+1))=af (((aJ (T:=xX) I (i:Int)).1,(aJ (T:=xX) I (i:Int)).2.1+1))/\(0:Int)<=(aJ (T:=xX) I (i:Int)).2.1/\((i+1:Nat):Int)>(aJ (T:=xX) I (i:Int)).2.1) ?_ ?_
  .refine ch (aS ?_);rw[hnx];generalize hz:aJ (T:=xX) I (i:Int)=z;obtain⟨(z1:Int),(z2:Int),(z3:Int)⟩:=z;dsimp only;refine aZ (λx=>x.2=((w1,w2,U,Z,J,I),z1,z2,z3)/\(x.1=aj->0<=z1/\z1<J.length)) ?_ ?_
   .refine bF (λ_=>ar ⟨rfl,λh=>(by cases h)⟩) λg=>ar ⟨rfl,λh=>⟨g,?_⟩⟩
    rw[lY] at h;exact h
   rintro⟨c,y⟩ ⟨e,hzr⟩;dsimp only at e hzr;subst e;refine aP (λ_=>ar λh=>(by cases h)) λhzb=>?_
   obtain⟨z0,zT⟩:=hzr hzb;refine aZ (λx=>x.2=((w1,w2,U,Z,J,I),z1,z2,z3)/\(x.1=ai->i=0\/¬(aJ (T:=xX) I ((i-1:Nat):Int)).1=z1)/\(x.1=aj->¬(i:Int)=0/\(aJ (T:=xX) I ((i-1:Nat):Int)).1=z1)) ?_ ?_
   .refine aK (λh=>ar ⟨rfl,λ_=>.inl (by have h:((i:Nat):Int)=0:=h;omega),λh=>(by cases h)⟩) λh=>?_
    rw[hw h];refine ch (aS (ar ⟨rfl,λh2=>.inr (by simpa using h2),λh2=>⟨h,by simpa using h2⟩⟩))
   rintro⟨c,y⟩ ⟨e,hc1,hc⟩;dsimp only at e hc1 hc;subst e;refine aP (λhct=>?_) λhcf=>?_
   .refine aZ (λx=>x.2=(w1,w2,U,Z,J,I)/\(x.1=aj->z2=0/\(¬i=0->((aJ (T:=xX) I ((i-1:Nat):Int)).1:Int)<z1))) ?_ ?_
    .refine b_ (λ_=>ar ⟨rfl,λh=>(by cases h)⟩) λhz2=>?_
     refine bF (λh=>?_) λM=>ar ⟨rfl,λ_=>⟨hz2,λh=>by have M:((i:Nat):Int)<=0:=M;omega⟩⟩
     have h:(0:Int)<((i:Nat):Int):=h;rw[hw (by omega)];refine ch (aS (ar ⟨rfl,λh2=>⟨hz2,λh3=>?_⟩⟩));rw[gg] at h2;have h4:=(hc1 hct).resolve_left h3;have h2:(aJ (T:=xX) I ((i-1:Nat):Int)).1<=z1:=h2;exact Int.lt_iff_le_and_ne.2 ⟨h2,h4⟩
    rintro⟨c,y⟩ ⟨e,hy⟩;dsimp only at e hy;subst e;refine aP (λ_=>ar λh=>(by cases h)) λh=>ar ⟨rfl,?_⟩
    obtain⟨q1,q2⟩:=hy h;have q1:z2=0:=q1;subst q1;refine ⟨?_,eP 0,by show _>(0:Int);omega⟩;unfold Tr;by_cases M:i=0
    .subst M;rw[aF rfl];dsimp only;by_cases hz1:z1=0
     .subst hz1;rfl
     .rw[ay (λh=>hz1 h.1),aF ⟨by omega,zT,rfl⟩];rfl
    .have:=q2 M;rw[ay M];dsimp only;rw[ay (λh=>by omega),aF ⟨this,zT,rfl⟩];rfl
   .obtain⟨M,hpr⟩:=hc hcf;rw[hw M];refine ch (aS ?_);refine b_ (λ_=>ar λh=>(by cases h)) λh=>ar ⟨rfl,?_⟩
    obtain⟨b0,b1⟩:=hpb (by omega);have h:z2=bk .i64 ((aJ (T:=xX) I ((i-1:Nat):Int)).2.1+1):=h;rw[ic (by omega) (by omega)] at h;refine ⟨?_,by omega,by omega⟩;rw[ay (by omega)];unfold Tr;dsimp only;rw[aF ⟨hpr.symm,h⟩,hpr,h]
  .rintro x ⟨rfl,hx,hx2⟩;refine ar ?_;dsimp only;refine ⟨gM (by omega),rfl,?_,λ_=>hx2⟩;rw[ay (by omega)];exact hx
 .rintro⟨a,b⟩ ⟨e1,e2,e3,_⟩;dsimp only at e1 e2;subst e1;subst e2;refine bF (λY=>(by dsimp only[au] at Y;omega)) λ_=>?_
  rw[cP] at e3;exact ar λ_=>⟨hv,by unfold SV0;dsimp only;rw[e3];simp⟩
def tf (e:ET):Bool:=decide (e.2.1=3)||decide (e.2.1=23)
def fl (l:List ET) (t:Int):List Bool:=(l.filter λe=>decide (e.1=t)).map tf
def KN (l:List ET) (t y:Int):Prop:=0<=y/\(fl l t).getD y.toNat aj=ai
theorem uC (l m:List ET) (t:Int):fl (l++m) t=fl l t++fl m t:=by unfold fl;rw[xW,cA]
theorem zl {e:ET} {t:Int} (h:e.1=t):fl [e] t=[tf e]:=by unfold fl;simp[h]
theorem wH {e:ET} {t:Int} (h:¬e.1=t):fl [e] t=[]:=by unfold fl;simp[h]
theorem KN.app {l:List ET} {t y:Int} (h:KN l t y) (m:List ET):KN (l++m) t y:=by
 obtain⟨h0,h1⟩:=h;refine ⟨h0,?_⟩;rw[uC];rw[aA] at h1 ⊢;rcases bZ y.toNat (fl l t).length with g|g
 .rw[bO g];exact h1
 .rw[bR g] at h1;cases h1
theorem KN.lt {l:List ET} {t y:Int} (h:KN l t y):y<(fl l t).length:=by
 obtain⟨h0,h1⟩:=h;rcases bZ y.toNat (fl l t).length with g|g
 .omega
 .rw[aA,bR g] at h1;cases h1
theorem KN.last {l:List ET} {e:ET} {y:Int} (h:tf e=ai) (I:y=(fl l e.1).length):KN (l++[e]) e.1 y:=by
 subst I;refine ⟨by omega,?_⟩;rw[uC,zl rfl,aA,b7 (by simp),h];simp
theorem W1 (l:List ET) (t:Int):(fl l t).length<=l.length:=by unfold fl;rw[bX];exact Bt ..
structure SCx (w:WT) (l:List ET) (sy:SY) (ce fu:List Int) (e:ET):Prop where
 en:EN w sy e.1 e.2.1 e.2.2.1
 rd:V2 w sy e.1 e.2.1 e.2.2.1
 s1:e.2.1=1\/e.2.1=2->e.2.2.2.2.1= -1
 s2:¬(e.2.1=1\/e.2.1=2)->0<=e.2.2.2.2.1/\e.2.2.2.2.1<w.2.2.2.2.2.length/\(aJ (T:=xX) w.2.2.2.2.2 e.2.2.2.2.1).1=e.1
 de:0<e.2.2.2.2.2.1.length->e.2.1=5\/(e.2.1=3\/e.2.1=4)/\¬(aJ (T:=PP) w.1 e.2.2.1).2.2.1=0
 fr:0<e.2.2.2.2.2.2.length->e.2.1=4\/e.2.1=22
 nd:AN (fl l e.1).length e.2.2.2.2.2.1
 nf:AN (fl l e.1).length e.2.2.2.2.2.2
 rd1:∀ y∈e.2.2.2.2.2.1,KN l e.1 y
 rd2:∀ y∈e.2.2.2.2.2.2,KN l e.1 y
 va:VA w sy ce fu e.1 e.2.1 e.2.2.1 e.2.2.2.1
def XG:Nat->List (Int×Int×Bool)
 |0=>[]
 |n+1=>(1,0,aj)::aG n (0,0,aj)
def PA (w:WT):SY:=(aG w.2.1.length (-1,[]),-1,aG w.2.2.2.1.length aj,XG w.2.2.2.2.1.length)
def ce0 (w:WT):List Int:=w.1.map λc=>c.2.2.2.2
def fu0 (w:WT):List Int:=aG w.2.2.2.1.length 0
inductive Acw (w:WT):List ET->SY->List Int->List Int->Prop
 |nil:Acw w [] (PA w) (ce0 w) (fu0 w)
 |snoc {l:List ET} {sy:SY} {ce fu:List Int} {e:ET} (h:Acw w l sy ce fu) (hs:SCx w l sy ce fu e):Acw w (l++[e]) (qX w sy e.1 e.2.1 e.2.2.1 e.2.2.2.1).1 (YT ce e) (ZI fu e)
theorem ZX (i:Nat):XG (i+2)=XG (i+1)++[(0,0,aj)]:=by
 show (1,0,aj)::aG (i+1) (0,0,aj)=(1,0,aj)::aG i (0,0,aj)++[(0,0,aj)]
 rw[uL,gm]
theorem Ht:∀ n,(XG n).length=n
 |0=>rfl
 |n+1=>by simp[XG]
theorem KB (w:WT) (h:VL w):rj w=af (PA w):=by
 obtain⟨w1,I,Z,J,U,Y⟩:=w;obtain⟨h1,h2,h3,h4,_,h5,h6⟩:=h;dsimp only at*
 refine cE ?_;unfold rj aY bi bw cu dx cY fh bd bx bB aX cL aE cC;refine b9 I.length (λi x=>x.1=(i:Int)/\x.2.1=(w1,I,Z,J,U,Y)/\x.2.2.2=(-1,aG i (-1,[]))) ?_ ?_ ⟨rfl,rfl,rfl⟩
 .rintro i ⟨a,b,c,d,e⟩ hi ⟨e1,e2,e3⟩;simp only[aD] at e1 e2 e3;obtain⟨rfl,rfl⟩:=e3;subst e1;subst e2;with_reducible repeat' first|(refine OS.ok ?_;constructor)|refine IM.mk λ_=>?_
  all_goals try simp only[au,qU] at*
  all_goals first|omega|(simp;omega)|skip
  exact⟨gM (by omega),by rw[uL]⟩
 rintro⟨a,b,c,d,e⟩ ⟨e1,e2,e3⟩;simp only[aD] at e1 e2 e3;obtain⟨rfl,rfl⟩:=e3;subst e1;subst e2;refine bF (λM=>(by dsimp only[au] at M;omega)) λ_=>?_
 refine ax (P:=λs=>s=PA (w1,I,Z,J,U,Y)) ?_ λy hy=>ar hy
 refine b9 J.length (λi x=>x.1=(i:Int)/\x.2.1=(w1,I,Z,J,U,Y)/\x.2.2.2=(-1,aG I.length (-1,[]),aG i aj)) ?_ ?_ ⟨rfl,rfl,rfl⟩
 .rintro i ⟨a,b,c,d,e',f⟩ hi ⟨e1,e2,e3⟩;simp only[aD] at e1 e2 e3;obtain⟨rfl,rfl,rfl⟩:=e3;subst e1;subst e2;with_reducible repeat' first|(refine OS.ok ?_;constructor)|refine IM.mk λ_=>?_
  all_goals try simp only[au,qU] at*
  all_goals first|omega|(simp;omega)|skip
  exact⟨gM (by omega),by rw[uL]⟩
 rintro⟨a,b,c,d,e',f⟩ ⟨e1,e2,e3⟩;simp only[aD] at e1 e2 e3;obtain⟨rfl,rfl,rfl⟩:=e3;subst e1;subst e2;refine bF (λM=>(by dsimp only[au] at M;omega)) λ_=>?_
 refine ax (P:=λs=>s=PA (w1,I,Z,J,U,Y)) ?_ λy hy=>ar hy
 refine b9 U.length (λi x=>x.1=(i:Int)/\x.2.1=(w1,I,Z,J,U,Y)/\x.2.2.2=(-1,aG I.length (-1,[]),aG J.length aj,XG i)) ?_ ?_ ⟨rfl,rfl,rfl⟩
 .rintro i ⟨a,b,c,d,e'',f',g⟩ hi ⟨e1,e2,e3⟩;simp only[aD] at e1 e2 e3;obtain⟨rfl,rfl,rfl,rfl⟩:=e3;subst e1;subst e2;have hl:=Ht i;refine bF (λ_=>?_) λM=>(by dsimp only[au] at M;omega)
  refine gy (aK (λh0=>ar ?_) λh0=>ar ?_)
  .have h0:((i:Nat):Int)=0:=h0;have h0:i=0:=by omega
   subst h0;exact bg (by simp[XG]) (by omega) (ar ⟨rfl,rfl,rfl⟩)
  .have h0:¬((i:Nat):Int)=0:=h0;obtain⟨j,rfl⟩:∃ j,i=j+1:=⟨i-1,by omega⟩
   refine bg (by dsimp only;rw[hl];simp;omega) (by omega) (ar ⟨gM (by omega),rfl,?_⟩);dsimp only;rw[ZX]
 rintro⟨a,b,c,d,e'',f',g⟩ ⟨e1,e2,e3⟩;simp only[aD] at e1 e2 e3;obtain⟨rfl,rfl,rfl,rfl⟩:=e3;subst e1;subst e2;refine bF (λM=>(by dsimp only[au] at M;omega)) λ_=>ar rfl
theorem TO {w:WT} (h:VL w):SB 0 (PA w):=by
 obtain⟨h1,h2,U,M,_,J,I⟩:=h;refine ⟨by omega,by simp[PA];omega,λl hl=>?_,by simp[PA];omega,by simp[PA,Ht];omega⟩;rw[pt hl];simp
theorem KA (w:WT) (h:VL w):mI w=af (PA w,ce0 w,fu0 w,aG w.2.2.2.2.1.length 0):=by
 have hs:=KB w h;have hd:(PA w)=PA w:=rfl;obtain⟨I,Z,Y,M,J,U⟩:=w;obtain⟨h1,h2,h3,h4,_,h5,h6⟩:=h;dsimp only at*
 refine cE ?_;unfold mI aY bi bw bK cY bx bB bD aX cL aE cC;refine aV hs ?_;with_reducible repeat' first|(refine OS.ok ?_;constructor)|refine IM.mk λ_=>?_
 all_goals try simp only[au,qU] at*
 all_goals first|omega|skip
 refine b9 I.length (λi x=>x.1=(i:Int)/\x.2.1=(I,Z,Y,M,J,U)/\x.2.2.2=(PA (I,Z,Y,M,J,U),(I.take i).map (λc=>c.2.2.2.2),aG M.length 0,aG J.length 0)) ?_ ?_ ⟨rfl,rfl,rfl⟩
 .rintro i ⟨a,b,c,d,e,f,g⟩ hi ⟨e1,e2,e3⟩;simp only[aD] at e1 e2 e3;obtain⟨rfl,rfl,rfl,rfl⟩:=e3;subst e1;subst e2;with_reducible repeat' first|(refine OS.ok ?_;constructor)|refine IM.mk λ_=>?_
  all_goals try simp only[au,qU] at*
  all_goals first|omega|(simp;omega)|skip
  exact⟨gM (by omega),by rw[mD (T:=PP) hi,cA];rfl⟩
 rintro⟨a,b,c,d,e,f,g⟩ ⟨e1,e2,e3⟩;simp only[aD] at e1 e2 e3;obtain⟨rfl,rfl,rfl,rfl⟩:=e3;subst e1;subst e2;refine bF (λg4=>(by dsimp only[au] at g4;omega)) λ_=>ar ?_
 rw[cP];rfl
theorem VX (w:WT) (h:VL w):Ok (mI w) λs=>NB 0 s/\s.2.1.length=w.1.length/\s.2.2.1.length=w.2.2.2.1.length/\s.2.2.2.length=w.2.2.2.2.1.length:=
 agw (KA w h) ⟨⟨TO h,by have:=h.c;simp[ce0];omega,by have:=h.f;simp[fu0];omega,by have:=h.t;simp;omega⟩,by simp[ce0],by simp[fu0],by simp⟩
theorem Qd (l:List ET) (i t:Int) (I:List Int) (hl:l.length<=1000000000) (hi:0<=i/\i<=l.length) (hn:I.length<=1000000000):Ok (rh (l,i,t,I)) λb=>b=ai->∀ y∈I,KN (l.take i.toNat) t y:=by
 unfold rh aY bK bd bx jd bD aX cL aE cC;refine b9 I.length (λk x=>x=(k:Int)/\∀ j:Nat,j<k->KN (l.take i.toNat) t (aJ (T:=.int .i64) I (j:Int))) ?_ ?_ ⟨rfl,λj hj=>(by omega)⟩
 .rintro k x hk ⟨rfl,Y⟩;refine bF (λM=>?_) λM=>(by dsimp only[au] at M;omega)
  refine pZ (λx=>(i-x.2.2).toNat) (λx=>0<=x.2.2/\x.2.2<=i/\x.1=((fl (l.take x.2.2.toNat) t).length:Int)/\(x.2.1=ai->KN (l.take x.2.2.toNat) t (aJ (T:=.int .i64) I (k:Int)))) ?_ ⟨by simp,hi.1,by simp[fl],λh=>(by cases h)⟩;rintro⟨a,b,(c:Int)⟩ ⟨U,c1,Z,hb⟩;dsimp only at U c1 Z hb;subst Z;obtain⟨c,rfl⟩:∃ n:Nat,c=(n:Int):=⟨c.toNat,by omega⟩
  rw[dQ] at hb;dsimp only;rw[dQ];have hfl:=W1 (l.take c) t;have htl:=pW c l;refine bF (λJ=>?_) λJ=>?_
  .have J:(c:Int)<i:=J;have htk:l.take (c+1)=l.take c++[aJ (T:=tE) l (c:Int)]:=mD (T:=tE) (by omega);refine aZ (λy=>y.1=((fl (l.take (c+1)) t).length:Int)/\(y.2=ai->KN (l.take (c+1)) t (aJ (T:=.int .i64) I (k:Int)))) ?_ ?_
   .rw[htk,uC];refine aR U (by first|omega|(dsimp only;omega)) (aS ?_);refine b_ (λhne=>ar ⟨by rw[wH hne];simp,λh=>(hb h).app _⟩) λhe=>?_
    have he:(aJ (T:=tE) l (c:Int)).1=t:=he;refine aZ (λy=>y=ai->KN (l.take c++[aJ (T:=tE) l (c:Int)]) t (aJ (T:=.int .i64) I (k:Int))) ?_ λy hy=>ar ⟨?_,hy⟩
    .refine aP (λh=>ar λ_=>(hb h).app _) λ_=>?_
     refine aR (by omega) (by first|omega|(dsimp only;omega)) (aS ?_);refine aK (λhn=>?_) λ_=>ar λh=>(by cases h)
     have hq:tf (aJ (T:=tE) l (c:Int))=ai->KN (l.take c++[aJ (T:=tE) l (c:Int)]) t (aJ (T:=.int .i64) I (k:Int)):=λh=>by
      rw[<- he] at hn ⊢;exact KN.last h hn.symm
     refine aR U (by first|omega|(dsimp only;omega)) (aS ?_);refine aK (λh=>ar λ_=>hq (by unfold tf;rw[aQ h];rfl)) λ_=>?_
     exact aR U (by first|omega|(dsimp only;omega)) (aS (ar λh=>hq (by unfold tf;rw[h];simp)))
    .dsimp only;rw[zl he,gM (by omega)];simp
   .rintro⟨p,q⟩ ⟨hp,hq⟩;refine ar ?_;dsimp only at hp hq ⊢;rw[gM (by omega),dQ];exact⟨⟨by omega,by omega,hp,hq⟩,by omega⟩
  .refine ax (P:=λr=>match r with|.inl y=>y=((k+1:Nat):Int)/\∀ j:Nat,j<k+1->KN (l.take i.toNat) t (aJ (T:=.int .i64) I (j:Int))|.inr r=>r=ai->∀ y∈I,KN (l.take i.toNat) t y) ?_ λr hr=>ar ?_
   .refine ec (λ_=>ar λh=>(by cases h)) λh=>ar ⟨gM (by omega),λj hj=>?_⟩
    rcases bZ j k with h1|h1
    .exact Y j h1
    .have:=hb h;have hci:c=i.toNat:=by have J:i<=(c:Int):=J;omega
     rw[show j=k by omega,<-hci];exact this
   .cases r with
    |inl y=>exact hr
    |inr r=>exact hr
 .rintro x ⟨rfl,Y⟩;refine bF (λM=>(by dsimp only[au] at M;omega)) λ_=>ar λ_=>im (T:=.int .i64) Y
def CN (l:List ET) (c:List Int):Prop:=∀ t:Int,0<=t->t<c.length->aJ (T:=.int .i64) c t=((fl l t).length:Int)
theorem rF {T:Ty} (xs:List T.den) (j k:Int) (x:T.den) (hj:0<=j) (I:j<xs.length) (hk:0<=k):aJ (cQ xs j x) k=if k=j then x else aJ xs k:=by
 unfold aJ cQ;rw[aA,aA,oN];by_cases h:k=j
 .subst h;rw[aF rfl,aF rfl,aF (by omega)];rfl
 .rw[ay (by omega),ay h]
theorem CN.next {l:List ET} {c:List Int} (h:CN l c) (e:ET) (h0:0<=e.1) (h1:e.1<c.length) (hl:l.length<1000000):CN (l++[e]) (cQ c e.1 (bk .i64 (aJ (T:=.int .i64) c e.1+1))):=λt t0 t1=>by
 rw[bT] at t1;have:=W1 l e.1;rw[rF (T:=.int .i64) _ _ _ _ h0 h1 t0,uC];split
 .rename_i h2;subst h2;rw[zl rfl,h _ h0 h1,gM (by omega)];simp
 .rename_i h2;rw[wH λI=>h2 I.symm,h _ t0 t1];simp
structure EvF (w:WT) (e:ET):Prop where
 nm:NM w e.2.1 e.2.2.1
 t0:0<=e.1
 t1:e.1<w.2.2.2.2.1.length
 cd:∀ c∈w.2.2.1,0<=c.2/\c.2<w.2.1.length
theorem ad3 (w:WT) (l:List ET) (hd:∀ e∈l,e.2.2.2.2.2.1.length<=1000000000/\e.2.2.2.2.2.2.length<=1000000000):Ok (uf (w,l)) λy=>y.2=0->(VL w/\SV0 w)/\(∀ e∈l,EvF w e)/\∃ sy ce fu,Acw w l sy ce fu:=by
 unfold uf cu bK fh bx bD aX cL aE cC;refine bF (λ_=>ar λh=>(by cases h)) λhl=>?_
 dsimp only[au] at hl;refine ax (Bn w) λb hb=>?_
 refine ec (λ_=>ar λh=>(by cases h)) λh=>?_
 obtain⟨hv,hsv⟩:=hb h;refine aV (KA w hv) ?_;have hs:NB 0 (PA w,ce0 w,fu0 w,aG w.2.2.2.2.1.length 0):=⟨TO hv,by have:=hv.c;simp[ce0];omega,by have:=hv.f;simp[fu0];omega,by have:=hv.t;simp;omega⟩
 have hw:w.2.2.1.length<=1000:=by have:=hv.d;omega
 refine b9 l.length (λi x=>x.1=(i:Int)/\x.2.1=(w,l)/\NB i x.2.2/\(∀ k:Nat,k<i->EvF w (aJ (T:=tE) l (k:Int)))/\Acw w (l.take i) x.2.2.1 x.2.2.2.1 x.2.2.2.2.1/\CN (l.take i) x.2.2.2.2.2/\x.2.2.2.2.2.length=w.2.2.2.2.1.length) ?_ ?_ ⟨rfl,rfl,hs,λk hk=>(by omega),.nil,λt t0 t1=>?_,by simp⟩
 .rintro i ⟨a,b,s⟩ hi ⟨e1,e2,e3,Y,U,e6,Z⟩;dsimp only at e1 e2 e3 Y U e6 Z;subst e1;subst e2;refine bF (λI=>?_) λI=>(by dsimp only[au] at I;omega)
  refine ch (aS ?_);have hmem:=bH (T:=tE) (xs:=l) (j:=(i:Int)) (by omega) (by omega);obtain⟨d1,d2⟩:=hd _ hmem;refine ax (Fl w s e3 hw _ d1 d2) λy hy=>?_
  refine aZ (λx=>x.2.1=(w,l)/\x.2.2.2=y.1/\(x.1=aj->y.2=ai/\(∀ z∈(aJ (T:=tE) l (i:Int)).2.2.2.2.2.1,KN (l.take i) (aJ (T:=tE) l (i:Int)).1 z)/\∀ z∈(aJ (T:=tE) l (i:Int)).2.2.2.2.2.2,KN (l.take i) (aJ (T:=tE) l (i:Int)).1 z)) ?_ ?_
  .refine ec (λ_=>ar ⟨rfl,rfl,λh=>(by cases h)⟩) λh=>?_
   refine ax (Qd l _ _ _ (by omega) ⟨by dsimp only;omega,by dsimp only;omega⟩ d1) λb1 hr1=>?_
   refine ec (λ_=>ar ⟨rfl,rfl,λh=>(by cases h)⟩) λhb1=>?_
   refine ax (Qd l _ _ _ (by omega) ⟨by dsimp only;omega,by dsimp only;omega⟩ d2) λb2 hr2=>ar ⟨rfl,rfl,λhb2=>⟨h,hr1 hb1,hr2 (by simpa using hb2)⟩⟩
  .rintro⟨c,p,q,r⟩ ⟨f1,f2,f3⟩;dsimp only at f1 f2 f3;subst f1;subst f2;refine aP (λ_=>ar λh=>(by cases h)) λh=>?_
   obtain⟨f4,r1,r2⟩:=f3 h;obtain⟨J,g2,M,I⟩:=hy.1 f4;refine ar ?_;dsimp only;have htk:l.take (i+1)=l.take i++[aJ (T:=tE) l (i:Int)]:=mD (T:=tE) hi;have hc:=e6 _ J.t0 (by rw[Z];exact J.t1);have hnx:=gI Prod.fst I;have hac:=U.snoc (e:=aJ (T:=tE) l (i:Int)) ⟨J,M.rd,M.s1,M.s2,M.de,M.fr,by rw[<- hc];exact M.nd,by rw[<- hc];exact M.nf,r1,r2,M.va⟩;refine ⟨gM (by omega),rfl,g2.NB e3 (by omega),λk hk=>?_,by rw[htk,I];exact hac,by rw[htk,I];exact e6.next _ J.t0 (by rw[Z];exact J.t1) (by rw[bE];omega),by rw[I];unfold nxP;rw[bT];exact Z⟩;rcases bZ k i with h1|h1
   .exact Y k h1
   .rw[show k=i by omega];exact⟨J.nm,J.t0,J.t1,J.cd⟩
 .rintro⟨a,b,s⟩ ⟨e1,e2,e3,Y,U,_⟩;dsimp only at e1 e2 e3 Y U;subst e1;subst e2;rw[cP] at U;refine bF (λI=>(by dsimp only[au] at I;omega)) λ_=>ar λ_=>⟨⟨hv,hsv⟩,im (T:=tE) Y,_,_,_,U⟩
 .rw[eK] at t1;obtain⟨t,rfl⟩:∃ n:Nat,t=(n:Int):=⟨t.toNat,by omega⟩
  rw[Ow,aA,lm];split<;>simp[fl]
structure TP (t:List Int×Int):Prop where
 l0:t.1.length<=9223372036854775807
 by_:∀ x∈t.1,0<=x/\x<=255
 a0:0<=t.2
 a1:t.2<=t.1.length
structure uU (t t':List Int×Int):Prop where
 e:t'.1=t.1
 m:t.2<=t'.2
 p:TP t'
theorem uU.refl {t:List Int×Int} (h:TP t):uU t t:=⟨rfl,eP _,h⟩
theorem uU.trans {a b c:List Int×Int} (h:uU a b) (g:uU b c):uU a c:=⟨g.e.trans h.e,Int.le_trans h.m g.m,g.p⟩
theorem gj (n:Int) (t:List Int×Int) (h:TP t):Ok (bz (n,t)) λy=>uU t y.2/\0<=y.1/\(1<=n->y.1<n)/\(t.2<t.1.length->1<=n->t.2<y.2.2):=by
 obtain⟨L,a⟩:=t;have U:=h;obtain⟨l0,hb,a0,a1⟩:=h;dsimp only at l0 hb a0 a1;unfold bz iR bB bD aX aE cC;refine aZ (λx=>x.2=(L,a)/\(x.1=ai->a=L.length\/n<1)/\(x.1=aj->a<L.length/\1<=n)) ?_ ?_
 .refine eY (λh=>ar ⟨rfl,λ_=>?_,λh=>(by cases h)⟩) λh=>ar ⟨rfl,λh2=>?_,λh2=>?_⟩
  .dsimp only[au] at h;omega
  .rw[tD] at h2;exact .inr h2
  .rw[gg] at h2;dsimp only[au] at h h2;omega
 rintro⟨b,x⟩ ⟨e,h1,h2⟩;dsimp only at e h1 h2;subst e;refine aP (λh=>ar ⟨uU.refl U,eP _,λM=>(by dsimp only;omega),λM Z=>?_⟩) λh=>?_
 .have:=h1 h;dsimp only at M;omega
 obtain⟨J,Y⟩:=h2 h;refine aS ?_;have e1:bk .i64 (a+1)=a+1:=ic (by omega) (by omega);dsimp only;rw[e1,ic (n:=a+1-1) (by omega) (by omega),show a+1-1=a by omega];have I:=hb _ (bH (T:=.int .u8) (xs:=L) (j:=a) a0 J);refine aR a0 J (aS ?_);generalize (aJ _ a)=z at I;have I:0<=z/\z<=255:=I;rw[ic (n:=z) (by omega) (by omega)];refine yR (by omega) (ar ?_);dsimp only;refine ⟨⟨rfl,by dsimp only;omega,⟨l0,hb,by dsimp only;omega,by dsimp only;omega⟩⟩,Int.tmod_nonneg _ I.1,λ_=>?_,λ_ _=>by omega⟩;exact Int.tmod_lt_of_pos _ (by omega)
theorem Tx (s:SY) (hs:s.2.2.2.length<=1000) (y:List Int×List Int×List Int):Ok (kS (s,y)) λl=>l.length<=s.2.2.2.length:=by
 unfold kS bK bd bx bB bD aX cL aE cC;refine b9 s.2.2.2.length (λi x=>x.1=(i:Int)/\x.2.length<=i) ?_ ?_ ⟨rfl,by simp⟩
 .rintro i ⟨a,b⟩ hi ⟨e1,e2⟩;dsimp only at e1 e2;subst e1;with_reducible repeat' first|(refine OS.ok ?_;constructor)|refine IM.mk λ_=>?_
  all_goals try simp only[au,qU] at*
  all_goals first|omega|(simp;omega)|skip
  .exact⟨gM (by omega),by simp;omega⟩
  .exact⟨gM (by omega),by omega⟩
 .rintro⟨a,b⟩ ⟨e1,e2⟩;dsimp only at e1 e2;subst e1;refine bF (λI=>(by dsimp only[au] at I;omega)) λ_=>ar e2
theorem XU (k u:Int) (t:List Int×Int) (h:TP t):Ok (oz ((k,u),t)) λy=>uU t y.2/\(k=3\/k=4->0<=y.1/\y.1<5):=by
 unfold oz bd kz aE cC;rcases @IE k with rfl|rfl|rfl|rfl|rfl|rfl|rfl|rfl|rfl|rfl|rfl|rfl|rfl|rfl|rfl|rfl|rfl|rfl|rfl|rfl|rfl|rfl|rfl|⟨hk,J⟩
 case inr.inr.inr.inr.inr.inr.inr.inr.inr.inr.inr.inr.inr.inr.inr.inr.inr.inr.inr.inr.inr.inr.inr=>
  simp only[hk 1 (by decide) (by decide),hk 2 (by decide) (by decide),hk 3 (by decide) (by decide),hk 4 (by decide) (by decide),hk 5 (by decide) (by decide),hk 6 (by decide) (by decide),hk 7 (by decide) (by decide),hk 8 (by decide) (by decide),hk 9 (by decide) (by decide),hk 10 (by decide) (by decide),hk 11 (by decide) (by decide),hk 12 (by decide) (by decide),hk 13 (by decide) (by decide),hk 14 (by decide) (by decide),hk 15 (by decide) (by decide),hk 16 (by decide) (by decide),hk 17 (by decide) (by decide),hk 18 (by decide) (by decide),hk 19 (by decide) (by decide),hk 20 (by decide) (by decide),hk 21 (by decide) (by decide),hk 22 (by decide) (by decide),hk 23 (by decide) (by decide),aU,bn,sU];exact ar ⟨uU.refl h,λh=>(by first|omega|(simp at h;done)|(rcases h with h|h<;>cases h;done))⟩
 all_goals simp only[aU,bn,sU]
 all_goals first
  |exact ar ⟨uU.refl h,λh=>(by first|omega|(simp at h;done)|(rcases h with h|h<;>cases h;done))⟩
  |exact ax (gj 2 t h) λy I=>ar ⟨I.1,λh=>(by first|omega|(simp at h;done)|(rcases h with h|h<;>cases h;done))⟩
  |exact ax (gj 3 t h) λy I=>ar ⟨I.1,λh=>(by first|omega|(simp at h;done)|(rcases h with h|h<;>cases h;done))⟩
  |skip
 all_goals
  refine ax (gj 8 t h) λy I=>?_
  have h1:=I.2.1;have h2:=I.2.2.1 (by omega);refine aR h1 (by simp;omega) (aR h1 (by simp;omega) (aS (ar ⟨I.1,λ_=>?_⟩)));have:∀ z:Int,z∈([0,0,0,1,1,2,3,4]:List Int)->0<=z/\z<5:=by decide
  exact this _ (bH (T:=.int .i64) h1 (by simp;omega))
structure SZ (n:Nat) (s:SN):Prop where
 nb:NB n s
 c:s.2.1.length=5
 f:s.2.2.1.length=1
 k:s.2.2.2.length=4
theorem SZ.step {n:Nat} {s y:SN} (h:SZ n s) (hp:SP n s y) (hn:n+1<=100000):SZ (n+1) y:=
 ⟨hp.NB h.nb hn,by rw[hp.c];exact h.c,by rw[hp.f];exact h.f,by rw[hp.k];exact h.k⟩
theorem XH {n:Nat} (s:SN) (hs:SZ n s) (k o:Int) (M:k=3->0<=o/\o<5) (t:List Int×Int) (h:TP t):Ok (qd ((s,k,o),t)) λy=>uU t y.2:=by
 obtain⟨s1,s2,Y,U⟩:=s;have hc:=hs.c;have hf:=hs.f;have hth:=hs.nb.sb.th;dsimp only at hc hf hth;have J:=Tx s1 hth (s2,Y,U);unfold qd aY bd bx bD aX aE;rcases @IE k with rfl|rfl|rfl|rfl|rfl|rfl|rfl|rfl|rfl|rfl|rfl|rfl|rfl|rfl|rfl|rfl|rfl|rfl|rfl|rfl|rfl|rfl|rfl|⟨hk,Z⟩
 case inr.inr.inr.inr.inr.inr.inr.inr.inr.inr.inr.inr.inr.inr.inr.inr.inr.inr.inr.inr.inr.inr.inr=>
  simp only[hk 1 (by decide) (by decide),hk 2 (by decide) (by decide),hk 3 (by decide) (by decide),hk 4 (by decide) (by decide),hk 5 (by decide) (by decide),hk 6 (by decide) (by decide),hk 7 (by decide) (by decide),hk 8 (by decide) (by decide),hk 9 (by decide) (by decide),hk 10 (by decide) (by decide),hk 11 (by decide) (by decide),hk 12 (by decide) (by decide),hk 13 (by decide) (by decide),hk 14 (by decide) (by decide),hk 15 (by decide) (by decide),hk 16 (by decide) (by decide),hk 17 (by decide) (by decide),hk 18 (by decide) (by decide),hk 19 (by decide) (by decide),hk 20 (by decide) (by decide),hk 21 (by decide) (by decide),hk 22 (by decide) (by decide),hk 23 (by decide) (by decide),aU,bn,sU];exact ar (uU.refl h)
 all_goals simp only[aU,bn,sU]
 all_goals first
  |exact ar (uU.refl h)
  |exact ax (gj 2 t h) λy I=>ar I.1
  |exact ax (gj 3 t h) λy I=>ar I.1
  |exact ax J λy I=>ar (uU.refl h)
  |exact aR (by decide) (by omega) (aS (ar (uU.refl h)))
  |exact aR (M rfl).1 (by have:=(M rfl).2;omega) (aS (ar (uU.refl h)))
  |skip
 refine ax J λl hl=>?_
 refine bF (λh1=>?_) λ_=>ar (uU.refl h)
 refine ax (gj _ t h) λy I=>?_
 dsimp only[au] at h1;have h2:=I.2.2.1 (by dsimp only[au];omega);exact aR I.2.1 h2 (aS (ar I.1))
theorem ads (t:List Int×Int) (h:TP t) (r:List Int) (hr:r.length<=1000000):Ok (gA (t,r)) λy=>y.1.length<=r.length/\uU t y.2.1/\y.2.2=r:=by
 unfold gA aY bK bx iR bB kz aX cL aE cC;refine b9 r.length (λi x=>x.1=(i:Int)/\uU t x.2.1/\x.2.2.1=r/\x.2.2.2.length<=i) ?_ ?_ ⟨rfl,uU.refl h,rfl,by simp⟩
 .rintro i ⟨a,b,c,d⟩ hi ⟨e1,e2,e3,U⟩;dsimp only at e1 e2 e3 U;subst e1;subst e3;refine bF (λM=>?_) λM=>(by dsimp only[au] at M;omega)
  refine aZ (λx=>uU t x.1/\x.2.1=c/\x.2.2.length<=i+1) ?_ ?_
  .refine ch (ch (aS ?_));refine aZ (λx=>uU t x.2.1/\x.2.2=(c,d)) ?_ ?_
   .refine aP (λ_=>?_) λ_=>ar ⟨e2,rfl⟩
    exact ax (gj 2 b e2.p) λy Y=>ar ⟨e2.trans Y.1,rfl⟩
   .rintro⟨p,q,u⟩ ⟨I,J⟩;dsimp only at I J;subst J;refine aP (λ_=>?_) λ_=>ar ⟨I,rfl,by dsimp only;omega⟩
    exact bg (by simp;omega) (by omega) (ar ⟨I,rfl,by simp;omega⟩)
  .rintro⟨p,q,u⟩ ⟨I,J,f3⟩;dsimp only at I J f3;subst J;refine ar ?_;dsimp only;exact⟨gM (by omega),I,rfl,f3⟩
 .rintro⟨a,b,c,d⟩ ⟨e1,e2,e3,U⟩;dsimp only at e1 e2 e3 U;subst e1;subst e3;refine bF (λM=>(by dsimp only[au] at M;omega)) λ_=>ar ⟨U,e2,rfl⟩
theorem aal:tm ()=af [3,3,3,3,3,4,4,4,4,4,5,5,5,6,6,6,7,7,7,8,9,10,11,12,13,14,14,15,16,16,17,17,18,18,19,20,1,1,2,21,22,23,23]:=rfl
abbrev RR:Type:=List Int×List Int×List Int×List Int
structure RB4 (m:Nat) (r:RR):Prop where
 r0:r.1.length<=m
 r1:r.2.1.length<=m
 r2:r.2.2.1.length<=m
 r3:r.2.2.2.length<=m
theorem abd {n:Nat} (s:SN) (hs:SZ n s) (w:WT) (hw:w.1.length=5) (t:List Int×Int) (h:TP t) (r:RR) (hr:RB4 1000000 r):Ok (qe ((s,w),t,r)) λy=>uU t y.2.1/\y.2.2=r/\(t.2<t.1.length->t.2<y.2.1.2)/\y.1.2.2.2.2.2.1.length<=1000000/\y.1.2.2.2.2.2.2.length<=1000000:=by
 obtain⟨r0,r1,r2,r3⟩:=r;obtain⟨h0,h1,h2,h3⟩:=hr;dsimp only at h0 h1 h2 h3;unfold qe D3 Prod.p11 Prod.p12 aY bi bw cu dU kC zV Ci Prod.q11 Prod.q12 cY fh bd bB bD aX aE;refine ax (gj 4 t h) λy hy=>?_
 refine aV aal ?_;refine ax (gj _ y.2 hy.1.p) λz hz=>?_
 obtain⟨y1,yt⟩:=y;obtain⟨z1,zt⟩:=z;obtain⟨ty,yy0,yy1,yy2⟩:=hy;obtain⟨tz,zz0,zz1,_⟩:=hz;dsimp only at ty yy0 yy1 yy2 tz zz0 zz1;have yy1:=yy1 (by decide);have hzl:=zz1 (by decide);refine aR zz0 hzl (aS ?_);generalize (aJ _ z1)=k;refine ax (gj 6 zt tz.p) λv hv=>?_
 obtain⟨v1,vt⟩:=v;have tv:=hv.1;dsimp only at tv;have tt:=(ty.trans tz).trans tv;have hadv:t.2<t.1.length->t.2<vt.2:=λh=>by
  have:=yy2 h (by decide);have:=tz.m;have:=tv.m;omega
 refine aZ (λx=>x.1=vt/\x.2.1=r0/\x.2.2.1=r1/\x.2.2.2.1=r2/\x.2.2.2.2.1=r3/\x.2.2.2.2.2.1=s/\x.2.2.2.2.2.2.1=w) ?_ ?_
 .refine aZ (λx=>x.2.1=vt/\x.2.2.1=r0/\x.2.2.2.1=r1/\x.2.2.2.2.1=r2/\x.2.2.2.2.2.1=r3/\x.2.2.2.2.2.2.1=s/\x.2.2.2.2.2.2.2.1=w) ?_ ?_
  .with_reducible repeat' first|(refine OS.ok ?_;constructor)|refine IM.mk λ_=>?_
   all_goals exact⟨rfl,rfl,rfl,rfl,rfl,rfl,rfl⟩
  .rintro⟨p,q⟩ hq;dsimp only at hq;with_reducible repeat' first|(refine OS.ok ?_;constructor)|refine IM.mk λ_=>?_
   all_goals exact hq
 rintro⟨x1,x2,x3,x4,x5,x6,x7,x8,x9,x10⟩ ⟨J,Y,f3,f4,f5,f6,U⟩;dsimp only at J Y f3 f4 f5 f6 U;subst J;subst Y;subst f3;subst f4;subst f5;subst f6;subst U;refine ax (XU _ _ _ tv.p) λo Z=>?_
 obtain⟨o1,ot⟩:=o;obtain⟨to,Z⟩:=Z;dsimp only at to Z;refine ax (XH _ hs _ _ (λhk=>Z (.inl hk)) _ to.p) λq hq=>?_
 obtain⟨q1,qt⟩:=q;dsimp only at hq;have M:=(tt.trans to).trans hq;have hadv2:t.2<t.1.length->t.2<qt.2:=λh=>by have:=hadv h;have:=to.m;have:=hq.m;omega
 have row:∀ (T:List Int×Int) (c:List Int) {R:Type} (k:List Int×((List Int×Int)×List Int)->Option R) (Q:R->Prop),uU t T->c.length<=1000000->(∀ v T',uU T T'->v.length<=1000000->Ok (k (v,T',c)) Q)->Ok (obind (gA (T,c)) k) Q:=λT c R k Q I hc hk=>by
  refine ax (ads T I.p c hc) λy hy=>?_
  obtain⟨a,b,d⟩:=y;obtain⟨g1,g2,g3⟩:=hy;dsimp only at g1 g2 g3;subst g3;exact hk a b g2 (by omega)
 refine aZ (λx=>uU t x.1/\(t.2<t.1.length->t.2<x.1.2)/\x.2.1=x2/\x.2.2.1=x3/\x.2.2.2.1=x4/\x.2.2.2.2.1=x5/\x.2.2.2.2.2.2.2.2.2.2.2.length<=1000000) ?_ ?_
 .refine aZ (λx=>x.2.1=qt/\x.2.2.1=x2/\x.2.2.2.1=x3/\x.2.2.2.2.1=x4/\x.2.2.2.2.2.1=x5) ?_ ?_
  .refine aK (λ_=>ar ⟨rfl,rfl,rfl,rfl,rfl⟩) λ_=>?_
   refine aK (λhk=>?_) λ_=>aK (λhk=>?_) λ_=>ar ⟨rfl,rfl,rfl,rfl,rfl⟩
   .exact aR (Z (.inl hk)).1 (by dsimp only;rw[hw];exact (Z (.inl hk)).2) (aS (ar ⟨rfl,rfl,rfl,rfl,rfl⟩))
   .exact aR (Z (.inr hk)).1 (by dsimp only;rw[hw];exact (Z (.inr hk)).2) (aS (ar ⟨rfl,rfl,rfl,rfl,rfl⟩))
  .rintro⟨b,p1,p2,p3,p4,p5,p6⟩ ⟨J,Y,f3,f4,f5⟩;dsimp only at J Y f3 f4 f5;subst J;subst Y;subst f3;subst f4;subst f5;refine aP (λ_=>?_) λ_=>ar ⟨M,hadv2,rfl,rfl,rfl,rfl,by simp⟩
   have adv3:∀ T',uU p1 T'->t.2<t.1.length->t.2<T'.2:=λT' I h=>by have:=hadv2 h;have:=I.m;omega
   refine aK (λ_=>?_) λ_=>aK (λ_=>?_) λ_=>aK (λ_=>?_) λ_=>aK (λ_=>?_) λ_=>?_
   .refine row p1 p2 _ _ M h0 λv T' I hv=>?_
    refine dG (lw rfl (AJ ?_));exact ar ⟨M.trans I,adv3 T' I,rfl,rfl,rfl,rfl,hv⟩
   .refine row p1 p3 _ _ M h1 λv T' I hv=>?_
    refine dG (lw rfl (AJ ?_));exact ar ⟨M.trans I,adv3 T' I,rfl,rfl,rfl,rfl,hv⟩
   .refine row p1 p4 _ _ M h2 λv T' I hv=>?_
    refine dG (lw rfl (AJ ?_));exact ar ⟨M.trans I,adv3 T' I,rfl,rfl,rfl,rfl,hv⟩
   .refine row p1 p5 _ _ M h3 λv T' I hv=>?_
    refine dG (lw rfl (AJ ?_));exact ar ⟨M.trans I,adv3 T' I,rfl,rfl,rfl,rfl,hv⟩
   .omega
 rintro⟨u1,u2,u3,u4,u5,u6,u7,u8,u9,u10,u11,u12⟩ ⟨J,Y,f3,f4,f5,f6,U⟩;dsimp only at J Y f3 f4 f5 f6 U;subst f3;subst f4;subst f5;subst f6;refine aZ (λx=>uU t x.1/\(t.2<t.1.length->t.2<x.1.2)/\x.2.1=u2/\x.2.2.1=u3/\x.2.2.2.1=u4/\x.2.2.2.2.1=u5/\x.2.2.2.2.2.2.2.2.2.2.2.1.length<=1000000/\x.2.2.2.2.2.2.2.2.2.2.2.2.length<=1000000) ?_ ?_
 .refine aZ (λx=>x.2=(u1,u2,u3,u4,u5,u6,u7,u8,u9,u10,u11,u12)) ?_ ?_
  .with_reducible repeat' first|(refine OS.ok ?_;constructor)|refine IM.mk λ_=>?_
   all_goals rfl
  .rintro⟨b,x⟩ e;dsimp only at e;subst e;refine aP (λ_=>?_) λ_=>ar ⟨J,Y,rfl,rfl,rfl,rfl,U,by simp⟩
   have adv3:∀ T',uU u1 T'->t.2<t.1.length->t.2<T'.2:=λT' I h=>by have:=Y h;have:=I.m;omega
   refine aK (λ_=>?_) λ_=>aK (λ_=>?_) λ_=>aK (λ_=>?_) λ_=>aK (λ_=>?_) λ_=>?_
   .refine row u1 u2 _ _ J h0 λv T' I hv=>?_
    refine dG (lw rfl (AJ ?_));exact ar ⟨J.trans I,adv3 T' I,rfl,rfl,rfl,rfl,U,hv⟩
   .refine row u1 u3 _ _ J h1 λv T' I hv=>?_
    refine dG (lw rfl (AJ ?_));exact ar ⟨J.trans I,adv3 T' I,rfl,rfl,rfl,rfl,U,hv⟩
   .refine row u1 u4 _ _ J h2 λv T' I hv=>?_
    refine dG (lw rfl (AJ ?_));exact ar ⟨J.trans I,adv3 T' I,rfl,rfl,rfl,rfl,U,hv⟩
   .refine row u1 u5 _ _ J h3 λv T' I hv=>?_
    refine dG (lw rfl (AJ ?_));exact ar ⟨J.trans I,adv3 T' I,rfl,rfl,rfl,rfl,U,hv⟩
   .omega
 rintro⟨a1,a2,a3,a4,a5,a6,a7⟩ ⟨g1,g2,g3,g4,g5,g6,g7,g8⟩;dsimp only at g1 g2 g3 g4 g5 g6 g7 g8;subst g3;subst g4;subst g5;subst g6;exact ar ⟨g1,rfl,g2,g7,g8⟩
def Zq (e:ET):Prop:=e.2.2.2.2.2.1.length<=1000000/\e.2.2.2.2.2.2.length<=1000000
theorem adz {m:Nat} (hm:m<=1000) (s:SN) (hs:SZ m s) (w:WT) (hw:w.1.length=5) (hwt:w.2.2.2.2.1.length=4) (hwc:w.2.2.1.length<=1000) (n:Int) (hn:n<=60) (t:List Int×Int) (h:TP t):Ok (r7 ((s,w,n,aj),t)) λy=>(∀ e∈y.1,Zq e)/\y.1.length<=60:=by
 unfold r7 aY bi bw cu dU kC zV Ci Prod.q10 bK cY fh kB pU Prod.q9 bd bx bB bD aX cL aE;refine dG (dG (dG (e_ (by dsimp only[au];omega) (e_ (eP _) (bg (by dsimp only[au];omega) (by omega) (WD (by dsimp only[au];omega) ?_))))));refine aZ (λx=>x=(t,s,w,[],[],[],[])) ⟨_,rfl,rfl⟩ ?_;rintro x rfl;refine pZ (λx=>((t.1.length:Int)-x.1.2).toNat) (λx=>uU t x.1/\x.2.2.1=w/\SZ (m+x.2.2.2.1.length) x.2.1/\x.2.2.2.1.length<=60/\(∀ e∈x.2.2.2.1,Zq e)/\RB4 x.2.2.2.1.length x.2.2.2.2) ?_ ⟨uU.refl h,rfl,(by simpa using hs),by simp,λe he=>(by cases he),⟨by simp,by simp,by simp,by simp⟩⟩;rintro⟨I,s,w',out,r⟩ ⟨i1,i2,U,i4,i5,i6⟩;dsimp only at i1 i2 U i4 i5 i6;subst i2;refine aZ (λx=>x.2=(I,s,w',out,r)/\(x.1=ai->out.length<60/\I.2<I.1.length)) ?_ ?_
 .refine bF (λh1=>ar ⟨rfl,λh2=>?_⟩) λ_=>ar ⟨rfl,λh=>(by cases h)⟩
  rw[tD] at h2;dsimp only[au] at h1 h2;exact⟨by omega,h2⟩
 rintro⟨b,x⟩ ⟨e,hb⟩;dsimp only at e hb;subst e;refine aP (λh1=>?_) λ_=>ar ⟨i5,i4⟩
 obtain⟨ho,ht⟩:=hb h1;obtain⟨q0,q1,q2,q3⟩:=id i6;refine aZ (λx=>uU I x.1/\I.2<x.1.2/\x.2.2.1=w'/\SZ (m+x.2.2.2.1.length) x.2.1/\x.2.2.2.1.length<=60/\(∀ e∈x.2.2.2.1,Zq e)/\RB4 x.2.2.2.1.length x.2.2.2.2) ?_ ?_
 .refine ax (abd s U w' hw I i1.p r ⟨by omega,by omega,by omega,by omega⟩) λy hy=>?_
  obtain⟨ev,tp',r'⟩:=y;obtain⟨j1,j2,j3,M,J⟩:=hy;dsimp only at j1 j2 j3 M J;subst j2;have j3:=j3 ht;refine dG (lw rfl (dG (lw rfl (dG (lw rfl (dG (lw rfl (AJ ?_))))))));refine ax (Fl w' s U.nb hwc ev (by omega) (by omega)) λz hz=>?_
  refine ec (λ_=>ar ⟨j1,j3,rfl,U,i4,i5,i6⟩) λh2=>?_
  obtain⟨z1,z2⟩:=z;obtain⟨hE,hS,_⟩:=hz.1 h2;have hS2:=U.step hS (by omega);refine aZ (λx=>x.1=tp'/\x.2.2.1=w'/\x.2.2.2.1=out/\Zq x.2.2.2.2.1/\x.2.2.2.2.2.1=z1/\RB4 (out.length+1) x.2.2.2.2.2.2) ?_ ?_
  .refine aZ (λx=>x.2=(tp',s,w',out,ev,z1,r')) ?_ ?_
   .refine aK (λ_=>ar rfl) λ_=>ar rfl
   .rintro⟨b,x⟩ e;dsimp only at e;subst e;have hk:=U.k;obtain⟨ev1,ev2⟩:=ev;have t0:=hE.t0;have t1:=hE.t1;rw[hwt] at t1;dsimp only at t0 t1;refine aP (λ_=>?_) λ_=>ar ⟨rfl,rfl,rfl,⟨M,J⟩,rfl,⟨by dsimp only;omega,by dsimp only;omega,by dsimp only;omega,by dsimp only;omega⟩⟩
    refine aK (λ_=>?_) λ_=>aK (λ_=>?_) λ_=>aK (λ_=>?_) λ_=>aK (λ_=>?_) λ_=>?_
    .exact aR (by decide) (by dsimp only;omega) (aS (bg (by simp;omega) (by omega) (ar ⟨rfl,rfl,rfl,⟨M,J⟩,rfl,⟨by simp;omega,by dsimp only;omega,by dsimp only;omega,by dsimp only;omega⟩⟩)))
    .exact aR (by decide) (by dsimp only;omega) (aS (bg (by simp;omega) (by omega) (ar ⟨rfl,rfl,rfl,⟨M,J⟩,rfl,⟨by dsimp only;omega,by simp;omega,by dsimp only;omega,by dsimp only;omega⟩⟩)))
    .exact aR (by decide) (by dsimp only;omega) (aS (bg (by simp;omega) (by omega) (ar ⟨rfl,rfl,rfl,⟨M,J⟩,rfl,⟨by dsimp only;omega,by dsimp only;omega,by simp;omega,by dsimp only;omega⟩⟩)))
    .exact aR (by decide) (by dsimp only;omega) (aS (bg (by simp;omega) (by omega) (ar ⟨rfl,rfl,rfl,⟨M,J⟩,rfl,⟨by dsimp only;omega,by dsimp only;omega,by dsimp only;omega,by simp;omega⟩⟩)))
    .dsimp only at *;omega
  .rintro⟨x1,x2,x3,x4,x5,x6,x7⟩ ⟨k1,k2,k3,k4,Z,Y⟩;dsimp only at k1 k2 k3 k4 Z Y;subst k1;subst k2;subst k3;subst Z;refine bg (by simp;omega) (by omega) (ar ⟨j1,j3,rfl,?_,by simp;omega,λe he=>?_,?_⟩)
   .dsimp only;rw[bu,dR,<-pq];exact hS2
   .rcases bP.1 he with he|he
    .exact i5 e he
    .rw[aL] at he;subst he;exact k4
   .dsimp only;rw[bu,dR];exact Y
 rintro⟨tp',s',w'',out',r'⟩ ⟨k1,k2,k3,k4,Z,Y,k7⟩;dsimp only at k1 k2 k3 k4 Z Y k7;have e1:=i1.e;have a1:=k1.p.a1;have e2:=k1.e;refine ar ⟨⟨i1.trans k1,k3,k4,Z,Y,k7⟩,?_⟩;dsimp only;rw[e2,e1] at a1;omega
def C0:List (List UInt8×Int×Int×Bool×Int):=[([120],0,0,aj,0),([121],0,0,aj,1),([118],0,0,ai,0),([113],0,2,aj,0),([113],1,2,aj,0)]
def GA:List (List UInt8×Bool):=[([109],aj),([110],aj),([114],ai)]
def Mf:List (List UInt8×Int):=[([99],0)]
def S_:List (List UInt8):=[[102]]
def v7:List (List UInt8):=[[109,97,105,110],[116,49],[116,50],[116,51]]
structure WX (w:WT):Prop where
 c:w.1=C0
 l:w.2.1=GA
 d:w.2.2.1=Mf
 f:w.2.2.2.1=S_
 t:∃ n,1<=n/\n<=4/\w.2.2.2.2.1=v7.take n
 s:w.2.2.2.2.2.length<=60
 v:SV0 w
structure W0 (w:WT):Prop where
 c:w.1.length=5
 l:w.2.1.length=3
 d:w.2.2.1.length=1
 f:w.2.2.2.1.length=1
 t:w.2.2.2.2.1.length=4
 s:w.2.2.2.2.2.length<=24
 x:WX w
theorem W0.vl {w:WT} (h:W0 w):VL w:=⟨by rw[h.c];decide,by rw[h.l];decide,by rw[h.d];decide,by rw[h.f];decide,by rw[h.t];decide,by rw[h.t];decide,by have:=h.s;omega⟩
def nxS (i j:Nat):Int×Int:=if j=0 then (if i=0 then (0,0) else ((i:Int)-1,6)) else (i,j)
theorem Wm {T:Int} {l:List (Int×Int×Int)} {s:Int×Int×Int}:K0 T (l++[s])=Tr T (K0 T l) s:=by unfold K0;rw[dP];rfl
theorem SH:Ok (nB ()) W0:=by
 unfold nB aY bi bw cu fh bx bB cL aE cC;refine b9 4 (λi x=>x.1=(i:Int)/\x.2.1=C0/\x.2.2.1=GA/\x.2.2.2.1=Mf/\x.2.2.2.2.1=S_/\x.2.2.2.2.2.1=v7/\x.2.2.2.2.2.2.length<=6*i/\K0 4 x.2.2.2.2.2.2=af (nxS i 0)) ?_ ?_ ⟨rfl,rfl,rfl,rfl,rfl,rfl,by simp,rfl⟩
 .rintro i ⟨a,w1,w2,w3,w4,w5,w6⟩ hi ⟨e1,e2,e3,Z,Y,I,e7,U⟩;dsimp only at e1 e2 e3 Z Y I e7 U;subst e1;have hl5:w5.length=4:=by rw[I];rfl
  refine bF (λ_=>?_) λg=>(by dsimp only[au] at g;simp at g;omega)
  refine b9 6 (λj x=>x.1=(j:Int)/\x.2.1=w1/\x.2.2.1=w2/\x.2.2.2.1=w3/\x.2.2.2.2.1=w4/\x.2.2.2.2.2.1=w5/\x.2.2.2.2.2.2.length<=6*i+j/\K0 4 x.2.2.2.2.2.2=af (nxS i j)) ?_ ?_ ⟨rfl,rfl,rfl,rfl,rfl,rfl,by dsimp only;omega,U⟩
  .rintro j ⟨b,v1,v2,v3,v4,v5,v6⟩ hj ⟨d1,d2,d3,d4,d5,d6,d7,d8⟩;dsimp only at d1 d2 d3 d4 d5 d6 d7 d8;subst d1;refine du ?_;refine bg (by simp;omega) (by omega) (ar ?_);dsimp only;refine ⟨gM (by omega),d2,d3,d4,d5,d6,by simp;omega,?_⟩;rw[Wm,d8];by_cases J:j=0
   .subst J;by_cases M:i=0
    .subst M;rfl
    .rw[show nxS i 0=((i:Int)-1,6) by unfold nxS;simp[M],show nxS i (0+1)=((i:Int),1) by unfold nxS;simp];unfold Tr;dsimp only;rw[ay (λh=>by have:=h.1;omega),aF ⟨by omega,by omega,rfl⟩]
   .rw[show nxS i j=((i:Int),(j:Int)) by unfold nxS;simp[J],show nxS i (j+1)=((i:Int),(j:Int)+1) by unfold nxS;simp];unfold Tr;dsimp only;rw[aF ⟨rfl,rfl⟩]
  .rintro⟨b,v1,v2,v3,v4,v5,v6⟩ ⟨d1,d2,d3,d4,d5,d6,d7,d8⟩;dsimp only at d1 d2 d3 d4 d5 d6 d7 d8;subst d1;subst d2;subst d3;subst d4;subst d5;subst d6;refine dv (ar ?_);dsimp only;refine ⟨gM (by omega),e2,e3,Z,Y,I,by omega,?_⟩;rw[d8];unfold nxS;simp
 .rintro⟨a,w1,w2,w3,w4,w5,w6⟩ ⟨e1,e2,e3,Z,Y,I,e7,U⟩;dsimp only at e1 e2 e3 Z Y I e7 U;subst e1;subst e2;subst e3;subst Z;subst Y;subst I;refine bF (λg=>(by dsimp only[au] at g;simp[v7] at g)) λ_=>ar ?_
  refine ⟨rfl,rfl,rfl,rfl,rfl,by dsimp only;omega,rfl,rfl,rfl,rfl,⟨4,by decide,by decide,rfl⟩,by dsimp only;omega,?_⟩;unfold SV0;show K0 4 w6≠ah;rw[U];simp
theorem SZ.mono {n m:Nat} {s:SN} (h:SZ n s) (hnm:n<=m) (hm:m<=100000):SZ m s:=
 ⟨⟨⟨hm,h.nb.sb.lk,λl hl=>dg (h.nb.sb.rd l hl) hnm,h.nb.sb.dn,h.nb.sb.th⟩,h.nb.c,h.nb.f,h.nb.k⟩,h.c,h.f,h.k⟩
theorem VW (w:WT) (I:W0 w):Ok (mI w) λs=>SZ 0 s:=by
 refine (VX w I.vl).mono λs hs=>⟨hs.1,?_,?_,?_⟩
 .rw[hs.2.1,I.c]
 .rw[hs.2.2.1,I.f]
 .rw[hs.2.2.2,I.t]
structure WB (w:WT):Prop where
 c:w.1.length<=12
 l:w.2.1.length<=4
 d:w.2.2.1.length<=2
 f:w.2.2.2.1.length<=2
 t:w.2.2.2.2.1.length<=4
 s:w.2.2.2.2.2.length<=60
theorem VL.wb {w:WT} (h:VL w):WB w:=⟨h.c,h.l,h.d,h.f,h.t,h.s⟩
structure TR (y:WT×List ET):Prop where
 wb:WB y.1
 vl:VL y.1
 ev:∀ e∈y.2,EvF y.1 e
 len:y.2.length<=400
 ls:∀ e∈y.2,Zq e
 wx:WX y.1
 ac:∃ sy ce fu,Acw y.1 y.2 sy ce fu
theorem H9 (L:List Int) (n:Int) (hl:L.length<=9223372036854775807) (hb:∀ x∈L,0<=x/\x<=255):Ok (qf (L,n)) TR:=by
 unfold qf aY bi bw dx cY bx iR jd bB kz aX cL aE cC;refine aZ (λx=>x.length<=600/\∀ z∈x,0<=z/\z<=255) ?_ ?_
 .refine bF (λg=>?_) λg=>?_
  .dsimp only[au] at g;refine dG (e_ (by omega) (e_ (by dsimp only;omega) (ar ⟨by dsimp only;rw[bE];simp;omega,λz I=>hb z (gV I)⟩)))
  .dsimp only[au] at g;exact ar ⟨by dsimp only;omega,hb⟩
 rintro L' ⟨hL,hB⟩;refine ax SH λw J=>?_
 have hvl:=J.vl;refine ax (VW w J) λs hs=>?_
 refine ax (gj 3 (L',0) ⟨by dsimp only;omega,hB,by dsimp only;omega,by dsimp only;omega⟩) λy hy=>?_
 obtain⟨y1,yt⟩:=y;obtain⟨ty,yy0,yy1,_⟩:=hy;have yy1:=yy1 (by decide);dsimp only at ty yy0 yy1;have ew:bk .i64 (1+y1)=1+y1:=ic (by omega) (by omega);refine pZ (λx=>(1+y1+1-x.1).toNat) (λx=>1<=x.1/\x.1<=2+y1/\x.2.1=yt/\x.2.2.1=w/\x.2.2.2.1=s/\((x.2.2.2.2.length:Nat):Int)<=2*x.1/\∀ e∈x.2.2.2.2,Zq e) ?_ ⟨by dsimp only;omega,by dsimp only;omega,rfl,rfl,rfl,by simp,λe he=>?_⟩
 .rintro⟨a,t,w',s',es⟩ ⟨e1,e2,e3,e4,e5,e6,e7⟩;dsimp only at e1 e2 e3 e4 e5 e6 e7;subst e3;subst e4;subst e5;refine eY (λg=>?_) λg=>?_
  .dsimp only at g;rw[ew] at g;refine bg (by simp;omega) (by omega) (ar ?_);dsimp only;rw[ic (n:=a+1) (by omega) (by omega)];refine ⟨⟨by omega,by omega,rfl,rfl,rfl,by simp;omega,λe he=>?_⟩,by omega⟩;rcases bP.1 he with he|he
   .exact e7 e he
   .simp only[bm,ct,f_] at he;rcases he with he|he<;>subst he<;>exact⟨by simp,by simp⟩
  .refine ax (P:=TR) ?_ λr hr=>ar hr
   refine b9 es.length (λi x=>x.1=(i:Int)/\TP x.2.1/\x.2.2.1=w'/\SZ i x.2.2.2.1/\x.2.2.2.2.1=es/\x.2.2.2.2.2.length<=i/\∀ e∈x.2.2.2.2.2,Zq e) ?_ ?_ ⟨rfl,ty.p,rfl,hs,rfl,by simp,λe he=>(by cases he)⟩
   .rintro i ⟨b,t,w',s',es',out⟩ hi ⟨d1,U,Z,M,Y,d6,d7⟩;dsimp only at d1 U Z M Y d6 d7;subst d1;subst Z;subst Y;refine du ?_;refine aZ (λx=>TP x.1/\x.2.1=w'/\SZ (i+1) x.2.2.1/\x.2.2.2.1=es'/\x.2.2.2.2.length<=i+1/\∀ e∈x.2.2.2.2,Zq e) ?_ ?_
    .refine ch (ch (aS ?_));have I:=e7 _ (bH (T:=.st (.pr (.int .i64) (.pr (.int .i64) (.pr (.int .i64) (.pr (.int .i64) (.pr (.int .i64) (.pr (.sl (.int .i64)) (.sl (.int .i64))))))))) (xs:=es') (j:=(i:Int)) (by omega) (by omega));revert I;generalize (aJ _ _)=z;intro I;refine ax (Fl w' s' M.nb (by rw[J.d];decide) z (by have:=I.1;omega) (by have:=I.2;omega)) λv hv=>?_
     refine aP (λh=>?_) λh=>ar ⟨U,rfl,M.mono (by omega) (by omega),rfl,by dsimp only;omega,d7⟩
     refine bg (by simp;omega) (by omega) (ar ⟨U,rfl,M.step (hv.1 h).2.1 (by omega),rfl,by simp;omega,λe he=>?_⟩);rcases bP.1 he with he|he
     .exact d7 e he
     .rw[aL] at he;subst he;exact I
    .rintro⟨t,w'',s'',es'',out'⟩ ⟨f1,f2,f3,f4,f5,f6⟩;dsimp only at f1 f2 f3 f4 f5 f6;refine ar ?_;dsimp only;exact⟨gM (by omega),f1,f2,f3,f4,f5,f6⟩
   .rintro⟨b,t,w',s',es',out⟩ ⟨d1,U,Z,M,Y,d6,d7⟩;dsimp only at d1 U Z M Y d6 d7;subst d1;subst Z;subst Y;refine dv ?_;refine ax (P:=TR) ?_ λr hr=>ar hr
    have hmin:GW (ik n 0) 60<=60:=by
     unfold GW;split
     .omega
     .rename_i h;simp[fO] at h;exact h
    refine ax (adz (by omega) s' M w' J.c J.t (by rw[J.d];decide) _ hmin t U) λv hv=>?_
    refine bg (by have:=hv.2;dsimp only;omega) (by omega) ?_;have hall:∀ e∈out++v.1,Zq e:=λe he=>by
     rcases bP.1 he with he|he
     .exact d7 e he
     .exact hv.1 e he
    refine ax (ad3 w' (out++v.1) λe he=>by have:=hall e he;exact⟨by have:=this.1;omega,by have:=this.2;omega⟩) λc hc=>?_
    refine b_ (λ_=>?_) λh=>?_
    .exact ax SH λu hu=>ar ⟨hu.vl.wb,hu.vl,λe he=>(by cases he),by simp,λe he=>(by cases he),hu.x,_,_,_,.nil⟩
    .exact ar ⟨(hc h).1.1.wb,(hc h).1.1,(hc h).2.1,by have:=hv.2;simp;omega,hall,J.x,(hc h).2.2⟩
 .rw[aL] at he;subst he;exact⟨by simp,by simp⟩
abbrev IT:Type:=Int×Int×Int×Int×Int×Int
abbrev CT:Type:=WT×List (Int×List IT)
theorem rR (a b:Int):jh (a,b)=af (decide (0<=a/\a<b)):=by
 refine cE ?_;unfold jh iR aE;with_reducible repeat' first|(refine OS.ok ?_;constructor)|refine IM.mk λ_=>?_
 .by_cases h:a<b<;>simp[*,fO]
 .simp;omega
theorem Fm (k:Int):pD k=af (decide (1<=k/\k<=5)):=by
 refine cE ?_;unfold pD iR aE;with_reducible repeat' first|(refine OS.ok ?_;constructor)|refine IM.mk λ_=>?_
 .by_cases h:k<=5<;>simp[*,c7]
 .simp;omega
def iI (i:IT):List Int:=
 if i.1=1\/i.1=6\/i.1=10\/i.1=27 then [i.2.1]
 else if i.1=2\/i.1=3 then [i.2.1,i.2.2.1]
 else if i.1=4 then [i.2.1,i.2.2.1,i.2.2.2.1]
 else if i.1=7 then [i.2.1,i.2.2.2.1]
 else if i.1=8\/i.1=26 then [i.2.2.1]
 else if i.1=9 then [i.2.2.1,i.2.2.2.1]
 else []
theorem tK (i:IT):jB i=af (iI i):=by
 obtain⟨I,i2⟩:=i;unfold jB iI aY bi bw bd aE;by_cases h1:I=1
 .subst h1;rfl
 by_cases h2:I=6
 .subst h2;rfl
 by_cases h3:I=10
 .subst h3;rfl
 by_cases h4:I=27
 .subst h4;rfl
 by_cases h5:I=2
 .subst h5;rfl
 by_cases h6:I=3
 .subst h6;rfl
 by_cases Z:I=4
 .subst Z;rfl
 by_cases Y:I=7
 .subst Y;rfl
 by_cases U:I=8
 .subst U;rfl
 by_cases M:I=26
 .subst M;rfl
 by_cases J:I=9
 .subst J;rfl
 simp only[h1,h2,h3,h4,h5,h6,Z,Y,U,M,J,cz,bcF,jnr,f_,eA]
theorem CC (z:IT):(iI z).length<=3:=by
 unfold iI
 (repeat' split)<;>simp
theorem aak (l:List IT) (a:Int) (hl:l.length<=1000000):Ok (pg (l,a)) λ_=>True:=by
 unfold pg bd bx iR bD aX cL aE cC;refine pZ (λx=>((l.length:Int)+1-x.2).toNat) (λx=>0<=x.2/\x.2<=(l.length:Int)+1) ?_ ⟨by dsimp only;omega,by dsimp only;omega⟩;rintro⟨(a:Int),(n:Int)⟩ ⟨h0,h1⟩;dsimp only at h0 h1;refine eY (λg=>?_) λ_=>ar trivial
 dsimp only[au] at g;refine aZ (λ_=>True) ?_ λb _=>ar ?_
 .refine aZ (λb=>b=aj->0<=a/\a<(l.length:Int)) ?_ ?_
  .refine bF (λ_=>ar λh=>(by cases h)) λI=>ar λh=>?_
   rw[lY] at h;dsimp only[au] at h I;exact⟨I,h⟩
  .intro b hb;refine aP (λ_=>ar trivial) λh=>?_
   obtain⟨q0,J⟩:=hb h;refine aR q0 (by dsimp only;omega) (aS ?_);refine aV (Fm _) ?_;refine ec (λ_=>ar trivial) λ_=>?_
   refine aR q0 (by dsimp only;omega) (aS ?_);refine aK (λ_=>?_) λ_=>ar trivial
   exact aR q0 (by dsimp only;omega) (aS (ar trivial))
 .dsimp only;rw[ic (by omega) (by omega)];exact⟨⟨by omega,by omega⟩,by omega⟩
structure AR (w:WT) (b n:Int):Prop where
 b0:0<=b
 b1:b<w.1.length
 ix:(aJ (T:=PP) w.1 b).2.1=0
 sz:¬(aJ (T:=PP) w.1 b).2.2.1=0
 sn:(aJ (T:=PP) w.1 b).2.2.1=n
theorem Su (w:WT) (b n:Int):Ok (mW (w,b,n)) λr=>r=ai->AR w b n:=by
 unfold mW bd jd bD aX aE;refine gy ?_;refine aV (rR _ _) ?_;refine aK (λh=>?_) λ_=>ar (ar λh=>(by cases h))
 refine aR h.1 h.2 (aS (aK (λh1=>?_) λ_=>ar (ar λh=>(by cases h))));refine aR h.1 h.2 (aS (b_ (λh2=>?_) λ_=>ar (ar λh=>(by cases h))));exact aR h.1 h.2 (aS (ar (ar λI=>⟨h.1,h.2,h1,h2,bt I⟩)))
theorem T7 (w:WT) (i:IT):Ok (lz (w,i)) λb=>b=ai->(i.1=7->AR w i.2.2.1 i.2.2.2.2.1)/\(i.1=9->AR w i.2.1 i.2.2.2.2.1):=by
 have I:∀ {b:Bool},¬i.1=7->¬i.1=9->b=ai->(i.1=7->AR w i.2.2.1 i.2.2.2.2.1)/\(i.1=9->AR w i.2.1 i.2.2.2.2.1):=λh1 h2 _=>⟨λh=>(h1 h).elim,λh=>(h2 h).elim⟩
 unfold lz aY bi bw cu dU bd iR bD aX aE;simp only[rR,WE];refine aK (λU=>?_) λ_=>?_
 .refine aZ (λ_=>True) ?_ λ_ _=>ar (I (by have U:i.1=6:=U;omega) (by have U:i.1=6:=U;omega))
  refine aK (λh=>?_) λ_=>ar trivial
  exact aR h.1 h.2 (aS (ar trivial))
 refine aK (λJ=>?_) λ_=>?_
 .refine aZ (λ_=>True) ?_ λ_ _=>ar (I (by have J:i.1=8:=J;omega) (by have J:i.1=8:=J;omega))
  refine aK (λh=>?_) λ_=>ar trivial
  exact aR h.1 h.2 (aS (ar trivial))
 refine aK (λM=>?_) λY=>?_
 .exact ax (Su _ _ _) λ_ h=>ar λh2=>⟨λ_=>h h2,λh9=>by have M:i.1=7:=M;omega⟩
 refine aK (λh9=>?_) λZ=>?_
 .exact ax (Su _ _ _) λ_ h=>ar λh2=>⟨λM=>(Y M).elim,λ_=>h h2⟩
 have I:∀ {b:Bool},b=ai->(i.1=7->AR w i.2.2.1 i.2.2.2.2.1)/\(i.1=9->AR w i.2.1 i.2.2.2.2.1):=I Y Z;refine aZ (λx=>x.2=(w,i)) (aK (λ_=>ar rfl) λ_=>ar rfl) ?_;rintro⟨b,x⟩ e;dsimp only at e;subst e;refine aP (λ_=>?_) λ_=>?_
 .refine aZ (λ_=>True) ?_ λ_ _=>ar I
  refine aK (λh=>?_) λ_=>ar trivial
  exact aR h.1 h.2 (aS (ar trivial))
 refine aZ (λx=>x.2=(w,i)) (aK (λ_=>ar rfl) λ_=>aK (λ_=>ar rfl) λ_=>aK (λ_=>ar rfl) λ_=>ar rfl) ?_;rintro⟨b,x⟩ e;dsimp only at e;subst e;refine aP (λ_=>?_) λ_=>?_
 .refine aZ (λ_=>True) ?_ λ_ _=>ar I
  refine aK (λh=>?_) λ_=>ar trivial
  exact aR h.1 h.2 (aS (ar trivial))
 refine aZ (λx=>x.2=(w,i)) (aK (λ_=>ar rfl) λ_=>aK (λ_=>ar rfl) λ_=>ar rfl) ?_;rintro⟨b,x⟩ e;dsimp only at e;subst e;refine aP (λ_=>ar I) λ_=>?_
 refine aZ (λx=>x.2=(w,i)) (aK (λ_=>ar rfl) λ_=>ar rfl) ?_;rintro⟨b,x⟩ e;dsimp only at e;subst e;with_reducible repeat' first|(refine OS.ok ?_;constructor)|refine IM.mk λ_=>?_
 all_goals exact I
structure VI (n:Int) (i:IT):Prop where
 o1:1<=i.1
 o2:i.1<=28
 r:∀ j∈iI i,0<=j/\j<n
structure VT (t:Int×List IT):Prop where
 r0:0<=t.1
 r1:t.1<=32
 i:∀ i∈t.2,VI t.1 i
structure VJ (w:WT) (k:Int) (i:IT):Prop where
 a7:i.1=7->AR w i.2.2.1 i.2.2.2.2.1
 a9:i.1=9->AR w i.2.1 i.2.2.2.2.1
 se:i.1=28->i.2.2.2.2.2= -1
 si:¬i.1=28->0<=i.2.2.2.2.2/\i.2.2.2.2.2<w.2.2.2.2.2.length/\(aJ (T:=xX) w.2.2.2.2.2 i.2.2.2.2.2).1=k
theorem H0 (w:WT) (k:Int) (c:Int×List IT) (hc:c.2.length<=1000000):Ok (ii (w,k,c)) λb=>b=ai->VT c/\∀ i∈c.2,VJ w k i:=by
 unfold ii aY bi bw cu bK cY pU bd bx jd bD aX cL aE cC;refine aZ (λx=>x.2=(w,c)/\(x.1=aj->0<=c.1/\c.1<=32)) ?_ ?_
 .refine bF (λ_=>ar ⟨rfl,λh=>(by cases h)⟩) λh0=>bF (λ_=>ar ⟨rfl,λh=>(by cases h)⟩) λh1=>ar ⟨rfl,λ_=>⟨h0,h1⟩⟩
 rintro⟨b,x⟩ ⟨e,hb⟩;dsimp only at e hb;subst e;refine aP (λ_=>ar λh=>(by cases h)) λh=>?_
 obtain⟨r0,r1⟩:=hb h;refine b9 c.2.length (λi x=>x.1=(i:Int)/\x.2=(w,c)/\∀ q:Nat,q<i->VI c.1 (aJ (T:=Bw) c.2 (q:Int))/\VJ w k (aJ (T:=Bw) c.2 (q:Int))) ?_ ?_ ⟨rfl,rfl,λk hk=>by omega⟩
 .rintro i ⟨a,x⟩ hi ⟨e1,e2,e3⟩;dsimp only at e1 e2 e3;subst e1;subst e2;refine du ?_;refine ch (aS ?_);generalize Y:(aJ _ _)=z;refine aZ (λx=>x.2=(w,c,z)/\(x.1=aj->(1<=z.1/\z.1<=28)/\(z.1=7->AR w z.2.2.1 z.2.2.2.2.1)/\(z.1=9->AR w z.2.1 z.2.2.2.2.1))) ?_ ?_
  .refine bF (λ_=>ar ⟨rfl,λh=>(by cases h)⟩) λh0=>bF (λ_=>ar ⟨rfl,λh=>(by cases h)⟩) λh1=>?_
   refine aP (λ_=>ar ⟨rfl,λh=>(by cases h)⟩) λ_=>?_
   refine ax (T7 w z) λy Z=>?_
   refine ec (λ_=>ar ⟨rfl,λh=>(by cases h)⟩) λhyt=>?_
   exact ax (aak c.2 _ hc) λy _=>ar ⟨rfl,λ_=>⟨⟨h0,h1⟩,Z hyt⟩⟩
  rintro⟨b,x⟩ ⟨e,hb⟩;dsimp only at e hb;subst e;refine aP (λ_=>ar λh=>(by cases h)) λh=>?_
  obtain⟨⟨o1,o2⟩,a7,a9⟩:=hb h;refine aZ (λx=>x.2=(w,c,z)/\(x.1=aj->(z.1=28->z.2.2.2.2.2= -1)/\(¬z.1=28->0<=z.2.2.2.2.2/\z.2.2.2.2.2<w.2.2.2.2.2.length/\(aJ (T:=xX) w.2.2.2.2.2 z.2.2.2.2.2).1=k))) ?_ ?_
  .simp only[rR,WE];refine aK (λI=>?_) λI=>?_
   .refine b_ (λ_=>ar ⟨rfl,λh=>(by cases h)⟩) λhm=>?_
    exact b_ (λh=>(h I).elim) λ_=>ar ⟨rfl,λ_=>⟨λ_=>hm,λh=>(h I).elim⟩⟩
   .refine b_ (λ_=>?_) λh=>(I h).elim
    refine b_ (λ_=>ar ⟨rfl,λh=>(by cases h)⟩) λh=>?_
    exact aR h.1 h.2 (aS (ar ⟨rfl,λh2=>⟨λh3=>(I h3).elim,λ_=>⟨h.1,h.2,by simpa using h2⟩⟩⟩))
  rintro⟨b,x⟩ ⟨e,hsi⟩;dsimp only at e hsi;subst e;refine aP (λ_=>ar λh=>(by cases h)) λhbs=>?_
  obtain⟨se,si⟩:=hsi hbs;refine aZ (λx=>x.2=(w,c,z)) ?_ ?_
  .simp only[rR,WE];with_reducible repeat' first|(refine OS.ok ?_;constructor)|refine IM.mk λ_=>?_
   all_goals rfl
  rintro⟨b,x⟩ e;dsimp only at e;subst e;refine aP (λ_=>ar λh=>(by cases h)) λ_=>?_
  refine aV (tK z) ?_;refine b9 (iI z).length (λj x=>x.1=(j:Int)/\x.2=(w,c)/\∀ k:Nat,k<j->0<=aJ (T:=.int .i64) (iI z) (k:Int)/\aJ (T:=.int .i64) (iI z) (k:Int)<c.1) ?_ ?_ ⟨rfl,rfl,λk hk=>by omega⟩
  .rintro j ⟨a,x⟩ hj ⟨U,M,J⟩;dsimp only at U M J;subst U;subst M;refine du ?_;refine ch (aS ?_);refine aV (rR _ _) ?_;refine b_ (λ_=>ar λh=>(by cases h)) λh=>ar ?_
   dsimp only at h ⊢;have hj32:(iI z).length<=3:=CC z;refine ⟨gM (by omega),rfl,λk hk=>?_⟩;rcases bZ k j with h1|h1
   .exact J k h1
   .rw[show k=j by omega];exact h
  .rintro⟨a,x⟩ ⟨U,M,J⟩;dsimp only at U M J;subst U;subst M;refine dv (ar ?_);dsimp only;refine ⟨gM (by omega),rfl,λk hk=>?_⟩;rcases bZ k i with h1|h1
   .exact e3 k h1
   .rw[show k=i by omega,Y];exact⟨⟨o1,o2,im (T:=.int .i64) J⟩,⟨a7,a9,se,si⟩⟩
 .rintro⟨a,x⟩ ⟨e1,e2,e3⟩;dsimp only at e1 e2 e3;subst e1;subst e2;refine dv (ar λ_=>⟨⟨r0,r1,im (T:=Bw) (p:=VI c.1) λq hq=>(e3 q hq).1⟩,im (T:=Bw) (p:=VJ w k) λq hq=>(e3 q hq).2⟩)
structure VC (c:CT):Prop where
 vl:VL c.1
 tl:c.2.length=c.1.2.2.2.2.1.length
 t:∀ t∈c.2,VT t
 sv:SV0 c.1
 j:∀ k:Nat,k<c.2.length->∀ i∈(aJ (T:=vZ) c.2 (k:Int)).2,VJ c.1 (k:Int) i
structure CB (c:CT):Prop where
 th:c.2.length<=1000000
 ins:∀ t∈c.2,t.2.length<=1000000
 rg:∀ t∈c.2,1<=t.1
 wx:WX c.1
 ok:jA c=af ai
theorem SM (c:CT) (h1:c.2.length<=1000000) (h2:∀ t∈c.2,t.2.length<=1000000):Ok (jA c) λb=>b=ai->VC c:=by
 obtain⟨w,l⟩:=c;dsimp only at h1 h2;unfold jA bw bx bD aX cL aE cC;refine aZ (λx=>x.2=(w,l)/\(x.1=aj->(VL w/\SV0 w)/\l.length=w.2.2.2.2.1.length)) ?_ ?_
 .refine ax (Bn w) λb hb=>?_
  refine ec (λ_=>ar ⟨rfl,λh=>(by cases h)⟩) λh=>ar ⟨rfl,λM=>⟨hb h,?_⟩⟩
  simp at M;omega
 rintro⟨b,x⟩ ⟨e,I⟩;dsimp only at e I;subst e;refine aP (λ_=>ar λh=>(by cases h)) λh=>?_
 obtain⟨⟨hv,hsv⟩,hl⟩:=I h;refine b9 l.length (λi x=>x.1=(i:Int)/\x.2=(w,l)/\∀ k:Nat,k<i->VT (aJ (T:=vZ) l (k:Int))/\∀ q∈(aJ (T:=vZ) l (k:Int)).2,VJ w (k:Int) q) ?_ ?_ ⟨rfl,rfl,λk hk=>by omega⟩
 .rintro i ⟨a,x⟩ hi ⟨e1,e2,e3⟩;dsimp only at e1 e2 e3;subst e1;subst e2;refine du ?_;refine ch (aS ?_);have hm:=bH (T:=vZ) (xs:=l) (j:=(i:Int)) (by omega) (by omega);revert hm;generalize J:(aJ (T:=vZ) l (i:Int))=z;intro hm;refine ax (H0 w _ z (h2 z hm)) λb hb=>?_
  refine ec (λ_=>ar λh=>(by cases h)) λh=>ar ?_
  dsimp only;refine ⟨gM (by omega),rfl,λk hk=>?_⟩;rcases bZ k i with h1|h1
  .exact e3 k h1
  .rw[show k=i by omega,J];exact hb h
 .rintro⟨a,x⟩ ⟨e1,e2,e3⟩;dsimp only at e1 e2 e3;subst e1;subst e2;refine dv (ar λ_=>⟨hv,hl,im (T:=vZ) (p:=VT) λk hk=>(e3 k hk).1,hsv,λk hk=>(e3 k hk).2⟩)
abbrev TT:Type:=Int×List Int×List (List Int)×Int
structure TL (F:Int->Prop) (E:Nat) (l:List Int):Prop where
 a:Hl l
 m:∀ y∈l,0<=y/\y<(E:Int)
 f:∀ y∈l,F y
theorem Ph:∀ (l:List Int) (lo hi:Int),Hl l->(∀ y∈l,lo<=y/\y<hi)->(l.length:Int)<=max 0 (hi-lo)
 |[],lo,hi,_,_=>by simp;omega
 |x::r,lo,hi,h,hm=>by
  have h1:=hm x (dh ..);have h2:=Ph r (x+1) hi h.2 λy I=>⟨by have:=h.1 y I;omega,(hm y (cH _ I)).2⟩
  rw[bY];omega
variable {F:Int->Prop}
theorem TL.len {E:Nat} {l:List Int} (h:TL F E l):l.length<=E:=by
 have:=Ph l 0 E h.a h.m;omega
theorem TL.nil (E:Nat):TL F E []:=⟨trivial,λy I=>(by cases I),λy I=>(by cases I)⟩
theorem TL.uni {E:Nat} {a b:List Int} (J:TL F E a) (hb:TL F E b):TL F E (xg a b):=
 ⟨PO a b,λy I=>by
   rcases H3.1 I with h|h
   .exact J.m y h
   .exact hb.m y h,λy I=>(H3.1 I).elim (J.f y) (hb.f y)⟩
theorem TL.mono {E M:Nat} {J:Int->Prop} {l:List Int} (h:TL F E l) (hf:E<=M) (U:∀ y,F y->J y):TL J M l:=⟨h.a,λy I=>⟨(h.m y I).1,by have:=(h.m y I).2;omega⟩,λy I=>U y (h.f y I)⟩
structure TH (F:Int->Prop) (E:Nat) (s:TT):Prop where
 r:s.2.1.length<=32
 t:s.2.2.1.length<=32
 l:∀ l∈s.2.2.1,TL F E l
 e0:0<=s.2.2.2
 e1:s.2.2.2<=(E:Int)
theorem TH.zero (E:Nat):TH F E (0,[],[],0):=⟨by simp,by simp,λl hl=>(by cases hl),by simp,by simp⟩
theorem TH.mono {E J:Nat} {I:Int->Prop} {s:TT} (h:TH F E s) (hf:E<=J) (M:∀ y,F y->I y):TH I J s:=⟨h.r,h.t,λl hl=>(h.l l hl).mono hf M,h.e0,by have:=h.e1;omega⟩
theorem dc (s:TT) (E:Nat) (Y:E<=100000) (h:TH F E s):co s=af ((s.1,s.2.2.2),s.2.1,s.2.2.1):=by
 obtain⟨h1,h2,U,h4,Z⟩:=h;refine cE ?_;unfold co aY bi bw bK cY bx bB bD aX cL aE cC;refine bg (by simp;omega) (by omega) ?_;refine b9 s.2.2.1.length (λi x=>x.1=(i:Int)/\x.2.1=s/\x.2.2.2.1=(s.1,s.2.2.2)/\x.2.2.2.2.1=s.2.1/\x.2.2.2.2.2=s.2.2.1.take i) ?_ ?_ ⟨rfl,rfl,rfl,rfl,rfl⟩
 .rintro i ⟨a,b,c,d,e,f⟩ hi ⟨e1,e2,e3,J,I⟩;dsimp only at e1 e2 e3 J I;subst e1;subst e2;subst I;refine du ?_;refine ch (aS ?_);have M:=(U _ (bH (T:=.sl (.int .i64)) (xs:=b.2.2.1) (j:=(i:Int)) (by omega) (by omega))).len;refine bg (by simp only[jS,bN];exact dg M (by omega)) (by omega) ?_;refine bg (by simp;omega) (by omega) (ar ?_);dsimp only;refine ⟨gM (by omega),rfl,e3,J,?_⟩;rw[mD (T:=.sl (.int .i64)) hi];rfl
 .rintro⟨a,b,c,d,e,f⟩ ⟨e1,e2,e3,J,I⟩;dsimp only at e1 e2 e3 J I;subst e1;subst e2;subst I;refine dv (ar ?_);show (d,e,_)=_;rw[e3,J,cP]
theorem v8 (b:Bool):Ok (fU b) λ_=>True:=by
 unfold fU;with_reducible repeat' first|(refine OS.ok ?_;constructor)|refine IM.mk λ_=>?_
 all_goals trivial
theorem Fy (n:Int):Ok (md n) λ_=>True:=by
 unfold md bx aE;with_reducible repeat' first|(refine OS.ok ?_;constructor)|refine IM.mk λ_=>?_
 all_goals trivial
theorem acg (x:Int×Int):Ok (uk x) λ_=>True:=by
 unfold uk bd;refine aK (λ_=>ar trivial) λ_=>aK (λ_=>?_) λ_=>ar trivial
 exact ax (v8 _) λ_ _=>ar trivial
theorem ZD (x:Int×Int×Int):Ok (sa x) λ_=>True:=by
 unfold sa bd jd bB aE;have t1:∀ b,Ok (obind (fU b) λy=>af (y,ai)) λ_=>True:=λb=>ax (v8 _) λ_ _=>ar trivial
 refine aK (λ_=>ar trivial) λ_=>aK (λ_=>ar trivial) λ_=>aK (λ_=>ar trivial) λ_=>?_
 refine aK (λ_=>aK (λ_=>ar trivial) λh=>yR h (ar trivial)) λ_=>?_
 refine aK (λ_=>aK (λ_=>ar trivial) λh=>yR h (ar trivial)) λ_=>?_
 refine aK (λ_=>t1 _) λ_=>aK (λ_=>t1 _) λ_=>aK (λ_=>t1 _) λ_=>aK (λ_=>t1 _) λ_=>aK (λ_=>t1 _) λ_=>aK (λ_=>t1 _) λ_=>?_
 refine aK (λ_=>aZ (λ_=>True) (b_ (λ_=>ax (v8 _) λ_ _=>ar trivial) λ_=>ax (v8 _) λ_ _=>ar trivial) λ_ _=>ar trivial) λ_=>?_
 exact aK (λ_=>aZ (λ_=>True) (b_ (λ_=>ax (v8 _) λ_ _=>ar trivial) λ_=>ax (v8 _) λ_ _=>ar trivial) λ_ _=>ar trivial) λ_=>ar trivial
theorem XJ (E:Nat) (hE:E<=100000) (i:IT) (p:Int×Int) (R:List Int) (T:List (List Int)) (hr:∀ j∈iI i,0<=j/\j<(R.length:Int)) (o1:1<=i.1) (o2:i.1<=5) (hR:R.length<=32) (I:T.length=R.length) (hl:∀ l∈T,TL F E l):Ok (wv ((i,p),R,T)) λy=>y.1.1.2=p.2/\y.2.1.length=R.length/\y.2.2.length=T.length/\∀ l∈y.2.2,TL F E l:=by
 unfold wv aY bi bw ck bd bx bB bD kz aX cL aE cC;refine aV (tK i) ?_;have h3:=CC i;refine b9 (iI i).length (λj x=>x.1=(j:Int)/\x.2.1=R/\x.2.2.1=T/\x.2.2.2.1=i/\x.2.2.2.2.1=p) ?_ ?_ ⟨rfl,rfl,rfl,rfl,rfl⟩
 .rintro j ⟨a,b,c,d,e⟩ hj ⟨e1,e2,e3,Z,M⟩;dsimp only at e1 e2 e3 Z M;subst e1;subst e2;subst e3;subst Z;refine du ?_;have hz:=hr _ (bH (T:=.int .i64) (xs:=iI d) (j:=(j:Int)) (by omega) (by omega));refine aZ (λx=>x.2=(b,c,d,e)/\x.1=aj) ?_ ?_
  .refine ch (aS ?_);refine bF (λg=>?_) λ_=>?_
   .dsimp only at g;omega
   refine ch (aS (ar ⟨rfl,?_⟩));dsimp only;rw[lY];exact hz.2
  rintro⟨b',x⟩ ⟨Y,U⟩;dsimp only at Y U;subst Y;subst U;refine aP (λh=>(by cases h)) λ_=>ar ?_
  dsimp only;exact⟨gM (by omega),rfl,rfl,rfl,M⟩
 .rintro⟨a,b,c,d,e⟩ ⟨e1,e2,e3,Z,M⟩;dsimp only at e1 e2 e3 Z M;subst e1;subst e2;subst e3;subst Z;refine dv ?_;obtain⟨e,e'⟩:=e;dsimp only at M;subst M;refine ax (P:=λy=>y.1.1.2=e.2/\y.2.1.length=b.length/\y.2.2.length=c.length/\∀ l∈y.2.2,TL F E l) ?_ λr hr=>ar hr
  have hA:d.1≠5->0<=d.2.1/\d.2.1<(b.length:Int):=λh5=>hr _ (by
   unfold iI;(repeat' split)<;>simp<;>omega)
  have hB:2<=d.1->d.1≠5->0<=d.2.2.1/\d.2.2.1<(b.length:Int):=λh2 h5=>hr _ (by
   unfold iI;(repeat' split)<;>simp<;>omega)
  have hC:d.1=4->0<=d.2.2.2.1/\d.2.2.2.1<(b.length:Int):=λh5=>hr _ (by
   unfold iI;(repeat' split)<;>simp<;>omega)
  have hg:∀ {j:Int},0<=j->j<(b.length:Int)->TL F E (aJ (T:=.sl (.int .i64)) c j):=λh0 h1=>hl _ (bH (T:=.sl (.int .i64)) (xs:=c) h0 (by rw[I];exact h1))
  refine aZ (λx=>x.2.1=b/\x.2.2.1=c/\x.2.2.2.1=d/\x.2.2.2.2.1=e/\TL F E x.1.2.2/\d.1≠5) ?_ ?_
  .refine aK (λ_=>ar ⟨rfl,rfl,rfl,hl⟩) λJ=>?_
   refine aK (λ_=>ar ⟨rfl,rfl,rfl,rfl,TL.nil E,J⟩) λn1=>?_
   dsimp only at n1 J;obtain⟨b0,b1⟩:=hB (by omega) J;refine aK (λ_=>?_) λn2=>?_
   .refine aR b0 b1 (aR b0 b1 (aS ?_));refine aR b0 (by dsimp only;rw[I];exact b1) (aR b0 (by dsimp only;rw[I];exact b1) (aS ?_));exact ar ⟨rfl,rfl,rfl,rfl,hg b0 b1,J⟩
   refine aK (λ_=>?_) λn3=>?_
   .refine ax (Fy _) λy _=>?_
    refine aR b0 b1 (aR b0 b1 (aS ?_));refine ax (acg _) λy _=>?_
    refine aR b0 (by dsimp only;rw[I];exact b1) (aR b0 (by dsimp only;rw[I];exact b1) (aS ?_));exact ar ⟨rfl,rfl,rfl,rfl,hg b0 b1,J⟩
   dsimp only at n2 n3;obtain⟨c0,c1⟩:=hC (by omega);refine ax (Fy _) λy _=>?_
   refine aR b0 b1 (aR b0 b1 (aS ?_));refine aR c0 c1 (aR c0 c1 (aS ?_));refine ax (ZD _) λy _=>?_
   refine aR b0 (by dsimp only;rw[I];exact b1) (aR b0 (by dsimp only;rw[I];exact b1) (aS ?_));refine aR c0 (by dsimp only;rw[I];exact c1) (aR c0 (by dsimp only;rw[I];exact c1) (aS ?_));have g1:=hg b0 b1;have g2:=hg c0 c1;refine aV (SS _ _ (dg g1.len (by omega)) (dg g2.len (by omega))) ?_;exact ar ⟨rfl,rfl,rfl,rfl,g1.uni g2,J⟩
  rintro⟨⟨v,ok,tn⟩,b',c',d',e',e''⟩ ⟨Y,U,f3,f4,f5,f6⟩;dsimp only at Y U f3 f4 f5 f6;subst Y;subst U;subst f3;subst f4;obtain⟨a0,a1⟩:=hA f6;have ht:=f5.len;refine bg (by simp;omega) (by omega) ?_;refine aR a0 a1 (aR a0 a1 (aR a0 (by dsimp only;rw[I];exact a1) (aR a0 (by dsimp only;rw[I];exact a1) (ar ?_))));refine ⟨rfl,bT ..,bT ..,λl hm=>?_⟩;rcases Cu hm with h|h
  .exact hl l h
  .rw[h];exact f5
theorem Zb (E:Nat) (Z:E<=100000) (c:Int×List IT) (hc:c.2.length<=1000000) (hv:VT c) (s:TT) (h:TH F E s):Ok (mV (c,s)) λy=>TH F E y.1/\(y.1.2.1.length=0\/y.1.2.2.2=s.2.2.2):=by
 unfold mV aY bi bw bK dx cY bd bx iR jd bB bD aX cL aE cC;have J:=h;obtain⟨h1,h2,h3,h4,h5⟩:=h;refine aZ (λx=>x.2.1=c/\x.2.2.1=s/\(x.1=aj->(s.2.1.length:Int)=c.1/\(s.2.2.1.length:Int)=c.1)) ?_ ?_
 .refine b_ (λ_=>ar ⟨rfl,rfl,λh=>(by cases h)⟩) λg=>ar ⟨rfl,rfl,λh=>?_⟩
  simp at h;exact⟨g,h⟩
 rintro⟨b,c',s',z⟩ ⟨e1,e2,e3⟩;dsimp only at e1 e2 e3;subst e1;subst e2;refine aP (λ_=>ar ⟨TH.zero E,.inl rfl⟩) λhb=>?_
 obtain⟨q1,q2⟩:=e3 hb;refine aV (dc s' E Z J) ?_;refine pZ (λx=>((c'.2.length:Int)+1-x.1).toNat) (λx=>0<=x.1/\x.1<=(c'.2.length:Int)+1/\x.2.1=c'/\x.2.2.1.2=s'.2.2.2/\x.2.2.2.2.1.length=s'.2.1.length/\x.2.2.2.2.2.length=s'.2.2.1.length/\∀ l∈x.2.2.2.2.2,TL F E l) ?_ ⟨by dsimp only;omega,by dsimp only;omega,rfl,rfl,rfl,rfl,h3⟩;rintro⟨(n:Int),c,⟨(I:Int),ev⟩,z',R,T⟩ ⟨n0,n1,e1,e2,e3,e4,M⟩;dsimp only at n0 n1 e1 e2 e3 e4 M;subst e1;subst e2;refine eY (λg=>?_) λ_=>ar ⟨TH.zero E,.inl rfl⟩
 dsimp only[au] at g;refine aZ (λx=>x.2=(c,(I,s'.2.2.2),z',R,T)/\(x.1=aj->0<=I/\I<(c.2.length:Int))) ?_ ?_
 .refine bF (λ_=>ar ⟨rfl,λh=>(by cases h)⟩) λg1=>ar ⟨rfl,λh=>?_⟩
  dsimp only at g1 h;rw[lY] at h;exact⟨g1,h⟩
 rintro⟨b',x⟩ ⟨f1,f2⟩;dsimp only at f1 f2;subst f1;refine aP (λ_=>ar ⟨TH.zero E,.inl rfl⟩) λhb=>?_
 obtain⟨p0,p1⟩:=f2 hb;refine aR p0 p1 (aS ?_);have hi:=hv.i _ (bH (T:=Bw) (xs:=c.2) (j:=I) p0 p1);revert hi;generalize (aJ (T:=Bw) _ _)=i;intro hi;refine aV (Fm _) ?_;refine b_ (λ_=>ar ⟨⟨by dsimp only;omega,by dsimp only;omega,M,h4,h5⟩,.inr rfl⟩) λhsil=>?_
 refine aK (λ_=>ar ⟨TH.zero E,.inl rfl⟩) λhn=>?_
 dsimp only[au] at hn;refine ax (XJ E Z i (I,s'.2.2.2) R T (λj hj=>by have:=hi.r j hj;omega) hsil.1 hsil.2 (by omega) (by omega) M) λy hy=>?_
 obtain⟨⟨⟨pc',ev'⟩,ok⟩,R',T'⟩:=y;obtain⟨k1,k2,Y,U⟩:=hy;dsimp only at k1 k2 Y U;refine dG (lw Y.symm (dG (lw k2.symm (AJ ?_))));refine ec (λ_=>ar ⟨TH.zero E,.inl rfl⟩) λ_=>ar ?_
 dsimp only;rw[ic (by omega) (by omega)];exact⟨⟨by omega,by omega,rfl,k1,by omega,by omega,U⟩,by omega⟩
abbrev ST:Type:=SY×List Int×List Int×List TT
structure TF (c:Int×List IT) (t:TT):Prop where
 p0:0<=t.1
 p1:t.1<(c.2.length:Int)
 r:(t.2.1.length:Int)=c.1
 t:(t.2.2.1.length:Int)=c.1
structure FSx (c:CT) (s:ST):Prop where
 vc:VC c
 cd:∀ d∈c.1.2.2.1,0<=d.2/\d.2<(c.1.2.1.length:Int)
 e3:s.1.2.2.2.length=c.1.2.2.2.2.1.length
 ce:s.2.1.length=c.1.1.length
 fu:s.2.2.1.length=c.1.2.2.2.1.length
 th:s.2.2.2.length=c.2.length
 t:∀ k:Nat,k<c.2.length->TF (aJ (T:=vZ) c.2 (k:Int)) (aJ (T:=uN) s.2.2.2 (k:Int))
def FQ (L:List ET) (k:Int) (y:Int):Prop:=1<=y/\KN L k y
structure SV (n:Nat) (L:List ET) (s:ST):Prop where
 sb:SB n s.1
 ln:L.length=n
 t:∀ k:Nat,k<s.2.2.2.length->TH (FQ L k) n (aJ (T:=uN) s.2.2.2 (k:Int))
theorem SV.ti {n:Nat} {L:List ET} {s:ST} (h:SV n L s) {k:Int} (h0:0<=k) (h1:k<(s.2.2.2.length:Int)):TH (FQ L k) n (aJ (T:=uN) s.2.2.2 k):=by
 have:=h.t k.toNat (by omega);rw[show ((k.toNat:Nat):Int)=k by omega] at this;exact this
structure TG (c:CT) (L:List ET) (sy:SY) (k:Int) (t:TT):Prop where
 ev:t.2.2.2=((fl L k).length:Int)
 wi:(aJ (T:=jx) sy.2.2.2 k).1=3\/(aJ (T:=jx) sy.2.2.2 k).1=4->(aJ (T:=Bw) (aJ (T:=vZ) c.2 k).2 t.1).1=21
 nw:(fl L k).length=0->(aJ (T:=jx) sy.2.2.2 k).1=0\/(aJ (T:=jx) sy.2.2.2 k).1=1
structure K4 (c:CT) (L:List ET) (s:ST):Prop where
 ac:Acw c.1 L s.1 s.2.1 s.2.2.1
 t:∀ k:Nat,k<s.2.2.2.length->(aJ (T:=uN) s.2.2.2 (k:Int)).2.1.length=0\/TG c L s.1 (k:Int) (aJ (T:=uN) s.2.2.2 (k:Int))
theorem aev (c:CT) (s:ST) (hc:CB c):Ok (wu (c,s)) λb=>b=ai->FSx c s:=by
 unfold wu aY bi dx cY bx iR jd bD aX cL aE cC;refine aZ (λx=>x.2=(c,s)/\(x.1=aj->VC c/\(∀ d∈c.1.2.2.1,0<=d.2/\d.2<(c.1.2.1.length:Int))/\s.1.2.2.2.length=c.1.2.2.2.2.1.length/\s.2.1.length=c.1.1.length/\s.2.2.1.length=c.1.2.2.2.1.length/\s.2.2.2.length=c.2.length)) ?_ ?_
 .refine ax (SM c hc.th hc.ins) λb hb=>?_
  refine ec (λ_=>ar ⟨rfl,λh=>(by cases h)⟩) λh=>?_
  have hv:=hb h;refine ax (Py c.1 s.1 (by have:=hv.vl.d;omega)) λb2 I=>?_
  refine ec (λ_=>ar ⟨rfl,λh=>(by cases h)⟩) λh2=>?_
  obtain⟨J,_,_,Z⟩:=I h2;refine b_ (λ_=>ar ⟨rfl,λh=>(by cases h)⟩) λk1=>?_
  refine b_ (λ_=>ar ⟨rfl,λh=>(by cases h)⟩) λk2=>ar ⟨rfl,λU=>⟨hv,J,Z,?_,?_,?_⟩⟩
  .dsimp only[au] at k1;omega
  .dsimp only[au] at k2;omega
  .simp at U;omega
 rintro⟨b,x⟩ ⟨e,hb⟩;dsimp only at e hb;subst e;refine aP (λ_=>ar λh=>(by cases h)) λh=>?_
 obtain⟨hv,hcd,Y,hce,hfu,hth⟩:=hb h;have hcl:=hc.th;refine b9 c.2.length (λi x=>x.1=(i:Int)/\x.2=(c,s)/\∀ k:Nat,k<i->TF (aJ (T:=vZ) c.2 (k:Int)) (aJ (T:=uN) s.2.2.2 (k:Int))) ?_ ?_ ⟨rfl,rfl,λk hk=>by omega⟩
 .rintro i ⟨a,x⟩ hi ⟨e1,e2,e3⟩;dsimp only at e1 e2 e3;subst e1;subst e2;refine du ?_;have hin:((i:Nat):Int)<(c.2.length:Int):=by omega
  refine ch (aS ?_);refine aZ (λx=>x.2=(c,s)/\(x.1=aj->TF (aJ (T:=vZ) c.2 (i:Int)) (aJ (T:=uN) s.2.2.2 (i:Int)))) ?_ ?_
  .refine bF (λ_=>ar ⟨rfl,λh=>(by cases h)⟩) λg0=>?_
   refine aR (by dsimp only;omega) hin (aS ?_);refine eY (λ_=>ar ⟨rfl,λh=>(by cases h)⟩) λJ=>?_
   refine aR (by dsimp only;omega) hin (aS ?_);refine b_ (λ_=>ar ⟨rfl,λh=>(by cases h)⟩) λg2=>?_
   refine aR (by dsimp only;omega) hin (aS (ar ⟨rfl,λM=>⟨g0,J,g2,?_⟩⟩));simp at M;exact M
  rintro⟨b,x⟩ ⟨e,hb⟩;dsimp only at e hb;subst e;refine aP (λ_=>ar λh=>(by cases h)) λh=>ar ?_
  dsimp only;refine ⟨gM (by omega),rfl,λk hk=>?_⟩;rcases bZ k i with h1|h1
  .exact e3 k h1
  .rw[show k=i by omega];exact hb h
 .rintro⟨a,x⟩ ⟨e1,e2,e3⟩;dsimp only at e1 e2 e3;subst e1;subst e2;refine dv (ar λ_=>⟨hv,hcd,Y,hce,hfu,hth,e3⟩)
theorem agv {i:IT} (h:i.1=6\/i.1=7\/i.1=27\/i.1=10):i.2.1∈iI i:=by
 unfold iI;(repeat' split)<;>simp<;>omega
theorem agu {i:IT} (h:i.1=8\/i.1=9\/i.1=26):i.2.2.1∈iI i:=by
 unfold iI;(repeat' split)<;>simp<;>omega
theorem alg {i:IT} (h:i.1=7\/i.1=9):i.2.2.2.1∈iI i:=by
 unfold iI;(repeat' split)<;>simp<;>omega
structure KD (op k:Int):Prop where
 ld:k=3->op=6\/op=7
 st:k=4->op=8\/op=9
 br:k=5->op=10
 se:k=22->op=26
 ge:k=23->op=27
 e1:k=2->op=28
 n1:¬k=1
 n17:¬k=17
 wt:k=16->op=21
 e2:¬k=0->op=28->k=2
 d7:¬k=0->op=7->k=3
 d8:¬k=0->op=8->k=4
 d9:¬k=0->op=9->k=4
 d10:¬k=0->op=10->k=5
 d26:¬k=0->op=26->k=22
theorem aeb (op:Int):Ok (wn op) λk=>KD op k:=by
 unfold wn bx kz aE;refine aZ (λx=>x.2=[3,3,4,4,5,6,7,8,9,10,11,12,13,14,15,16,18,19,20,21,22,23,2]/\(x.1=aj->6<=op/\op<=28)) ?_ ?_
 .refine bF (λ_=>ar ⟨rfl,λh=>(by cases h)⟩) λg=>ar ⟨rfl,λh=>?_⟩
  dsimp only at h;rw[gg] at h;exact⟨g,h⟩
 rintro⟨b,x⟩ ⟨e,hb⟩;dsimp only at e hb;subst e;refine aP (λ_=>ar (by constructor<;>first|decide|(intro h;first|(exact (h rfl).elim)|(cases h;done)))) λh=>?_
 obtain⟨h1,h2⟩:=hb h;dsimp only;rw[ic (n:=op-6) (by omega) (by omega)];refine aR (by omega) (by simp;omega) (aR (by omega) (by simp;omega) (aS (ar ?_)));have:op=6\/op=7\/op=8\/op=9\/op=10\/op=11\/op=12\/op=13\/op=14\/op=15\/op=16\/op=17\/op=18\/op=19\/op=20\/op=21\/op=22\/op=23\/op=24\/op=25\/op=26\/op=27\/op=28:=by omega
 rcases this with rfl|rfl|rfl|rfl|rfl|rfl|rfl|rfl|rfl|rfl|rfl|rfl|rfl|rfl|rfl|rfl|rfl|rfl|rfl|rfl|rfl|rfl|rfl;all_goals (constructor<;>decide)
theorem S9 (a n:Int):Ok (rn (a,n)) λr=>n=2->r=0\/r=1:=by
 unfold rn bx bB aE;refine bF (λ_=>ar λh=>(by dsimp only at *;omega)) λh=>?_
 dsimp only at h;refine yR (by dsimp only;omega) ?_;have t1:=Int.tmod_lt_of_pos a (b:=n) (by omega);have I:=Int.lt_tmod_of_pos a (b:=n) (by omega);refine aZ (λr=>n=2->r=0\/r=1) (bF (λg=>ar λh2=>?_) λg=>ar λh2=>?_) λ_ h=>ar h
 .dsimp only at g ⊢;rw[ic (by omega) (by omega)];omega
 .dsimp only at g ⊢;omega
theorem Qp (i:IT) (t:TT) (hr:∀ j∈iI i,0<=j/\j<(t.2.1.length:Int)):Ok (r_ (i,t)) λo=>(i.1=7->i.2.2.1=3->i.2.2.2.2.1=2->o=3\/o=4)/\(i.1=9->i.2.1=3->i.2.2.2.2.1=2->o=3\/o=4):=by
 unfold r_ aY bi bw bd bD aE;have J:i.1=7\/i.1=9->0<=i.2.2.2.1/\i.2.2.2.1<(t.2.1.length:Int):=λh=>hr _ (by
  unfold iI;(repeat' split)<;>simp<;>omega)
 have M:∀ {o:Int},¬i.1=7->¬i.1=9->(i.1=7->i.2.2.1=3->i.2.2.2.2.1=2->o=3\/o=4)/\(i.1=9->i.2.1=3->i.2.2.2.2.1=2->o=3\/o=4):=λh1 h2=>⟨λh=>(h1 h).elim,λh=>(h2 h).elim⟩
 have wk:∀ {b r n:Int},b=3->n=2->(n=2->r=0\/r=1)->bk .i64 (b+r)=3\/bk .i64 (b+r)=4:=λh1 h2 I=>by
  have:=I h2;rw[ic (by omega) (by omega)];omega
 refine aZ (λx=>x.2=(i,t)/\(x.1=ai->i.1=6\/i.1=27)) (aK (λh=>ar ⟨rfl,λ_=>.inl h⟩) λ_=>ar ⟨rfl,λh=>.inr (bt h)⟩) ?_;rintro⟨b,x⟩ ⟨e,hb⟩;dsimp only at e hb;subst e;refine aP (λh=>ar (M (by have:=hb h;omega) (by have:=hb h;omega))) λ_=>?_
 refine aK (λh=>?_) λU=>?_
 .exact aR (J (.inl h)).1 (J (.inl h)).2 (aS (ax (S9 _ _) λy Y=>ar ⟨λ_ I Z=>wk I Z Y,λh9=>by dsimp only at h;omega⟩))
 refine aK (λh=>?_) λn9=>?_
 .exact aR (J (.inr h)).1 (J (.inr h)).2 (aS (ax (S9 _ _) λy Y=>ar ⟨λh7=>(U h7).elim,λ_ I Z=>wk I Z Y⟩))
 refine aZ (λ_=>True) ?_ λx _=>aP (λ_=>ar (M U n9)) λ_=>ar (M U n9)
 with_reducible repeat' first|(refine OS.ok ?_;constructor)|refine IM.mk λ_=>?_
 all_goals trivial
theorem ahc {w:WT} (I:w.1=C0) {b n:Int} (h:AR w b n):b=3/\n=2:=by
 obtain⟨b0,b1,ix,sz,sn⟩:=h;rw[I] at b1 ix sz sn;have b1:b<5:=b1;rcases (by omega:b=0\/b=1\/b=2\/b=3\/b=4) with rfl|rfl|rfl|rfl|rfl
 .exact (sz rfl).elim
 .exact (sz rfl).elim
 .exact (sz rfl).elim
 .exact⟨rfl,sn.symm⟩
 .exact cV ix (by decide)
theorem ago {w:WT} (I:w.1=C0) {o:Int} (h:o=3\/o=4):¬(aJ (T:=PP) w.1 o).2.2.1=0:=by
 rw[I];rcases h with rfl|rfl<;>decide
structure PE (n:Nat) (c:CT) (s:ST) (t:Int) (e:ET):Prop where
 fs:FSx c s
 t0:0<=t
 t1:t<(c.2.length:Int)
 et:e.1=t
 d:e.2.2.2.2.2.1.length<=n
 f:e.2.2.2.2.2.2.length<=n
 a:e.2.1=3\/e.2.1=23\/e.2.1=5->0<=(aJ (T:=Bw) (aJ (T:=vZ) c.2 t).2 (aJ (T:=uN) s.2.2.2 t).1).2.1/\(aJ (T:=Bw) (aJ (T:=vZ) c.2 t).2 (aJ (T:=uN) s.2.2.2 t).1).2.1<((aJ (T:=uN) s.2.2.2 t).2.1.length:Int)
 b:e.2.1=4\/e.2.1=22->0<=(aJ (T:=Bw) (aJ (T:=vZ) c.2 t).2 (aJ (T:=uN) s.2.2.2 t).1).2.2.1/\(aJ (T:=Bw) (aJ (T:=vZ) c.2 t).2 (aJ (T:=uN) s.2.2.2 t).1).2.2.1<((aJ (T:=uN) s.2.2.2 t).2.1.length:Int)
structure PS (c:CT) (L:List ET) (s:ST) (t:Int) (e:ET):Prop where
 tg:TG c L s.1 t (aJ (T:=uN) s.2.2.2 t)
 s1:e.2.1=1\/e.2.1=2->e.2.2.2.2.1= -1
 s2:¬(e.2.1=1\/e.2.1=2)->0<=e.2.2.2.2.1/\e.2.2.2.2.1<c.1.2.2.2.2.2.length/\(aJ (T:=xX) c.1.2.2.2.2.2 e.2.2.2.2.1).1=t
 de:0<e.2.2.2.2.2.1.length->e.2.1=5\/(e.2.1=3\/e.2.1=4)/\¬(aJ (T:=PP) c.1.1 e.2.2.1).2.2.1=0
 fr:0<e.2.2.2.2.2.2.length->e.2.1=4\/e.2.1=22
 da:Hl e.2.2.2.2.2.1
 dq:∀ y∈e.2.2.2.2.2.1,FQ L t y
 fa:Hl e.2.2.2.2.2.2
 fq:∀ y∈e.2.2.2.2.2.2,FQ L t y
 wt:e.2.1=16->(aJ (T:=Bw) (aJ (T:=vZ) c.2 t).2 (aJ (T:=uN) s.2.2.2 t).1).1=21
theorem V3 (n:Nat) (hn:n<=100000) (c:CT) (L:List ET) (s:ST) (hc:CB c) (hs:SV n L s) (hI:K4 c L s) (t:Int):Ok (nD (c,s,t)) λy=>y.2=ai->PE n c s t y.1/\PS c L s t y.1:=by
 unfold nD aY bi bw bK dx cY bd bx bB bD aX aE;refine aZ (λx=>x.2.1=c/\x.2.2.1=s/\(x.1=aj->FSx c s/\0<=t/\t<(c.2.length:Int))) ?_ ?_
 .refine ax (aev c s hc) λb hb=>?_
  refine ec (λ_=>ar ⟨rfl,rfl,λh=>(by cases h)⟩) λh=>?_
  refine bF (λ_=>ar ⟨rfl,rfl,λh=>(by cases h)⟩) λg0=>ar ⟨rfl,rfl,λg1=>?_⟩
  dsimp only at g0 g1;rw[lY] at g1;exact⟨hb h,g0,g1⟩
 rintro⟨b,c',s',z⟩ ⟨e1,e2,hb⟩;dsimp only at e1 e2 hb;subst e1;subst e2;refine aP (λ_=>ar λh=>(by cases h)) λh=>?_
 obtain⟨hf,t0,t1⟩:=hb h;have hk:((t.toNat:Nat):Int)=t:=by omega
 have htf:=hf.t t.toNat (by omega);rw[hk] at htf;have hvt:=hf.vc.t _ (bH (T:=vZ) (xs:=c'.2) (j:=t) t0 t1);have hth:=hs.ti t0 (by rw[hf.th];exact t1);have key:∀ e:ET,e.1=t->e.2.2.2.2.2.1.length<=n->e.2.2.2.2.2.2.length<=n->(e.2.1=1\/e.2.1=17\/KD (aJ (T:=Bw) (aJ (T:=vZ) c'.2 t).2 (aJ (T:=uN) s'.2.2.2 t).1).1 e.2.1)->PE n c' s' t e:=by
  intro e h1 h2 h3 J;have hi:=hvt.i _ (bH (T:=Bw) (xs:=(aJ (T:=vZ) c'.2 t).2) (j:=(aJ (T:=uN) s'.2.2.2 t).1) htf.p0 htf.p1);refine ⟨hf,t0,t1,h1,h2,h3,λh5=>?_,λh5=>?_⟩
  .rw[htf.r];rcases J with J|J|J
   .omega
   .omega
   .refine hi.r _ ?_;have a1:=J.ld;have a2:=J.ge;have a3:=J.br;revert a1 a2 a3 h5;generalize (aJ (T:=Bw) (aJ (T:=vZ) c'.2 t).2 (aJ (T:=uN) s'.2.2.2 t).1)=i;intro h5 a1 a2 a3;exact agv (by omega)
  .rw[htf.r];rcases J with J|J|J
   .omega
   .omega
   .refine hi.r _ ?_;have a1:=J.st;have a2:=J.se;revert a1 a2 h5;generalize (aJ (T:=Bw) (aJ (T:=vZ) c'.2 t).2 (aJ (T:=uN) s'.2.2.2 t).1)=i;intro h5 a1 a2;exact agu (by omega)
 have hir:=(hvt.i _ (bH (T:=Bw) (xs:=(aJ (T:=vZ) c'.2 t).2) (j:=(aJ (T:=uN) s'.2.2.2 t).1) htf.p0 htf.p1)).r;rw[<- htf.r] at hir;have hrg:=hc.rg _ (bH (T:=vZ) (xs:=c'.2) (j:=t) t0 t1);have htg:TG c' L s'.1 t (aJ (T:=uN) s'.2.2.2 t):=by
  have:=hI.t t.toNat (by rw[hf.th];omega);rw[hk] at this;refine this.resolve_left λh=>?_
  have:=htf.r;omega
 have hvj:=hf.vc.j t.toNat (by omega);rw[hk] at hvj;have hvj:=hvj _ (bH (T:=Bw) (xs:=(aJ (T:=vZ) c'.2 t).2) (j:=(aJ (T:=uN) s'.2.2.2 t).1) htf.p0 htf.p1);have hC0:=hc.wx.c;refine aR t0 (by dsimp only;rw[hf.th];exact t1) (aS ?_);refine aR t0 t1 (aS ?_);refine aR htf.p0 htf.p1 (aS ?_);have t4:t<(s'.1.2.2.2.length:Int):=by rw[hf.e3,<-hf.vc.tl];exact t1
 have tz:(aJ (T:=uN) s'.2.2.2 t).2.2.1.length=(aJ (T:=uN) s'.2.2.2 t).2.1.length:=by have:=htf.r;have:=htf.t;omega
 refine aR t0 t4 (aS ?_);refine aK (λ_=>ar λ_=>⟨key _ rfl (kY _) (kY _) (.inl rfl),⟨htg,λ_=>rfl,λh=>(h (.inl rfl)).elim,λh=>(by cases h),λh=>(by cases h),trivial,λy Z=>(by cases Z),trivial,λy Z=>(by cases Z),λh=>(by cases h)⟩⟩) λ_=>?_
 refine aK (λJ=>aR t0 t4 (aS (ar λ_=>⟨key _ rfl (kY _) (kY _) (.inr (.inl rfl)),⟨htg,λh=>(by rcases h with h|h<;>cases h),λ_=>hvj.si (by rw[htg.wi (.inr J)];decide),λh=>(by cases h),λh=>(by cases h),trivial,λy Z=>(by cases Z),trivial,λy Z=>(by cases Z),λh=>(by cases h)⟩⟩))) λ_=>?_
 refine aK (λ_=>?_) λ_=>ar λh=>(by cases h)
 refine ax (aeb _) λk I=>?_
 refine ax (Qp _ _ hir) λo ho=>?_
 refine aK (λ_=>ar λh=>(by cases h)) λM=>?_
 have fin:∀ e:ET,e.1=t->e.2.1=k->e.2.2.1=o->e.2.2.2.2.1=(aJ (T:=Bw) (aJ (T:=vZ) c'.2 t).2 (aJ (T:=uN) s'.2.2.2 t).1).2.2.2.2.2->(0<e.2.2.2.2.2.1.length->(aJ (T:=Bw) (aJ (T:=vZ) c'.2 t).2 (aJ (T:=uN) s'.2.2.2 t).1).1=10\/(aJ (T:=Bw) (aJ (T:=vZ) c'.2 t).2 (aJ (T:=uN) s'.2.2.2 t).1).1=7\/(aJ (T:=Bw) (aJ (T:=vZ) c'.2 t).2 (aJ (T:=uN) s'.2.2.2 t).1).1=9)->(0<e.2.2.2.2.2.2.length->(aJ (T:=Bw) (aJ (T:=vZ) c'.2 t).2 (aJ (T:=uN) s'.2.2.2 t).1).1=8\/(aJ (T:=Bw) (aJ (T:=vZ) c'.2 t).2 (aJ (T:=uN) s'.2.2.2 t).1).1=9\/(aJ (T:=Bw) (aJ (T:=vZ) c'.2 t).2 (aJ (T:=uN) s'.2.2.2 t).1).1=26)->TL (FQ L t) n e.2.2.2.2.2.1->TL (FQ L t) n e.2.2.2.2.2.2->PE n c' s' t e/\PS c' L s' t e:=by
  intro e h1 h2 h3 J h5 h6 h7 h8;refine ⟨key e h1 h7.len h8.len (.inr (.inr (h2▸I))),htg,λh=>?_,λh=>?_,λh=>?_,λh=>?_,h7.a,h7.f,h8.a,h8.f,λh=>I.wt (h2▸h)⟩
  .rw[J];rw[h2] at h;exact hvj.se (I.e1 (h.resolve_left I.n1))
  .rw[J];rw[h2] at h;exact hvj.si λh9=>h (.inr (I.e2 M h9))
  .rw[h2,h3];rcases h5 h with g|g|g
   .exact .inl (I.d10 M g)
   .obtain⟨q1,q2⟩:=ahc hC0 (hvj.a7 g);exact .inr ⟨.inl (I.d7 M g),ago hC0 (ho.1 g q1 q2)⟩
   .obtain⟨q1,q2⟩:=ahc hC0 (hvj.a9 g);exact .inr ⟨.inr (I.d9 M g),ago hC0 (ho.2 g q1 q2)⟩
  .rw[h2];rcases h6 h with g|g|g
   .exact .inl (I.d8 M g)
   .exact .inl (I.d9 M g)
   .exact .inr (I.d26 M g)
 clear key htg hvj ho hC0 hrg;revert fin htf hvt hth hir tz I;dsimp only;generalize (aJ (T:=uN) s'.2.2.2 t)=th;generalize (aJ (T:=Bw) _ th.1)=i;intro htf hvt hth hir tz I fin;have hlen:∀ {j:Int},0<=j->j<(th.2.2.1.length:Int)->TL (FQ L t) n (aJ (T:=.sl (.int .i64)) th.2.2.1 j):=λh0 h1=>hth.l _ (bH (T:=.sl (.int .i64)) (xs:=th.2.2.1) h0 h1)
 have hA:i.1=10->0<=i.2.1/\i.2.1<(th.2.2.1.length:Int):=λh=>by
  rw[tz];exact hir _ (agv (.inr (.inr (.inr h))))
 have hB:i.1=8\/i.1=9\/i.1=26->0<=i.2.2.1/\i.2.2.1<(th.2.2.1.length:Int):=λh=>by
  rw[tz];exact hir _ (agu (h))
 have hC:i.1=7\/i.1=9->0<=i.2.2.2.1/\i.2.2.2.1<(th.2.2.1.length:Int):=λh=>by
  rw[tz];exact hir _ (alg (h))
 refine aZ (λx=>x.2.1=th/\x.2.2.1=i/\(x.2.2.2.1.1=t/\x.2.2.2.1.2.1=k/\x.2.2.2.1.2.2.1=o/\x.2.2.2.1.2.2.2.2=i.2.2.2.2.2)/\TL (FQ L t) n x.2.2.2.2/\(0<x.2.2.2.2.length->i.1=10\/i.1=7\/i.1=9)) ?_ ?_
 .refine aK (λh=>?_) λ_=>?_
  .obtain⟨a0,a1⟩:=hA h;refine aR a0 a1 (aS ?_);have:=hlen a0 a1;exact bg (dg this.len (by omega)) (by omega) (ar ⟨rfl,rfl,⟨rfl,rfl,rfl,rfl⟩,this,λ_=>.inl h⟩)
  refine aZ (λx=>x.2.2.1=th/\x.2.2.2.1=i/\(x.2.2.2.2.1=t/\x.2.2.2.2.2.1=k/\x.2.2.2.2.2.2.1=o/\x.2.2.2.2.2.2.2.2=i.2.2.2.2.2)/\(x.1=ai->i.1=7\/i.1=9)) ?_ ?_
  .refine aK (λh=>ar ⟨rfl,rfl,⟨rfl,rfl,rfl,rfl⟩,λ_=>.inl h⟩) λ_=>ar ⟨rfl,rfl,⟨rfl,rfl,rfl,rfl⟩,λh=>.inr (bt h)⟩
  rintro⟨b,z0,th',Y,t',k',z1⟩ ⟨e1,e2,e3,U⟩;dsimp only at e1 e2 e3 U;subst e1;subst e2;refine aP (λh=>?_) λ_=>ar ⟨rfl,rfl,e3,TL.nil n,λh=>(by cases h)⟩
  obtain⟨a0,a1⟩:=hC (U h);refine aR a0 a1 (aS ?_);have:=hlen a0 a1;exact bg (dg this.len (by omega)) (by omega) (ar ⟨rfl,rfl,e3,this,λ_=>.inr (U h)⟩)
 rintro⟨z0,th',Y,⟨t',k',z1⟩,ds⟩ ⟨e1,e2,e3,hd,hd2⟩;dsimp only at e1 e2 e3 hd hd2;subst e1;subst e2;refine aZ (λx=>(x.2.1.1=t/\x.2.1.2.1=k/\x.2.1.2.2.1=o/\x.2.1.2.2.2.2=Y.2.2.2.2.2)/\x.2.2.1=ds/\TL (FQ L t) n x.2.2.2/\(0<x.2.2.2.length->Y.1=8\/Y.1=9\/Y.1=26)) ?_ ?_
 .refine aZ (λx=>x.2=(z0,th',Y,(t',k',z1),ds)/\(x.1=ai->Y.1=8\/Y.1=9\/Y.1=26)) ?_ ?_
  .exact aK (λh=>ar ⟨rfl,λ_=>.inl h⟩) λ_=>aK (λh=>ar ⟨rfl,λ_=>.inr (.inl h)⟩) λ_=>ar ⟨rfl,λh=>.inr (.inr (bt h))⟩
  rintro⟨b,x⟩ ⟨e,U⟩;dsimp only at e U;subst e;refine aP (λh=>?_) λ_=>ar ⟨e3,rfl,TL.nil n,λh=>(by cases h)⟩
  obtain⟨a0,a1⟩:=hB (U h);refine aR a0 a1 (aS ?_);have:=hlen a0 a1;exact bg (dg this.len (by omega)) (by omega) (ar ⟨e3,rfl,this,λ_=>U h⟩)
 rintro⟨z2,⟨t2,k2,o2,z3,si⟩,d2,f2⟩ ⟨e1,e2,h1,h2⟩;dsimp only at e1 e2 h1 h2;subst e2;obtain⟨g1,g2,g3,g4⟩:=e1;exact ar λ_=>fin _ g1 g2 g3 g4 hd2 h2 hd h1
theorem ai3 {n:Nat} {k:Int} (h0:0<=k) (h1:k<n):(aJ (T:=jx) (XG n) k).1=0\/(aJ (T:=jx) (XG n) k).1=1:=by
 have hm:=bH (T:=jx) (xs:=XG n) h0 (by rw[Ht];exact h1);revert hm;generalize aJ (T:=jx) (XG n) k=z;intro hm;cases n with
 |zero=>cases hm
 |succ n=>
  rcases bm.1 hm with rfl|hm
  .exact .inr rfl
  .rw[pt hm];exact .inl rfl
theorem VY (c:CT) (hvt:jA c=af ai) (hv:VC c):Ok (ug c) λs=>SV 0 [] s/\K4 c [] s:=by
 unfold ug aY bi bw cu bK dx cY fh bx uO bB bD aX cL aE cC;refine aV hvt (ec (λh=>(by cases h)) λ_=>?_);obtain⟨vc,vl,vd,Z,_,Y,_⟩:=id hv.vl;have htl:=hv.tl;refine aV (KB c.1 hv.vl) ?_;refine b9 c.1.1.length (λi x=>x.1=(i:Int)/\x.2.1=c/\x.2.2.2.1=PA c.1/\x.2.2.2.2=(c.1.1.take i).map λc=>c.2.2.2.2) ?_ ?_ ⟨rfl,rfl,rfl,rfl⟩
 .rintro i ⟨a,c',z,U,l⟩ hi ⟨e1,e2,e3,I⟩;dsimp only at e1 e2 e3 I;subst e1;subst e2;subst e3;subst I;refine du ?_;refine ch (aS (bg (by simp;omega) (by omega) (ar ?_)));dsimp only;exact⟨gM (by omega),rfl,rfl,by rw[mD (T:=PP) hi,cA];rfl⟩
 rintro⟨a,c',z,U,l⟩ ⟨e1,e2,e3,I⟩;dsimp only at e1 e2 e3 I;subst e1;subst e2;subst e3;rw[cP] at I;subst I;refine dv ?_;refine ax (P:=λs=>SV 0 [] s/\K4 c' [] s) ?_ λr hr=>ar hr
 refine b9 c'.1.2.2.2.1.length (λi x=>x.1=(i:Int)/\x.2.1=c'/\x.2.2.2.1=PA c'.1/\x.2.2.2.2.1=ce0 c'.1/\x.2.2.2.2.2=aG i 0) ?_ ?_ ⟨rfl,rfl,rfl,rfl,rfl⟩
 .rintro i ⟨a,c,z,y,l,f⟩ hi ⟨e1,e2,e3,I,J⟩;dsimp only at e1 e2 e3 I J;subst e1;subst e2;subst e3;subst J;refine du ?_;refine bg (by simp;omega) (by omega) (ar ?_);dsimp only;exact⟨gM (by omega),rfl,rfl,I,by rw[uL]⟩
 rintro⟨a,c,z,y,l,f⟩ ⟨e1,e2,e3,I,J⟩;dsimp only at e1 e2 e3 I J;subst e1;subst e2;subst e3;subst I;subst J;refine dv ?_;refine ax (P:=λs=>SV 0 [] s/\K4 c [] s) ?_ λr hr=>ar hr
 refine b9 c.2.length (λi x=>x.1=(i:Int)/\x.2.1=c/\x.2.2.2.1=PA c.1/\x.2.2.2.2.1=ce0 c.1/\x.2.2.2.2.2.1=fu0 c.1/\x.2.2.2.2.2.2.length=i/\∀ t∈x.2.2.2.2.2.2,(∀ F,TH F 0 t)/\t.2.2.2=0) ?_ ?_ ⟨rfl,rfl,rfl,rfl,rfl,rfl,λt ht=>(by cases ht)⟩
 .rintro i ⟨a,c,z,y,l,f,th⟩ hi ⟨e1,e2,e3,I,e4b,J,M⟩;dsimp only at e1 e2 e3 I e4b J M;subst e1;subst e2;subst e3;refine du ?_;have hin:((i:Nat):Int)<(c.2.length:Int):=by omega
  have hvt:=hv.t _ (bH (T:=vZ) (xs:=c.2) (j:=(i:Int)) (by omega) hin);have q0:=hvt.r0;have q1:=hvt.r1;refine aR (by dsimp only;omega) hin (aS ?_);refine dG (dG (e_ q0 (e_ (eP _) (bg (by dsimp only;omega) (by omega) ?_))));refine aR (by dsimp only;omega) hin (aS ?_);refine dG (dG (e_ q0 (e_ (eP _) (bg (by dsimp only;omega) (by omega) ?_))));refine bg (by simp;omega) (by omega) (ar ?_);dsimp only;refine ⟨gM (by omega),rfl,rfl,I,e4b,by simp;omega,λt ht=>?_⟩;rcases bP.1 ht with h|h
  .exact M t h
  .rw[aL] at h;subst h;refine ⟨λF=>⟨?_,?_,λl hl=>?_,eP _,eP _⟩,rfl⟩
   .dsimp only;rw[eK];omega
   .dsimp only;rw[eK];omega
   .rw[pt hl];exact TL.nil 0
 .rintro⟨a,c,z,y,l,f,th⟩ ⟨e1,e2,e3,I,e4b,J,M⟩;dsimp only at e1 e2 e3 I e4b J M;subst e1;subst e2;subst e3;subst I;subst e4b;refine dv (ar ?_);have hm:∀ k:Nat,k<th.length->_:=λk hk=>M _ (bH (T:=uN) (xs:=th) (j:=(k:Int)) (by omega) (by omega))
  refine ⟨⟨TO hv.vl,rfl,λk hk=>(hm k hk).1 _⟩,⟨.nil,λk hk=>.inr ?_⟩⟩;dsimp only at hk;have hst:=ai3 (n:=c.1.2.2.2.2.1.length) (k:=(k:Int)) (by omega) (by omega);exact⟨(hm k hk).2,λh=>(by rcases hst with q|q<;>rcases h with h|h<;>exact cV (q.symm.trans h) (by decide)),λ_=>hst⟩
theorem H6 {th:List (Int×Int×Bool)} {t x j:Int} (h0:0<=t) (h1:t<th.length) (hj:0<=j):(aJ (T:=jx) (xY th t x) j).1=if j=t then x else (aJ (T:=jx) th j).1:=by
 unfold xY;rw[rF (T:=jx) _ _ _ _ h0 h1 hj];split<;>rfl
theorem ah5 {th:List (Int×Int×Bool)} {t x j:Int} (h0:0<=t) (h1:t<th.length) (hj:0<=j):(aJ (T:=jx) (cdP th t x) j).1=(aJ (T:=jx) th j).1:=by
 unfold cdP;rw[rF (T:=jx) _ _ _ _ h0 h1 hj];split
 .rename_i h;rw[h]
 .rfl
theorem ahb {th:List (Int×Int×Bool)} {t j:Int} {x:Bool} (h0:0<=t) (h1:t<th.length) (hj:0<=j):(aJ (T:=jx) (atP th t x) j).1=(aJ (T:=jx) th j).1:=by
 unfold atP;rw[rF (T:=jx) _ _ _ _ h0 h1 hj];split
 .rename_i h;rw[h]
 .rfl
theorem agx {j:Int} (hj:0<=j):∀ (l:List Int) (th:List (Int×Int×Bool)),(∀ u:Int,u∈l->0<=u/\u<th.length)->(aJ (T:=jx) (CJ th l) j).1=if j∈l then 4 else (aJ (T:=jx) th j).1
 |[],th,_=>by simp[CJ]
 |x::r,th,h=>by
  have I:=h x (dh ..);have J:=agx hj r (xY th x 4) λu hu=>by unfold xY;rw[bT];exact h u (cH _ hu)
  have e:CJ th (x::r)=CJ (xY th x 4) r:=rfl;rw[e,J,H6 I.1 I.2 hj];by_cases h1:j∈r
  .rw[aF h1,aF (cH _ h1)]
  .rw[ay h1];by_cases h2:j=x
   .rw[aF h2,aF (by rw[h2];exact dh ..)]
   .rw[ay h2,ay λh=>(bm.1 h).elim h2 h1]
theorem HN {l:List Int} (u:Int) (hl:¬l.length=0):Bm l u∈l:=by
 unfold Bm;rw[ay hl];split
 .rename_i h;exact sR.1 h
 .exact bH (T:=.int .i64) (by omega) (by omega)
theorem Sw {w:WT} {s:SY} {t k o u v:Int} {sy:SY} (h:(sy,v)=qX w s t k o u):qX w s t k o v=(sy,v):=by
 by_cases hk:k=18
 .subst hk;rw[Fi] at h ⊢;by_cases hl:(wl s.2.2.2 o s.2.2.2.length).length=0
  .rw[aF hl] at h ⊢;exact h.symm
  .rw[ay hl] at h ⊢;have hm:=HN u hl;generalize wl s.2.2.2 o s.2.2.2.length=l at h hl hm ⊢;obtain⟨rfl,rfl⟩:=Prod.mk.inj h;have:Bm l (Bm l u)=Bm l u:=by
    rw[Bm,ay hl,aF (sR.2 hm)]
   rw[this]
 .rw[Xu _ _ _ _ _ _ u hk,<-h]
theorem aj0 {w:WT} {s:SY} {t k o:Int} (u:Int) (he:EN w s t k o) (hr:V2 w s t k o) {j:Int} (h0:0<=j):(¬j=t->(aJ (T:=jx) (qX w s t k o u).1.2.2.2 j).1=(aJ (T:=jx) s.2.2.2 j).1\/((aJ (T:=jx) s.2.2.2 j).1=3/\(aJ (T:=jx) (qX w s t k o u).1.2.2.2 j).1=4)\/((aJ (T:=jx) s.2.2.2 j).1=0/\(aJ (T:=jx) (qX w s t k o u).1.2.2.2 j).1=1))/\(j=t->¬k=16->¬(aJ (T:=jx) (qX w s t k o u).1.2.2.2 j).1=3/\¬(aJ (T:=jx) (qX w s t k o u).1.2.2.2 j).1=4):=by
 have t0:=he.t0;have t1:t<s.2.2.2.length:=by have:=he.t1;have:=he.e3;omega
 have M:=hr.r;have hml:∀ u:Int,u∈wl s.2.2.2 o s.2.2.2.length->0<=u/\u<s.2.2.2.length:=λu hu=>⟨(q_.1 hu).1,(q_.1 hu).2.1⟩
 have h3:∀ u:Int,u∈wl s.2.2.2 o s.2.2.2.length->(aJ (T:=jx) s.2.2.2 u).1=3:=λu hu=>by
  have:=(q_.1 hu).2.2;unfold HV at this;rw[av] at this;exact bt this.1
 have same:¬k=1->¬k=17->∀ th:List (Int×Int×Bool),(aJ (T:=jx) th j).1=(aJ (T:=jx) s.2.2.2 j).1->(¬j=t->(aJ (T:=jx) th j).1=(aJ (T:=jx) s.2.2.2 j).1\/((aJ (T:=jx) s.2.2.2 j).1=3/\(aJ (T:=jx) th j).1=4)\/((aJ (T:=jx) s.2.2.2 j).1=0/\(aJ (T:=jx) th j).1=1))/\(j=t->¬k=16->¬(aJ (T:=jx) th j).1=3/\¬(aJ (T:=jx) th j).1=4):=λa b th h=>⟨λ_=>.inl h,λh2 _=>by rw[h,h2,M a b];decide⟩
 have st:∀ x:Int,¬x=3\/k=16->¬x=4->∀ th:List (Int×Int×Bool),(aJ (T:=jx) th j).1=(if j=t then x else (aJ (T:=jx) s.2.2.2 j).1)->(¬j=t->(aJ (T:=jx) th j).1=(aJ (T:=jx) s.2.2.2 j).1\/((aJ (T:=jx) s.2.2.2 j).1=3/\(aJ (T:=jx) th j).1=4)\/((aJ (T:=jx) s.2.2.2 j).1=0/\(aJ (T:=jx) th j).1=1))/\(j=t->¬k=16->¬(aJ (T:=jx) th j).1=3/\¬(aJ (T:=jx) th j).1=4):=λx hx hx4 th h=>⟨λhn=>.inl (by rw[h,ay hn]),λh2 h16=>by rw[h,aF h2];exact⟨hx.resolve_right h16,hx4⟩⟩
 have U:∀ x:Int,t<(xY s.2.2.2 t x).length:=λx=>by unfold xY;rw[bT];exact t1
 by_cases k1:k=1
 .subst k1;exact st 2 (.inl (by decide)) (by decide) _ (H6 t0 t1 h0)
 by_cases k2:k=2
 .subst k2;exact st 5 (.inl (by decide)) (by decide) _ (H6 t0 t1 h0)
 by_cases k16:k=16
 .subst k16;exact st 3 (.inr rfl) (by decide) _ ((ah5 t0 (U _) h0).trans (H6 t0 t1 h0))
 by_cases I:k=17
 .subst I;exact st 2 (.inl (by decide)) (by decide) _ ((ah5 t0 (U _) h0).trans (H6 t0 t1 h0))
 by_cases k14:k=14
 .subst k14;exact same k1 I _ (ahb t0 t1 h0)
 by_cases k15:k=15
 .subst k15;exact same k1 I _ (ahb t0 t1 h0)
 by_cases k18:k=18
 .subst k18;rw[Fi];by_cases hl:(wl s.2.2.2 o s.2.2.2.length).length=0
  .rw[aF hl];exact same k1 I _ rfl
  .rw[ay hl];have hc:=HN u hl;have Y:=hml _ hc;have J:=h3 _ hc;dsimp only;rw[H6 Y.1 Y.2 h0];generalize Bm (wl s.2.2.2 o s.2.2.2.length) u=c at J;by_cases hj:j=c
   .rw[aF hj,hj];exact⟨λ_=>.inr (.inl ⟨J,rfl⟩),λh _=>by rw[h,M k1 I] at J;exact cV J (by decide)⟩
   .rw[ay hj];exact⟨λ_=>.inl rfl,λh _=>by rw[h,M k1 I];decide⟩
 by_cases k19:k=19
 .subst k19;show (_->(aJ (T:=jx) (CJ _ _) j).1=_\/_/\(aJ (T:=jx) (CJ _ _) j).1=_\/_/\(aJ (T:=jx) (CJ _ _) j).1=_)/\(_->_->¬(aJ (T:=jx) (CJ _ _) j).1=_/\¬(aJ (T:=jx) (CJ _ _) j).1=_)
  rw[agx h0 _ _ hml];by_cases hj:j∈wl s.2.2.2 o s.2.2.2.length
  .rw[aF hj];have J:=h3 _ hj;exact⟨λ_=>.inr (.inl ⟨J,rfl⟩),λh _=>by rw[h,M k1 I] at J;exact cV J (by decide)⟩
  .rw[ay hj];exact⟨λ_=>.inl rfl,λh _=>by rw[h,M k1 I];decide⟩
 by_cases k20:k=20
 .subst k20;obtain⟨o0,o1⟩:=he.nm.th (.inl rfl);obtain⟨hot,ho0⟩:=hr.sp rfl;have Z:o<s.2.2.2.length:=by rw[he.e3];exact o1
  show (_->(aJ (T:=jx) (xY _ _ _) j).1=_\/_/\(aJ (T:=jx) (xY _ _ _) j).1=_\/_/\(aJ (T:=jx) (xY _ _ _) j).1=_)/\(_->_->¬(aJ (T:=jx) (xY _ _ _) j).1=_/\¬(aJ (T:=jx) (xY _ _ _) j).1=_)
  rw[H6 o0 Z h0];by_cases hj:j=o
  .rw[aF hj,hj];exact⟨λ_=>.inr (.inr ⟨ho0,rfl⟩),λh _=>(hot h).elim⟩
  .rw[ay hj];exact⟨λ_=>.inl rfl,λh _=>by rw[h,M k1 I];decide⟩
 refine same k1 I _ ?_;unfold qX;rw[ay k1,ay k2];repeat' split
 all_goals first|rfl|omega
theorem aeu {e e':ET} (h1:e'.1=e.1) (h2:e'.2.1=e.2.1) (t:Int):fl [e'] t=fl [e] t:=by
 by_cases h:e.1=t
 .rw[zl h,zl (h1.trans h)];unfold tf;rw[h2]
 .rw[wH h,wH (λg=>h (h1.symm.trans g))]
theorem agh {L:List ET} {e e':ET} (h1:e'.1=e.1) (h2:e'.2.1=e.2.1) {k y:Int} (h:FQ (L++[e]) k y):FQ (L++[e']) k y:=by
 unfold FQ KN at h ⊢;rw[uC,aeu h1 h2,<-uC];exact h
theorem I9 {T:Ty} (xs:List T.den) (i k:Nat) (x:T.den) (hi:i<xs.length):aJ (xs.set i x) (k:Int)=if k=i then x else aJ xs (k:Int):=by
 refine (rF xs (i:Int) (k:Int) x (by omega) (by omega) (by omega)).trans ?_;by_cases h:k=i
 .rw[aF h,aF (by omega)]
 .rw[ay h,ay (by omega)]
def SQ (n:Nat) (c:CT) (L:List ET) (y:ST×ET×Bool):Prop:=y.2.2=ai->SV (n+1) (L++[y.2.1]) y.1/\K4 c (L++[y.2.1]) y.1/\EvF c.1 y.2.1/\Zq y.2.1
theorem afw {n:Nat} (hn:n+1<=100000) {c:CT} {L:List ET} {s:ST} {i:Nat} {kd o v0 si:Int} {ds fs:List Int} {sy:SY} (hs:SV n L s) (hI:K4 c L s) (hp:PE n c s (i:Int) ((i:Int),kd,o,v0,si,ds,fs)) (hm:PS c L s (i:Int) ((i:Int),kd,o,v0,si,ds,fs)) (he:EN c.1 s.1 (i:Int) kd o) (hr:V2 c.1 s.1 (i:Int) kd o) (ha:AP n s.1 sy) (I:Int) (ce fu:List Int) (t':TT) (hap:(qX c.1 s.1 (i:Int) kd o I).1=sy) (hva:VA c.1 s.1 s.2.1 s.2.2.1 (i:Int) kd o I) (hce:ce=YT s.2.1 ((i:Int),kd,o,I,si,ds,fs)) (hfu:fu=ZI s.2.2.1 ((i:Int),kd,o,I,si,ds,fs)) (ht:TH (FQ (L++[((i:Int),kd,o,v0,si,ds,fs)]) (i:Int)) (n+1) t') (hg:t'.2.1.length=0\/t'.2.2.2=bk .i64 ((aJ (T:=uN) s.2.2.2 (i:Int)).2.2.2+1)/\(kd=16->t'.1=(aJ (T:=uN) s.2.2.2 (i:Int)).1)):SQ n c L ((sy,ce,fu,s.2.2.2.set i t'),((i:Int),kd,o,I,si,ds,fs),ai):=by
 intro _;have q1:=hp.t1;have q2:=hp.fs.th;have q3:=hp.fs.e3;have q4:=hp.fs.vc.tl;have hil:i<s.2.2.2.length:=by omega
 have hln:=hs.ln;refine ⟨⟨ha.toSB hs.sb hn,by simp[hln],λk hk=>?_⟩,⟨?_,λk hk=>?_⟩,⟨he.nm,he.t0,he.t1,he.cd⟩,⟨dg hp.d (by omega),dg hp.f (by omega)⟩⟩
 .dsimp only at hk ⊢;rw[sF] at hk;rw[I9 (T:=uN) _ _ _ _ hil];split
  .rename_i h;subst h;exact ht.mono (bW _) λy J=>agh (e:=((k:Int),kd,o,v0,si,ds,fs)) (e':=((k:Int),kd,o,I,si,ds,fs)) rfl rfl J
  .exact (hs.t k hk).mono (by omega) λy J=>⟨J.1,J.2.app _⟩
 .rw[<- hap,hce,hfu];exact hI.ac.snoc (e:=((i:Int),kd,o,I,si,ds,fs)) ⟨he,hr,hm.s1,hm.s2,hm.de,hm.fr,⟨hm.da,λx U=>⟨(hm.dq x U).1,(hm.dq x U).2.lt⟩⟩,⟨hm.fa,λx U=>⟨(hm.fq x U).1,(hm.fq x U).2.lt⟩⟩,λy J=>(hm.dq y J).2,λy J=>(hm.fq y J).2,hva⟩
 .dsimp only at hk ⊢;rw[sF] at hk;rw[I9 (T:=uN) _ _ _ _ hil];obtain⟨H7,Z2⟩:=aj0 I he hr (j:=(k:Int)) (by omega);rw[hap] at H7 Z2;have hfl:=W1 L (i:Int);split
  .rename_i h;subst h;rcases hg with hg|⟨g1,g2⟩
   .exact .inl hg
   .refine .inr ⟨?_,λZ=>?_,λM=>?_⟩
    .rw[g1,hm.tg.ev,uC,zl rfl,gM (by omega)];simp
    .have Y:kd=16:=vE λh=>Z.elim (Z2 rfl h).1 (Z2 rfl h).2
     rw[g2 Y];exact hm.wt Y
    .rw[uC,zl rfl] at M;simp at M
  .rename_i h;have hki:¬(k:Int)=(i:Int):=by omega
   have hfo:∀ e:ET,e.1=(i:Int)->fl (L++[e]) (k:Int)=fl L (k:Int):=λe h=>by
    rw[uC,wH (by rw[h];exact λh=>hki h.symm),iP]
   have H7:=H7 hki;refine (hI.t k hk).imp id λg=>⟨by rw[hfo _ rfl];exact g.ev,λZ=>g.wi (by
    rcases H7 with h1|⟨h1,_⟩|⟨_,h1⟩
    .rw[<- h1];exact Z
    .exact .inl h1
    .exact Z.elim (λh=>cV (h1.symm.trans h) (by decide)) λh=>cV (h1.symm.trans h) (by decide)),λM=>?_⟩
   rw[hfo _ rfl] at M;have g2:=g.nw M;rcases H7 with h1|⟨h1,_⟩|⟨_,h1⟩
   .rw[h1];exact g2
   .exact (g2.elim (λh=>cV (h1.symm.trans h) (by decide)) λh=>cV (h1.symm.trans h) (by decide))
   .exact .inr h1
end
end Go.Proofs.YtkagidinekdnoaaGreatDoor.AI
