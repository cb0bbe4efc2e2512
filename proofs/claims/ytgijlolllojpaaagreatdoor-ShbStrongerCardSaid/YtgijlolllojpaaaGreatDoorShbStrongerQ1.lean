/-
  Texts of the proof, part 2 of 6: what is used to prove the statement. No condition.
-/
import Derived.Test.YtgijlolllojpaaaGreatDoorShbStrongerQ0
namespace Go.Proofs.YtgijlolllojpaaaGreatDoor.AI
open Go.RowKit
set_option maxRecDepth 100000
set_option maxHeartbeats 4000000
set_option linter.unusedVariables false
set_option linter.unusedSimpArgs false
open _root_.Bool renaming true→ai,false→aj
open _root_.Int renaming ofNat_eq_natCast→au,ofNat→aQ,toNat→aS,reduceEq→aZ,reduceNeg→bp,toNat_natCast→dA
open _root_.List renaming length→al,replicate→aG,length_cons→b7,range→dl,take→dF,length_singleton→dV,cons_append→gr,length_nil→j6,take_succ_cons→wj,foldl_cons→xp
open _root_.Nat renaming beq→aC,blt→gk
open _root_.Option renaming some→af,none→ah,map_some→b_,getD_some→vg
open _root_.Prod renaming p2→aV,p3→bh,p4→bw,q3→bL,p5→cu,q5→cN,q4→dh,p6→dU,q6→eZ,p7→iW,q7→mB,q8→nK,p8→ve,p10→xm,p9→xn,p11→Ek,q11→Lj,q9→NJ
open _root_.Sum renaming inr→bX,inl→oY
noncomputable section
abbrev Kd0:Ty:=(.st (.pr kL (.pr kL (.pr kL (.pr kL (.pr kL (.pr kL (.pr (.sl aM) (.pr kL (.sl aM))))))))))
abbrev Kd1:Ty:=(.st (.pr .bool .bool))
abbrev XF:=((List (List Int))×(List (List Int))×(List (List Int))×(List (List Int))×(List (List Int))×(List (List Int))×(List Int)×(List (List Int))×List Int)
abbrev Yd1:=((List Int)×(List (List Int))×(List (List Int))×(List (List Int))×(List (List Int))×(List (List Int))×(List (List Int))×(List (List Int))×(List Int)×List Int)
abbrev Yd2:=(Int×gF×(List Bool)×List dz)
abbrev Yd3:=(Int×gZ×gG×(List fx)×ca×ca×List (Int×Int×Int))
abbrev Yd4:=(dJ×Int×Int×Int×Int×Int×(List Int)×List Int)
abbrev Ha:=(List (Int×Int))
abbrev Yd6:=(Int×(List Bool)×List dz)
def MB {α R:Type} [DecidableEq α] (a b:α) (r:Option R):Option R:=if a=b then r else ah
theorem Ql {α R:Type} [DecidableEq α] (a b:α) (r:Option R):MB a b r=same a b r:=by unfold MB same;by_cases h:a=b<;>simp[h]
theorem Qk {α R:Type} [DecidableEq α] {a b:α} (h:a=b) (r:Option R):MB a b r=r:=by unfold MB;rw[aE h]
def jf (x:(List Int)×Int):Option (Int):=
 (jn (α:=Bool) (bB x.2 0 (aF ai) (aF (cZ (aX x.1) x.2))) λI=>(bcase I (af 0) (vQ x.2 x.1 (af (aJ (T:=aM) x.1 x.2)))))
def vC (it:yh) (x:(List Int)×List Int):Option (List Int):=
 (bF (cZ 0 (jD (aX x.1) (aX x.2))&&cZ (jD (aX x.1) (aX x.2)) (jD (aX x.1) (aX x.2))&&bc (aS (jD (aX x.1) (aX x.2))) 8) (it (Int×List Int) _ (λI=>(bB I.1 (aQ (al (aG (aS (jD (aX x.1) (aX x.2))) (0:Int)))) (obind (jf (x.1,I.1)) λM=>(obind (jf (x.2,I.1)) λJ=>(ck (fm I.1 (al I.2)) (cK ((cA I.1),(ct I.2 I.1 (jD M J))))))) (aF I.2))) (0,(aG (aS (jD (aX x.1) (aX x.2))) (0:Int)))))
def zj (x:(List Int)×List Int):Option (List Int):=vC @iter x
def jz (x:(List Int)×List Int):Option (List Int):=vC @fK x
def C1 (x:(List Int)×Int):Option (Int):=
 (jn (α:=Bool) (bB x.2 0 (aF ai) (aF (cZ (aX x.1) x.2))) λI=>(bcase I (af 0) (vQ x.2 x.1 (af (aJ (T:=aM) x.1 x.2)))))
def Oo (x:List Int):Option (List Int):=
 (bcase (aC (al x) 0) (FB (af ([]:List Int)) (bF (bc (al ([]:List Int)+al x) 8) (af (([]:List Int)++x)))) (bF (bc (al ([]:List Int)+al x) 8) (af (([]:List Int)++x))))
def xG (x:List Int):Option (List Int):=chk (bc (al x) 8) λ_=>af x
def xN (it:yh) (x:List (List Int)):Option (List (List Int)):=
 (bF (cZ 0 (aX x)&&cZ (aX x) (aX x)&&bc (aS (aX x)) 24) (it (Int×List (List Int)) _ (λI=>(bB I.1 (aX x) (vQ I.1 x (obind (xG (aJ (T:=(.sl aM)) x I.1)) λJ=>(ck (fm I.1 (al I.2)) (cK ((cA I.1),(ct I.2 I.1 J)))))) (aF I.2))) (0,(aG (aS (aX x)) ([]:List Int)))))
def BV (x:List (List Int)):Option (List (List Int)):=xN @iter x
def iz (x:List (List Int)):Option (List (List Int)):=xN @fK x
def IY (x:List Int):Option (List Int):=
 (bcase (aC (al x) 0) (FB (af ([]:List Int)) (bF (bc (al ([]:List Int)+al x) 8) (af (([]:List Int)++x)))) (bF (bc (al ([]:List Int)+al x) 8) (af (([]:List Int)++x))))
def pa (x:List Int):Option (List Int):=chk (bc (al x) 8) λ_=>af x
def rC (x:(List (List Int))×(List (List Int))×(List (List Int))×(List (List Int))×(List (List Int))×(List (List Int))×(List Int)×(List (List Int))×List Int):Option ((List Int)×(List (List Int))×(List (List Int))×(List (List Int))×(List (List Int))×(List (List Int))×(List (List Int))×(List (List Int))×List Int):=
 (obind (iz x.1) λy1=>(obind (iz x.2.1) λy2=>(obind (iz x.p2) λy3=>(obind (iz x.p3) λZ=>(obind (iz x.p4) λY=>(obind (iz x.p5) λU=>(obind (pa x.p6) λM=>(obind (iz x.p7) λJ=>(obind (pa x.q8) λI=>(af (M,y1,y2,y3,Z,Y,U,J,I)))))))))))
def t8 (x:Int×List (List Int)):Option ((List Int)×List (List Int)):=
 (jn (α:=Bool×List (List Int)) (bB x.1 0 (aF (ai,x.2)) (aF ((cZ (aX x.2) x.1),x.2))) λI=>(bcase I.1 (af (([]:List Int),I.2)) (ck (fm x.1 (al I.2)) (af ((aJ (T:=(.sl aM)) I.2 x.1),I.2)))))
def rD (x:gg×(List Int)×dJ×(List (List Int))×(List (List Int))×(List (List Int))×(List (List Int))×(List (List Int))×(List (List Int))×(List (List Int))×List Int):Option ((List (List Int))×gg×(List Int)×dJ×(List (List Int))×(List (List Int))×(List (List Int))×(List (List Int))×(List (List Int))×(List (List Int))×(List (List Int))×List Int):=
 (bd x.1.2.1 1 (ck (fm x.1.1 (al x.p4)) (af ([(aJ (T:=(.sl aM)) x.p4 x.1.1)],(x.1.1,x.1.2.1,x.1.p2,x.1.p3,x.1.p4,x.1.p5,x.1.q6),x.2.1,(x.p2.1,x.p2.2.1,x.p2.p2,x.p2.p3,x.p2.p4,x.p2.q5),x.p3,x.p4,x.p5,x.p6,x.p7,x.p8,x.p9,x.q10))) (bd x.1.2.1 21 (ck (fm x.1.p2 (al x.p3)) (af ([(aJ (T:=(.sl aM)) x.p3 x.1.p2)],(x.1.1,x.1.2.1,x.1.p2,x.1.p3,x.1.p4,x.1.p5,x.1.q6),x.2.1,(x.p2.1,x.p2.2.1,x.p2.p2,x.p2.p3,x.p2.p4,x.p2.q5),x.p3,x.p4,x.p5,x.p6,x.p7,x.p8,x.p9,x.q10))) (jn (α:=Bool×gg×(List Int)×dJ×(List (List Int))×(List (List Int))×(List (List Int))×(List (List Int))×(List (List Int))×(List (List Int))×(List (List Int))×List Int) (bd x.1.2.1 6 (aF ((decide ((x.1.2.1:Int)=6)),(x.1.1,x.1.2.1,x.1.p2,x.1.p3,x.1.p4,x.1.p5,x.1.q6),x.2.1,(x.p2.1,x.p2.2.1,x.p2.p2,x.p2.p3,x.p2.p4,x.p2.q5),x.p3,x.p4,x.p5,x.p6,x.p7,x.p8,x.p9,x.q10)) (aF ((decide ((x.1.2.1:Int)=10)),(x.1.1,x.1.2.1,x.1.p2,x.1.p3,x.1.p4,x.1.p5,x.1.q6),x.2.1,(x.p2.1,x.p2.2.1,x.p2.p2,x.p2.p3,x.p2.p4,x.p2.q5),x.p3,x.p4,x.p5,x.p6,x.p7,x.p8,x.p9,x.q10))) λI=>(bcase I.1 (ck (fm I.2.1.p2 (al I.p6)) (ck (fm I.2.1.p2 (al I.p7)) (af ([(aJ (T:=(.sl aM)) I.p6 I.2.1.p2),(aJ (T:=(.sl aM)) I.p7 I.2.1.p2)],(I.2.1.1,I.2.1.2.1,I.2.1.p2,I.2.1.p3,I.2.1.p4,I.2.1.p5,I.2.1.q6),I.p2,(I.p3.1,I.p3.2.1,I.p3.p2,I.p3.p3,I.p3.p4,I.p3.q5),I.p4,I.p5,I.p6,I.p7,I.p8,I.p9,I.p10,I.q11)))) (bd x.1.2.1 8 (ck (fm I.2.1.p2 (al I.p6)) (af ([(aJ (T:=(.sl aM)) I.p6 I.2.1.p2)],(I.2.1.1,I.2.1.2.1,I.2.1.p2,I.2.1.p3,I.2.1.p4,I.2.1.p5,I.2.1.q6),I.p2,(I.p3.1,I.p3.2.1,I.p3.p2,I.p3.p3,I.p3.p4,I.p3.q5),I.p4,I.p5,I.p6,I.p7,I.p8,I.p9,I.p10,I.q11))) (bd x.1.2.1 17 (vQ I.2.1.p2 I.p3.p2 (obind (t8 ((aJ (T:=mh) I.p3.p2 I.2.1.p2).2,I.p6)) λM=>(bF (aC (al I.p6) (al M.2)&&ai) (obind (t8 ((aJ (T:=mh) I.p3.p2 I.2.1.p2).2,I.p7)) λJ=>(bF (aC (al I.p7) (al J.2)&&ai) (ck (fm I.2.1.1 (al I.p10)) (af ([M.1,J.1,(aJ (T:=(.sl aM)) I.p10 I.2.1.1)],(I.2.1.1,I.2.1.2.1,I.2.1.p2,I.2.1.p3,I.2.1.p4,I.2.1.p5,I.2.1.q6),I.p2,(I.p3.1,I.p3.2.1,I.p3.p2,I.p3.p3,I.p3.p4,I.p3.q5),I.p4,I.p5,M.2,J.2,I.p8,I.p9,I.p10,I.q11)))))))) (bd x.1.2.1 3 (ck (fm I.2.1.p2 (al I.p8)) (af ([(aJ (T:=(.sl aM)) I.p8 I.2.1.p2)],(I.2.1.1,I.2.1.2.1,I.2.1.p2,I.2.1.p3,I.2.1.p4,I.2.1.p5,I.2.1.q6),I.p2,(I.p3.1,I.p3.2.1,I.p3.p2,I.p3.p3,I.p3.p4,I.p3.q5),I.p4,I.p5,I.p6,I.p7,I.p8,I.p9,I.p10,I.q11))) (bd x.1.2.1 23 (ck (fm I.2.1.p2 (al I.p9)) (af ([(aJ (T:=(.sl aM)) I.p9 I.2.1.p2)],(I.2.1.1,I.2.1.2.1,I.2.1.p2,I.2.1.p3,I.2.1.p4,I.2.1.p5,I.2.1.q6),I.p2,(I.p3.1,I.p3.2.1,I.p3.p2,I.p3.p3,I.p3.p4,I.p3.q5),I.p4,I.p5,I.p6,I.p7,I.p8,I.p9,I.p10,I.q11))) (bd x.1.2.1 12 (af ([I.p2],(I.2.1.1,I.2.1.2.1,I.2.1.p2,I.2.1.p3,I.2.1.p4,I.2.1.p5,I.2.1.q6),I.p2,(I.p3.1,I.p3.2.1,I.p3.p2,I.p3.p3,I.p3.p4,I.p3.q5),I.p4,I.p5,I.p6,I.p7,I.p8,I.p9,I.p10,I.q11)) (af (([]:List (List Int)),(I.2.1.1,I.2.1.2.1,I.2.1.p2,I.2.1.p3,I.2.1.p4,I.2.1.p5,I.2.1.q6),I.p2,(I.p3.1,I.p3.2.1,I.p3.p2,I.p3.p3,I.p3.p4,I.p3.q5),I.p4,I.p5,I.p6,I.p7,I.p8,I.p9,I.p10,I.q11)))))))))))
def Av (it:yh) (x:gZ×gG×(List fx)×ca×ca×List (Int×Int×Int)):Option XF:=
 (ck (cZ 0 (aX x.p4)&&cZ (aX x.p4) (aX x.p4)&&bc (aS (aX x.p4)) 24) (ck (cZ 0 (aX x.2.1)&&cZ (aX x.2.1) (aX x.2.1)&&bc (aS (aX x.2.1)) 24) (bF (cZ 0 (aX x.1)&&cZ (aX x.1) (aX x.1)&&bc (aS (aX x.1)) 24) (bF (cZ 0 (aX x.p3)&&cZ (aX x.p3) (aX x.p3)&&bc (aS (aX x.p3)) 24) (bF (cZ 0 (aX x.p4)&&cZ (aX x.p4) (aX x.p4)&&bc (aS (aX x.p4)) 24) (bF (cZ 0 (aX x.p4)&&cZ (aX x.p4) (aX x.p4)&&bc (aS (aX x.p4)) 8) (it (Int×(List (List Int))×(List (List Int))×(List (List Int))×(List (List Int))×(List (List Int))×(List (List Int))×(List (List Int))×List Int) _ (λI=>(bB I.1 (aQ (al (aG (aS (aX x.p4)) (0:Int)))) (ck (fm I.1 (al I.q8)) (cK ((cA I.1),I.2.1,I.p2,I.p3,I.p4,I.p5,I.p6,I.p7,(ct I.q8 I.1 (-1))))) (aF (I.2.1,I.p2,I.p3,I.p4,I.p5,I.p6,([]:List Int),I.p7,I.q8)))) (0,(aG (aS (aX x.p4)) ([]:List Int)),(aG (aS (aX x.p4)) ([]:List Int)),(aG (aS (aX x.2.1)) ([]:List Int)),(aG (aS (aX x.2.1)) ([]:List Int)),(aG (aS (aX x.1)) ([]:List Int)),(aG (aS (aX x.p3)) ([]:List Int)),(aG (aS (aX x.p4)) ([]:List Int)),(aG (aS (aX x.p4)) (0:Int))))))))))
def EJ (x:gZ×gG×(List fx)×ca×ca×List (Int×Int×Int)):Option XF:=Av @iter x
def nW (x:gZ×gG×(List fx)×ca×ca×List (Int×Int×Int)):Option XF:=Av @fK x
def pR (x:(List Int)×Int):Option (List Int):=
 (jn (α:=Bool) (j7 0 x.2 (aF (fX x.2 4)) (aF aj)) λM=>(jn (α:=Int) (bcase M (aF (jD (aX x.1) (cA x.2))) (aF (aX x.1))) λI=>(bF (cZ 0 I&&cZ I I&&bc (aS I) 8) (jn (α:=List Int) (jn (α:=Bool×List Int) (bcase M (ck (fm x.2 (al (TQ (aG (aS I) (0:Int)) x.1))) (aF ((fX (aJ (T:=aM) (TQ (aG (aS I) (0:Int)) x.1) x.2) 9223372036854775807),(TQ (aG (aS I) (0:Int)) x.1)))) (aF (aj,(TQ (aG (aS I) (0:Int)) x.1)))) λJ=>(bcase J.1 (ck (fm x.2 (al J.2)) (ck (fm x.2 (al J.2)) (aF (ct J.2 x.2 (bn .i64 ((aJ (T:=aM) J.2 x.2)+1)))))) (aF J.2))) λU=>(af U)))))
def wK (x:List Int):Option ((List Int)×List Int):=
 (bF (bc (al ([]:List Int)+al x) 8) (af ((([]:List Int)++x),x)))
def vp (x:List Int):Option (List Int):=obind (wK x) λy=>MB y.2 x (af y.1)
def Ic (it:yh) (x:(List Int)×List Int):Option ((List Int)×List Int):=
 (bF (cZ 0 (jD (aX x.1) (aX x.2))&&cZ (jD (aX x.1) (aX x.2)) (jD (aX x.1) (aX x.2))&&bc (aS (jD (aX x.1) (aX x.2))) 8) (it (Int×(List Int)×List Int) _ (λI=>(bB I.1 (aQ (al (aG (aS (jD (aX x.1) (aX x.2))) (0:Int)))) (obind (jf (x.1,I.1)) λM=>(obind (jf (I.2.1,I.1)) λJ=>(ck (fm I.1 (al I.2.2)) (cK ((cA I.1),I.2.1,(ct I.2.2 I.1 (jD M J))))))) (aF (I.2.2,I.2.1)))) (0,x.2,(aG (aS (jD (aX x.1) (aX x.2))) (0:Int)))))
def Oj (x:(List Int)×List Int):Option ((List Int)×List Int):=Ic @iter x
def tN (x:(List Int)×List Int):Option ((List Int)×List Int):=Ic @fK x
def B3 (x:(List Int)×List Int):Option (List Int):=obind (tN x) λy=>MB y.2 x.2 (af y.1)
def lI (x:Int×(List (List Int))×List Int):Option ((List (List Int))×List Int):=
 (jn (α:=Bool×(List (List Int))×List Int) (j7 0 x.1 (aF ((fX x.1 (aX x.2.1)),x.2.1,x.2.2)) (aF (aj,x.2.1,x.2.2))) λI=>(bcase I.1 (ck (fm x.1 (al I.2.1)) (obind (B3 ((aJ (T:=(.sl aM)) I.2.1 x.1),I.2.2)) λJ=>(ck (fm x.1 (al I.2.1)) (af ((ct I.2.1 x.1 J),I.2.2))))) (af (I.2.1,I.2.2))))
def wH (x:Int×(List Int)×(List (List Int))×(List (List Int))×(List (List Int))×(List (List Int))×(List (List Int))×(List (List Int))×(List (List Int))×(List Int)×List Int):Option Yd1:=
 (obind (vp x.q10) λI=>(ck (fm x.1 (al x.p8)) (ck (fm x.1 (al x.p9)) (af (x.2.1,x.p2,x.p3,x.p4,x.p5,x.p6,x.p7,(ct x.p8 x.1 I),(ct x.p9 x.1 (-1)),x.q10)))))
def At (it:yh) (x:Yd4×(List Int)×(List (List Int))×(List (List Int))×(List (List Int))×(List (List Int))×(List (List Int))×(List (List Int))×(List (List Int))×(List Int)×List Int):Option Yd1:=
 (obind (vp x.q10) λy1=>(ck (fm x.1.2.1 (al x.p2)) (jn (α:=(List Int)×(List (List Int))×(List (List Int))×(List (List Int))×(List (List Int))×(List (List Int))×(List (List Int))×(List (List Int))×(List Int)×List Int) (bd x.1.p2 20 (obind (vp x.q10) λy3=>(ck (fm x.1.p3 (al x.p3)) (aF (x.2.1,(ct x.p2 x.1.2.1 y1),(ct x.p3 x.1.p3 y3),x.p4,x.p5,x.p6,x.p7,x.p8,x.p9,x.q10)))) (jn (α:=Bool×(List Int)×(List (List Int))×(List (List Int))×(List (List Int))×(List (List Int))×(List (List Int))×(List (List Int))×(List (List Int))×(List Int)×(List Int)×dJ×Int×Int×Int×Int×Int×(List Int)×List Int) (bd x.1.p2 7 (aF ((decide ((x.1.p2:Int)=7)),x.2.1,(ct x.p2 x.1.2.1 y1),x.p3,x.p4,x.p5,x.p6,x.p7,x.p8,x.p9,x.q10,(x.1.1.1,x.1.1.2.1,x.1.1.p2,x.1.1.p3,x.1.1.p4,x.1.1.q5),x.1.2.1,x.1.p2,x.1.p3,x.1.p4,x.1.p5,x.1.p6,x.1.q7)) (aF ((decide ((x.1.p2:Int)=11)),x.2.1,(ct x.p2 x.1.2.1 y1),x.p3,x.p4,x.p5,x.p6,x.p7,x.p8,x.p9,x.q10,(x.1.1.1,x.1.1.2.1,x.1.1.p2,x.1.1.p3,x.1.1.p4,x.1.1.q5),x.1.2.1,x.1.p2,x.1.p3,x.1.p4,x.1.p5,x.1.p6,x.1.q7))) λI=>(bcase I.1 (obind (lI (I.p14,I.p4,I.p10)) λy5=>(bF (aC (al I.p10) (al y5.2)&&(aC (al I.p4) (al y5.1)&&ai)) (aF (I.2.1,I.p2,I.p3,y5.1,I.p5,I.p6,I.p7,I.p8,I.p9,y5.2)))) (bd x.1.p2 9 (obind (lI (I.p14,I.p5,I.p10)) λy6=>(bF (aC (al I.p10) (al y6.2)&&(aC (al I.p5) (al y6.1)&&ai)) (aF (I.2.1,I.p2,I.p3,I.p4,y6.1,I.p6,I.p7,I.p8,I.p9,y6.2)))) (bd x.1.p2 16 (ck (fm I.p12 (al I.p9)) (vQ I.p14 I.p11.p2 (obind (lI ((aJ (T:=mh) I.p11.p2 I.p14).2,I.p4,I.p10)) λy7=>(bF (aC (al I.p10) (al y7.2)&&(aC (al I.p4) (al y7.1)&&ai)) (aF (I.2.1,I.p2,I.p3,y7.1,I.p5,I.p6,I.p7,I.p8,(ct I.p9 I.p12 I.p14),y7.2)))))) (bd x.1.p2 4 (vQ I.p14 I.p11.1 (bcase (((((aJ (T:=kE) I.p11.1 I.p14).2).2).2).1) (obind (lI (I.p14,I.p6,I.p10)) λy8=>(bF (aC (al I.p10) (al y8.2)&&(aC (al I.p6) (al y8.1)&&ai)) (aF (I.2.1,I.p2,I.p3,I.p4,I.p5,y8.1,I.p7,I.p8,I.p9,y8.2)))) (aF (I.2.1,I.p2,I.p3,I.p4,I.p5,I.p6,I.p7,I.p8,I.p9,I.p10)))) (bd x.1.p2 22 (obind (lI (I.p14,I.p7,I.p10)) λy9=>(bF (aC (al I.p10) (al y9.2)&&(aC (al I.p7) (al y9.1)&&ai)) (aF (I.2.1,I.p2,I.p3,I.p4,I.p5,I.p6,y9.1,I.p8,I.p9,y9.2)))) (bd x.1.p2 13 (obind (B3 (I.2.1,I.p10)) λy10=>(aF (y10,I.p2,I.p3,I.p4,I.p5,I.p6,I.p7,I.p8,I.p9,I.p10))) (bd x.1.p2 18 (jn (α:=Bool×(List Int)×(List (List Int))×(List (List Int))×(List (List Int))×(List (List Int))×(List (List Int))×(List (List Int))×(List (List Int))×(List Int)×(List Int)×Int×Int×Int×Int×Int×(List Int)×List Int) (j7 0 I.p15 (aF ((fX I.p15 (aX I.p8)),I.2.1,I.p2,I.p3,I.p4,I.p5,I.p6,I.p7,I.p8,I.p9,I.p10,I.p12,I.p13,I.p14,I.p15,I.p16,I.p17,I.q18)) (aF (aj,I.2.1,I.p2,I.p3,I.p4,I.p5,I.p6,I.p7,I.p8,I.p9,I.p10,I.p12,I.p13,I.p14,I.p15,I.p16,I.p17,I.q18))) λM=>(bcase M.1 (obind (wH (M.p14,M.2.1,M.p2,M.p3,M.p4,M.p5,M.p6,M.p7,M.p8,M.p9,M.p10)) λY=>(bF (aC (al M.p10) (al Y.q9)&&(aC (al M.p9) (al Y.p8)&&(aC (al M.p8) (al Y.p7)&&(aC (al M.p7) (al Y.p6)&&(aC (al M.p6) (al Y.p5)&&(aC (al M.p5) (al Y.p4)&&(aC (al M.p4) (al Y.p3)&&(aC (al M.p3) (al Y.p2)&&(aC (al M.p2) (al Y.2.1)&&ai))))))))) (aF (Y.1,Y.2.1,Y.p2,Y.p3,Y.p4,Y.p5,Y.p6,Y.p7,Y.p8,Y.q9)))) (aF (M.2.1,M.p2,M.p3,M.p4,M.p5,M.p6,M.p7,M.p8,M.p9,M.p10)))) (bd x.1.p2 19 (it (Int×(List Int)×(List (List Int))×(List (List Int))×(List (List Int))×(List (List Int))×(List (List Int))×(List (List Int))×(List (List Int))×(List Int)×(List Int)×Int×Int×Int×Int×Int×(List Int)×List Int) _ (λJ=>(bB J.1 (aX I.p9) (jn (α:=(List Int)×(List (List Int))×(List (List Int))×(List (List Int))×(List (List Int))×(List (List Int))×(List (List Int))×(List (List Int))×(List Int)×(List Int)×Int×Int×Int×Int×Int×(List Int)×List Int) (ck (fm J.1 (al J.p9)) (bd (aJ (T:=aM) J.p9 J.1) J.p13 (obind (wH (J.1,J.2.1,J.p2,J.p3,J.p4,J.p5,J.p6,J.p7,J.p8,J.p9,J.p10)) λU=>(bF (aC (al J.p10) (al U.q9)&&(aC (al J.p9) (al U.p8)&&(aC (al J.p8) (al U.p7)&&(aC (al J.p7) (al U.p6)&&(aC (al J.p6) (al U.p5)&&(aC (al J.p5) (al U.p4)&&(aC (al J.p4) (al U.p3)&&(aC (al J.p3) (al U.p2)&&(aC (al J.p2) (al U.2.1)&&ai))))))))) (aF (U.1,U.2.1,U.p2,U.p3,U.p4,U.p5,U.p6,U.p7,U.p8,U.q9,J.p11,J.p12,J.p13,J.p14,J.p15,J.p16,J.q17)))) (aF (J.2.1,J.p2,J.p3,J.p4,J.p5,J.p6,J.p7,J.p8,J.p9,J.p10,J.p11,J.p12,J.p13,J.p14,J.p15,J.p16,J.q17)))) λZ=>(cK ((cA J.1),Z.1,Z.2.1,Z.p2,Z.p3,Z.p4,Z.p5,Z.p6,Z.p7,Z.p8,Z.p9,Z.p10,Z.p11,Z.p12,Z.p13,Z.p14,Z.p15,Z.q16))) (aF (bX (J.2.1,J.p2,J.p3,J.p4,J.p5,J.p6,J.p7,J.p8,J.p9,J.p10))))) (0,I.2.1,I.p2,I.p3,I.p4,I.p5,I.p6,I.p7,I.p8,I.p9,I.p10,I.p12,I.p13,I.p14,I.p15,I.p16,I.p17,I.q18)) (aF (I.2.1,I.p2,I.p3,I.p4,I.p5,I.p6,I.p7,I.p8,I.p9,I.p10)))))))))))) λx2=>(af (x2.1,x2.2.1,x2.p2,x2.p3,x2.p4,x2.p5,x2.p6,x2.p7,x2.p8,x2.q9)))))
def EH (x:Yd4×(List Int)×(List (List Int))×(List (List Int))×(List (List Int))×(List (List Int))×(List (List Int))×(List (List Int))×(List (List Int))×(List Int)×List Int):Option Yd1:=At @iter x
def pP (x:Yd4×(List Int)×(List (List Int))×(List (List Int))×(List (List Int))×(List (List Int))×(List (List Int))×(List (List Int))×(List (List Int))×(List Int)×List Int):Option Yd1:=At @fK x
def Dn (it:yh) (x:dJ×XF×Int×Int×Int×Int×Int×(List Int)×List Int):Option (XF×List Int):=
 (obind (rC (x.2.1.1,x.2.1.2.1,x.2.1.p2,x.2.1.p3,x.2.1.p4,x.2.1.p5,x.2.1.p6,x.2.1.p7,x.2.1.q8)) λU=>(ck (fm x.p2 (al U.2.1)) (obind (rD ((x.p2,x.p3,x.p4,x.p5,x.p6,x.p7,x.q8),U.1,(x.1.1,x.1.2.1,x.1.p2,x.1.p3,x.1.p4,x.1.q5),U.2.1,U.p2,U.p3,U.p4,U.p5,U.p6,U.p7,U.q8)) λJ=>(bF (aC (al U.q8) (al J.q11)&&(aC (al U.p7) (al J.p10)&&(aC (al U.p6) (al J.p9)&&(aC (al U.p5) (al J.p8)&&(aC (al U.p4) (al J.p7)&&(aC (al U.p3) (al J.p6)&&(aC (al U.p2) (al J.p5)&&(aC (al U.2.1) (al J.p4)&&ai)))))))) (it (Int×dJ×gg×(List Int)×(List Int)×(List (List Int))×(List (List Int))×(List (List Int))×(List (List Int))×(List (List Int))×(List (List Int))×(List (List Int))×List Int) _ (λI=>(bB I.1 (aX J.1) (vQ I.1 J.1 (obind (jz (I.p4,(aJ (T:=(.sl aM)) J.1 I.1))) λZ=>(cK ((cA I.1),(I.2.1.1,I.2.1.2.1,I.2.1.p2,I.2.1.p3,I.2.1.p4,I.2.1.q5),(I.p2.1,I.p2.2.1,I.p2.p2,I.p2.p3,I.p2.p4,I.p2.p5,I.p2.q6),I.p3,Z,I.p5,I.p6,I.p7,I.p8,I.p9,I.p10,I.p11,I.q12)))) (obind (obind (pR (I.p4,I.p2.1)) λY=>(obind (pP (((I.2.1.1,I.2.1.2.1,I.2.1.p2,I.2.1.p3,I.2.1.p4,I.2.1.q5),I.p2.1,I.p2.2.1,I.p2.p2,I.p2.p3,I.p2.p4,I.p2.p5,I.p2.q6),I.p3,I.p5,I.p6,I.p7,I.p8,I.p9,I.p10,I.p11,I.q12,Y)) λM=>(bF (aC (al Y) (al M.q9)&&(aC (al I.q12) (al M.p8)&&(aC (al I.p11) (al M.p7)&&(aC (al I.p10) (al M.p6)&&(aC (al I.p9) (al M.p5)&&(aC (al I.p8) (al M.p4)&&(aC (al I.p7) (al M.p3)&&(aC (al I.p6) (al M.p2)&&(aC (al I.p5) (al M.2.1)&&ai))))))))) (af ((M.2.1,M.p2,M.p3,M.p4,M.p5,M.p6,M.1,M.p7,M.p8),M.q9))))) λr=>af (bX r)))) (0,(J.p3.1,J.p3.2.1,J.p3.p2,J.p3.p3,J.p3.p4,J.p3.q5),(J.2.1.1,J.2.1.2.1,J.2.1.p2,J.2.1.p3,J.2.1.p4,J.2.1.p5,J.2.1.q6),J.p2,(aJ (T:=(.sl aM)) U.2.1 x.p2),J.p4,J.p5,J.p6,J.p7,J.p8,J.p9,J.p10,J.q11))))))
def IR (x:dJ×XF×Int×Int×Int×Int×Int×(List Int)×List Int):Option (XF×List Int):=Dn @iter x
def sD (x:dJ×XF×Int×Int×Int×Int×Int×(List Int)×List Int):Option (XF×List Int):=Dn @fK x
def Dm (it:yh) (x:(List Int)×List Int):Option (Bool):=
 (it (Int) _ (λI=>(bB I (jD (aX x.1) (aX x.2)) (obind (C1 (x.1,I)) λM=>(obind (C1 (x.2,I)) λJ=>(bB J M (aF aj) (cK (cA I))))) (aF ai))) 0)
def IQ (x:(List Int)×List Int):Option (Bool):=Dm @iter x
def oN (x:(List Int)×List Int):Option (Bool):=Dm @fK x
def t7 (x:(List Int)×List Int):Option (Bool):=
 (jn (α:=Bool) (obind (oN (x.1,x.2)) λJ=>(bcase J (obind (oN (x.2,x.1)) λI=>(aF I)) (aF aj))) λM=>(af M))
def rL (it:yh) (x:List UInt8):Option (Bool):=
 (lt (aJ (T:=(.st (.pr .str (.pr .str (.pr .str (.pr .str (.pr .str (.pr .str (.pr .str (.pr .str (.pr .str (.pr .str (.pr .str (.pr .str (.pr .str (.pr .str (.pr .str (.pr .str (.pr .str (.pr .str (.pr .str (.pr .str (.pr .str .str))))))))))))))))))))))) ([kwV]) 0) λI=>(it (Int) _ (λJ=>(bB J 22 (bF (cZ 0 J&&fX J 22) (lt (aJ (T:=.str) [I.1,I.2.1,I.p2,I.p3,I.p4,I.p5,I.p6,I.p7,I.p8,I.p9,I.p10,I.p11,I.p12,I.p13,I.p14,I.p15,I.p16,I.p17,I.p18,I.p19,I.p20,I.q21] J) λM=>(bcase (decide ((x:List UInt8)=M)) (aF ai) (cK (cA J))))) (aF aj))) 0))
def rj (x:List UInt8):Option (Bool):=rL @iter x
def k9 (x:List UInt8):Option (Bool):=rL @fK x
def vX (it:yh) (x:List UInt8):Option (Bool):=
 (jn (α:=Bool) (bB (aX x) 1 (aF ai) (bB 12 (aX x) (aF ai) (obind (k9 x) λU=>(aF U)))) λZ=>(bcase Z (af aj) (it (List (fx×Unit)) _ (λI=>(bcase (gk (Ou I) (al (P3 I))) (bF (fX (AD (P3 I) (aQ (Ou I))) 128) (jn (α:=List (fx×Unit)) (jn (α:=Bool×List (fx×Unit)) (j7 97 (AD (P3 I) (aQ (Ou I))) (j7 (AD (P3 I) (aQ (Ou I))) 122 (aF (ai,[(((P3 I),(aQ ((Ou I)+1))),())])) (j7 65 (AD (P3 I) (aQ (Ou I))) (aF ((cZ (AD (P3 I) (aQ (Ou I))) 90),[(((P3 I),(aQ ((Ou I)+1))),())])) (aF (aj,[(((P3 I),(aQ ((Ou I)+1))),())])))) (j7 65 (AD (P3 I) (aQ (Ou I))) (aF ((cZ (AD (P3 I) (aQ (Ou I))) 90),[(((P3 I),(aQ ((Ou I)+1))),())])) (aF (aj,[(((P3 I),(aQ ((Ou I)+1))),())])))) λJ=>(bcase J.1 (aF J.2) (jn (α:=Bool×List (fx×Unit)) (bB 0 (aQ (Ou I)) (bd (AD (P3 I) (aQ (Ou I))) 95 (aF (ai,J.2)) (j7 48 (AD (P3 I) (aQ (Ou I))) (aF ((cZ (AD (P3 I) (aQ (Ou I))) 57),J.2)) (aF (aj,J.2)))) (aF (aj,J.2))) λM=>(bcase M.1 (aF M.2) (cK (bX aj)))))) λY=>(cK Y))) (aF ai))) ([((x,0),())]))))
def vR (x:List UInt8):Option (Bool):=vX @iter x
def oL (x:List UInt8):Option (Bool):=vX @fK x
def xS (it:yh) (x:(List Int)×Int):Option (Int):=
 (it (Int) _ (λI=>(bB I (aX x.1) (bH aM x.1 I λJ=>(bd x.2 J (aF I) (cK (cA I)))) (aF (-1)))) 0)
def BX (x:(List Int)×Int):Option (Int):=xS @iter x
def rF (x:(List Int)×Int):Option (Int):=xS @fK x
def kC (x:(List Int)×Int):Option (Bool):=
 (obind (rF x) λI=>(af (cZ 0 I)))
def mw (x:(List Int)×Int×Int):Option (Bool):=
 (obind (jf (x.1,x.2.2)) λI=>(af (cZ x.2.1 I)))
def uv (x:Int×Int×Int×Int×Int×(List Int)×List Int):Option (Bool):=
 (jn (α:=Bool) (bd x.2.1 3 (aF ai) (aF (decide ((x.2.1:Int)=4)))) λI=>(af I))
def qy (x:(dJ×List gg)×Int×Int):Option (Bool):=
 (bH jt x.1.2 x.2.1 λM=>(bH jt x.1.2 x.2.2 λJ=>(jn (α:=Bool×(dJ×List gg)×gg×Int×Int×Int×Int×Int×(List Int)×List Int) (bd M.1 J.1 (aF (ai,x.1,M,J)) (aF ((!decide ((M.p2:Int)=J.p2)),x.1,M,J))) λI=>(bcase I.1 (af aj) (jn (α:=Bool×gg×Int×Int×Int×Int×Int×(List Int)×List Int) (obind (uv I.p2) λy5=>(bcase (!y5) (aF (ai,I.2.2)) (obind (uv I.q3) λZ=>(bcase (!Z) (aF (ai,I.2.2)) (bH kE I.2.1.1.1 I.p2.p2 λY=>(aF (Y.2.2.2.1,I.2.2))))))) λU=>(bcase U.1 (af aj) (jn (α:=Bool) (bd U.2.1.2.1 4 (aF ai) (aF (decide ((U.p3:Int)=4)))) λx8=>(af x8))))))))
def xM (it:yh) (x:List gg):Option Ha:=
 (bF (cZ 0 (aX x)&&cZ (aX x) (aX x)&&bc (aS (aX x)) 16) (it (Int×Ha×List (Int×Int)) _ (λI=>(bB I.1 (aX x) (bH jt x I.1 λJ=>(ck (fm I.1 (al I.2.2)) (cK ((cA I.1),(C3 (K:=aM) (V:=aM) J.1 (bn .i64 ((tm (K:=aM) (V:=aM) J.1 I.2.1 0)+1)) I.2.1),(ct I.2.2 I.1 ((tm (K:=aM) (V:=aM) J.1 (C3 (K:=aM) (V:=aM) J.1 (bn .i64 ((tm (K:=aM) (V:=aM) J.1 I.2.1 0)+1)) I.2.1) 0),J.1)))))) (aF I.2.2))) (0,([]:List (Int×Int)),(aG (aS (aX x)) ((0,0):Int×Int)))))
def BU (x:List gg):Option Ha:=xM @iter x
def pD (x:List gg):Option Ha:=xM @fK x
def sV (x:Int×Int):Option (Bool):=
 (jn (α:=Bool) (j7 0 x.1 (aF (fX x.1 x.2)) (aF aj)) λI=>(af I))
def sW (x:dJ×Int×Bool):Option (Bool):=
 (jn (α:=Bool) (obind (sV (x.2.1,(aX x.1.2.1))) λJ=>(bcase J (bH rU x.1.2.1 x.2.1 λI=>(aF ((I.2==x.2.2) !=aj))) (aF aj))) λM=>(af M))
def oE (it:yh) (x:List S7):Option (ca×Bool):=
 (it (Int×List (List UInt8)) _ (λM=>(bB M.1 (aX x) (jn (α:=Int×List (List UInt8)) (bH kE x M.1 λI=>(bF (bc (al M.2+al ([I.1])) 16) (bd I.p2 0 (il I.2.1 0 (cK (bX (([]:List (List UInt8)),aj))) (aF ((cA M.1),(M.2++([I.1]))))) (jn (α:=Bool×ca×(List UInt8)×Int×Int×Bool×Int) (bB I.p2 1 (aF (ai,(M.2++([I.1])),I)) (bB 4 I.p2 (aF (ai,(M.2++([I.1])),I)) (bcase I.p3 (aF (ai,(M.2++([I.1])),I)) (aF ((fX (bn .i64 ((aX x)-M.1)) I.p2),(M.2++([I.1])),I))))) λY=>(bcase Y.1 (cK (bX (([]:List (List UInt8)),aj))) (it (Int×ca×(List UInt8)×Int×Int×Bool×Int) _ (λJ=>(bB J.1 Y.p4 (bH kE x (bn .i64 (M.1+J.1)) λU=>(bcase (Lr (.pr .str (.pr aM (.pr aM (.pr .bool (.pr aM .un))))) (U.1,U.2.1,U.p2,U.p3,U.q4,()) (J.p2,J.1,J.p4,J.p5,J.q6,()) !=ai) (aF (oY (bX (([]:List (List UInt8)),aj)))) (cK ((cA J.1),J.2.1,J.p2,J.1,J.q4)))) (aF (bX ((bn .i64 (M.1+J.p4)),J.2.1))))) (0,Y.2))))))) λZ=>(cK Z)) (aF (M.2,ai)))) (0,([]:List (List UInt8))))
def oz (x:List S7):Option (ca×Bool):=oE @iter x
def hZ (x:List S7):Option (ca×Bool):=oE @fK x
def oD (it:yh) (x:dJ×List (List UInt8)):Option (Bool):=
 (bF (bc (al (x.2:List (List UInt8))) 16) (it (Int×dJ×List (List UInt8)) _ (λJ=>(bB J.1 (aX x.1.2.1) (bH rU x.1.2.1 J.1 λz2=>(bF (bc (al J.2.2+al ([z2.1])) 16) (cK ((cA J.1),J.2.1,(J.2.2++([z2.1])))))) (obind (it (Int×dJ×List (List UInt8)) _ (λI=>(bB I.1 (aX J.2.1.p2) (bH mh J.2.1.p2 I.1 λZ=>(bF (bc (al I.2.2+al ([Z.1])) 16) (cK ((cA I.1),I.2.1,(I.2.2++([Z.1])))))) (obind (bF (bc (al I.2.2+al I.2.1.p3) 16) (bF (bc (al (I.2.2++I.2.1.p3)+al I.2.1.p4) 16) (it (Int×gG×List (List UInt8)) _ (λM=>(bB M.1 (aQ (al ((I.2.2++I.2.1.p3)++I.2.1.p4))) (kJ (.str) M.2.2 M.1 λU=>(jn (α:=Bool×gG×List (List UInt8)) (obind (oL U) λy8=>(bcase (!y8) (aF (ai,M.2)) (aF ((tm (K:=.str) (V:=.bool) U M.2.1 aj),M.2)))) λY=>(bcase Y.1 (aF aj) (cK ((cA M.1),(C3 (K:=.str) (V:=.bool) U ai Y.2.1),Y.2.2))))) (aF ai))) (0,([]:List ((List UInt8)×Bool)),((I.2.2++I.2.1.p3)++I.2.1.p4))))) λr=>af (bX r)))) (0,J.2)) λr=>af (bX r)))) (0,x)))
def oy (x:dJ×List (List UInt8)):Option (Bool):=oD @iter x
def dR (x:dJ×List (List UInt8)):Option (Bool):=oD @fK x
def kR (it:yh) (x:gZ×gG×(List fx)×ca×ca×List (Int×Int×Int)):Option (Bool):=
 (it ((Int×Int×Int)×gZ×gG×(List fx)×ca×ca×List (Int×Int×Int)) _ (λI=>(bB I.1.2.2 (aX x.q5) (bH oX x.q5 I.1.2.2 λU=>(jn (α:=Bool×dJ×Int×Int×Int) (bB U.1 I.1.1 (aF (ai,I.2,U)) (aF ((cZ (aX I.p5) U.1),I.2,U))) λM=>(bcase M.1 (aF aj) (jn (α:=(Int×Int)×dJ×Int×Int×Int) (bB I.1.1 M.p2 (aF ((M.p2,0),M.2)) (aF ((I.1.1,I.1.2.1),M.2))) λJ=>(il J.p3 J.1.2 (aF aj) (cK ((J.1.1,(cA J.1.2),(cA I.1.2.2)),J.2.1))))))) (aF ai))) ((0,0,0),x))
def ox (x:gZ×gG×(List fx)×ca×ca×List (Int×Int×Int)):Option (Bool):=kR @iter x
def fZ (x:gZ×gG×(List fx)×ca×ca×List (Int×Int×Int)):Option (Bool):=kR @fK x
def kS (it:yh) (x:gZ×gG×(List fx)×ca×ca×List (Int×Int×Int)):Option (Bool):=
 (jn (α:=Bool×gZ×gG×(List fx)×ca×ca×List (Int×Int×Int)) (bB 12 (aX x.1) (aF (ai,x)) (bB 4 (aX x.2.1) (aF (ai,x)) (bB 2 (aX x.p2) (aF (ai,x)) (bB 2 (aX x.p3) (aF (ai,x)) (aF ((fX 60 (aX x.q5)),x)))))) λM=>(bcase M.1 (af aj) (jn (α:=Bool×gZ×gG×(List fx)×ca×ca×List (Int×Int×Int)) (bB (aX M.p5) 1 (aF (ai,M.2)) (aF ((fX 4 (aX M.p5)),M.2))) λJ=>(bcase J.1 (af aj) (obind (hZ J.2.1) λY=>(jn (α:=Bool×gZ×gG×(List fx)×ca×ca×List (Int×Int×Int)) (bcase (!Y.2) (aF (ai,J.2)) (obind (dR (J.2,Y.1)) λy5=>(aF ((!y5),J.2)))) λU=>(bcase U.1 (af aj) (it Yd3 _ (λI=>(bB I.1 (aX U.p3) (bH mh U.p3 I.1 λZ=>(obind (sW (I.2,Z.2,aj)) λy8=>(bcase (!y8) (aF aj) (cK ((cA I.1),I.2))))) (obind (obind (fZ I.2) λy9=>(af y9)) λr=>af (bX r)))) (0,U.2)))))))))
def oA (x:gZ×gG×(List fx)×ca×ca×List (Int×Int×Int)):Option (Bool):=kS @iter x
def dS (x:gZ×gG×(List fx)×ca×ca×List (Int×Int×Int)):Option (Bool):=kS @fK x
def vY (it:yh) (x:gZ×gG×(List fx)×ca×ca×List (Int×Int×Int)):Option ph:=
 (bF (cZ 0 (aX x.2.1)&&cZ (aX x.2.1) (aX x.2.1)&&bc (aS (aX x.2.1)) 32) (bF (cZ 0 (aX x.p3)&&cZ (aX x.p3) (aX x.p3)&&bc (aS (aX x.p3)) 1) (bF (cZ 0 (aX x.p4)&&cZ (aX x.p4) (aX x.p4)&&bc (aS (aX x.p4)) 24) (it (Int×Int×Int×gF×(List Bool)×List dz) _ (λI=>(bB I.1 (aQ (al (aG (aS (aX x.2.1)) ((0,[]):Int×List Int)))) (ck (fm I.1 (al I.p3)) (cK ((cA I.1),I.2.1,I.p2,(ct I.p3 I.1 ((-1),(aJ (T:=eh) I.p3 I.1).2)),I.q4))) (obind (jn (α:=Int×Int×gF×(List Bool)×List dz) (bB 0 (aX I.q5) (ck (fm 0 (al I.q5)) (aF (I.2.1,I.p2,I.p3,I.p4,(ct I.q5 0 (1,(aJ (T:=ij) I.q5 0).2))))) (aF I.2)) λJ=>(af (J.p2,J.2.1,J.q3))) λr=>af (bX r)))) (0,0,(-1),(aG (aS (aX x.2.1)) ((0,[]):Int×List Int)),(aG (aS (aX x.p3)) (aj:Bool)),(aG (aS (aX x.p4)) ((0,(0,aj)):Int×Int×Bool)))))))
def vT (x:gZ×gG×(List fx)×ca×ca×List (Int×Int×Int)):Option ph:=vY @iter x
def oP (x:gZ×gG×(List fx)×ca×ca×List (Int×Int×Int)):Option ph:=vY @fK x
def qB (it:yh) (x:gZ×gG×(List fx)×ca×ca×List (Int×Int×Int)):Option eO:=
 (obind (oP x) λM=>(bF (cZ 0 0&&cZ 0 (aX x.1)&&bc (aS (aX x.1)) 8) (bF (cZ 0 (aX x.p3)&&cZ (aX x.p3) (aX x.p3)&&bc (aS (aX x.p3)) 8) (bF (cZ 0 (aX x.p4)&&cZ (aX x.p4) (aX x.p4)&&bc (aS (aX x.p4)) 8) (it (Int×Int×ph×(List Int)×(List Int)×List Int) _ (λI=>(bB I.1 (aX x.1) (bH kE x.1 I.1 λJ=>(bF (bc (al I.p3+al ([J.q4])) 8) (cK ((cA I.1),I.2.1,I.p2,(I.p3++([J.q4])),I.q4)))) (aF I.2.2))) (0,0,M,(aG (aS 0) (0:Int)),(aG (aS (aX x.p3)) (0:Int)),(aG (aS (aX x.p4)) (0:Int))))))))
def qi (x:gZ×gG×(List fx)×ca×ca×List (Int×Int×Int)):Option eO:=qB @iter x
def di (x:gZ×gG×(List fx)×ca×ca×List (Int×Int×Int)):Option eO:=qB @fK x
def kw (it:yh) (x:(List Bool)×Int×Int×Int×Int×Int×(List Int)×List Int):Option (Bool):=
 (it (Int) _ (λI=>(bB I 2 (bF (cZ 0 I&&fX I 2) (lt (aJ (T:=(.sl aM)) [x.p6,x.q7] I) λU=>(it (Int) _ (λM=>(bB M (aX U) (bH aM U M λJ=>(jn (α:=Bool) (bB J 0 (aF ai) (j7 (aX x.1) J (aF ai) (bH (.bool) x.1 J λY=>(aF (!Y))))) λZ=>(bcase Z (aF (bX aj)) (cK (cA M))))) (aF (oY (cA I))))) 0))) (aF ai))) 0)
def mQ (x:(List Bool)×Int×Int×Int×Int×Int×(List Int)×List Int):Option (Bool):=kw @iter x
def cf (x:(List Bool)×Int×Int×Int×Int×Int×(List Int)×List Int):Option (Bool):=kw @fK x
def fe (x:Int×Int):Option (Bool):=
 (jn (α:=Bool) (j7 0 x.1 (aF (fX x.1 x.2)) (aF aj)) λI=>(af I))
def l9 (x:dJ×Int×Int):Option (Bool):=
 (jn (α:=Bool×gZ×gG×(List fx)×ca×ca×List (Int×Int×Int)) (bd x.2.1 1 (aF ((decide ((x.2.1:Int)=1)),x.1)) (bd x.2.1 2 (aF ((decide ((x.2.1:Int)=2)),x.1)) (bd x.2.1 5 (aF ((decide ((x.2.1:Int)=5)),x.1)) (bd x.2.1 12 (aF ((decide ((x.2.1:Int)=12)),x.1)) (bd x.2.1 13 (aF ((decide ((x.2.1:Int)=13)),x.1)) (bd x.2.1 14 (aF ((decide ((x.2.1:Int)=14)),x.1)) (aF ((decide ((x.2.1:Int)=15)),x.1)))))))) λx1=>(bcase x1.1 (af (decide ((x.2.2:Int)=(-1)))) (jn (α:=Bool×gZ×gG×(List fx)×ca×ca×List (Int×Int×Int)) (bd x.2.1 3 (aF ((decide ((x.2.1:Int)=3)),x1.2)) (aF ((decide ((x.2.1:Int)=4)),x1.2))) λZ=>(bcase Z.1 (obind (fe (x.2.2,(aX Z.2.1))) λy3=>(af y3)) (jn (α:=Bool×gZ×gG×(List fx)×ca×ca×List (Int×Int×Int)) (bd x.2.1 6 (aF ((decide ((x.2.1:Int)=6)),Z.2)) (aF ((decide ((x.2.1:Int)=7)),Z.2))) λU=>(bcase U.1 (jn (α:=Bool) (obind (fe (x.2.2,(aX U.p2))) λy6=>(bcase y6 (bH rU U.p2 x.2.2 λz7=>(aF (!z7.2))) (aF aj))) λx5=>(af x5)) (jn (α:=Bool×gZ×gG×(List fx)×ca×ca×List (Int×Int×Int)) (bd x.2.1 8 (aF ((decide ((x.2.1:Int)=8)),U.2)) (bd x.2.1 9 (aF ((decide ((x.2.1:Int)=9)),U.2)) (bd x.2.1 10 (aF ((decide ((x.2.1:Int)=10)),U.2)) (aF ((decide ((x.2.1:Int)=11)),U.2))))) λM=>(bcase M.1 (jn (α:=Bool) (obind (fe (x.2.2,(aX M.p2))) λy10=>(bcase y10 (bH rU M.p2 x.2.2 λz11=>(aF z11.2)) (aF aj))) λx9=>(af x9)) (jn (α:=Bool×gZ×gG×(List fx)×ca×ca×List (Int×Int×Int)) (bd x.2.1 16 (aF ((decide ((x.2.1:Int)=16)),M.2)) (bd x.2.1 17 (aF ((decide ((x.2.1:Int)=17)),M.2)) (bd x.2.1 18 (aF ((decide ((x.2.1:Int)=18)),M.2)) (aF ((decide ((x.2.1:Int)=19)),M.2))))) λJ=>(bcase J.1 (obind (fe (x.2.2,(aX J.p3))) λy13=>(af y13)) (jn (α:=Bool×gZ×gG×(List fx)×ca×ca×List (Int×Int×Int)) (bd x.2.1 20 (aF ((decide ((x.2.1:Int)=20)),J.2)) (aF ((decide ((x.2.1:Int)=21)),J.2))) λI=>(bcase I.1 (obind (fe (x.2.2,(aX I.p5))) λy15=>(af y15)) (jn (α:=Bool×gZ×gG×(List fx)×ca×ca×List (Int×Int×Int)) (bd x.2.1 22 (aF ((decide ((x.2.1:Int)=22)),I.2)) (aF ((decide ((x.2.1:Int)=23)),I.2))) λY=>(bcase Y.1 (obind (fe (x.2.2,(aX Y.p4))) λy17=>(af y17)) (af aj)))))))))))))))
def tQ (it:yh) (x:dJ×gF×Int×(List Bool)×List dz):Option (Bool):=
 (jn (α:=Bool×gZ×gG×(List fx)×ca×ca×List (Int×Int×Int)) (il (aX x.2.1) (aX x.1.2.1) (aF (ai,x.1)) (il (aX x.p3) (aX x.1.p3) (aF (ai,x.1)) (aF ((!decide (((aX x.q4):Int)=(aX x.1.p4))),x.1)))) λJ=>(bcase J.1 (af aj) (it Yd3 _ (λI=>(bB I.1 (aX J.p3) (bH mh J.p3 I.1 λM=>(obind (fe (M.2,(aX I.p2))) λU=>(bcase (!U) (aF aj) (cK ((cA I.1),I.2))))) (aF ai))) (0,J.2))))
def xC (x:dJ×gF×Int×(List Bool)×List dz):Option (Bool):=tQ @iter x
def kr (x:dJ×gF×Int×(List Bool)×List dz):Option (Bool):=tQ @fK x
def oO (x:dJ×ph×Int×Int×Int):Option (Bool):=
 (bd x.p3 6 (bH eh x.2.1.1 x.q4 λz1=>(af (decide ((z1.1:Int)=(-1))))) (bd x.p3 10 (jn (α:=Bool) (bH eh x.2.1.1 x.q4 λz3=>(bd z3.1 (-1) (bH eh x.2.1.1 x.q4 λz4=>(aF (decide (((aX z4.2):Int)=0)))) (aF aj))) λx2=>(af x2)) (bd x.p3 8 (jn (α:=Bool) (bH eh x.2.1.1 x.q4 λz6=>(bd z6.1 (-1) (bH eh x.2.1.1 x.q4 λz7=>(obind (kC (z7.2,x.p2)) λy8=>(aF (!y8)))) (aF aj))) λx5=>(af x5)) (jn (α:=Bool×dJ×gF×Int×(List Bool)×List dz) (bd x.p3 7 (aF ((decide ((x.p3:Int)=7)),x.1,x.2.1)) (aF ((decide ((x.p3:Int)=11)),x.1,x.2.1))) λJ=>(bcase J.1 (bH eh J.p2 x.q4 λz10=>(af (decide ((z10.1:Int)=x.p2)))) (bd x.p3 9 (bH eh J.p2 x.q4 λz11=>(obind (kC (z11.2,x.p2)) λy12=>(af y12))) (bd x.p3 12 (af (decide ((J.p3:Int)=(-1)))) (bd x.p3 13 (af (decide ((J.p3:Int)=x.p2))) (bd x.p3 14 (bH ij J.q5 x.p2 λz13=>(af (!z13.2.2))) (bd x.p3 15 (bH ij J.q5 x.p2 λz14=>(af z14.2.2)) (jn (α:=Bool×dJ×gF×Int×(List Bool)×List dz) (bd x.p3 16 (aF ((decide ((x.p3:Int)=16)),J.2)) (bd x.p3 18 (aF ((decide ((x.p3:Int)=18)),J.2)) (aF ((decide ((x.p3:Int)=19)),J.2)))) λI=>(bcase I.1 (bH mh I.2.1.p2 x.q4 λz16=>(bH eh I.p2 z16.2 λz17=>(af (decide ((z17.1:Int)=x.p2))))) (bd x.p3 20 (jn (α:=Bool) (il x.q4 x.p2 (bH ij I.q5 x.q4 λZ=>(aF (decide ((Z.1:Int)=0)))) (aF aj)) λx18=>(af x18)) (bd x.p3 21 (jn (α:=Bool) (il x.q4 x.p2 (bH ij I.q5 x.q4 λY=>(aF (decide ((Y.1:Int)=5)))) (aF aj)) λx20=>(af x20)) (bd x.p3 22 (bH (.bool) I.p4 x.q4 λU=>(af (!U))) (bd x.p3 23 (bH (.bool) I.p4 x.q4 λM=>(af M)) (af ai)))))))))))))))))
def jk (x:dJ×ph×Int×Int×Int):Option (Bool):=
 (jn (α:=Bool×dJ×gF×Int×(List Bool)×List dz) (obind (kr (x.1,x.2.1)) λy2=>(bcase (!y2) (aF (ai,x.1,x.2.1)) (obind (fe (x.p2,(aX x.1.p4))) λy3=>(bcase (!y3) (aF (ai,x.1,x.2.1)) (obind (l9 (x.1,x.q3)) λZ=>(aF ((!Z),x.1,x.2.1))))))) λI=>(bcase I.1 (af aj) (bH ij I.q5 x.p2 λJ=>(bd x.p3 1 (af (decide ((J.1:Int)=1))) (bd x.p3 17 (jn (α:=Bool) (bd J.1 4 (bd J.2.1 x.q4 (bH mh I.2.1.p2 x.q4 λY=>(bH eh I.p2 Y.2 λU=>(aF (decide ((U.1:Int)=(-1)))))) (aF aj)) (aF aj)) λx6=>(af x6)) (jn (α:=Bool) (bd J.1 2 (obind (oO (I.2.1,I.2.2,x.2.2)) λM=>(aF M)) (aF aj)) λx9=>(af x9)))))))
def kZ (x:dJ×ph×(List Int)×(List Int)×List Int):Option (Bool):=
 (jn (α:=Bool) (obind (kr (x.1,x.2.1)) λI=>(bcase I (bd (aX x.p2) (aX x.1.1) (bd (aX x.p3) (aX x.1.p3) (aF (decide (((aX x.q4):Int)=(aX x.1.p4)))) (aF aj)) (aF aj)) (aF aj))) λJ=>(af J))
def jI (x:dJ×Int×Int×Int×Int×Int×(List Int)×List Int):Option (Bool):=
 (jn (α:=Bool×dJ×Int×Int×Int×Int×Int×(List Int)×List Int) (bd x.p2 1 (aF (ai,x)) (aF ((decide ((x.p2:Int)=2)),x))) λI=>(bcase I.1 (af (decide ((I.p6:Int)=(-1)))) (jn (α:=Bool) (j7 0 I.p6 (bB I.p6 (aX I.2.1.q5) (bH oX I.2.1.q5 I.p6 λJ=>(aF (decide ((J.1:Int)=I.p2)))) (aF aj)) (aF aj)) λM=>(af M))))
def jw (it:yh) (x:dJ×eO×Int×Int×Int×Int×Int×(List Int)×List Int):Option (Bool):=
 (jn (α:=Bool×eO×Int×Int×Int×Int×Int×(List Int)×List Int) (bd x.p3 3 (bH kE x.1.1 x.p4 λz2=>(aF ((!decide ((z2.2.2.1:Int)=0)),x.2))) (bd x.p3 4 (bH kE x.1.1 x.p4 λz3=>(aF ((!decide ((z3.2.2.1:Int)=0)),x.2))) (aF (aj,x.2)))) λI=>(jn (α:=eO×gg×Bool×Bool) (bd I.p3 5 (bd I.p3 4 (aF (I.2.1,I.2.2,ai,ai)) (aF (I.2.1,I.2.2,ai,(decide ((I.p3:Int)=22))))) (bd I.p3 4 (aF (I.2.1,I.2.2,I.1,ai)) (aF (I.2.1,I.2.2,I.1,(decide ((I.p3:Int)=22)))))) λx4=>(it (Int×eO×gg×Bool×Bool) _ (λJ=>(bB J.1 2 (bF (cZ 0 J.1&&fX J.1 2) (lt (aJ (T:=(.sl aM)) [x4.2.1.p5,x4.2.1.q6] J.1) λZ=>(jn (α:=Bool×eO×gg×Bool×Bool) (bB 0 (aX Z) (bF (cZ 0 J.1&&fX J.1 2) (bF (fm J.1 2) (lt (aJ (T:=.bool) [J.p3,J.q4] J.1) λz8=>(aF ((!z8),J.2))))) (aF (aj,J.2))) λx7=>(bcase x7.1 (aF aj) (it ((Int×Int)×eO×gg×Bool×Bool) _ (λM=>(bB M.1.2 (aX Z) (bH aM Z M.1.2 λU=>(jn (α:=Bool×eO×gg×Bool×Bool) (j7 U M.1.1 (aF (ai,M.2)) (bH aM M.2.1.q3 M.p2.1 λz12=>(aF ((cZ z12 U),M.2)))) λY=>(bcase Y.1 (aF (bX aj)) (cK ((U,(cA M.1.2)),Y.2))))) (aF (oY ((cA J.1),M.2))))) ((0,0),x7.2)))))) (aF ai))) (0,x4))))
def lE (x:dJ×eO×Int×Int×Int×Int×Int×(List Int)×List Int):Option (Bool):=jw @iter x
def e9 (x:dJ×eO×Int×Int×Int×Int×Int×(List Int)×List Int):Option (Bool):=jw @fK x
def lM (it:yh) (x:eO×Int×Int×Int×Int×Int×(List Int)×List Int):Option (Bool):=
 (bd x.p2 3 (bH aM x.1.2.1 x.p3 λz1=>(af (decide ((x.p4:Int)=z1)))) (bd x.p2 23 (bH aM x.1.p2 x.p3 λz2=>(af (decide ((x.p4:Int)=z2)))) (bd x.p2 5 (jn (α:=Bool) (bd x.p4 0 (aF ai) (aF (decide ((x.p4:Int)=1)))) λx3=>(af x3)) (jn (α:=Bool×eO×Int×Int×Int×Int×Int×(List Int)×List Int) (bd x.p2 4 (aF ((decide ((x.p2:Int)=4)),x)) (aF ((decide ((x.p2:Int)=22)),x))) λM=>(bcase M.1 (af ai) (bd x.p2 18 (it ((Int×Bool×Int)×Int×Int×Int×Int×Int×(List Int)×List Int) _ (λJ=>(bB J.1.2.2 (aX M.2.1.1.q3) (jn (α:=(Int×Bool)×Int×Int×Int×Int×Int×(List Int)×List Int) (bH ij M.2.1.1.q3 J.1.2.2 λz7=>(jn (α:=Bool×Int×Int×Int×Int×Int×(List Int)×List Int) (bd z7.1 3 (aF ((decide ((z7.2.1:Int)=J.p3)),J.2)) (aF (aj,J.2))) λZ=>(bcase Z.1 (bcase J.1.2.1 (aF (((cA J.1.1),ai),Z.2)) (aF (((cA J.1.1),(decide ((Z.p4:Int)=J.1.2.2))),Z.2))) (aF ((J.1.1,J.1.2.1),Z.2))))) λx6=>(cK ((x6.1.1,x6.1.2,(cA J.1.2.2)),x6.2))) (obind (jn (α:=Bool) (bcase J.1.2.1 (aF ai) (bd J.1.1 0 (aF (decide ((J.p4:Int)=(-1)))) (aF aj))) λx9=>(af x9)) λr=>af (bX r)))) ((0,aj,0),M.2.2)) (bd x.p2 19 (it ((Int×Int)×Int×Int×Int×Int×Int×(List Int)×List Int) _ (λI=>(bB I.1.2 (aX M.2.1.1.q3) (jn (α:=Int×Int×Int×Int×Int×Int×(List Int)×List Int) (bH ij M.2.1.1.q3 I.1.2 λY=>(jn (α:=Bool×Int×Int×Int×Int×Int×(List Int)×List Int) (bd Y.1 3 (aF ((decide ((Y.2.1:Int)=I.p3)),I.2)) (aF (aj,I.2))) λU=>(bcase U.1 (aF ((cA I.1.1),U.2)) (aF (I.1.1,U.2))))) λx11=>(cK ((x11.1,(cA I.1.2)),x11.2))) (aF (decide ((I.p4:Int)=I.1.1))))) ((0,0),M.2.2)) (af (decide ((M.p5:Int)=0))))))))))
def pj (x:eO×Int×Int×Int×Int×Int×(List Int)×List Int):Option (Bool):=lM @iter x
def gy (x:eO×Int×Int×Int×Int×Int×(List Int)×List Int):Option (Bool):=lM @fK x
def mr (x:dz×Int):Option (Bool):=
 (jn (α:=Bool) (bd x.1.1 3 (aF (decide ((x.1.2.1:Int)=x.2))) (aF aj)) λI=>(af I))
def I0 (x:List Bool):Option (List Bool):=
 (bcase (aC (al x) 0) (FB (af ([]:List Bool)) (bF (bc (al ([]:List Bool)+al x) 1) (af (([]:List Bool)++x)))) (bF (bc (al ([]:List Bool)+al x) 1) (af (([]:List Bool)++x))))
def On (x:List Bool):Option (List Bool):=chk (bc (al x) 1) λ_=>af x
def EQ (x:List Bool):Option (List Bool):=
 (bcase (aC (al x) 0) (FB (af ([]:List Bool)) (bF (bc (al ([]:List Bool)+al x) 1) (af (([]:List Bool)++x)))) (bF (bc (al ([]:List Bool)+al x) 1) (af (([]:List Bool)++x))))
def IZ (x:List Bool):Option (List Bool):=chk (bc (al x) 1) λ_=>af x
def IX (x:List dz):Option (List dz):=
 (bcase (aC (al x) 0) (FB (af ([]:List dz)) (bF (bc (al ([]:List dz)+al x) 24) (af (([]:List dz)++x)))) (bF (bc (al ([]:List dz)+al x) 24) (af (([]:List dz)++x))))
def Om (x:List dz):Option (List dz):=chk (bc (al x) 24) λ_=>af x
def EO (x:List dz):Option (List dz):=
 (bcase (aC (al x) 0) (FB (af ([]:List dz)) (bF (bc (al ([]:List dz)+al x) 24) (af (([]:List dz)++x)))) (bF (bc (al ([]:List dz)+al x) 24) (af (([]:List dz)++x))))
def IW (x:List dz):Option (List dz):=chk (bc (al x) 24) λ_=>af x
def EP (x:List Int):Option (List Int):=
 (bcase (aC (al x) 0) (FB (af ([]:List Int)) (bF (bc (al ([]:List Int)+al x) 8) (af (([]:List Int)++x)))) (bF (bc (al ([]:List Int)+al x) 8) (af (([]:List Int)++x))))
def zm (x:List Int):Option (List Int):=chk (bc (al x) 8) λ_=>af x
def sa (it:yh) (x:gF×Int×(List Bool)×List dz):Option Yd2:=
 (bF (cZ 0 (aX x.1)&&cZ (aX x.1) (aX x.1)&&bc (aS (aX x.1)) 32) (it (Int×ph×Int×List (Int×List Int)) _ (λI=>(bB I.1 (aX x.1) (bH eh x.1 I.1 λJ=>(obind (xG J.2) λY=>(ck (fm I.1 (al I.q3)) (cK ((cA I.1),I.2.1,I.p2,(ct I.q3 I.1 (J.1,Y))))))) (obind (obind (IZ I.2.1.p2) λU=>(obind (IW I.2.1.q3) λM=>(af (I.2.1.2.1,I.q3,U,M)))) λr=>af (bX r)))) (0,x,0,(aG (aS (aX x.1)) ((0,[]):Int×List Int)))))
def vS (x:gF×Int×(List Bool)×List dz):Option Yd2:=sa @iter x
def kB (x:gF×Int×(List Bool)×List dz):Option Yd2:=sa @fK x
def qE (it:yh) (x:(Int×Int×Int)×gF×(List Bool)×List dz):Option Yd2:=
 (it ((Int×Int)×gF×(List Bool)×(List dz)×Int) _ (λI=>(bB I.1.2 (aX x.q3) (jn (α:=Int×gF×(List Bool)×(List dz)×Int) (kJ ij I.p3 I.1.2 λU=>(jn (α:=Bool×gF×(List Bool)×(List dz)×Int) (obind (mr (U,x.1.2.1)) λY=>(bcase Y (bB I.1.1 0 (aF (ai,I.2)) (aF ((decide ((I.1.2:Int)=x.1.2.2)),I.2))) (aF (aj,I.2)))) λJ=>(bcase J.1 (aF (I.1.2,J.2)) (aF (I.1.1,J.2))))) λM=>(cK ((M.1,(cA I.1.2)),M.2))) (obind (jn (α:=gF×(List Bool)×List dz) (j7 0 I.1.1 (ck (fm I.1.1 (al I.p3)) (aF (I.2.1,I.p2,(ct I.p3 I.1.1 (4,(aJ (T:=ij) I.p3 I.1.1).2))))) (aF (I.2.1,I.p2,I.p3))) λZ=>(af (I.1.1,Z))) λr=>af (bX r)))) (((-1),0),x.2.1,x.p2,x.q3,x.1.1))
def uh (x:(Int×Int×Int)×gF×(List Bool)×List dz):Option Yd2:=qE @iter x
def jN (x:(Int×Int×Int)×gF×(List Bool)×List dz):Option Yd2:=qE @fK x
def mF (it:yh) (x:(Int×Int)×gF×(List Bool)×List dz):Option Yd2:=
 (it ((Int×Int)×gF×(List Bool)×(List dz)×Int) _ (λI=>(bB I.1.2 (aX x.q3) (jn (α:=Int×gF×(List Bool)×(List dz)×Int) (kJ ij I.p3 I.1.2 λM=>(obind (mr (M,x.1.2)) λU=>(bcase U (ck (fm I.1.2 (al I.p3)) (aF ((cA I.1.1),I.2.1,I.p2,(ct I.p3 I.1.2 (4,(aJ (T:=ij) I.p3 I.1.2).2)),I.q4))) (aF (I.1.1,I.2))))) λJ=>(cK ((J.1,(cA I.1.2)),J.2))) (aF (I.1.1,I.2.1,I.p2,I.p3)))) ((0,0),x.2.1,x.p2,x.q3,x.1.1))
def qj (x:(Int×Int)×gF×(List Bool)×List dz):Option Yd2:=mF @iter x
def gW (x:(Int×Int)×gF×(List Bool)×List dz):Option Yd2:=mF @fK x
def qz (x:Int):Option (Bool):=
 (af (!decide ((x:Int)=x)))
def vV (x:Int×Int):Option (Bool):=
 (jn (α:=Bool) (obind (qz x.1) λJ=>(bcase J (obind (qz x.2) λI=>(bcase (!I) (aF ai) (aF (fX x.1 x.2)))) (aF (fX x.1 x.2)))) λM=>(af M))
def rA (x:Int):Option (Int):=
 (j7 4294967296 x ah (j7 65536 x ah (j7 256 x ah (vQ (bn .u8 x) ([0,1,2,2,3,3,3,3,4,4,4,4,4,4,4,4,5,5,5,5,5,5,5,5,5,5,5,5,5,5,5,5,6,6,6,6,6,6,6,6,6,6,6,6,6,6,6,6,6,6,6,6,6,6,6,6,6,6,6,6,6,6,6,6,7,7,7,7,7,7,7,7,7,7,7,7,7,7,7,7,7,7,7,7,7,7,7,7,7,7,7,7,7,7,7,7,7,7,7,7,7,7,7,7,7,7,7,7,7,7,7,7,7,7,7,7,7,7,7,7,7,7,7,7,7,7,7,7,8,8,8,8,8,8,8,8,8,8,8,8,8,8,8,8,8,8,8,8,8,8,8,8,8,8,8,8,8,8,8,8,8,8,8,8,8,8,8,8,8,8,8,8,8,8,8,8,8,8,8,8,8,8,8,8,8,8,8,8,8,8,8,8,8,8,8,8,8,8,8,8,8,8,8,8,8,8,8,8,8,8,8,8,8,8,8,8,8,8,8,8,8,8,8,8,8,8,8,8,8,8,8,8,8,8,8,8,8,8,8,8,8,8,8,8,8,8,8,8,8,8,8,8,8,8,8,8]) (af (bn .i64 (0+(bn .i64 (AD ([0,1,2,2,3,3,3,3,4,4,4,4,4,4,4,4,5,5,5,5,5,5,5,5,5,5,5,5,5,5,5,5,6,6,6,6,6,6,6,6,6,6,6,6,6,6,6,6,6,6,6,6,6,6,6,6,6,6,6,6,6,6,6,6,7,7,7,7,7,7,7,7,7,7,7,7,7,7,7,7,7,7,7,7,7,7,7,7,7,7,7,7,7,7,7,7,7,7,7,7,7,7,7,7,7,7,7,7,7,7,7,7,7,7,7,7,7,7,7,7,7,7,7,7,7,7,7,7,8,8,8,8,8,8,8,8,8,8,8,8,8,8,8,8,8,8,8,8,8,8,8,8,8,8,8,8,8,8,8,8,8,8,8,8,8,8,8,8,8,8,8,8,8,8,8,8,8,8,8,8,8,8,8,8,8,8,8,8,8,8,8,8,8,8,8,8,8,8,8,8,8,8,8,8,8,8,8,8,8,8,8,8,8,8,8,8,8,8,8,8,8,8,8,8,8,8,8,8,8,8,8,8,8,8,8,8,8,8,8,8,8,8,8,8,8,8,8,8,8,8,8,8,8,8,8,8]) (bn .u8 x))))))))))
def ut (x:Int):Option (Int):=
 (obind (rA x) λI=>(af I))
def j9 (it:yh) (x:(Int×Int)×List Int):Option (List Int):=
 (it (Int×List Int) _ (λM=>(bB M.1 x.1.2 (it (Int×List Int) _ (λI=>(jn (α:=Bool×List Int) (bB x.1.1 I.1 (kJ aM I.2 I.1 λz4=>(kJ aM I.2 (bn .i64 (I.1-1)) λZ=>(obind (vV (z4,Z)) λy6=>(aF (y6,I.2))))) (aF (aj,I.2))) λJ=>(bcase J.1 (kJ aM J.2 (bn .i64 (I.1-1)) λU=>(kJ aM J.2 I.1 λY=>(ck (fm I.1 (al J.2)) (ck (fm (bn .i64 (I.1-1)) (al (ct J.2 I.1 U))) (cK ((bn .i64 (I.1-1)),(ct (ct J.2 I.1 U) (bn .i64 (I.1-1)) Y))))))) (aF (oY ((cA M.1),J.2)))))) M) (aF M.2))) ((cA x.1.1),x.2))
def j8 (x:(Int×Int)×List Int):Option (List Int):=j9 @iter x
def fU (x:(Int×Int)×List Int):Option (List Int):=j9 @fK x
def oC (it:yh) (x:(Int×Int×Int)×List Int):Option (List Int):=
 (it ((Int×Int×Int×Bool×Bool)×List Int) _ (λI=>(j7 (bn .i64 (I.1.2.1-I.1.1)) 12 (obind (fU ((I.1.1,I.1.2.1),I.2)) λJ=>(bF (aC (al I.2) (al J)&&ai) (aF J))) (bd I.1.p2 0 ah (bcase (!I.1.p3) ah ah)))) ((x.1.1,x.1.2.1,x.1.2.2,ai,ai),x.2))
def ov (x:(Int×Int×Int)×List Int):Option (List Int):=oC @iter x
def jq (x:(Int×Int×Int)×List Int):Option (List Int):=oC @fK x
def wJ (x:List Int):Option (List Int):=
 (obind (ut (bn .u64 (aX x))) λJ=>(obind (jq ((0,(aX x),J),x)) λI=>(bF (aC (al x) (al I)&&ai) (af I))))
def xT (it:yh) (x:List Int):Option (List Int):=
 (bB (aX x) 2 (af x) (it (Int×List Int) _ (λI=>(bB I.1 (aX I.2) (kJ aM I.2 I.1 λM=>(kJ aM I.2 (bn .i64 (I.1-1)) λJ=>(bd M J (bF (cZ 0 I.1&&fX I.1 (al I.2)) ah) (cK ((cA I.1),I.2))))) (aF I.2))) (1,x)))
def xD (x:List Int):Option (List Int):=xT @iter x
def lK (x:List Int):Option (List Int):=xT @fK x
def o_ (x:Int×Int):Option (Bool×Int):=
 (af ((decide ((x.1:Int)=x.2)),x.2))
def uH (it:yh) (x:(List Int)×Int):Option (Int×(List Int)×Int):=
 (it (Int×(List Int)×Int) _ (λI=>(bB I.1 (aX x.1) (kJ aM I.2.1 I.1 λM=>(obind (o_ (M,I.2.2)) λJ=>(bcase J.1 (aF (I.1,I.2.1,J.2)) (cK ((cA I.1),I.2.1,J.2))))) (aF ((-1),I.2)))) (0,x))
def ui (x:(List Int)×Int):Option (Int×(List Int)×Int):=uH @iter x
def nk (x:(List Int)×Int):Option (Int×(List Int)×Int):=uH @fK x
def sZ (it:yh) (x:(List Int)×Int):Option (Int×List Int):=
 (obind (nk x) λJ=>(bF (aC (al x.1) (al J.2.1)&&ai) (bd J.1 (-1) ah (it ((Int×Int)×(List Int)×Int) _ (λI=>(bB I.1.2 (aX I.2.1) (jn (α:=Int×(List Int)×Int) (kJ aM I.2.1 I.1.2 λU=>(obind (o_ (U,I.2.2)) λM=>(bcase (!M.1) (ck (fm I.1.1 (al I.2.1)) (aF ((cA I.1.1),(ct I.2.1 I.1.1 U),M.2))) (aF (I.1.1,I.2.1,M.2))))) λY=>(cK ((Y.1,(cA I.1.2)),Y.2))) (obind (ck (cZ 0 I.1.1&&fX I.1.1 (al I.2.1)) (bF (cZ 0 I.1.1&&fX I.1.1 (al (dF (aS I.1.1) I.2.1++aG (al I.2.1-aS I.1.1) (0:Int)))) (af (I.2.2,(dF (aS I.1.1) (dF (aS I.1.1) I.2.1++aG (al I.2.1-aS I.1.1) (0:Int))))))) λr=>af (bX r)))) ((J.1,(cA J.1)),J.2)))))
def sU (x:(List Int)×Int):Option (Int×List Int):=sZ @iter x
def jm (x:(List Int)×Int):Option (Int×List Int):=sZ @fK x
def gX (x:dJ×ph×Int×Int×Int×Int):Option (ph×Int×Bool):=
 (obind (jk (x.1,x.2.1,x.p2,x.p3,x.p4)) λy1=>(bcase (!y1) (af ((([]:List (Int×List Int)),0,([]:List Bool),([]:List dz)),0,aj)) (obind (kB x.2.1) λJ=>(jn (α:=Int×Int×Int×gF×(List Bool)×List dz) (bd x.p3 1 (ck (fm x.p2 (al J.q3)) (aF (0,J.1,0,J.2.1,J.p2,(ct J.q3 x.p2 (2,(aJ (T:=ij) J.q3 x.p2).2))))) (bd x.p3 2 (ck (fm x.p2 (al J.q3)) (aF (0,J.1,0,J.2.1,J.p2,(ct J.q3 x.p2 (5,(aJ (T:=ij) J.q3 x.p2).2))))) (jn (α:=Bool×dJ×Int×Int×Int×gF×(List Bool)×List dz) (bd x.p3 6 (aF ((decide ((x.p3:Int)=6)),x.1,J.1,x.p2,0,J.2)) (aF ((decide ((x.p3:Int)=10)),x.1,J.1,x.p2,0,J.2))) λY=>(bcase Y.1 (ck (fm x.p4 (al Y.p5)) (aF (0,Y.p2,Y.p4,(ct Y.p5 x.p4 (Y.p3,(aJ (T:=eh) Y.p5 x.p4).2)),Y.q6))) (jn (α:=Bool×dJ×Int×Int×Int×gF×(List Bool)×List dz) (bd x.p3 7 (aF ((decide ((x.p3:Int)=7)),Y.2)) (aF ((decide ((x.p3:Int)=11)),Y.2))) λI=>(bcase I.1 (ck (fm x.p4 (al I.p5)) (aF (0,I.p2,I.p4,(ct I.p5 x.p4 ((-1),(aJ (T:=eh) I.p5 x.p4).2)),I.q6))) (bd x.p3 8 (kJ eh I.p5 x.p4 λz6=>ah) (bd x.p3 9 (kJ eh I.p5 x.p4 λz7=>ah) (bd x.p3 12 (aF (0,I.q3)) (bd x.p3 13 (aF (0,(-1),I.q4)) (bd x.p3 14 (ck (fm I.p3 (al I.q7)) (aF (0,I.p2,I.p4,I.p5,I.p6,(ct I.q7 I.p3 ((aJ (T:=ij) I.q7 I.p3).1,((aJ (T:=ij) I.q7 I.p3).2).1,ai))))) (bd x.p3 15 (ck (fm I.p3 (al I.q7)) (aF (0,I.p2,I.p4,I.p5,I.p6,(ct I.q7 I.p3 ((aJ (T:=ij) I.q7 I.p3).1,((aJ (T:=ij) I.q7 I.p3).2).1,aj))))) (bd x.p3 16 (bH mh I.2.1.p2 x.p4 λz8=>(ck (fm z8.2 (al I.p5)) (ck (fm I.p3 (al I.q7)) (ck (fm I.p3 (al (ct I.q7 I.p3 (3,(aJ (T:=ij) I.q7 I.p3).2)))) (aF (0,I.p2,I.p4,(ct I.p5 z8.2 ((-1),(aJ (T:=eh) I.p5 z8.2).2)),I.p6,(ct (ct I.q7 I.p3 (3,(aJ (T:=ij) I.q7 I.p3).2)) I.p3 ((aJ (T:=ij) (ct I.q7 I.p3 (3,(aJ (T:=ij) I.q7 I.p3).2)) I.p3).1,x.p4,((aJ (T:=ij) (ct I.q7 I.p3 (3,(aJ (T:=ij) I.q7 I.p3).2)) I.p3).2).2)))))))) (bd x.p3 17 (bH mh I.2.1.p2 x.p4 λz9=>(ck (fm z9.2 (al I.p5)) (ck (fm I.p3 (al I.q7)) (ck (fm I.p3 (al (ct I.q7 I.p3 (2,(aJ (T:=ij) I.q7 I.p3).2)))) (aF (0,I.p2,I.p4,(ct I.p5 z9.2 (I.p3,(aJ (T:=eh) I.p5 z9.2).2)),I.p6,(ct (ct I.q7 I.p3 (2,(aJ (T:=ij) I.q7 I.p3).2)) I.p3 ((aJ (T:=ij) (ct I.q7 I.p3 (2,(aJ (T:=ij) I.q7 I.p3).2)) I.p3).1,0,((aJ (T:=ij) (ct I.q7 I.p3 (2,(aJ (T:=ij) I.q7 I.p3).2)) I.p3).2).2)))))))) (bd x.p3 18 (obind (jN ((I.p2,x.q4),I.q5)) λU=>(bF (aC (al I.q7) (al U.q3)&&(aC (al I.p6) (al U.p2)&&(aC (al I.p5) (al U.2.1)&&ai))) (aF (U.1,I.p2,I.p4,U.2)))) (bd x.p3 19 (obind (gW ((I.p2,x.p4),I.q5)) λM=>(bF (aC (al I.q7) (al M.q3)&&(aC (al I.p6) (al M.p2)&&(aC (al I.p5) (al M.2.1)&&ai))) (aF (M.1,I.p2,I.p4,M.2)))) (bd x.p3 20 (ck (fm x.p4 (al I.q7)) (aF (0,I.p2,I.p4,I.p5,I.p6,(ct I.q7 x.p4 (1,(aJ (T:=ij) I.q7 x.p4).2))))) (bd x.p3 22 (ck (fm x.p4 (al I.p6)) (aF (0,I.p2,I.p4,I.p5,(ct I.p6 x.p4 ai),I.q7))) (aF (0,I.p2,I.q4)))))))))))))))))))) λZ=>(af ((Z.p3,Z.2.1,Z.q4),Z.1,ai))))))
def nj (x:gF×Int×(List Bool)×List dz):Option (Yd6×(Int×Int×Int)×(List Int)×(List Int)×List Int):=
 (bF (cZ 0 (aX x.1)&&cZ (aX x.1) (aX x.1)&&bc (aS (aX x.1)) 32&&decide (((aX x.1):Int)=3)) (jn (α:=ph×Int×(Int×Int×Int)×(List Int)×(List Int)×List Int) (bB 0 (aX x.1) (bH eh x.1 0 λI=>(obind (pa I.2) λU=>(bB 1 (aX x.1) (bH eh x.1 1 λM=>(obind (pa M.2) λy5=>(bB 2 (aX x.1) (bH eh x.1 2 λz6=>(obind (pa z6.2) λy7=>(bB 3 (aX x.1) (bH eh x.1 3 λz8=>(obind (pa z8.2) λy9=>ah)) (aF (x,0,(I.1,M.1,z6.1),U,y5,y7))))) (aF (x,0,(I.1,M.1,0),U,y5,([]:List Int)))))) (aF (x,0,(I.1,0,0),U,([]:List Int),([]:List Int)))))) (aF (x,0,(0,0,0),([]:List Int),([]:List Int),([]:List Int)))) λJ=>(obind (On J.1.p2) λZ=>(obind (Om J.1.q3) λY=>(af ((J.1.2.1,Z,Y),J.2.2))))))
def li (x:dJ×ph×Int×Int×Int×Int):Option (ph×Int×Bool):=
 (obind (jk (x.1,x.2.1,x.p2,x.p3,x.p4)) λy1=>(bcase (!y1) (af ((([]:List (Int×List Int)),0,([]:List Bool),([]:List dz)),0,aj)) (obind (nj x.2.1) λM=>(jn (α:=Int×Yd6×Int×((Int×List Int)×(Int×List Int)×Int)×Bool×List Int) (bd x.p3 1 (vQ x.p2 M.1.2.2 ah) (bd x.p3 2 (vQ x.p2 M.1.2.2 ah) (jn (α:=Bool×dJ×Yd6×Int×Int×(Int×Int×Int)×(List Int)×(List Int)×List Int) (bd x.p3 6 (aF ((decide ((x.p3:Int)=6)),x.1,M.1,x.p2,0,M.2)) (aF ((decide ((x.p3:Int)=10)),x.1,M.1,x.p2,0,M.2))) λJ=>(bcase J.1 ah (jn (α:=Bool×dJ×Yd6×Int×Int×(Int×(List Int)×Int×(List Int)×Int)×List Int) (bd x.p3 7 (aF ((decide ((x.p3:Int)=7)),J.2.1,J.p2,J.p3,J.p4,(J.p5.1,J.p6,J.p5.2.1,J.p7,J.p5.2.2),J.q8)) (aF ((decide ((x.p3:Int)=11)),J.2.1,J.p2,J.p3,J.p4,(J.p5.1,J.p6,J.p5.2.1,J.p7,J.p5.2.2),J.q8))) λI=>(bcase I.1 ah (bd x.p3 8 (bd x.p4 0 ah (bd x.p4 1 ah (bd x.p4 2 (bF (bc (al I.q6+al ([I.p3])) 8) (obind (wJ (I.q6++([I.p3]))) λY=>(bF (aC (al (I.q6++([I.p3]))) (al Y)&&ai) (obind (lK Y) λZ=>(bF (aC (al Y) (al Z)&&ai) (aF (0,I.p2,I.p4,((I.p5.1,I.p5.2.1),(I.p5.p2,I.p5.p3),I.p5.q4),ai,Z))))))) ah))) (bd x.p3 9 (bd x.p4 0 ah (bd x.p4 1 ah (bd x.p4 2 (obind (jm (I.q6,I.p3)) λy8=>(bF (aC (al I.q6) (al I.q6)&&ai) (aF (0,I.p2,I.p4,((I.p5.1,I.p5.2.1),(I.p5.p2,I.p5.p3),I.p5.q4),aj,y8.2)))) ah))) (bd x.p3 12 (aF (0,(I.p3,I.p2.2),I.p4,((I.p5.1,I.p5.2.1),(I.p5.p2,I.p5.p3),I.p5.q4),ai,I.q6)) (bd x.p3 13 (aF (0,((-1),I.p2.2),I.p4,((I.p5.1,I.p5.2.1),(I.p5.p2,I.p5.p3),I.p5.q4),ai,I.q6)) (bd x.p3 14 (vQ I.p3 I.p2.2.2 ah) (bd x.p3 15 (vQ I.p3 I.p2.2.2 ah) (bd x.p3 16 ah (bd x.p3 17 ah (bd x.p3 18 ah (bd x.p3 19 ah (bd x.p3 20 (vQ x.p4 I.p2.2.2 ah) (bd x.p3 22 (vQ x.p4 I.p2.2.1 ah) (aF (0,I.p2,I.p4,((I.p5.1,I.p5.2.1),(I.p5.p2,I.p5.p3),I.p5.q4),ai,I.q6)))))))))))))))))))) λU=>(af (([U.p3.1,U.p3.2.1,(U.p3.2.2,U.q5)],U.2.1),U.1,ai))))))
def r7 (x:dJ×ph×Int×Int×Int×Int):Option (ph×Int×Bool):=orE (gX x) (li x)
def fQ (x:dJ×eO×Int×Int×Int×Int×Int×(List Int)×List Int):Option (eO×Bool):=
 (jn (α:=Bool×dJ×eO×gg×Int) (obind (kZ (x.1,x.2.1)) λy2=>(bcase (!y2) (aF (ai,x.1,x.2.1,x.2.2,0)) (bB x.p2 0 (aF (ai,x.1,x.2.1,x.2.2,0)) (j7 (aX x.1.p4) x.p2 (aF (ai,x.1,x.2.1,x.2.2,0)) (bB x.p3 1 (aF (ai,x.1,x.2.1,x.2.2,0)) (aF ((fX 23 x.p3),x.1,x.2.1,x.2.2,0))))))) λM=>(bcase M.1 (af (((([]:List (Int×List Int)),0,([]:List Bool),([]:List dz)),([]:List Int),([]:List Int),([]:List Int)),aj)) (jn (α:=Bool×dJ×eO×gg×Int) (obind (jk (M.2.1,M.p2.1,M.p3.1,M.p3.2.1,M.p3.p2)) λy4=>(bcase (!y4) (aF (ai,M.2)) (obind (jI (M.2.1,M.p3)) λy5=>(bcase (!y5) (aF (ai,M.2)) (obind (e9 (M.2.1,M.p2,M.p3)) λy6=>(bcase (!y6) (aF (ai,M.2)) (obind (gy (M.p2,M.p3)) λy7=>(aF ((!y7),M.2))))))))) λx3=>(bcase x3.1 (af (((([]:List (Int×List Int)),0,([]:List Bool),([]:List dz)),([]:List Int),([]:List Int),([]:List Int)),aj)) (jn (α:=Int×dJ×eO×gg×Int) (bd x3.p3.2.1 18 (aF (x3.p3.p3,x3.2)) (aF ((-1),x3.2))) λI=>(obind (r7 (I.2.1,I.p2.1,I.p3.1,I.p3.2.1,I.p3.p2,I.1)) λy9=>(bcase (!y9.2.2) (af (((([]:List (Int×List Int)),0,([]:List Bool),([]:List dz)),([]:List Int),([]:List Int),([]:List Int)),aj)) (obind (zm I.p2.2.1) λY=>(obind (zm I.p2.p2) λU=>(obind (pa I.p2.q3) λZ=>(jn (α:=gg×Int×ph×(List Int)×(List Int)×List Int) (bd I.p3.2.1 4 (ck (fm I.p3.p2 (al Y)) (aF (I.p3,I.q4,y9.1,(ct Y I.p3.p2 I.p3.p3),U,Z))) (bd I.p3.2.1 22 (ck (fm I.p3.p2 (al U)) (aF (I.p3,I.q4,y9.1,Y,(ct U I.p3.p2 I.p3.p3),Z))) (aF (I.p3,I.q4,y9.1,Y,U,Z)))) λJ=>(kJ aM J.q5 J.1.1 λz14=>(ck (fm J.1.1 (al J.q5)) (af ((J.p2,J.p3,J.p4,(ct J.q5 J.1.1 (cA z14))),ai)))))))))))))))
def lO (it:yh) (x:dJ×List gg):Option (Int×Int):=
 (bB 400 (aX x.2) (af (0,2)) (obind (dS x.1) λy1=>(bcase (!y1) (af (0,1)) (obind (di x.1) λy2=>(bF (cZ 0 (aX x.1.p4)&&cZ (aX x.1.p4) (aX x.1.p4)&&bc (aS (aX x.1.p4)) 24&&decide (((aX x.1.p4):Int)=1)) (it (Int×(dJ×List gg)×eO×List Bool) _ (λJ=>(bB J.1 (aX x.2) (bH jt x.2 J.1 λM=>(obind (fQ (J.2.1.1,J.p2,M)) λU=>(jn (α:=Bool×(dJ×List gg)×eO×gg×eO×List Bool) (bd M.1 0 (bcase (!U.2) (aF (ai,J.2.1,J.p2,(0,M.2),U.1,J.q3)) (obind (cf (J.q3,0,M.2)) λZ=>(aF ((!Z),J.2.1,J.p2,(0,M.2),U.1,J.q3)))) ah) λI=>(bcase I.1 (aF (J.1,12)) (jn (α:=(dJ×List gg)×eO×eO×List Bool) (bd I.p3.1 0 (bd I.p3.2.1 3 (bF (bc (al I.q5+al ([ai])) 1) (aF (I.2.1,I.p2,I.p4,(I.q5++([ai]))))) (bF (bc (al I.q5+al ([(decide ((I.p3.2.1:Int)=23))])) 1) (aF (I.2.1,I.p2,I.p4,(I.q5++([(decide ((I.p3.2.1:Int)=23))])))))) ah) λY=>(cK ((cA J.1),Y.1,Y.2.2))))))) (aF (0,0)))) (0,x,y2,([]:List Bool))))))))
def po (x:dJ×List gg):Option (Int×Int):=lO @iter x
def eB (x:dJ×List gg):Option (Int×Int):=lO @fK x
def jT (it:yh) (x:dJ×List gg):Option (Int×Int):=
 (bB 400 (aX x.2) (af (0,2)) (obind (dS x.1) λy1=>(bcase (!y1) (af (0,1)) (obind (di x.1) λy2=>(bF (cZ 0 (aX x.1.p4)&&cZ (aX x.1.p4) (aX x.1.p4)&&bc (aS (aX x.1.p4)) 24&&decide (((aX x.1.p4):Int)=2)) (it (Int×(dJ×List gg)×eO×(List Bool)×List Bool) _ (λJ=>(bB J.1 (aX x.2) (bH jt x.2 J.1 λM=>(obind (fQ (J.2.1.1,J.p2,M)) λU=>(jn (α:=Bool×(dJ×List gg)×eO×gg×eO×(List Bool)×List Bool) (bd M.1 0 (bcase (!U.2) (aF (ai,J.2.1,J.p2,(0,M.2),U.1,J.q3)) (obind (cf (J.p3,0,M.2)) λy7=>(aF ((!y7),J.2.1,J.p2,(0,M.2),U.1,J.q3)))) (bd M.1 1 (bcase (!U.2) (aF (ai,J.2.1,J.p2,(1,M.2),U.1,J.q3)) (obind (cf (J.q4,1,M.2)) λZ=>(aF ((!Z),J.2.1,J.p2,(1,M.2),U.1,J.q3)))) ah)) λI=>(bcase I.1 (aF (J.1,12)) (jn (α:=(dJ×List gg)×eO×eO×(List Bool)×List Bool) (bd I.p3.1 0 (bd I.p3.2.1 3 (bF (bc (al I.p5+al ([ai])) 1) (aF (I.2.1,I.p2,I.p4,(I.p5++([ai])),I.q6))) (bF (bc (al I.p5+al ([(decide ((I.p3.2.1:Int)=23))])) 1) (aF (I.2.1,I.p2,I.p4,(I.p5++([(decide ((I.p3.2.1:Int)=23))])),I.q6)))) (bd I.p3.1 1 (bd I.p3.2.1 3 (bF (bc (al I.q6+al ([ai])) 1) (aF (I.2.1,I.p2,I.p4,I.p5,(I.q6++([ai]))))) (bF (bc (al I.q6+al ([(decide ((I.p3.2.1:Int)=23))])) 1) (aF (I.2.1,I.p2,I.p4,I.p5,(I.q6++([(decide ((I.p3.2.1:Int)=23))])))))) ah)) λY=>(cK ((cA J.1),Y.1,Y.2.2))))))) (aF (0,0)))) (0,x,y2,([]:List Bool),([]:List Bool))))))))
def pn (x:dJ×List gg):Option (Int×Int):=jT @iter x
def dj (x:dJ×List gg):Option (Int×Int):=jT @fK x
def jS (it:yh) (x:dJ×List gg):Option (Int×Int):=
 (bB 400 (aX x.2) (af (0,2)) (obind (dS x.1) λy1=>(bcase (!y1) (af (0,1)) (obind (di x.1) λy2=>(bF (cZ 0 (aX x.1.p4)&&cZ (aX x.1.p4) (aX x.1.p4)&&bc (aS (aX x.1.p4)) 24&&decide (((aX x.1.p4):Int)=3)) (it (Int×(dJ×List gg)×eO×(List Bool)×(List Bool)×List Bool) _ (λJ=>(bB J.1 (aX x.2) (bH jt x.2 J.1 λM=>(obind (fQ (J.2.1.1,J.p2,M)) λU=>(jn (α:=Bool×(dJ×List gg)×eO×gg×eO×(List Bool)×(List Bool)×List Bool) (bd M.1 0 (bcase (!U.2) (aF (ai,J.2.1,J.p2,(0,M.2),U.1,J.q3)) (obind (cf (J.p3,0,M.2)) λy7=>(aF ((!y7),J.2.1,J.p2,(0,M.2),U.1,J.q3)))) (bd M.1 1 (bcase (!U.2) (aF (ai,J.2.1,J.p2,(1,M.2),U.1,J.q3)) (obind (cf (J.p4,1,M.2)) λy8=>(aF ((!y8),J.2.1,J.p2,(1,M.2),U.1,J.q3)))) (bd M.1 2 (bcase (!U.2) (aF (ai,J.2.1,J.p2,(2,M.2),U.1,J.q3)) (obind (cf (J.q5,2,M.2)) λZ=>(aF ((!Z),J.2.1,J.p2,(2,M.2),U.1,J.q3)))) ah))) λI=>(bcase I.1 (aF (J.1,12)) (jn (α:=(dJ×List gg)×eO×eO×(List Bool)×(List Bool)×List Bool) (bd I.p3.1 0 (bd I.p3.2.1 3 (bF (bc (al I.p5+al ([ai])) 1) (aF (I.2.1,I.p2,I.p4,(I.p5++([ai])),I.q6))) (bF (bc (al I.p5+al ([(decide ((I.p3.2.1:Int)=23))])) 1) (aF (I.2.1,I.p2,I.p4,(I.p5++([(decide ((I.p3.2.1:Int)=23))])),I.q6)))) (bd I.p3.1 1 (bd I.p3.2.1 3 (bF (bc (al I.p6+al ([ai])) 1) (aF (I.2.1,I.p2,I.p4,I.p5,(I.p6++([ai])),I.q7))) (bF (bc (al I.p6+al ([(decide ((I.p3.2.1:Int)=23))])) 1) (aF (I.2.1,I.p2,I.p4,I.p5,(I.p6++([(decide ((I.p3.2.1:Int)=23))])),I.q7)))) (bd I.p3.1 2 (bd I.p3.2.1 3 (bF (bc (al I.q7+al ([ai])) 1) (aF (I.2.1,I.p2,I.p4,I.p5,I.p6,(I.q7++([ai]))))) (bF (bc (al I.q7+al ([(decide ((I.p3.2.1:Int)=23))])) 1) (aF (I.2.1,I.p2,I.p4,I.p5,I.p6,(I.q7++([(decide ((I.p3.2.1:Int)=23))])))))) ah))) λY=>(cK ((cA J.1),Y.1,Y.2.2))))))) (aF (0,0)))) (0,x,y2,([]:List Bool),([]:List Bool),([]:List Bool))))))))
def pm (x:dJ×List gg):Option (Int×Int):=jS @iter x
def dO (x:dJ×List gg):Option (Int×Int):=jS @fK x
def jR (it:yh) (x:dJ×List gg):Option (Int×Int):=
 (bB 400 (aX x.2) (af (0,2)) (obind (dS x.1) λy1=>(bcase (!y1) (af (0,1)) (obind (di x.1) λy2=>(bF (cZ 0 (aX x.1.p4)&&cZ (aX x.1.p4) (aX x.1.p4)&&bc (aS (aX x.1.p4)) 24&&decide (((aX x.1.p4):Int)=4)) (it (Int×(dJ×List gg)×eO×(List Bool)×(List Bool)×(List Bool)×List Bool) _ (λJ=>(bB J.1 (aX x.2) (bH jt x.2 J.1 λM=>(obind (fQ (J.2.1.1,J.p2,M)) λU=>(jn (α:=Bool×(dJ×List gg)×eO×gg×eO×(List Bool)×(List Bool)×(List Bool)×List Bool) (bd M.1 0 (bcase (!U.2) (aF (ai,J.2.1,J.p2,(0,M.2),U.1,J.q3)) (obind (cf (J.p3,0,M.2)) λy7=>(aF ((!y7),J.2.1,J.p2,(0,M.2),U.1,J.q3)))) (bd M.1 1 (bcase (!U.2) (aF (ai,J.2.1,J.p2,(1,M.2),U.1,J.q3)) (obind (cf (J.p4,1,M.2)) λy8=>(aF ((!y8),J.2.1,J.p2,(1,M.2),U.1,J.q3)))) (bd M.1 2 (bcase (!U.2) (aF (ai,J.2.1,J.p2,(2,M.2),U.1,J.q3)) (obind (cf (J.p5,2,M.2)) λy9=>(aF ((!y9),J.2.1,J.p2,(2,M.2),U.1,J.q3)))) (bd M.1 3 (bcase (!U.2) (aF (ai,J.2.1,J.p2,(3,M.2),U.1,J.q3)) (obind (cf (J.q6,3,M.2)) λZ=>(aF ((!Z),J.2.1,J.p2,(3,M.2),U.1,J.q3)))) ah)))) λI=>(bcase I.1 (aF (J.1,12)) (jn (α:=(dJ×List gg)×eO×eO×(List Bool)×(List Bool)×(List Bool)×List Bool) (bd I.p3.1 0 (bd I.p3.2.1 3 (bF (bc (al I.p5+al ([ai])) 1) (aF (I.2.1,I.p2,I.p4,(I.p5++([ai])),I.q6))) (bF (bc (al I.p5+al ([(decide ((I.p3.2.1:Int)=23))])) 1) (aF (I.2.1,I.p2,I.p4,(I.p5++([(decide ((I.p3.2.1:Int)=23))])),I.q6)))) (bd I.p3.1 1 (bd I.p3.2.1 3 (bF (bc (al I.p6+al ([ai])) 1) (aF (I.2.1,I.p2,I.p4,I.p5,(I.p6++([ai])),I.q7))) (bF (bc (al I.p6+al ([(decide ((I.p3.2.1:Int)=23))])) 1) (aF (I.2.1,I.p2,I.p4,I.p5,(I.p6++([(decide ((I.p3.2.1:Int)=23))])),I.q7)))) (bd I.p3.1 2 (bd I.p3.2.1 3 (bF (bc (al I.p7+al ([ai])) 1) (aF (I.2.1,I.p2,I.p4,I.p5,I.p6,(I.p7++([ai])),I.q8))) (bF (bc (al I.p7+al ([(decide ((I.p3.2.1:Int)=23))])) 1) (aF (I.2.1,I.p2,I.p4,I.p5,I.p6,(I.p7++([(decide ((I.p3.2.1:Int)=23))])),I.q8)))) (bd I.p3.1 3 (bd I.p3.2.1 3 (bF (bc (al I.q8+al ([ai])) 1) (aF (I.2.1,I.p2,I.p4,I.p5,I.p6,I.p7,(I.q8++([ai]))))) (bF (bc (al I.q8+al ([(decide ((I.p3.2.1:Int)=23))])) 1) (aF (I.2.1,I.p2,I.p4,I.p5,I.p6,I.p7,(I.q8++([(decide ((I.p3.2.1:Int)=23))])))))) ah)))) λY=>(cK ((cA J.1),Y.1,Y.2.2))))))) (aF (0,0)))) (0,x,y2,([]:List Bool),([]:List Bool),([]:List Bool),([]:List Bool))))))))
def pl (x:dJ×List gg):Option (Int×Int):=jR @iter x
def eA (x:dJ×List gg):Option (Int×Int):=jR @fK x
def mC (x:dJ×List gg):Option (Int×Int):=orE (eA x) (orE (dO x) (orE (dj x) (eB x)))
def xO (it:yh) (x:dJ×List gg):Option ((List (List Int))×Int):=
 (obind (mC x) λY=>(il Y.2 0 (af (([]:List (List Int)),12)) (obind (nW x.1) λU=>(bF (cZ 0 (aX x.2)&&cZ (aX x.2) (aX x.2)&&bc (aS (aX x.2)) 24) (it (Int×(dJ×List gg)×XF×List (List Int)) _ (λI=>(bB I.1 (aX x.2) (bH jt x.2 I.1 λM=>(obind (sD (I.2.1.1,I.p2,M)) λJ=>(ck (fm I.1 (al I.q3)) (cK ((cA I.1),I.2.1,J.1,(ct I.q3 I.1 J.2)))))) (aF (I.q3,0)))) (0,x,U,(aG (aS (aX x.2)) ([]:List Int))))))))
def BW (x:dJ×List gg):Option ((List (List Int))×Int):=xO @iter x
def lJ (x:dJ×List gg):Option ((List (List Int))×Int):=xO @fK x
def Aw (it:yh) (x:dJ×List gg):Option (Ha×Int):=
 (obind (lJ x) λY=>(il Y.2 0 (af (([]:List (Int×Int)),Y.2)) (obind (pD x.2) λy2=>(it (Int×(dJ×List gg)×List (Int×Int)) _ (λJ=>(bB J.1 (aX x.2) (it (Int×(dJ×List gg)×List (Int×Int)) _ (λI=>(bB I.1 J.1 (jn (α:=(dJ×List gg)×List (Int×Int)) (jn (α:=Bool×(dJ×List gg)×List (Int×Int)) (obind (qy (I.2.1,I.1,J.1)) λy7=>(bcase y7 (bH (.sl aM) Y.1 J.1 λz8=>(bH gp y2 I.1 λZ=>(obind (mw (z8,Z)) λU=>(aF ((!U),I.2))))) (aF (aj,I.2)))) λM=>(bcase M.1 (bF (bc (al M.2.2+al ([(I.1,J.1)])) 16) (aF (M.2.1,(M.2.2++([(I.1,J.1)]))))) (aF M.2))) λx5=>(cK ((cA I.1),x5))) (aF (oY ((cA J.1),I.2))))) (0,J.2)) (aF (J.2.2,0)))) (0,x,([]:List (Int×Int)))))))
def EK (x:dJ×List gg):Option (Ha×Int):=Aw @iter x
def rE (x:dJ×List gg):Option (Ha×Int):=Aw @fK x
def OV (it:yh) (x:Unit):Option dJ:=
 (it Yd3 _ (λJ=>(bB J.1 (aQ (al ([[109,97,105,110],[116,49],[116,50],[116,51]]))) (it Yd3 _ (λI=>(bB I.1 6 (bF (bc (al I.q6+al ([(J.1,I.1,(bn .i64 ((bn .i64 ((bn .i64 (10*J.1))+I.1))+1)))])) 24) (cK ((cA I.1),I.2.1,I.p2,I.p3,I.p4,I.p5,(I.q6++([(J.1,I.1,(bn .i64 ((bn .i64 ((bn .i64 (10*J.1))+I.1))+1)))]))))) (aF (oY ((cA J.1),I.2))))) (0,J.2)) (aF J.2))) (0,[([120],0,0,aj,0),([121],0,0,aj,1),([118],0,0,ai,0),([113],0,2,aj,0),([113],1,2,aj,0)],[([109],aj),([110],aj),([114],ai)],[([99],0)],[[102]],[[109,97,105,110],[116,49],[116,50],[116,51]],([]:List (Int×Int×Int))))
def Oi (x:Unit):Option dJ:=OV @iter x
def C5 (x:Unit):Option dJ:=OV @fK x
def v8:Nat:=1000000000
def jl (a b:List Int):List Int:=(dl (max a.length b.length)).map λi=>jD (a.getD i 0) (b.getD i 0)
theorem my (a b:List Int):(jl a b).length=max a.length b.length:=by simp[jl]
theorem rH (a b:List Int) (i:Nat):(jl a b).getD i 0=jD (a.getD i 0) (b.getD i 0):=by
 unfold jl;simp only[ax,a8];by_cases h:i<max a.length b.length
 .rw[mj h];rfl
 .rw[bR (by simp only[gH];omega),bR (l:=a) (by omega),bR (l:=b) (by omega)];rfl
theorem Cq (c:List Int) (i:Nat):jf (c,(i:Int))=af (c.getD i 0):=by
 unfold jf bB vQ aX aF;simp only[];rw[vx (by omega)];simp only[dQ,l_];by_cases h:i<c.length
 .rw[ab7 (by simp;omega)];simp only[dQ];rw[cC (c6 h),uF];rfl
 .rw[qY (by simp;omega)];simp only[dy];rw[ax,bR (by omega)];rfl
theorem am3:C1=jf:=rfl
theorem XN (a b:List Int) (U:a.length<=v8) (hb:b.length<=v8):jz (a,b)=af (jl a b):=by
 unfold v8 at U hb;unfold jz vC ck bB bF aX cK aF cA;have hm:max a.length b.length<=1000000000:=by omega
 rw[cC (by simp only[uw];rw[qY (by omega),qY (by omega),xx (by simp;omega) (by simp;omega)];rfl)];simp only[uw,dA,eR];have:=wN (σ:=Int×List Int) (R:=List Int) (max a.length b.length) (by omega) (λi=>((i:Int),(dl (max a.length b.length)).map λk=>if k<i then jD (a.getD k 0) (b.getD k 0) else 0)) (f:=(λI=>(bcase (fX I.1 (aQ (max a.length b.length))) (obind (jf (a,I.1)) λM=>(obind (jf (b,I.1)) λJ=>(chk (fm I.1 (al I.2)) λ_=>(chk (fm I.1 (al I.2)) λ_=>(af (oY ((bn .i64 (I.1+1)),(ct I.2 I.1 (jD M J))))))))) (af (bX I.2))))) (r:=jl a b) ?_ ?_
 .refine Eq.trans ?_ this;congr 1;simp only[Int.natCast_zero,xo,ep,aD,BD];apply dH<;>simp
 .intro i hi;simp only[];rw[ux (by simp;omega),dy,Cq,Cq,cX,cX,cC (c6 (by simpa using hi)),cC (c6 (by simpa using hi)),nL hi (by omega),eC];congr 3;apply dH
  .simp
  .intro k h1 h2;simp only[bP,gH] at h2;simp only[vi,qS,nE];by_cases e:i=k
   .subst e;simp
   .by_cases h:k<i
    .rw[aA e,aE h,aE (by omega)]
    .rw[aA e,aA h,aA (by omega)]
 .simp only[];rw[vx (by simp),dQ];congr 2;unfold jl;apply qc;intro k hk;rw[aE (nD.1 hk)]
theorem Zs (a b:List Int) (U:a.length<=v8) (hb:b.length<=v8):tN (a,b)=af (jl a b,b):=by
 unfold v8 at U hb;unfold tN Ic ck bB bF aX cK aF cA;have hm:max a.length b.length<=1000000000:=by omega
 rw[cC (by simp only[uw];rw[qY (by omega),qY (by omega),xx (by simp;omega) (by simp;omega)];rfl)];simp only[uw,dA,eR];have:=wN (σ:=Int×List Int×List Int) (R:=List Int×List Int) (max a.length b.length) (by omega) (λi=>((i:Int),b,(dl (max a.length b.length)).map λk=>if k<i then jD (a.getD k 0) (b.getD k 0) else 0)) (f:=(λI=>(bcase (fX I.1 (aQ (max a.length b.length))) (obind (jf (a,I.1)) λM=>(obind (jf (I.2.1,I.1)) λJ=>(chk (fm I.1 (al I.2.2)) λ_=>(chk (fm I.1 (al I.2.2)) λ_=>(af (oY ((bn .i64 (I.1+1)),I.2.1,(ct I.2.2 I.1 (jD M J))))))))) (af (bX (I.2.2,I.2.1)))))) (r:=(jl a b,b)) ?_ ?_
 .refine Eq.trans ?_ this;congr 1;simp only[Int.natCast_zero,xo,ep,aD,BD];apply dH<;>simp
 .intro i hi;simp only[];rw[ux (by simp;omega),dy,Cq,Cq,cX,cX,cC (c6 (by simpa using hi)),cC (c6 (by simpa using hi)),nL hi (by omega),eC];congr 4;apply dH
  .simp
  .intro k h1 h2;simp only[bP,gH] at h2;simp only[vi,qS,nE];by_cases e:i=k
   .subst e;simp
   .by_cases h:k<i
    .rw[aA e,aE h,aE (by omega)]
    .rw[aA e,aA h,aA (by omega)]
 .simp only[];rw[vx (by simp),dQ];congr 3;unfold jl;apply qc;intro k hk;rw[aE (nD.1 hk)]
theorem Tk (a b:List Int) (I:a.length<=v8) (hb:b.length<=v8):B3 (a,b)=af (jl a b):=by
 unfold B3;rw[Zs a b I hb,cX];exact Qk rfl _
def tk (c:List Int) (t:Nat):List Int:=(c++aG (t+1-c.length) 0).set t (c.getD t 0+1)
theorem Al (c:List Int) (t:Nat):(tk c t).length=max c.length (t+1):=by simp[tk];omega
theorem am7 (c:List Int) (n i:Nat):(c++aG n 0).getD i 0=c.getD i 0:=by
 simp only[ax];by_cases h:i<c.length
 .rw[bJ h]
 .rw[bW (by omega),bR (l:=c) (by omega),lA];split<;>rfl
theorem BG (c:List Int) (t i:Nat):(tk c t).getD i 0=if i=t then c.getD t 0+1 else c.getD i 0:=by
 unfold tk;rw[ax,o7];by_cases h:t=i
 .subst h;rw[aE rfl,aE (by simp;omega),aE rfl];rfl
 .rw[aA h,aA (λe=>h e.symm),<-ax,am7]
theorem aby (c:List Int) (n:Nat) (h:c.length<=n):TQ (aG n 0) c=c++aG (n-c.length) 0:=by
 unfold TQ;rw[eR,fg h,List.drop_replicate]
theorem XG (c:List Int) (t:Nat) (hc:c.length<=v8) (ht:t<4) (h0:0<=c.getD t 0) (h1:c.getD t 0<9223372036854775807):pR (c,(t:Int))=af (tk c t):=by
 unfold v8 at hc;unfold pR ck j7 bF aX aF cA;simp only[];rw[qY (by omega),dy,l_,ux (by omega)];simp only[dy,l_];have e1:jD (aQ c.length) (bn .i64 ((t:Int)+1))=((max c.length (t+1):Nat):Int):=by
  rw[nL ht (by omega)];exact uw _ _
 rw[e1];rw[cC (by rw[qY (by omega),qY (by omega),xx (by simp;omega) (by simp;omega)];rfl)];rw[dA];have e2:TQ (aG (max c.length (t+1)) (0:Int)) c=c++aG (t+1-c.length) 0:=by
  rw[aby c _ (by omega)];rw[show max c.length (t+1)-c.length=t+1-c.length from by omega]
 rw[e2];have hl:t<(c++aG (t+1-c.length) (0:Int)).length:=by simp;omega
 rw[cC (c6 hl),cC (c6 hl),l_];have e3:aJ (T:=.int .i64) (c++aG (t+1-c.length) (0:Int)) (t:Int)=c.getD t 0:=by
  rw[uF];exact am7 c _ t
 simp only[];rw[e3,ux h1,dy,cC (c6 hl),cC (c6 hl),cC (c6 hl),cC (c6 hl),l_,ah4 (by omega) (by omega),eC];rfl
theorem Ei (c:List Int) (hc:c.length<=v8):xG c=af c:=by
 unfold v8 at hc;unfold xG;rw[cC (xx (by omega) (by omega))]
theorem NF (c:List Int) (hc:c.length<=v8):vp c=af c:=by
 unfold v8 at hc;unfold vp wK bF;rw[cC (xx (by simp;omega) (by simp;omega)),cX];exact Qk rfl _
theorem NG (c:List Int) (hc:c.length<=v8):pa c=af c:=Ei c hc
def GL (l:List (List Int)):Prop:=l.length<=v8/\∀ c∈l,c.length<=v8
abbrev HTp:Type:=List (List Int)×List (List Int)×List (List Int)×List (List Int)×List (List Int)×List (List Int)×List Int×List (List Int)×List Int
def GH (h:HTp):Prop:=GL h.1/\GL h.2.1/\GL h.2.2.1/\GL h.2.2.2.1/\GL h.2.2.2.2.1/\GL h.2.2.2.2.2.1/\h.2.2.2.2.2.2.1.length<=v8/\GL h.2.2.2.2.2.2.2.1/\h.2.2.2.2.2.2.2.2.length<=v8
theorem Dp {l:List (List Int)} {i:Nat} (h:i<l.length):l.getD i []∈l:=by
 rw[ax,aB h];exact vj h
theorem GL.at {l:List (List Int)} (h:GL l) (i:Nat):(l.getD i []).length<=v8:=by
 by_cases hi:i<l.length
 .exact h.2 _ (Dp hi)
 .rw[ax,bR (by omega)];simp
theorem YP (g:List Int->Option (List Int)) (l:List (List Int)) (hl:l.length<=v8) (hg:∀ c∈l,g c=af c):
 fK (σ:=Int×List (List Int)) (λI=>(bcase (fX I.1 (aQ (al l))) (chk (fm I.1 (al l)) λ_=>(obind (g (aJ (T:=(.sl (.int .i64))) l I.1)) λJ=>(chk (fm I.1 (al I.2)) λ_=>(chk (fm I.1 (al I.2)) λ_=>(af (oY ((bn .i64 (I.1+1)),(ct I.2 I.1 J)))))))) (af (bX I.2)))) (0,(aG (aS (aQ (al l))) ([]:List Int)))=af l:=by
 unfold v8 at hl;have:=wN (σ:=Int×List (List Int)) (R:=List (List Int)) l.length (by omega) (λi=>((i:Int),(dl l.length).map λk=>if k<i then l.getD k [] else [])) (f:=(λI=>(bcase (fX I.1 (aQ (al l))) (chk (fm I.1 (al l)) λ_=>(obind (g (aJ (T:=(.sl (.int .i64))) l I.1)) λJ=>(chk (fm I.1 (al I.2)) λ_=>(chk (fm I.1 (al I.2)) λ_=>(af (oY ((bn .i64 (I.1+1)),(ct I.2 I.1 J)))))))) (af (bX I.2))))) (r:=l) ?_ ?_
 .refine Eq.trans ?_ this;congr 1;simp only[Int.natCast_zero,xo,ep,aD,BD,au,dA];apply dH<;>simp
 .intro i hi;simp only[];rw[ux (by simp;omega),dy,cC (c6 hi),uF,show (l.getD i (Ty.zero (.sl (.int .i64))))=l.getD i [] from rfl,hg _ (Dp hi),cX,cC (c6 (by simpa using hi)),cC (c6 (by simpa using hi)),nL hi (by omega),eC];congr 3;apply dH
  .simp
  .intro k h1 h2;simp only[bP,gH] at h2;simp only[vi,qS,nE];by_cases e:i=k
   .subst e;simp
   .by_cases h:k<i
    .rw[aA e,aE h,aE (by omega)]
    .rw[aA e,aA h,aA (by omega)]
 .simp only[];rw[vx (by simp),dQ];congr 2;apply dH
  .simp
  .intro k h1 h2;simp only[qS,nE];rw[aE h2,ax,aB h2];rfl
theorem rQ (l:List (List Int)) (h:GL l):iz l=af l:=by
 have hl:=h.1;unfold v8 at hl;unfold iz xN ck bB vQ bF aX cK aF cA;rw[cC (by rw[qY (by simp),qY (by omega),xx (by simp;omega) (by simp;omega)];rfl)];exact YP xG l h.1 λc hc=>Ei c (h.2 c hc)
theorem Ns (h:HTp) (g:GH h):rC h=af (h.2.2.2.2.2.2.1,h.1,h.2.1,h.2.2.1,h.2.2.2.1,h.2.2.2.2.1,h.2.2.2.2.2.1,h.2.2.2.2.2.2.2.1,h.2.2.2.2.2.2.2.2):=by
 obtain⟨g1,g2,g3,Z,Y,U,M,J,I⟩:=g;unfold rC aV bh bw cu dU iW nK;rw[rQ _ g1,cX,rQ _ g2,cX,rQ _ g3,cX,rQ _ Z,cX,rQ _ Y,cX,rQ _ U,cX,NG _ M,cX,rQ _ J,cX,NG _ I,cX]
theorem PO (a b:List Int) (I:a.length<=v8) (hb:b.length<=v8) (h:∀ i,a.getD i 0<=b.getD i 0):oN (a,b)=af ai:=by
 unfold v8 at I hb;unfold oN Dm bB aX cK aF cA;refine wN (σ:=Int) (max a.length b.length) (by omega) (λi=>(i:Int)) (λi hi=>?_) ?_
 .simp only[uw];rw[ux (by omega),dy,am3,Cq,Cq,cX,cX,vx (h i),dQ,nL hi (by omega)]
 .simp only[uw];rw[vx (by omega),dQ]
theorem agf (a b:List Int) (I:a.length<=v8) (hb:b.length<=v8) (h:∀ i,a.getD i 0=b.getD i 0):t7 (a,b)=af ai:=by
 unfold t7 aF;rw[PO a b I hb λi=>Int.le_of_eq (h i),cX,dy,PO b a hb I λi=>Int.le_of_eq (h i).symm,cX,l_]
theorem Zh (a:List Int) (h:a.length<=v8):t7 (a,a)=af ai:=agf a a h h λ_=>rfl
abbrev vL:Type:=List (List UInt8×Int×Int×Bool×Int)×List (List UInt8×Bool)×List (List UInt8×Int)×List (List UInt8)×List (List UInt8)×List (Int×Int×Int)
def h0 (w:vL):HTp:=(aG w.2.2.2.2.1.length [],aG w.2.2.2.2.1.length [],aG w.2.1.length [],aG w.2.1.length [],aG w.1.length [],aG w.2.2.2.1.length [],[],aG w.2.2.2.2.1.length [],aG w.2.2.2.2.1.length (-1))
theorem acz (w:vL) (h1:w.1.length<=v8) (h2:w.2.1.length<=v8) (M:w.2.2.2.1.length<=v8) (J:w.2.2.2.2.1.length<=v8):nW w=af (h0 w):=by
 unfold v8 at h1 h2 M J;have c:∀ n b:Nat,n<=1000000000->b<=24->(cZ 0 (aQ n)&&cZ (aQ n) (aQ n)&&bc (aS (aQ n)) b)=ai:=λn b hn hb=>by
  have:n*b<=n*24:=Nat.mul_le_mul_left n hb;rw[qY (by simp),qY (by omega),xx (by simp;omega) (by simp;omega)];rfl
 unfold nW Av aV bh bw cu dU iW nK ck bB bF aX cK aF cA;rw[cC (c _ 24 J (by omega)),cC (c _ 24 J (by omega)),cC (c _ 24 h2 (by omega)),cC (c _ 24 h2 (by omega)),cC (c _ 24 h1 (by omega)),cC (c _ 24 M (by omega)),cC (c _ 24 J (by omega)),cC (c _ 8 J (by omega))];simp only[au,dA,eR];have:=wN (σ:=Int×(List (List Int))×(List (List Int))×(List (List Int))×(List (List Int))×(List (List Int))×(List (List Int))×(List (List Int))×List Int) (R:=HTp) w.2.2.2.2.1.length (by omega) (λi=>((i:Int),aG w.2.2.2.2.1.length [],aG w.2.2.2.2.1.length [],aG w.2.1.length [],aG w.2.1.length [],aG w.1.length [],aG w.2.2.2.1.length [],aG w.2.2.2.2.1.length [],(dl w.2.2.2.2.1.length).map λk=>if k<i then -1 else 0)) (f:=(λI=>(bcase (fX I.1 (w.2.2.2.2.1.length:Int)) (chk (fm I.1 (al I.2.2.2.2.2.2.2.2)) λ_=>(chk (fm I.1 (al I.2.2.2.2.2.2.2.2)) λ_=>(af (oY ((bn .i64 (I.1+1)),I.2.1,I.2.2.1,I.2.2.2.1,I.2.2.2.2.1,I.2.2.2.2.2.1,I.2.2.2.2.2.2.1,I.2.2.2.2.2.2.2.1,(ct I.2.2.2.2.2.2.2.2 I.1 (-1))))))) (af (bX (I.2.1,I.2.2.1,I.2.2.2.1,I.2.2.2.2.1,I.2.2.2.2.2.1,I.2.2.2.2.2.2.1,([]:List Int),I.2.2.2.2.2.2.2.1,I.2.2.2.2.2.2.2.2)))))) (r:=h0 w) ?_ ?_
 .refine Eq.trans ?_ this;congr 1;simp only[Int.natCast_zero,xo,ep,aD,BD];apply dH<;>simp
 .intro i hi;simp only[];rw[ux (by omega),dy,cC (c6 (by simpa using hi)),cC (c6 (by simpa using hi)),nL hi (by omega),eC];congr 3;simp only[aD,BD];apply dH
  .simp
  .intro k h1 h2;simp only[bP,gH] at h2;simp only[vi,qS,nE];by_cases e:i=k
   .subst e;simp
   .by_cases h:k<i
    .rw[aA e,aE h,aE (by omega)]
    .rw[aA e,aA h,aA (by omega)]
 .simp only[];rw[vx (by omega),dQ];unfold h0;congr 3;simp only[aD,BD];apply dH
  .simp
  .intro k h1 h2;simp only[eR] at h2;simp only[qS,nE,List.getElem_replicate];rw[aE h2]
theorem mb (x y:Int):jD x y=max x y:=by
 unfold jD;by_cases h:x<y
 .rw[ux h,aE rfl];omega
 .rw[vx (by omega)];simp;omega
theorem Uy (a b c:Int):jD (jD a b) c=jD a (jD b c):=by
 simp only[mb];omega
theorem wM {a b:List Int} (hl:a.length=b.length) (h:∀ i,a.getD i 0=b.getD i 0):a=b:=by
 apply dH hl;intro i h1 h2;have:=h i;simpa[ax,aB h1,aB h2] using this
theorem sF (a b c:List Int):jl (jl a b) c=jl a (jl b c):=
 wM (by simp only[my];omega) λi=>by simp only[rH,Uy]
def En (n:Int) (c:List Int):Prop:=c.length<=4/\∀ i,0<=c.getD i 0/\c.getD i 0<=n
theorem En.nil {n:Int} (h:0<=n):En n []:=⟨by simp,λi=>by simp;exact h⟩
theorem En.mono {n m:Int} {c:List Int} (h:En n c) (hm:n<=m):En m c:=⟨h.1,λi=>⟨(h.2 i).1,Int.le_trans (h.2 i).2 hm⟩⟩
theorem En.jl {n:Int} {a b:List Int} (I:En n a) (hb:En n b):En n (jl a b):=⟨by rw[my];have:=I.1;have:=hb.1;omega,λi=>by
 rw[rH];obtain⟨h1,h2⟩:=I.2 i;obtain⟨M,J⟩:=hb.2 i;unfold jD;split<;>exact⟨by assumption,by assumption⟩⟩
theorem En.tk {n:Int} {c:List Int} {t:Nat} (h:En n c) (ht:t<4):En (n+1) (tk c t):=⟨by rw[Al];have:=h.1;omega,λi=>by
 rw[BG];obtain⟨h1,h2⟩:=h.2 i;obtain⟨J,I⟩:=h.2 t;split<;>omega⟩
theorem oB {n:Int} {c:List Int} (h:En n c):jl c []=c:=wM (by simp[my]) λi=>by
 rw[rH,mb];have:=(h.2 i).1;simp only[List.getD_nil];omega
theorem aiu {n:Int} {c:List Int} (h:En n c):jl [] c=c:=wM (by simp[my]) λi=>by
 rw[rH,mb];have:=(h.2 i).1;simp only[List.getD_nil];omega
def Bz (n:Int) (l:List (List Int)):Prop:=∀ i,En n (l.getD i [])
theorem Bz.mono {n m:Int} {l:List (List Int)} (h:Bz n l) (hm:n<=m):Bz m l:=λi=>(h i).mono hm
theorem Bz.set {n:Int} {l:List (List Int)} (h:Bz n l) {c:List Int} (hc:En n c) (j:Nat):Bz n (l.set j c):=λi=>by
 rw[ax,o7];by_cases e:j=i
 .subst e;rw[aE rfl];split
  .exact hc
  .have:=h j;simp only[ax] at this;rename_i hj;rw[bR (by omega)] at this;exact this
 .rw[aA e,<-ax];exact h i
theorem Bz.repl {n:Int} (h:0<=n) (k:Nat):Bz n (aG k []):=λi=>by
 rw[ax,lA];split<;>exact En.nil h
structure HS where
 T:List (List Int)
 S:List (List Int)
 L:List (List Int)
 R:List (List Int)
 C:List (List Int)
 F:List (List Int)
 X:List Int
 N:List (List Int)
 W:List Int
def HS.t (h:HS):HTp:=(h.T,h.S,h.L,h.R,h.C,h.F,h.X,h.N,h.W)
structure EV where
 th:Nat
 k:Nat
 ob:Nat
 va:Int
abbrev WTc:=List (List UInt8×Int)
def TO (I:WTc) (o:Nat):Nat:=((I.getD o ([],0)).2).toNat
def yR (I:List (List UInt8×Int×Int×Bool×Int)) (o:Nat):Bool:=(I.getD o ([],0,0,aj,0)).2.2.2.1
def sr (w:vL) (h:HS) (e:EV):List (List Int):=
 if e.k=1 then [h.S.getD e.th []]
 else if e.k=21 then [h.T.getD e.ob []]
 else if e.k=6\/e.k=10 then [h.L.getD e.ob [],h.R.getD e.ob []]
 else if e.k=8 then [h.L.getD e.ob []]
 else if e.k=17 then [h.L.getD (TO w.2.2.1 e.ob) [],h.R.getD (TO w.2.2.1 e.ob) [],h.N.getD e.th []]
 else if e.k=3 then [h.C.getD e.ob []]
 else if e.k=23 then [h.F.getD e.ob []]
 else if e.k=12 then [h.X]
 else []
def v7 (w:vL) (h:HS) (e:EV):List Int:=tk ((sr w h e).foldl jl (h.T.getD e.th [])) e.th
def jat (l:List (List Int)) (i:Nat) (c:List Int):List (List Int):=l.set i (jl (l.getD i []) c)
def Cz (p:Nat->Bool) (c:List Int) (h:HS):HS:={h with N:=h.N.mapIdx λu x=>if p u then c else x,W:=h.W.mapIdx λu x=>if p u then -1 else x}
def io (w:vL) (h:HS) (e:EV) (c:List Int):HS:=
 let h:={h with T:=h.T.set e.th c}
 if e.k=20 then {h with S:=h.S.set e.ob c}
 else if e.k=7\/e.k=11 then {h with L:=jat h.L e.ob c}
 else if e.k=9 then {h with R:=jat h.R e.ob c}
 else if e.k=16 then {h with L:=jat h.L (TO w.2.2.1 e.ob) c,W:=h.W.set e.th e.ob}
 else if e.k=4 then (if yR w.1 e.ob then {h with C:=jat h.C e.ob c} else h)
 else if e.k=22 then {h with F:=jat h.F e.ob c}
 else if e.k=13 then {h with X:=jl h.X c}
 else if e.k=18 then (if 0<=e.va/\e.va<h.N.length then {h with N:=h.N.set e.va.toNat c,W:=h.W.set e.va.toNat (-1)} else h)
 else if e.k=19 then Cz (λu=>decide (h.W.getD u 0=(e.ob:Int))) c h
 else h
def FU (w:vL) (h:HS) (e:EV):HS×List Int:=(io w h e (v7 w h e),v7 w h e)
structure EOK (w:vL) (h:HS) (e:EV):Prop where
 th4:e.th<4
 th:e.th<h.T.length
 k1:1<=e.k
 k2:e.k<=23
 sp:e.k=20\/e.k=21->e.ob<h.T.length
 lk:6<=e.k/\e.k<=11->e.ob<h.L.length
 cd:e.k=16\/e.k=17->e.ob<w.2.2.1.length/\0<=(w.2.2.1.getD e.ob ([],0)).2/\TO w.2.2.1 e.ob<h.L.length
 ce:e.k=3\/e.k=4->e.ob<h.C.length/\e.ob<w.1.length
 fu:e.k=22\/e.k=23->e.ob<h.F.length
structure PZ (n:Int) (h:HS):Prop where
 n0:0<=n
 n1:n<=1000000
 T:Bz n h.T
 S:Bz n h.S
 L:Bz n h.L
 R:Bz n h.R
 C:Bz n h.C
 F:Bz n h.F
 X:En n h.X
 N:Bz n h.N
 lT:h.T.length<=1000
 lS:h.S.length=h.T.length
 lN:h.N.length=h.T.length
 lW:h.W.length=h.T.length
 lL:h.L.length<=1000
 lR:h.R.length=h.L.length
 lC:h.C.length<=1000
 lF:h.F.length<=1000
theorem En.lb {n:Int} {c:List Int} (h:En n c):c.length<=v8:=by have:=h.1;unfold v8;omega
theorem Bz.GL {n:Int} {l:List (List Int)} (h:Bz n l) (hl:l.length<=1000):GL l:=⟨by unfold v8;omega,λc hc=>by
 obtain⟨i,hi⟩:=eD hc;have:=(h i).lb
 rwa [ax,hi] at this⟩
theorem PZ.GH {n:Int} {h:HS} (o:PZ n h):GH h.t:=
 ⟨o.T.GL o.lT,o.S.GL (by rw[o.lS];exact o.lT),o.L.GL o.lL,o.R.GL (by rw[o.lR];exact o.lL),o.C.GL o.lC,o.F.GL o.lF,o.X.lb,o.N.GL (by rw[o.lN];exact o.lT),by show h.W.length<=v8;have:=o.lT;rw[o.lW];unfold v8;omega⟩
theorem En.join {n:Int} {a b:List Int} (I:En n a) (hb:En n b):jz (a,b)=af (AI.jl a b):=XN a b I.lb hb.lb
theorem N5 {n:Int} {w:vL} {h:HS} (o:PZ n h) (e:EV):∀ c∈sr w h e,En n c:=by
 intro c hc;unfold sr at hc;repeat' (split at hc)
 all_goals simp only[bl,cw,gf] at hc
 .subst hc;exact o.S _
 .subst hc;exact o.T _
 .rcases hc with rfl|rfl
  .exact o.L _
  .exact o.R _
 .subst hc;exact o.L _
 .rcases hc with rfl|rfl|rfl
  .exact o.L _
  .exact o.R _
  .exact o.N _
 .subst hc;exact o.C _
 .subst hc;exact o.F _
 .subst hc;exact o.X
theorem xU {n:Int}:∀ (l:List (List Int)) (c:List Int),En n c->(∀ x∈l,En n x)->En n (l.foldl jl c)
 |[],_,hc,_=>hc
 |x::r,c,hc,h=>xU r _ (hc.jl (h x (dG ..))) λy I=>h y (cO _ I)
theorem Fy {n:Int} {w:vL} {h:HS} (o:PZ n h) {e:EV} (he:e.th<4):En (n+1) (v7 w h e):=(xU _ _ (o.T _) (N5 o e)).tk he
theorem Bz.jat {n:Int} {l:List (List Int)} {c:List Int} (h:Bz n l) (hc:En n c) (i:Nat):Bz n (jat l i c):=h.set ((h i).jl hc) i
theorem Bz.mapIdx {n:Int} {l:List (List Int)} {c:List Int} (h:Bz n l) (hc:En n c) (p:Nat->Bool):Bz n (l.mapIdx λu x=>if p u then c else x):=λi=>by
 rw[ax,Em];have:=h i;rw[ax] at this;cases I:l[i]? with
 |none=>rw[I] at this;exact this
 |some x=>
  rw[I] at this;simp only[b_,vg];split
  .exact hc
  .exact this
theorem Xd {n:Int} {w:vL} {h:HS} (o:PZ n h) (hn:n+1<=1000000) {e:EV} {c:List Int} (hc:En (n+1) c):PZ (n+1) (io w h e c):=by
 have m:n<=n+1:=by omega
 have oT:Bz (n+1) (h.T.set e.th c):=(o.T.mono m).set hc _;have b:PZ (n+1) {h with T:=h.T.set e.th c}:=⟨by have:=o.n0;omega,hn,oT,o.S.mono m,o.L.mono m,o.R.mono m,o.C.mono m,o.F.mono m,o.X.mono m,o.N.mono m,by simpa using o.lT,by simpa using o.lS,by simpa using o.lN,by simpa using o.lW,o.lL,o.lR,o.lC,o.lF⟩
 unfold io;simp only[];repeat' split
 .exact {b with S:=(o.S.mono m).set hc _,lS:=by simpa using b.lS}
 .exact {b with L:=(o.L.mono m).jat hc _,lL:=by simpa[jat] using b.lL,lR:=by simpa[jat] using b.lR}
 .exact {b with R:=(o.R.mono m).jat hc _,lR:=by simpa[jat] using b.lR}
 .exact {b with L:=(o.L.mono m).jat hc _,lL:=by simpa[jat] using b.lL,lR:=by simpa[jat] using b.lR,lW:=by simpa using b.lW}
 .exact {b with C:=(o.C.mono m).jat hc _,lC:=by simpa[jat] using b.lC}
 .exact b
 .exact {b with F:=(o.F.mono m).jat hc _,lF:=by simpa[jat] using b.lF}
 .exact {b with X:=(o.X.mono m).jl hc}
 .exact {b with N:=(o.N.mono m).set hc _,lN:=by simpa using b.lN,lW:=by simpa using b.lW}
 .exact b
 .exact {b with N:=(o.N.mono m).mapIdx hc _,lN:=by simpa[Cz] using b.lN,lW:=by simpa[Cz] using b.lW}
 .exact b
theorem Z4 {n:Int} {w:vL} {h:HS} (o:PZ n h) (hn:n+1<=1000000) {e:EV} (he:e.th<4):PZ (n+1) (FU w h e).1:=Xd o hn (Fy o he)
theorem VZ {a b:Nat} (h:a=b):aC a b=ai:=by subst h;exact rW a
theorem RC (l:List (List Int)) (i:Nat) (h:i<l.length):t8 ((i:Int),l)=af (l.getD i [],l):=by
 unfold t8 ck bB aX aF;simp only[];rw[vx (by omega)];simp only[dQ,l_];rw[ab7 (by simp;omega)];simp only[dQ];rw[cC (c6 h),cC (c6 h),lP]
theorem ua {n:Int} (l:List (List Int)) (i:Nat) (c:List Int) (h:i<l.length) (hl:Bz n l) (hc:En n c):lI ((i:Int),l,c)=af (jat l i c,c):=by
 unfold lI ck j7 aX aF;simp only[];rw[qY (by omega)];simp only[dy,l_];rw[ux (by simp;omega)];simp only[dy];rw[cC (c6 h),cC (c6 h),lP,Tk _ _ (hl i).lb hc.lb,cX,cC (c6 h),cC (c6 h),eC];rfl
theorem rJ (l:List (List Int)) (i:Nat) (c:List Int):(jat l i c).length=l.length:=by simp[jat]
theorem Wj {n:Int} (h:HS) (u:Nat) (c:List Int) (h1:u<h.N.length) (h2:u<h.W.length) (hc:En n c):wH ((u:Int),h.X,h.T,h.S,h.L,h.R,h.C,h.F,h.N,h.W,c)=af (h.X,h.T,h.S,h.L,h.R,h.C,h.F,h.N.set u c,h.W.set u (-1),c):=by
 unfold wH aV bh bw cu dU iW ve xn Prod.q10 ck;simp only[];rw[NF c hc.lb,cX,cC (c6 h1),cC (c6 h1),cC (c6 h2),cC (c6 h2),eC,eC]
theorem W3 (I:WTc) (i:Nat):aJ (T:=.st (.pr .str (.int .i64))) I (i:Int)=I.getD i ([],0):=uF (T:=.st (.pr .str (.int .i64))) I i
theorem OR (I:List (List UInt8×Int×Int×Bool×Int)) (i:Nat):aJ (T:=.st (.pr .str (.pr (.int .i64) (.pr (.int .i64) (.pr .bool (.int .i64)))))) I (i:Int)=I.getD i ([],0,0,aj,0):=uF (T:=.st (.pr .str (.pr (.int .i64) (.pr (.int .i64) (.pr .bool (.int .i64)))))) I i
abbrev ETp:Type:=Int×Int×Int×Int×Int×List Int×List Int
structure EvT (e:EV) (x:ETp):Prop where
 th:x.1=(e.th:Int)
 k:x.2.1=(e.k:Int)
 ob:e.k∈[3,4,6,7,8,9,10,11,16,17,18,19,20,21,22,23]->x.2.2.1=(e.ob:Int)
 va:x.2.2.2.1=e.va
theorem WP {k:Nat} {z:Int} (I:z=(k:Int)) (h1:1<=k) (h2:k<=23):(k=1/\z=1)\/(k=2/\z=2)\/(k=3/\z=3)\/(k=4/\z=4)\/(k=5/\z=5)\/(k=6/\z=6)\/(k=7/\z=7)\/(k=8/\z=8)\/(k=9/\z=9)\/(k=10/\z=10)\/(k=11/\z=11)\/(k=12/\z=12)\/(k=13/\z=13)\/(k=14/\z=14)\/(k=15/\z=15)\/(k=16/\z=16)\/(k=17/\z=17)\/(k=18/\z=18)\/(k=19/\z=19)\/(k=20/\z=20)\/(k=21/\z=21)\/(k=22/\z=22)\/(k=23/\z=23):=by
 have h:k=1\/k=2\/k=3\/k=4\/k=5\/k=6\/k=7\/k=8\/k=9\/k=10\/k=11\/k=12\/k=13\/k=14\/k=15\/k=16\/k=17\/k=18\/k=19\/k=20\/k=21\/k=22\/k=23:=by omega
 subst I;rcases h with rfl|rfl|rfl|rfl|rfl|rfl|rfl|rfl|rfl|rfl|rfl|rfl|rfl|rfl|rfl|rfl|rfl|rfl|rfl|rfl|rfl|rfl|rfl<;>simp
theorem VY (a:Nat):(aC a a&&ai)=ai:=by rw[VZ rfl];rfl
theorem Tc {n:Int} {w:vL} {h:HS} (o:PZ n h) {e:EV} (ok:EOK w h e) {x:ETp} (hx:EvT e x):rD (x,h.X,w,h.T,h.S,h.L,h.R,h.C,h.F,h.N,h.W)=af (sr w h e,x,h.X,w,h.T,h.S,h.L,h.R,h.C,h.F,h.N,h.W):=by
 obtain⟨x1,x2,M,x4,x5,x6,x7⟩:=x;obtain⟨w1,w2,U,w4,w5,w6⟩:=w;obtain⟨th,k,ob,va⟩:=e;obtain⟨q1,Y,q3,q4⟩:=hx;simp only at q1 Y q3 q4;subst q1 q4;have t1:=ok.th;simp only at t1;have fS:fm (th:Int) h.S.length=ai:=c6 (by rw[o.lS];exact t1);have fN:fm (th:Int) h.N.length=ai:=c6 (by rw[o.lN];exact t1);have fT:k=21->fm (ob:Int) h.T.length=ai/\M=(ob:Int):=λe=>by
  subst e;have:=ok.sp (.inr rfl);exact⟨c6 this,q3 (by decide)⟩
 have fL:(k=6\/k=10\/k=8)->fm (ob:Int) h.L.length=ai/\fm (ob:Int) h.R.length=ai/\M=(ob:Int):=λe=>by
  have h1:ob<h.L.length:=ok.lk (by rcases e with rfl|rfl|rfl<;>(simp only[];omega));exact⟨c6 h1,c6 (by rw[o.lR];exact h1),q3 (by rcases e with rfl|rfl|rfl<;>decide)⟩
 have fC:k=3->fm (ob:Int) h.C.length=ai/\M=(ob:Int):=λe=>by
  subst e;have:=(ok.ce (.inl rfl)).1;exact⟨c6 this,q3 (by decide)⟩
 have fF:k=23->fm (ob:Int) h.F.length=ai/\M=(ob:Int):=λe=>by
  subst e;have:=ok.fu (.inr rfl);exact⟨c6 this,q3 (by decide)⟩
 unfold rD sr xm aV bh bw cu dU iW ve xn Prod.q10 Lj cN eZ ck bd vQ bF aF;rcases WP Y ok.k1 ok.k2 with ⟨e,e'⟩|⟨e,e'⟩|⟨e,e'⟩|⟨e,e'⟩|⟨e,e'⟩|⟨e,e'⟩|⟨e,e'⟩|⟨e,e'⟩|⟨e,e'⟩|⟨e,e'⟩|⟨e,e'⟩|⟨e,e'⟩|⟨e,e'⟩|⟨e,e'⟩|⟨e,e'⟩|⟨e,e'⟩|⟨e,e'⟩|⟨e,e'⟩|⟨e,e'⟩|⟨e,e'⟩|⟨e,e'⟩|⟨e,e'⟩|⟨e,e'⟩<;>clear Y<;>subst e<;>subst e'
 case inr.inr.inr.inr.inr.inr.inr.inr.inr.inr.inr.inr.inr.inr.inr.inr.inl=>
  have q3:=q3 (by decide);subst q3;obtain⟨d1,d2,Z⟩:=ok.cd (.inr rfl);simp only at d1 d2 Z;have d4:TO U ob<h.R.length:=by rw[o.lR];exact Z
  have e1:(U.getD ob ([],0)).2=((TO U ob:Nat):Int):=by unfold TO;omega
  simp only[aZ,dc,dY,dy,dQ,l_,cC,c6 d1,W3,e1,RC _ _ Z,RC _ _ d4,cX,VY,fN,lP];rfl
 case inr.inr.inl=>
  obtain⟨I,rfl⟩:=fC rfl;simp only[aZ,dc,dY,dy,dQ,l_,cC,I,lP];rfl
 case inr.inr.inr.inr.inr.inr.inr.inr.inr.inr.inr.inr.inr.inr.inr.inr.inr.inr.inr.inr.inr.inr=>
  obtain⟨I,rfl⟩:=fF rfl;simp only[aZ,dc,dY,dy,dQ,l_,cC,I,lP];rfl
 case inr.inr.inr.inr.inr.inr.inr.inr.inr.inr.inr.inr.inr.inr.inr.inr.inr.inr.inr.inr.inl=>
  obtain⟨I,rfl⟩:=fT rfl;simp only[aZ,dc,dY,dy,dQ,l_,cC,I,lP];rfl
 case inl=>
  simp only[aZ,dc,dY,dy,dQ,l_,cC,fS,lP];rfl
 case inr.inr.inr.inr.inr.inl=>
  obtain⟨I,J,rfl⟩:=fL (by decide);simp only[aZ,dc,dY,dy,dQ,l_,cC,I,J,lP];rfl
 case inr.inr.inr.inr.inr.inr.inr.inr.inr.inl=>
  obtain⟨I,J,rfl⟩:=fL (by decide);simp only[aZ,dc,dY,dy,dQ,l_,cC,I,J,lP];rfl
 case inr.inr.inr.inr.inr.inr.inr.inl=>
  obtain⟨I,J,rfl⟩:=fL (by decide);simp only[aZ,dc,dY,dy,dQ,l_,cC,I,J,lP];rfl
 all_goals
  simp only[aZ,dc,dY,dy,dQ,l_];rfl
theorem EW {σ R:Type} {f:σ->Option (σ⊕R)} {x0:σ} {r:R} (n:Nat) (hn:n<18446744073709551616) (st:Nat->σ) (I:x0=st 0) (h0:∀ i,i<n->f (st i)=af (.inl (st (i+1)))) (h1:f (st n)=af (.inr r)):fK f x0=af r:=by
 subst I;exact wN n hn st h0 h1
def Ln {α:Type} (p:Nat->Bool) (c:α) (u:Nat) (l:List α):List α:=l.mapIdx λk x=>if decide (k<u)&&p k then c else x
theorem ZS {α:Type} (p:Nat->Bool) (c:α) (l:List α):Ln p c 0 l=l:=by
 unfold Ln;apply dH
 .simp
 .intro i h1 h2;simp
theorem Io {α:Type} (p:Nat->Bool) (c:α) (u:Nat) (l:List α):(Ln p c u l).length=l.length:=by simp[Ln]
theorem P' {α:Type} (p:Nat->Bool) (c:α) (u:Nat) (l:List α) (h:l.length<=u):Ln p c u l=l.mapIdx λk x=>if p k then c else x:=by
 unfold Ln;apply dH
 .simp
 .intro i h1 h2;simp only[List.length_mapIdx] at h1;simp only[List.getElem_mapIdx];rw[show decide (i<u)=ai from aO (by omega)];rfl
theorem Wh {α:Type} (p:Nat->Bool) (c:α) (u:Nat) (l:List α) (hp:p u=ai):(Ln p c u l).set u c=Ln p c (u+1) l:=by
 unfold Ln;apply dH
 .simp
 .intro i h1 h2;simp only[vi,List.getElem_mapIdx];by_cases e:u=i
  .subst e;simp[hp]
  .rw[aA e];by_cases h:i<u
   .rw[aO h,aO (show i<u+1 by omega)]
   .rw[bz h,bz (show ¬i<u+1 by omega)]
theorem P_ {α:Type} (p:Nat->Bool) (c:α) (u:Nat) (l:List α) (hp:p u=aj):Ln p c u l=Ln p c (u+1) l:=by
 unfold Ln;apply dH
 .simp
 .intro i h1 h2;simp only[List.getElem_mapIdx];by_cases e:u=i
  .subst e;simp[hp]
  .by_cases h:i<u
   .rw[aO h,aO (show i<u+1 by omega)]
   .rw[bz h,bz (show ¬i<u+1 by omega)]
theorem aii (p:Nat->Bool) (c:Int) (u:Nat) (l:List Int):(Ln p c u l).getD u 0=l.getD u 0:=by
 unfold Ln;rw[ax,Em,ax];cases l[u]? with
 |none=>rfl
 |some x=>simp
def HS.e (h:HS) (c:List Int):List Int×List (List Int)×List (List Int)×List (List Int)×List (List Int)×List (List Int)×List (List Int)×List (List Int)×List Int×List Int:=(h.X,h.T,h.S,h.L,h.R,h.C,h.F,h.N,h.W,c)
theorem RD {n:Int} {w:vL} {h:HS} (o:PZ n h) (hn:n+1<=1000000) {e:EV} (ok:EOK w h e) {x:ETp} (hx:EvT e x) {c:List Int} (hc:En (n+1) c):pP ((w,x),h.e c)=af ((io w h e c).e c):=by
 obtain⟨x1,x2,x3,I,x5,x6,x7⟩:=x;obtain⟨J,w2,M,w4,w5,w6⟩:=w;obtain⟨th,k,ob,va⟩:=e;obtain⟨q1,q2,q3,q4⟩:=hx;simp only at q1 q2 q3 q4;subst q1 q4;have t1:=ok.th;simp only at t1;have m:n<=n+1:=by omega
 have fT:fm (th:Int) h.T.length=ai:=c6 t1;have fW:fm (th:Int) h.W.length=ai:=c6 (by rw[o.lW];exact t1);have cl:=NF c hc.lb;unfold pP At HS.e xm Ek Prod.p12 Prod.p13 Prod.p14 Prod.p15 Prod.p16 Prod.p17 aV bh bw cu dU iW ve xn Prod.q10 Prod.q16 Prod.q17 Prod.q18 cN mB NJ ck bd bB j7 vQ bF aX cK aF cA;rcases WP q2 ok.k1 ok.k2 with ⟨e,e'⟩|⟨e,e'⟩|⟨e,e'⟩|⟨e,e'⟩|⟨e,e'⟩|⟨e,e'⟩|⟨e,e'⟩|⟨e,e'⟩|⟨e,e'⟩|⟨e,e'⟩|⟨e,e'⟩|⟨e,e'⟩|⟨e,e'⟩|⟨e,e'⟩|⟨e,e'⟩|⟨e,e'⟩|⟨e,e'⟩|⟨e,e'⟩|⟨e,e'⟩|⟨e,e'⟩|⟨e,e'⟩|⟨e,e'⟩|⟨e,e'⟩<;>clear q2<;>subst e<;>subst e'
 case inr.inr.inr.inr.inr.inr.inr.inr.inr.inr.inr.inr.inr.inr.inr.inr.inr.inr.inr.inl=>
  obtain rfl:=q3 (by decide);have f:fm (ob:Int) h.S.length=ai:=c6 (by rw[o.lS];exact ok.sp (.inl rfl));simp only[aZ,dc,dY,dy,dQ,l_,cX,cC,cl,fT,f,eC];rfl
 case inr.inr.inr.inr.inr.inr.inl=>
  obtain rfl:=q3 (by decide);have f:ob<h.L.length:=ok.lk (by simp only[];omega);simp only[aZ,dc,dY,dy,dQ,l_,cX,cC,cl,fT,eC,ua _ _ _ f (o.L.mono m) hc,rJ,VY];rfl
 case inr.inr.inr.inr.inr.inr.inr.inr.inr.inr.inl=>
  obtain rfl:=q3 (by decide);have f:ob<h.L.length:=ok.lk (by simp only[];omega);simp only[aZ,dc,dY,dy,dQ,l_,cX,cC,cl,fT,eC,ua _ _ _ f (o.L.mono m) hc,rJ,VY];rfl
 case inr.inr.inr.inr.inr.inr.inr.inr.inl=>
  obtain rfl:=q3 (by decide);have f:ob<h.R.length:=by rw[o.lR];exact ok.lk (by simp only[];omega)
  simp only[aZ,dc,dY,dy,dQ,l_,cX,cC,cl,fT,eC,ua _ _ _ f (o.R.mono m) hc,rJ,VY];rfl
 case inr.inr.inr.inr.inr.inr.inr.inr.inr.inr.inr.inr.inr.inr.inr.inl=>
  obtain rfl:=q3 (by decide);obtain⟨Y,Z,d3⟩:=ok.cd (.inl rfl);simp only at Y Z d3;have e1:(M.getD ob ([],0)).2=((TO M ob:Nat):Int):=by unfold TO;omega
  simp only[aZ,dc,dY,dy,dQ,l_,cX,cC,cl,fT,fW,eC,c6 Y,W3,e1,ua _ _ _ d3 (o.L.mono m) hc,rJ,VY];rfl
 case inr.inr.inr.inl=>
  obtain rfl:=q3 (by decide);obtain⟨Y,Z⟩:=ok.ce (.inr rfl);simp only at Y Z;simp only[aZ,dc,dY,dy,dQ,l_,cX,cC,cl,fT,eC,c6 Z,OR];cases hv:(J.getD ob ([],0,0,aj,0)).2.2.2.1 with
  |true=>
   simp only[dy,cX,cC,ua _ _ _ Y (o.C.mono m) hc,rJ,VY,l_];have U:io (J,w2,M,w4,w5,w6) h ⟨th,4,ob,I⟩ c=if yR J ob then {h with T:=h.T.set th c,C:=jat h.C ob c} else {h with T:=h.T.set th c}:=rfl
   rw[U,show yR J ob=ai from hv];rfl
  |false=>
   simp only[dQ,l_];have U:io (J,w2,M,w4,w5,w6) h ⟨th,4,ob,I⟩ c=if yR J ob then {h with T:=h.T.set th c,C:=jat h.C ob c} else {h with T:=h.T.set th c}:=rfl
   rw[U,show yR J ob=aj from hv];rfl
 case inr.inr.inr.inr.inr.inr.inr.inr.inr.inr.inr.inr.inr.inr.inr.inr.inr.inr.inr.inr.inr.inl=>
  obtain rfl:=q3 (by decide);have f:ob<h.F.length:=ok.fu (.inl rfl);simp only[aZ,dc,dY,dy,dQ,l_,cX,cC,cl,fT,eC,ua _ _ _ f (o.F.mono m) hc,rJ,VY];rfl
 case inr.inr.inr.inr.inr.inr.inr.inr.inr.inr.inr.inr.inl=>
  simp only[aZ,dc,dY,dy,dQ,l_,cX,cC,cl,fT,eC,Tk _ _ (o.X.mono m).lb hc.lb];rfl
 case inr.inr.inr.inr.inr.inr.inr.inr.inr.inr.inr.inr.inr.inr.inr.inr.inr.inl=>
  simp only[aZ,dc,dY,dy,dQ,l_,cX,cC,cl,fT,eC];have U:io (J,w2,M,w4,w5,w6) h ⟨th,18,ob,I⟩ c=if 0<=I/\I<h.N.length then {h with T:=h.T.set th c,N:=h.N.set I.toNat c,W:=h.W.set I.toNat (-1)} else {h with T:=h.T.set th c}:=rfl
  rw[U];by_cases h0:0<=I
  .by_cases h1:I<h.N.length
   .rw[qY h0];simp only[dy,l_];rw[ux (show I<aQ h.N.length from h1)];obtain⟨v,rfl⟩:∃ v:Nat,I=(v:Int):=⟨I.toNat,by omega⟩
    have v1:v<h.N.length:=by omega
    have v2:v<h.W.length:=by rw[o.lW,<-o.lN];exact v1
    have:=Wj {h with T:=h.T.set th c} v c v1 v2 hc;simp only[] at this;simp only[dy,this,cX,sR,cC,VZ rfl,iS,l_];rw[aE ⟨h0,h1⟩];rfl
   .rw[qY h0];simp only[dy,l_];rw[vx (show aQ h.N.length<=I from Ct.1 h1)];simp only[dQ,l_];rw[aA (λq=>h1 q.2)]
  .rw[ab7 (by omega)];simp only[dQ,l_];rw[aA (λq=>h0 q.1)]
 case inr.inr.inr.inr.inr.inr.inr.inr.inr.inr.inr.inr.inr.inr.inr.inr.inr.inr.inl=>
  obtain rfl:=q3 (by decide);simp only[aZ,dc,dY,dy,dQ,l_,cX,cC,cl,fT,eC];rw[EW (r:=bX (h.X,h.T.set th c,h.S,h.L,h.R,h.C,h.F,Ln (λu=>decide (h.W.getD u 0=(ob:Int))) c h.W.length h.N,Ln (λu=>decide (h.W.getD u 0=(ob:Int))) (-1) h.W.length h.W,c)) h.W.length (by have:=o.lW;have:=o.lT;omega)
   (λi=>((i:Int),h.X,h.T.set th c,h.S,h.L,h.R,h.C,h.F,Ln (λu=>decide (h.W.getD u 0=(ob:Int))) c i h.N,Ln (λu=>decide (h.W.getD u 0=(ob:Int))) (-1) i h.W,c,(th:Int),(19:Int),(ob:Int),I,x5,x6,x7)) ?_ ?_ ?_]
  .simp only[l_];rw[P' _ _ _ h.W (bT _),P' _ _ _ h.N (by rw[o.lN,o.lW];exact bT _)];rfl
  .simp only[ZS];rfl
  .intro i hi;simp only[];have hN:i<(Ln (λu=>decide (h.W.getD u 0=(ob:Int))) c i h.N).length:=by rw[Io,o.lN,<-o.lW];exact hi
   have hW:i<(Ln (λu=>decide (h.W.getD u 0=(ob:Int))) (-1) i h.W).length:=by rw[Io];exact hi
   rw[ux (by simp;omega),dy,cC (c6 hW),cC (c6 hW),aj4,aii];have ws:=nL hi (show h.W.length<=1099511627776 by have:=o.lW;have:=o.lT;omega);by_cases hp:h.W.getD i 0=(ob:Int)
   .rw[aO hp,dy];have:=Wj {h with T:=h.T.set th c,N:=Ln (λu=>decide (h.W.getD u 0=(ob:Int))) c i h.N,W:=Ln (λu=>decide (h.W.getD u 0=(ob:Int))) (-1) i h.W} i c hN hW hc;simp only[] at this;rw[this,cX,cC (by simp only[sR,VZ rfl,iS]),l_,ws,Wh _ _ _ _ (aO hp),Wh _ _ _ _ (aO hp)]
   .rw[bz hp,dQ,l_,ws,<-P_ _ _ _ _ (bz hp),<-P_ _ _ _ _ (bz hp)]
  .simp only[];rw[vx (by simp),dQ]
 all_goals
  simp only[aZ,dc,dY,dy,dQ,l_,cX,cC,cl,fT,eC];rfl
theorem JD (l:List (List Int)) (c:List Int) (i:Nat) (hi:i<l.length):(l.take (i+1)).foldl jl c=jl ((l.take i).foldl jl c) (l.getD i []):=by
 rw[List.take_add_one,fM,aB hi,ax,aB hi];rfl
theorem FW (w:vL) (h:HS) (e:EV):(sr w h e).length<=3:=by
 unfold sr;repeat' split
 all_goals simp
theorem ac3 {n:Int} {w:vL} {h:HS} (o:PZ n h) (e:EV) (i:Nat):0<=((sr w h e).foldl jl (h.T.getD e.th [])).getD i 0/\((sr w h e).foldl jl (h.T.getD e.th [])).getD i 0<9223372036854775807:=by
 have:=(xU _ _ (o.T e.th) (N5 (w:=w) o e)).2 i;have:=o.n1;omega
theorem vE (w:vL) (h:HS) (e:EV) (c:List Int):(io w h e c).T.length=h.T.length/\(io w h e c).S.length=h.S.length/\(io w h e c).L.length=h.L.length/\(io w h e c).R.length=h.R.length/\(io w h e c).C.length=h.C.length/\(io w h e c).F.length=h.F.length/\(io w h e c).N.length=h.N.length/\(io w h e c).W.length=h.W.length:=by
 unfold io;simp only[];repeat' split
 all_goals simp[jat,Cz]
theorem age {n:Int} {w:vL} {h:HS} (o:PZ n h) (hn:n+1<=1000000) {e:EV} (ok:EOK w h e) {x:ETp} (hx:EvT e x):sD (w,h.t,x)=af ((FU w h e).1.t,(FU w h e).2):=by
 have s2:=Tc o ok hx;have hce:En (n+1) (v7 w h e):=Fy o ok.th4;have en:=RD o hn ok hx hce;have cp:=Ns h.t o.GH;have sl:=FW w h e;have sE:=N5 (w:=w) o e;have hlen:=vE w h e (v7 w h e);obtain⟨x1,x2,x3,x4,x5,x6,x7⟩:=x;obtain⟨Z,Y,U,M,J,I⟩:=w;have t1:=hx.th;simp only at t1;subst t1;unfold HS.t at cp;simp only[] at cp;have fT:fm (e.th:Int) h.T.length=ai:=c6 ok.th;unfold sD Dn HS.t xm Ek aV bh bw cu dU iW ve xn Lj Prod.q12 cN eZ nK NJ ck bB vQ bF aX cK cA;simp only[];rw[cp,cX];simp only[];rw[cC fT,cC fT,s2,cX];simp only[];rw[cC (by simp only[VZ rfl,iS])];refine EW (sr (Z,Y,U,M,J,I) h e).length (by omega) (λi=>((i:Int),(Z,Y,U,M,J,I),((e.th:Int),x2,x3,x4,x5,x6,x7),h.X,((sr (Z,Y,U,M,J,I) h e).take i).foldl jl (h.T.getD e.th []),h.T,h.S,h.L,h.R,h.C,h.F,h.N,h.W)) ?_ ?_ ?_
 .simp only[lP,List.take_zero,List.foldl_nil];rfl
 .intro i hi;simp only[];rw[ux (by simp;omega),dy,cC (c6 hi),lP,(xU _ _ (o.T e.th) (λy hy=>sE y (hP hy))).join (sE _ (Dp hi)),cX,nL hi (by omega),JD _ _ _ hi]
 .simp only[];rw[vx (by simp),dQ,fg (bT _)];have hl:=ac3 (w:=(Z,Y,U,M,J,I)) o e e.th;rw[XG _ e.th (xU _ _ (o.T e.th) sE).lb ok.th4 hl.1 hl.2,cX];unfold HS.e at en;unfold v7 at en hlen;rw[en,cX];simp only[];rw[cC (by rw[hlen.1,hlen.2.1,hlen.2.2.1,hlen.2.2.2.1,hlen.2.2.2.2.1,hlen.2.2.2.2.2.1,hlen.2.2.2.2.2.2.1,hlen.2.2.2.2.2.2.2];simp only[VZ rfl,iS])];rfl
abbrev wq:Ty:=(.st (.pr (.int .i64) (.sl (.st (.pr (.int .i64) (.pr (.int .i64) (.pr (.int .i64) (.pr (.int .i64) (.pr (.int .i64) (.int .i64))))))))))
abbrev BH:Ty:=(.st (.pr (.int .i64) (.pr (.int .i64) (.pr (.int .i64) (.pr (.int .i64) (.pr (.int .i64) (.int .i64)))))))
abbrev uS:Ty:=(.st (.pr (.int .i64) (.pr (.sl (.int .i64)) (.pr (.sl (.sl (.int .i64))) (.int .i64)))))
abbrev yY:Ty:=(.st (.pr .str (.pr (.int .i64) (.pr (.sl .str) (.sl .sm)))))
abbrev tDc:Ty:=(.st (.pr (.int .i64) (.pr (.int .i64) (.pr .str (.pr (.int .i64) (.pr (.int .i64) .str))))))
abbrev tE:Ty:=(.st (.pr (.int .i64) (.pr (.int .i64) (.pr (.int .i64) (.pr (.int .i64) (.pr (.int .i64) (.pr (.sl (.int .i64)) (.sl (.int .i64)))))))))
abbrev T3:Ty:=(.st (.pr .str .bool))
abbrev NX:Ty:=(.st (.pr .str (.pr (.int .i64) (.pr (.int .i64) (.pr .bool (.int .i64))))))
abbrev yk:Ty:=(.st (.pr (.int .i64) (.pr (.int .i64) (.int .i64))))
abbrev TJ:Ty:=(.st (.pr .str (.int .i64)))
abbrev AC:Ty:=(.st (.pr (.int .i64) (.sl (.int .i64))))
abbrev jH:Ty:=(.st (.pr (.int .i64) (.pr (.int .i64) .bool)))
def Ok {R:Type} (o:Option R) (Q:R->Prop):Prop:=∃ y,o=af y/\Q y
theorem Ok.mono {R:Type} {o:Option R} {Q Q':R->Prop} (h:Ok o Q) (hq:∀ y,Q y->Q' y):Ok o Q':=by obtain⟨y,h1,h2⟩:=h;exact⟨y,h1,hq y h2⟩
theorem ar {R:Type} {y:R} {Q:R->Prop} (h:Q y):Ok (af y) Q:=⟨y,rfl,h⟩
theorem am9 {R:Type} {o:Option R} {y:R} {Q:R->Prop} (e:o=af y) (h:Q y):Ok o Q:=⟨y,e,h⟩
theorem be {R:Type} {b:Bool} {k:Option R} {Q:R->Prop} (h:b=ai) (hk:Ok k Q):Ok (chk b λ_=>k) Q:=by subst h;exact hk
theorem aP {R:Type} {b:Bool} {t f:Option R} {Q:R->Prop} (ht:b=ai->Ok t Q) (hf:b=aj->Ok f Q):Ok (bcase b t f) Q:=by
 cases b with
 |true=>exact ht rfl
 |false=>exact hf rfl
theorem fE {R:Type} {b:Bool} {t f:Option R} {Q:R->Prop} (h:b=ai) (ht:Ok t Q):Ok (bcase b t f) Q:=by subst h;exact ht
theorem fJ {R:Type} {b:Bool} {t f:Option R} {Q:R->Prop} (h:b=aj) (hf:Ok f Q):Ok (bcase b t f) Q:=by subst h;exact hf
theorem ay {α R:Type} {o:Option α} {k:α->Option R} {P:α->Prop} {Q:R->Prop} (h:Ok o P) (hk:∀ x,P x->Ok (k x) Q):Ok (obind o k) Q:=by
 obtain⟨x,rfl,I⟩:=h;exact hk x I
theorem aU {α R:Type} {o:Option α} {k:α->Option R} {x:α} {Q:R->Prop} (h:o=af x) (hk:Ok (k x) Q):Ok (obind o k) Q:=by subst h;exact hk
theorem aT {α R:Type} {x:α} {k:α->Option R} {Q:R->Prop} (h:Ok (k x) Q):Ok (lt x k) Q:=h
theorem aY {α R:Type} {o:Option (R⊕α)} {k:α->Option R} {Q:R->Prop} (P:α->Prop) (h:Ok o λr=>match r with|.inl r=>Q r|.inr x=>P x) (hk:∀ x,P x->Ok (k x) Q):Ok (jn o k) Q:=by
 obtain⟨r,rfl,hr⟩:=h;cases r with
 |inl r=>exact⟨r,rfl,hr⟩
 |inr x=>exact hk x hr
theorem gA {α R:Type} {o:Option (R⊕α)} {k:α->Option R} {Q:R->Prop} (h:Ok o λr=>match r with|.inl r=>Q r|.inr x=>Ok (k x) Q):Ok (jn o k) Q:=aY (λx=>Ok (k x) Q) h λ_ h=>h
theorem ael {α R:Type} {a b:α} {r:Option R} {Q:R->Prop} (e:a=b) (h:Ok r Q):Ok (same a b r) Q:=by unfold same;rw[aE e];exact h
theorem qf {σ R:Type} {f:σ->Option (σ⊕R)} {Q:R->Prop} (μ:σ->Nat) (I:σ->Prop) (h:∀ x,I x->Ok (f x) λr=>match r with|.inl y=>I y/\μ y<μ x|.inr r=>Q r) {x:σ} (J:I x):Ok (iter f x) Q:=by
 have key:∀ n x,μ x<n->I x->∃ m r,iterN f m x=af r/\Q r:=by
  intro n;induction n with
  |zero=>intro x hm;omega
  |succ n M=>
   intro x hm J;obtain⟨r,h1,h2⟩:=h x J;cases r with
   |inl y=>
    obtain⟨m,r,Y,U⟩:=M y (by have:=h2.2;omega) h2.1;exact⟨m+1,r,by rw[iterN,h1];exact Y,U⟩
   |inr r=>exact⟨1,r,by rw[iterN,h1],h2⟩
 obtain⟨m,r,h1,h2⟩:=key (μ x+1) x (qR _) J;exact⟨r,zo h1,h2⟩
theorem ch {σ R:Type} {f:σ->Option (σ⊕R)} {Q:R->Prop} (n:Nat) (I:Nat->σ->Prop) (h0:∀ i x,i<n->I i x->Ok (f x) λr=>match r with|.inl y=>I (i+1) y|.inr r=>Q r) (h1:∀ x,I n x->Ok (f x) λr=>match r with|.inl _=>False|.inr r=>Q r) {x:σ} (U:I 0 x):Ok (iter f x) Q:=by
 have key:∀ m i x,i+m=n->I i x->∃ k r,iterN f k x=af r/\Q r:=by
  intro m;induction m with
  |zero=>
   intro i x hi U;have:i=n:=by omega
   subst this;obtain⟨r,M,J⟩:=h1 x U;cases r with
   |inl y=>exact J.elim
   |inr r=>exact⟨1,r,by rw[iterN,M],J⟩
  |succ m Y=>
   intro i x hi U;obtain⟨r,M,J⟩:=h0 i x (by omega) U;cases r with
   |inl y=>
    obtain⟨k,r,g3,Z⟩:=Y (i+1) y (by omega) J;exact⟨k+1,r,by rw[iterN,M];exact g3,Z⟩
   |inr r=>exact⟨1,r,by rw[iterN,M],J⟩
 obtain⟨m,r,M,J⟩:=key n 0 x (by omega) U;exact⟨r,zo M,J⟩
def itQ {σ R:Type} (f:σ->Option (σ⊕R)) (Q:R->Prop):σ⊕R->Prop
 |.inl y=>Ok (iter f y) Q
 |.inr r=>Q r
def jnQ {α R:Type} (k:α->Option R) (Q:R->Prop):R⊕α->Prop
 |.inl r=>Q r
 |.inr x=>Ok (k x) Q
theorem aek {σ R:Type} {f:σ->Option (σ⊕R)} {x:σ} {Q:R->Prop} (h:Ok (f x) (itQ f Q)):Ok (iter f x) Q:=by
 obtain⟨r,h1,h2⟩:=h;cases r with
 |inr r=>exact⟨r,zo (n:=1) (by rw[iterN,h1]),h2⟩
 |inl y=>
  obtain⟨z,I,J⟩:=h2;unfold iter at I;split at I
  .exact⟨z,zo (n:=_+1) (by rw[iterN,h1];exact I),J⟩
  .cases I
theorem WH {σ R:Type} {f:σ->Option (σ⊕R)} {y:σ} {Q:R->Prop} (h:Ok (iter f y) Q):Ok (af (.inl y)) (itQ f Q):=⟨_,rfl,h⟩
theorem WG {σ R:Type} {f:σ->Option (σ⊕R)} {r:R} {Q:R->Prop} (h:Ok (af r) Q):Ok (af (.inr r)) (itQ f Q):=by
 obtain⟨_,h1,h2⟩:=h;cases h1;exact⟨_,rfl,h2⟩
theorem QF {α R:Type} {o:Option (R⊕α)} {k:α->Option R} {Q:R->Prop} (h:Ok o (jnQ k Q)):Ok (jn o k) Q:=by
 obtain⟨r,rfl,hr⟩:=h;cases r with
 |inl r=>exact⟨r,rfl,hr⟩
 |inr x=>exact hr
theorem WF {α R:Type} {r:R} {k:α->Option R} {Q:R->Prop} (h:Ok (af r) Q):Ok (af (.inl r)) (jnQ k Q):=by
 obtain⟨_,h1,h2⟩:=h;cases h1;exact⟨_,rfl,h2⟩
theorem WE {α R:Type} {x:α} {k:α->Option R} {Q:R->Prop} (h:Ok (k x) Q):Ok (af (.inr x)) (jnQ k Q):=⟨_,rfl,h⟩
def oQ {α R:Type} (k:α->Option R) (Q:R->Prop) (x:α):Prop:=Ok (k x) Q
theorem QE {α R:Type} {o:Option α} {k:α->Option R} {Q:R->Prop} (h:Ok o (oQ k Q)):Ok (obind o k) Q:=ay h λ_ h=>h
theorem QD {α R:Type} {x:α} {k:α->Option R} {Q:R->Prop} (h:Ok (k x) Q):Ok (af x) (oQ k Q):=⟨_,rfl,h⟩
theorem af0 {j:Int} {n:Nat}:fm j n=ai↔0<=j/\j<n:=by simp[fm,cZ,fX]
theorem Ow {a b:Int}:cZ a b=ai↔a<=b:=by simp[cZ]
theorem tP {a b:Int}:fX a b=ai↔a<b:=by simp[fX]
theorem gi {a b:Int}:fX a b=aj↔b<=a:=by simp[fX]
theorem mc {a b:Int}:cZ a b=aj↔b<a:=by simp[cZ]
theorem XY {n b:Nat}:bc n b=ai↔n<=1099511627776/\n*b<=1099511627776:=by simp[bc]
theorem cE {R:Type} {o:Option R} {v:R} (h:Ok o (·=v)):o=af v:=by obtain⟨y,h1,h2⟩:=h;rw[h1,h2]
section steps
variable {R:Type} {k t f:Option R} {Q:R->Prop}
theorem aR {j:Int} {n:Nat} (h0:0<=j) (h1:j<n) (hk:Ok k Q):Ok (chk (fm j n) λ_=>k) Q:=be (af0.2 ⟨h0,h1⟩) hk
theorem bi {n b:Nat} (h0:n<=1073741824) (h1:b<=1024) (hk:Ok k Q):Ok (chk (bc n b) λ_=>k) Q:=
 be (XY.2 ⟨by omega,dt (Nat.mul_le_mul h0 h1) (by omega)⟩) hk
theorem cW {a b:Bool} (h:Ok (chk a λ_=>chk b λ_=>k) Q):Ok (chk (a&&b) λ_=>k) Q:=by
 cases a with
 |true=>exact h
 |false=>obtain⟨y,h,_⟩:=h;cases h
theorem dx {a b:Int} (h:a<=b) (hk:Ok k Q):Ok (chk (cZ a b) λ_=>k) Q:=be (Ow.2 h) hk
theorem Ap {a b:Int} (h:a<b) (hk:Ok k Q):Ok (chk (fX a b) λ_=>k) Q:=be (tP.2 h) hk
theorem WJ {p:Prop} {i:Decidable p} (h:p) (hk:Ok k Q):Ok (chk (decide p) λ_=>k) Q:=be (aO h) hk
theorem zf {p:Prop} {i:Decidable p} (h:¬p) (hk:Ok k Q):Ok (chk (!decide p) λ_=>k) Q:=be (by simp[h]) hk
theorem lD {a b:Nat} (h:a=b) (hk:Ok k Q):Ok (chk (aC a b) λ_=>k) Q:=be (by subst h;exact rW a) hk
theorem A_ (hk:Ok k Q):Ok (chk ai λ_=>k) Q:=hk
theorem bK {a b:Int} (ht:a<b->Ok t Q) (hf:b<=a->Ok f Q):Ok (bcase (fX a b) t f) Q:=aP (λh=>ht (tP.1 h)) (λh=>hf (gi.1 h))
theorem gh {a b:Int} (ht:a<=b->Ok t Q) (hf:b<a->Ok f Q):Ok (bcase (cZ a b) t f) Q:=aP (λh=>ht (Ow.1 h)) (λh=>hf (mc.1 h))
theorem aK {p:Prop} {i:Decidable p} (ht:p->Ok t Q) (hf:¬p->Ok f Q):Ok (bcase (decide p) t f) Q:=aP (λh=>ht (bf h)) (λh=>hf (BE h))
theorem bY {p:Prop} {i:Decidable p} (ht:¬p->Ok t Q) (hf:p->Ok f Q):Ok (bcase (!decide p) t f) Q:=aP (λh=>ht (by simpa using h)) (λh=>hf (by simpa using h))
theorem dW {b:Bool} (ht:b=aj->Ok t Q) (hf:b=ai->Ok f Q):Ok (bcase (!b) t f) Q:=aP (λh=>ht (by simpa using h)) (λh=>hf (by simpa using h))
theorem aai (ht:Ok t Q):Ok (bcase ai t f) Q:=ht
theorem fd (hf:Ok f Q):Ok (bcase aj t f) Q:=hf
theorem cD {j:Int} {n:Nat} (hk:Ok k Q) (h0:0<=j:=by first|omega|(dsimp only;omega)) (h1:j<n:=by first|omega|(dsimp only;omega)):Ok (chk (fm j n) λ_=>k) Q:=aR h0 h1 hk
theorem dg {a b:Int} (ht:Ok t Q) (h:a<b:=by first|omega|(dsimp only[au];omega)):Ok (bcase (fX a b) t f) Q:=bK (λ_=>ht) λg=>cV h (Ct.2 g)
theorem db {a b:Int} (hf:Ok f Q) (h:b<=a:=by first|omega|(dsimp only[au];omega)):Ok (bcase (fX a b) t f) Q:=bK (λg=>cV g (Ct.2 h)) λ_=>hf
end steps
theorem qW:(∀ (p:Prop) [Decidable p],(decide p=ai)=p)/\(∀ p:Prop,(True\/p)=True)/\(∀ p:Prop,(p\/True)=True)/\(∀ p:Prop,(True->p)=p)/\(∀ p:Prop,(True/\p)=p)/\∀ p:Prop,(p/\True)=p:=⟨λ_=>bt,true_or,or_true,λ_=>true_implies _,BD,and_true⟩
theorem tj:(∀ i:Decidable True,@decide True i=ai)/\(∀ i:Decidable False,@decide False i=aj)/\(∀ {R:Type} (t f:Option R),bcase ai t f=t)/\(∀ {R:Type} (t f:Option R),bcase aj t f=f)/\(∀ {α R:Type} (x:α) (k:α->Option R),jn (af (.inr x)) k=k x)/\(∀ {α R:Type} (r:R) (k:α->Option R),jn (af (.inl r)) k=af r)/\(∀ {α R:Type} (x:α) (k:α->Option R),obind (af x) k=k x)/\(∀ {α R:Type} (x:α) (k:α->Option R),lt x k=k x)/\(!ai)=aj/\(!aj)=ai:=⟨dY,dc,λ_ _=>rfl,λ_ _=>rfl,λ_ _=>rfl,λ_ _=>rfl,λ_ _=>rfl,λ_ _=>rfl,rfl,rfl⟩
structure IM (p q:Prop):Prop where
 h:p->q
inductive OS {R:Type}:Option R->(R->Prop)->Prop where
 |cand {a b:Bool} {k:Option R} {Q:R->Prop} (h:Ok (chk a λ_=>chk b λ_=>k) Q):OS (chk (a&&b) λ_=>k) Q
 |fm {j:Int} {n:Nat} {k:Option R} {Q:R->Prop} (h0:0<=j) (h1:j<n) (hk:Ok k Q):OS (chk (fm j n) λ_=>k) Q
 |room {n b:Nat} {k:Option R} {Q:R->Prop} (h0:n<=1073741824) (h1:b<=1024) (hk:Ok k Q):OS (chk (bc n b) λ_=>k) Q
 |cile {a b:Int} {k:Option R} {Q:R->Prop} (h:a<=b) (hk:Ok k Q):OS (chk (cZ a b) λ_=>k) Q
 |cilt {a b:Int} {k:Option R} {Q:R->Prop} (h:a<b) (hk:Ok k Q):OS (chk (fX a b) λ_=>k) Q
 |cdec {p:Prop} {i:Decidable p} {k:Option R} {Q:R->Prop} (h:p) (hk:Ok k Q):OS (chk (decide p) λ_=>k) Q
 |cndec {p:Prop} {i:Decidable p} {k:Option R} {Q:R->Prop} (h:¬p) (hk:Ok k Q):OS (chk (!decide p) λ_=>k) Q
 |cbeq {a b:Nat} {k:Option R} {Q:R->Prop} (h:a=b) (hk:Ok k Q):OS (chk (aC a b) λ_=>k) Q
 |cT {k:Option R} {Q:R->Prop} (hk:Ok k Q):OS (chk ai λ_=>k) Q
 |lt {α:Type} {x:α} {k:α->Option R} {Q:R->Prop} (h:Ok (k x) Q):OS (lt x k) Q
 |b1 {t f:Option R} {Q:R->Prop} (h:Ok t Q):OS (bcase ai t f) Q
 |b0 {t f:Option R} {Q:R->Prop} (h:Ok f Q):OS (bcase aj t f) Q
 |fX {a b:Int} {t f:Option R} {Q:R->Prop} (ht:IM (a<b) (Ok t Q)) (hf:IM (b<=a) (Ok f Q)):OS (bcase (fX a b) t f) Q
 |cZ {a b:Int} {t f:Option R} {Q:R->Prop} (ht:IM (a<=b) (Ok t Q)) (hf:IM (b<a) (Ok f Q)):OS (bcase (cZ a b) t f) Q
 |dec {p:Prop} {i:Decidable p} {t f:Option R} {Q:R->Prop} (ht:IM p (Ok t Q)) (hf:IM (¬p) (Ok f Q)):OS (bcase (decide p) t f) Q
 |ndec {p:Prop} {i:Decidable p} {t f:Option R} {Q:R->Prop} (ht:IM (¬p) (Ok t Q)) (hf:IM p (Ok f Q)):OS (bcase (!decide p) t f) Q
 |not {b:Bool} {t f:Option R} {Q:R->Prop} (ht:IM (b=aj) (Ok t Q)) (hf:IM (b=ai) (Ok f Q)):OS (bcase (!b) t f) Q
 |bcase {b:Bool} {t f:Option R} {Q:R->Prop} (ht:IM (b=ai) (Ok t Q)) (hf:IM (b=aj) (Ok f Q)):OS (bcase b t f) Q
 |jc {α:Type} {o:Option (R⊕α)} {k:α->Option R} {Q:R->Prop} (h:Ok o λr=>match r with|.inl r=>Q r|.inr x=>Ok (k x) Q):OS (jn o k) Q
 |some {y:R} {Q:R->Prop} (h:Q y):OS (af y) Q
theorem OS.ok {R:Type} {o:Option R} {Q:R->Prop} (h:OS o Q):Ok o Q:=by
 cases h with
 |cand h=>exact cW h
 |fm a b h=>exact aR a b h
 |room a b h=>exact bi a b h
 |cile a h=>exact dx a h
 |cilt a h=>exact Ap a h
 |cdec a h=>exact WJ a h
 |cndec a h=>exact zf a h
 |cbeq a h=>exact lD a h
 |cT h=>exact h
 |lt h=>exact h
 |b1 h=>exact h
 |b0 h=>exact h
 |fX a b=>exact bK a.h b.h
 |cZ a b=>exact gh a.h b.h
 |dec a b=>exact aK a.h b.h
 |ndec a b=>exact bY a.h b.h
 |not a b=>exact dW a.h b.h
 |bcase a b=>exact aP a.h b.h
 |jc h=>
  obtain⟨r,e,h⟩:=h;exact gA ⟨r,e,by cases r<;>exact h⟩
 |some h=>exact ar h
theorem bcT {R:Type} (t f:Option R):bcase ai t f=t:=rfl
theorem bcF {R:Type} (t f:Option R):bcase aj t f=f:=rfl
theorem jnr {α R:Type} (x:α) (k:α->Option R):jn (af (.inr x)) k=k x:=rfl
theorem WL {α R:Type} (x:α) (k:α->Option R):obind (af x) k=k x:=rfl
theorem I5 {k:Int}:k=1\/k=2\/k=3\/k=4\/k=5\/k=6\/k=7\/k=8\/k=9\/k=10\/k=11\/k=12\/k=13\/k=14\/k=15\/k=16\/k=17\/k=18\/k=19\/k=20\/k=21\/k=22\/k=23\/((∀ j:Int,1<=j->j<=23->(k=j)=False)/\(k<1\/23<k)):=by
 by_cases h:1<=k/\k<=23
 .omega
 .have:(∀ j:Int,1<=j->j<=23->(k=j)=False)/\(k<1\/23<k):=⟨λj h1 h2=>eq_false (by omega),by omega⟩
  repeat (first|exact this|refine Or.inr ?_)
theorem iu {n:Int} (h0: -9223372036854775808<=n) (h1:n<=9223372036854775807):bn .i64 n=n:=by
 rw[HV];unfold Mu;simp[cZ,h0,h1]
theorem gM {i:Nat} (h:i<9223372036854775807):bn .i64 ((i:Int)+1)=((i+1:Nat):Int):=by rw[iu (by omega) (by omega)];omega
theorem uW {T:Ty} (xs:List T.den) (i:Nat):aJ xs (i:Int)=xs.getD i T.zero:=by unfold aJ;simp
theorem OT (xs:List Int) (i:Nat):aJ (T:=.int .i64) xs (i:Int)=xs.getD i 0:=uW (T:=.int .i64) xs i
theorem bI {T:Ty} {xs:List T.den} {j:Int} (h0:0<=j) (h1:j<xs.length):aJ xs j∈xs:=by
 unfold aJ;rw[ax,aB (by omega)];exact vj _
theorem bU {α:Type} (xs:List α) (j:Int) (x:α):(ct xs j x).length=xs.length:=by unfold ct;simp
theorem CH {α:Type} {xs:List α} {j:Int} {x y:α} (h:y∈ct xs j x):y∈xs\/y=x:=List.mem_or_eq_of_mem_set h
abbrev WT:Type:=List (List UInt8×Int×Int×Bool×Int)×List (List UInt8×Bool)×List (List UInt8×Int)×List (List UInt8)×List (List UInt8)×List (Int×Int×Int)
abbrev SY:Type:=List (Int×List Int)×Int×List Bool×List (Int×Int×Bool)
theorem ab4 (a b:Int):qr (a,b)=af (decide (0<=a/\a<b)):=by
 refine cE ?_;unfold qr j7 aF;with_reducible repeat' first|(refine OS.ok ?_;constructor)|refine IM.mk λ_=>?_
 .by_cases h:a<b<;>simp[*,fX]
 .simp;omega
theorem Wf (l:List Int) (n:Int) (hl:l.length<=1000000):qu (l,n)=af (l.contains n):=by
 refine cE ?_;unfold qu bd bB bH aX cK aF cA;refine ch l.length (λi x=>x=(i:Int)/\∀ k,k<i->l.getD k 0≠n) ?_ ?_ ⟨rfl,λk hk=>by omega⟩
 .rintro i x hi ⟨rfl,I⟩;with_reducible repeat' first|(refine OS.ok ?_;constructor)|refine IM.mk λ_=>?_
  all_goals try simp only[au,qW] at*
  .omega
  .omega
  .rename_i h;rw[OT] at h;show ai=_
   symm
   rw[s9,<-h,ax,aB hi];exact vj _
  .rename_i h;rw[OT] at h;refine ⟨gM (by omega),λk hk=>?_⟩;rcases b9 k i with h1|h1
   .exact I k h1
   .rw[show k=i by omega];exact h
  .omega
 .rintro x ⟨rfl,I⟩;with_reducible repeat' first|(refine OS.ok ?_;constructor)|refine IM.mk λ_=>?_
  all_goals try simp only[au,qW] at*
  .omega
  .omega
  .omega
  .omega
  .symm
   rw[NP];intro hc;rw[s9] at hc;obtain⟨k,hk,he⟩:=List.getElem_of_mem hc;exact I k hk (by rw[ax,aB hk];exact he)
theorem iC {T:Ty} {xs:List T.den} {p:T.den->Prop} (h:∀ k:Nat,k<al xs->p (aJ xs (k:Int))):∀ c∈xs,p c:=λc hc=>by
 obtain⟨k,hk,he⟩:=List.getElem_of_mem hc;have:=h k hk;rw[uW,ax,aB hk,vg,he] at this;exact this
theorem P0 (w:WT) (s:SY) (hw:w.2.2.1.length<=1000000):Ok (rq (w,s)) λb=>b=ai->(∀ c∈w.2.2.1,0<=c.2/\c.2<w.2.1.length)/\s.1.length=w.2.1.length/\s.2.2.1.length=w.2.2.2.1.length/\s.2.2.2.length=w.2.2.2.2.1.length:=by
 unfold rq aV bh bw cN bd bB bH aX cK aF cA;refine ch w.2.2.1.length (λi x=>x.1=(i:Int)/\x.2=(w,s)/\∀ k:Nat,k<i->0<=(aJ (T:=TJ) w.2.2.1 (k:Int)).2/\(aJ (T:=TJ) w.2.2.1 (k:Int)).2<w.2.1.length) ?_ ?_ ⟨rfl,rfl,λk hk=>by omega⟩
 .rintro i ⟨Y,U⟩ hi ⟨J,I,M⟩;dsimp only at J I;subst J;subst I;with_reducible repeat' first|(refine OS.ok ?_;constructor)|refine IM.mk λ_=>?_
  all_goals try simp only[au,qW] at*
  all_goals first|omega|skip
  .intro h;cases h
  .intro h;cases h
  .refine ⟨gM (by omega),λk hk=>?_⟩;rcases b9 k i with h1|h1
   .exact M k h1
   .rename_i h2 Z;rw[show k=i by omega];exact⟨h2,Z⟩
 .rintro⟨Y,U⟩ ⟨J,I,M⟩;dsimp only at J I;subst J;subst I;with_reducible repeat' first|(refine OS.ok ?_;constructor)|refine IM.mk λ_=>?_
  all_goals try simp only[au,qW] at*
  all_goals first|omega|skip
  refine ay (P:=λb=>b=ai->s.1.length=w.2.1.length/\s.2.2.1.length=w.2.2.2.1.length/\s.2.2.2.length=w.2.2.2.2.1.length) ?_ ?_
  .with_reducible repeat' first|(refine OS.ok ?_;constructor)|refine IM.mk λ_=>?_
   all_goals try simp only[au,qW] at*
   .intro h;omega
   .intro h;cases h
   .intro h;cases h
  .intro b hb;with_reducible repeat' first|(refine OS.ok ?_;constructor)|refine IM.mk λ_=>?_
   exact λh=>⟨iC (T:=TJ) M,hb h⟩
structure NM (w:WT) (k o:Int):Prop where
 k1:1<=k
 k2:k<=23
 ce:k=3\/k=4->0<=o/\o<w.1.length
 lk:6<=k/\k<=11->0<=o/\o<w.2.1.length
 cd:16<=k/\k<=19->0<=o/\o<w.2.2.1.length
 th:k=20\/k=21->0<=o/\o<w.2.2.2.2.1.length
 fu:k=22\/k=23->0<=o/\o<w.2.2.2.1.length
 no:k=1\/k=2\/k=5\/(12<=k/\k<=15)->o= -1
 mu:k=6\/k=7->(aJ (T:=T3) w.2.1 o).2=aj
 rw:8<=k/\k<=11->(aJ (T:=T3) w.2.1 o).2=ai
theorem aao (w:WT) (k o:Int):Ok (um (w,k,o)) λb=>b=ai->NM w k o:=by
 unfold um aV bh bw cu bd bH aX aF;rcases @I5 k with rfl|rfl|rfl|rfl|rfl|rfl|rfl|rfl|rfl|rfl|rfl|rfl|rfl|rfl|rfl|rfl|rfl|rfl|rfl|rfl|rfl|rfl|rfl|⟨hk,I⟩
 case inr.inr.inr.inr.inr.inr.inr.inr.inr.inr.inr.inr.inr.inr.inr.inr.inr.inr.inr.inr.inr.inr.inr=>
  simp only[hk 1 (by decide) (by decide),hk 2 (by decide) (by decide),hk 3 (by decide) (by decide),hk 4 (by decide) (by decide),hk 5 (by decide) (by decide),hk 6 (by decide) (by decide),hk 7 (by decide) (by decide),hk 8 (by decide) (by decide),hk 9 (by decide) (by decide),hk 10 (by decide) (by decide),hk 11 (by decide) (by decide),hk 12 (by decide) (by decide),hk 13 (by decide) (by decide),hk 14 (by decide) (by decide),hk 15 (by decide) (by decide),hk 16 (by decide) (by decide),hk 17 (by decide) (by decide),hk 18 (by decide) (by decide),hk 19 (by decide) (by decide),hk 20 (by decide) (by decide),hk 21 (by decide) (by decide),hk 22 (by decide) (by decide),hk 23 (by decide) (by decide),aZ,bp,tj];exact ar λh=>by cases h
 all_goals simp only[aZ,bp,tj,ab4]
 all_goals with_reducible repeat' first|(refine OS.ok ?_;constructor)|refine IM.mk λ_=>?_
 all_goals try simp only[au,qW] at*
 all_goals first|omega|(intro h;cases h;done)|(intro h;constructor<;>first|omega|(intro h2;first|omega|(simpa using h)))
structure SB (n:Nat) (s:SY):Prop where
 n1:n<=100000
 lk:s.1.length<=1000
 rd:∀ l∈s.1,l.2.length<=n
 dn:s.2.2.1.length<=1000
 th:s.2.2.2.length<=1000
structure EN (w:WT) (s:SY) (t k o:Int):Prop where
 nm:NM w k o
 t0:0<=t
 t1:t<w.2.2.2.2.1.length
 cd:∀ c∈w.2.2.1,0<=c.2/\c.2<w.2.1.length
 e1:s.1.length=w.2.1.length
 e2:s.2.2.1.length=w.2.2.2.1.length
 e3:s.2.2.2.length=w.2.2.2.2.1.length
structure Wa (w:WT) (s:SY) (t k o:Int):Prop where
 b:k=1->(aJ (T:=jH) s.2.2.2 t).1=1
 wk:k=17->(aJ (T:=jH) s.2.2.2 t).1=4/\(aJ (T:=jH) s.2.2.2 t).2.1=o/\(aJ (T:=AC) s.1 (aJ (T:=TJ) w.2.2.1 o).2).1= -1
 r:k≠1->k≠17->(aJ (T:=jH) s.2.2.2 t).1=2
 aq:k=6\/k=8\/k=10->(aJ (T:=AC) s.1 o).1= -1
 wr:k=10->(aJ (T:=AC) s.1 o).2.length=0
 ra:k=8->(aJ (T:=AC) s.1 o).2.contains t=aj
 rl:k=7\/k=11->(aJ (T:=AC) s.1 o).1=t
 rr:k=9->(aJ (T:=AC) s.1 o).2.contains t=ai
 xb:k=12->s.2.1= -1
 xe:k=13->s.2.1=t
 ab:k=14->(aJ (T:=jH) s.2.2.2 t).2.2=aj
 ae:k=15->(aJ (T:=jH) s.2.2.2 t).2.2=ai
 nt:k=16\/k=18\/k=19->(aJ (T:=AC) s.1 (aJ (T:=TJ) w.2.2.1 o).2).1=t
 sp:k=20->¬o=t/\(aJ (T:=jH) s.2.2.2 o).1=0
 jo:k=21->¬o=t/\(aJ (T:=jH) s.2.2.2 o).1=5
 se:k=22->aJ (T:=.bool) s.2.2.1 o=aj
 ge:k=23->aJ (T:=.bool) s.2.2.1 o=ai
theorem Lg {n:Nat} (w:WT) (s:SY) (hs:SB n s) (hw:w.2.2.1.length<=1000) (t k o:Int):Ok (ko (w,s,t,k,o)) λb=>b=ai->EN w s t k o/\Wa w s t k o:=by
 unfold ko aV bh bw bL dh cN bd il bH aX aF;refine aY (λx=>x.2=(w,s)/\(x.1=aj->EN w s t k o)) ?_ ?_
 .refine ay (P0 w s (by omega)) λb hb=>?_
  with_reducible repeat' first|(refine OS.ok ?_;constructor)|refine IM.mk λ_=>?_
  .exact⟨rfl,λh=>by cases h⟩
  .simp only[ab4,WL];with_reducible repeat' first|(refine OS.ok ?_;constructor)|refine IM.mk λ_=>?_
   .exact⟨rfl,λh=>by cases h⟩
   .refine ay (aao w k o) λc hc=>?_
    with_reducible repeat' first|(refine OS.ok ?_;constructor)|refine IM.mk λ_=>?_
    all_goals try simp only[au,qW] at*
    rename_i h1 h2;obtain⟨f1,f2,Z,Y⟩:=hb h1;exact λh=>⟨hc (by simpa using h),by omega,by omega,f1,f2,Z,Y⟩
 .rintro⟨x1,x2⟩ ⟨I,J⟩;dsimp only at I J;subst I;refine aP (λh=>ar λh=>by cases h) (λh=>?_);have he:=J h;obtain⟨nm,t0,t1,cd,e1,e2,e3⟩:=id he;obtain⟨_,_,ce,lk,cn,th,fu⟩:=nm;have hm:16<=k/\k<=19->0<=(aJ (T:=TJ) w.2.2.1 o).2/\(aJ (T:=TJ) w.2.2.1 o).2<w.2.1.length:=λh=>cd _ (bI (cn h).1 (cn h).2)
  have U:6<=k/\k<=11->qu ((aJ (T:=AC) s.1 o).2,t)=af ((aJ (T:=AC) s.1 o).2.contains t):=λh=>Wf _ _ (by
   have:=hs.rd _ (bI (T:=AC) (lk h).1 (by have:=(lk h).2;omega));have:=hs.n1;omega)
  rcases @I5 k with rfl|rfl|rfl|rfl|rfl|rfl|rfl|rfl|rfl|rfl|rfl|rfl|rfl|rfl|rfl|rfl|rfl|rfl|rfl|rfl|rfl|rfl|rfl|⟨hk,M⟩
  case inr.inr.inr.inr.inr.inr.inr.inr.inr.inr.inr.inr.inr.inr.inr.inr.inr.inr.inr.inr.inr.inr.inr=>omega
  all_goals simp only[aZ,bp,tj]
  all_goals with_reducible repeat' first|(refine OS.ok ?_;constructor)|refine IM.mk λ_=>?_
  all_goals try simp only[U (by omega),WL]
  all_goals with_reducible repeat' first|(refine OS.ok ?_;constructor)|refine IM.mk λ_=>?_
  all_goals try simp only[au,qW] at*
  all_goals first|omega|(intro h;cases h;done)|exact (hm ⟨by decide,by decide⟩).1|(rw [e1];exact (hm ⟨by decide,by decide⟩).2)|(intro h;refine ⟨he,?_⟩;constructor<;>first|omega|(intros;first|omega|assumption|(simpa using h)|exact⟨by assumption,by first|assumption|exact⟨by assumption,by assumption⟩⟩))|(refine ⟨he,?_⟩;constructor<;>first|omega|(intros;first|omega|assumption))
def l7:List Int->Int->List Int
 |[],n=>[n]
 |x::r,n=>if x<n then x::l7 r n else if x=n then x::r else n::x::r
theorem EC (n:Int):∀ (i:Nat) (l:List Int),i<=l.length->(∀ k,k<i->l.getD k 0<n)->l7 l n=l.take i++l7 (l.drop i) n
 |0,l,_,_=>by simp
 |i+1,[],h,_=>by simp at h
 |i+1,x::r,h,hk=>by
  have h0:=hk 0 (by omega);simp at h0;have:=EC n i r (by simpa using h) (λk I=>by have:=hk (k+1) (by omega);simpa using this);rw[l7,aE h0,this,wj,wn,gr]
theorem F0 (n:Int):∀ l:List Int,(l7 l n).length<=l.length+1
 |[]=>by simp[l7]
 |x::r=>by
  have:=F0 n r;rw[l7];split
  .simp;omega
  .split<;>simp
theorem IC {n y:Int}:∀ {l:List Int},y∈l7 l n↔y=n\/y∈l
 |[]=>by simp[l7]
 |x::r=>by
  have:=IC (n:=n) (y:=y) (l:=r);rw[l7];split
  .simp[this];constructor
   .rintro (h|h|h)<;>simp[h]
   .rintro (h|h|h)<;>simp[h]
  .split
   .rename_i h;subst h;simp
   .simp
def HN:List Int->Prop
 |[]=>True
 |x::r=>(∀ y∈r,x<y)/\HN r
theorem Qv {n:Int}:∀ {l:List Int},HN l->HN (l7 l n)
 |[],_=>by simp[l7,HN]
 |x::r,h=>by
  rw[l7];split
  .rename_i J;refine ⟨λy I=>?_,Qv h.2⟩;rcases IC.1 I with rfl|I
   .exact J
   .exact h.1 y I
  .split
   .exact h
   .rename_i h1 h2;refine ⟨λy I=>?_,h⟩;rcases bl.1 I with rfl|I
    .omega
    .have:=h.1 y I;omega
theorem ad3 (l:List Int) (n:Int) (hl:l.length<=1000000):wG (l,n)=af (l7 l n):=by
 refine cE ?_;unfold wG bB bF bH aX cK aF cA;have fin:∀ i:Nat,i<=l.length->(∀ k,k<i->l.getD k 0<n)->(i<l.length->¬l.getD i 0<n/\l.getD i 0≠n)->l.take i++[n]++l.drop i=l7 l n:=λi hi hk hn=>by
  rw[EC n i l hi hk];cases hd:l.drop i with
  |nil=>simp[l7]
  |cons y r=>
   have hlt:i<l.length:=by
    rcases b9 i l.length with h|h
    .exact h
    .rw[List.drop_eq_nil_of_le h] at hd;cases hd
   have J:l.getD i 0=y:=by
    rw[ax,<-List.head?_drop,hd];rfl
   obtain⟨h1,h2⟩:=hn hlt;rw[J] at h1 h2;rw[l7,aA h1,aA h2];simp
 refine ch l.length (λi x=>x=(i:Int)/\∀ k,k<i->l.getD k 0<n) ?_ ?_ ⟨rfl,λk hk=>by omega⟩
 .rintro i x hi ⟨rfl,I⟩;by_cases hlt:l.getD i 0<n
  .with_reducible repeat' first|(refine OS.ok ?_;constructor)|refine IM.mk λ_=>?_
   all_goals try simp only[au,qW] at*
   all_goals first|omega|skip
   .refine ⟨gM (by omega),λk hk=>?_⟩;rcases b9 k i with h1|h1
    .exact I k h1
    .rw[show k=i by omega];exact hlt
   .rename_i h;exact cV hlt (Ct.2 h)
  .have key:l.getD i 0=n->l7 l n=l:=λhe=>by
    rw[EC n i l (by omega) I];cases hd:l.drop i with
    |nil=>have:=gQ al hd;simp at this;omega
    |cons y r=>
     have J:l.getD i 0=y:=by rw[ax,<-List.head?_drop,hd];rfl
     rw[J] at he;rw[l7,aA (by omega),aE he,<-hd,BB]
   with_reducible repeat' first|(refine OS.ok ?_;constructor)|refine IM.mk λ_=>?_
   all_goals try simp only[au,qW] at*
   all_goals first|omega|skip
   .rename_i h;exact cV h hlt
   .refine ay (P:=λr=>r=l7 l n) ?_ λr hr=>ar hr
    with_reducible repeat' first|(refine OS.ok ?_;constructor)|refine IM.mk λ_=>?_
    all_goals try simp only[au,qW] at*
    all_goals first|omega|skip
    .rename_i h;exact (key h).symm
    .simp;omega
    .simp;omega
    .simp;omega
    .rename_i h;simpa using fin i (by omega) I (λ_=>⟨hlt,h⟩)
 .rintro x ⟨rfl,I⟩;with_reducible repeat' first|(refine OS.ok ?_;constructor)|refine IM.mk λ_=>?_
  all_goals try simp only[au,qW] at*
  all_goals first|omega|skip
  refine ay (P:=λr=>r=l7 l n) ?_ λr hr=>ar hr
  with_reducible repeat' first|(refine OS.ok ?_;constructor)|refine IM.mk λ_=>?_
  all_goals try simp only[au,qW] at*
  all_goals first|omega|skip
  .simp;omega
  .simp;omega
  .simp;omega
  .simpa using fin l.length (by omega) I (λh=>by omega)
def xr (a b:List Int):List Int:=b.foldl l7 (a.foldl l7 [])
theorem wQ:∀ (b acc:List Int),(b.foldl l7 acc).length<=acc.length+b.length
 |[],acc=>by simp
 |x::r,acc=>by
  have:=wQ r (l7 acc x);have:=F0 x acc;rw[xp,b7];omega
theorem JF:∀ {b acc:List Int},HN acc->HN (b.foldl l7 acc)
 |[],_,h=>h
 |x::r,acc,h=>by rw[xp];exact JF (Qv h)
theorem JE {y:Int}:∀ {b acc:List Int},y∈b.foldl l7 acc↔y∈acc\/y∈b
 |[],acc=>by simp
 |x::r,acc=>by
  rw[xp,JE,IC];simp;constructor
  .rintro ((h|h)|h)<;>simp[h]
  .rintro (h|h|h)<;>simp[h]
theorem Qa (a b:List Int):HN (xr a b):=JF (JF trivial)
theorem Iq {a b:List Int} {y:Int}:y∈xr a b↔y∈a\/y∈b:=by unfold xr;rw[JE,JE];simp
theorem ZX (a b:List Int):(xr a b).length<=a.length+b.length:=by
 have:=wQ b (a.foldl l7 []);have:=wQ a [];unfold xr;simp at *;omega
theorem MZ {b acc:List Int} {i:Nat} (hi:i<b.length):(b.take (i+1)).foldl l7 acc=l7 ((b.take i).foldl l7 acc) (b.getD i 0):=by
 rw[o6 hi,fM,ax,aB hi];rfl
theorem Tb (a b:List Int) (M:a.length<=400000) (hb:b.length<=400000):ru (a,b)=af (xr a b):=by
 refine cE ?_;unfold ru bB bH aX cK aF cA;refine ch a.length (λi x=>x.2=(i:Int)/\x.1=(a.take i).foldl l7 []) ?_ ?_ ⟨rfl,rfl⟩
 .rintro i ⟨J,I⟩ hi ⟨h1,h2⟩;dsimp only at h1 h2;subst h1;subst h2;have hl:((a.take i).foldl l7 []).length<=1000000:=by have:=wQ (a.take i) [];have:=qd i a;simp at *;omega
  with_reducible repeat' first|(refine OS.ok ?_;constructor)|refine IM.mk λ_=>?_
  all_goals try simp only[au,qW] at*
  all_goals first|omega|skip
  refine aU (ad3 _ _ hl) (ar ?_);dsimp only;refine ⟨gM (by omega),?_⟩;rw[OT,MZ hi]
 .rintro⟨J,I⟩ ⟨h1,h2⟩;dsimp only at h1 h2;subst h1;subst h2;rw[cR];have hla:=wQ a [];with_reducible repeat' first|(refine OS.ok ?_;constructor)|refine IM.mk λ_=>?_
  all_goals try simp only[au,qW] at*
  all_goals first|omega|skip
  refine ay (P:=λr=>r=xr a b) ?_ λr hr=>ar hr
  refine ch b.length (λi x=>x.2=(i:Int)/\x.1=(b.take i).foldl l7 (a.foldl l7 [])) ?_ ?_ ⟨rfl,rfl⟩
  .rintro i ⟨J,I⟩ hi ⟨h1,h2⟩;dsimp only at h1 h2;subst h1;subst h2;have hl:((b.take i).foldl l7 (a.foldl l7 [])).length<=1000000:=by have:=wQ (b.take i) (a.foldl l7 []);have:=qd i b;simp at *;omega
   with_reducible repeat' first|(refine OS.ok ?_;constructor)|refine IM.mk λ_=>?_
   all_goals try simp only[au,qW] at*
   all_goals first|omega|skip
   refine aU (ad3 _ _ hl) (ar ?_);dsimp only;refine ⟨gM (by omega),?_⟩;rw[OT,MZ hi]
  .rintro⟨J,I⟩ ⟨h1,h2⟩;dsimp only at h1 h2;subst h1;subst h2;rw[cR];with_reducible repeat' first|(refine OS.ok ?_;constructor)|refine IM.mk λ_=>?_
   all_goals try simp only[au,qW] at*
   all_goals first|omega|rfl
def Il (c:Int) (x:Int×Int×Bool):Bool:=decide (x.1=3)&&decide (x.2.1=c)
def wl (th:List (Int×Int×Bool)) (c:Int):Nat->List Int
 |0=>[]
 |i+1=>if Il c (aJ (T:=jH) th (i:Int)) then wl th c i++[(i:Int)] else wl th c i
theorem vP (th:List (Int×Int×Bool)) (c:Int):∀ i,(wl th c i).length<=i
 |0=>bT _
 |i+1=>by have:=vP th c i;rw[wl];split<;>simp<;>omega
theorem rh {th:List (Int×Int×Bool)} {c u:Int}:∀ {i:Nat},u∈wl th c i↔0<=u/\u<i/\Il c (aJ (T:=jH) th u)=ai
 |0=>by simp[wl];omega
 |i+1=>by
  have I:= @rh th c u i;rw[wl];by_cases hu:u=(i:Int)
  .subst hu;split
   .rename_i h;simp[h];omega
   .rename_i h;rw[I];simp[h]
  .split
   .rw[bQ,I,aL];constructor
    .rintro (h|h)
     .exact⟨h.1,by omega,h.2.2⟩
     .exact cV h hu
    .intro h;exact .inl ⟨h.1,by omega,h.2.2⟩
   .rw[I];constructor
    .intro h;exact⟨h.1,by omega,h.2.2⟩
    .intro h;exact⟨h.1,by omega,h.2.2⟩
theorem alw {th:List (Int×Int×Bool)} {c:Int} {i:Nat} (h1:(aJ (T:=jH) th (i:Int)).1=3) (h2:(aJ (T:=jH) th (i:Int)).2.1=c):wl th c (i+1)=wl th c i++[(i:Int)]:=by
 rw[wl,aE];unfold Il;rw[h1,h2];simp
theorem ah6 {th:List (Int×Int×Bool)} {c:Int} {i:Nat} (h1:¬(aJ (T:=jH) th (i:Int)).1=3):wl th c (i+1)=wl th c i:=by
 rw[wl,aA];unfold Il;rw[bz h1];simp
theorem ah5 {th:List (Int×Int×Bool)} {c:Int} {i:Nat} (h1:¬(aJ (T:=jH) th (i:Int)).2.1=c):wl th c (i+1)=wl th c i:=by
 rw[wl,aA];unfold Il;rw[bz h1];simp
theorem V5 (s:SY) (c:Int) (hs:s.2.2.2.length<=1000):nP (s,c)=af (wl s.2.2.2 c s.2.2.2.length):=by
 refine cE ?_;unfold nP bL bd bB bF bH aX cK aF cA;refine ch s.2.2.2.length (λi x=>x=((i:Int),s,wl s.2.2.2 c i)) ?_ ?_ rfl
 .rintro i x hi rfl;have hl:=vP s.2.2.2 c i;with_reducible repeat' first|(refine OS.ok ?_;constructor)|refine IM.mk λ_=>?_
  all_goals try simp only[au,qW] at*
  all_goals first|omega|skip
  all_goals first|(simp;omega)|skip
  .rename_i h1 h2;rw[alw h1 h2,gM (by omega)]
  .rename_i h1 h2;rw[ah5 h2,gM (by omega)]
  .rename_i h1;rw[ah6 h1,gM (by omega)]
 .rintro x rfl;with_reducible repeat' first|(refine OS.ok ?_;constructor)|refine IM.mk λ_=>?_
  all_goals try simp only[au,qW] at*
  all_goals first|omega|rfl
def wo (l:List Int) (n:Int):List Int:=l.filter λx=> !decide (x=n)
theorem TU (l:List Int) (n:Int) (hl:l.length<=1000000):qp (l,n)=af (wo l n):=by
 refine cE ?_;unfold qp bB il bF bH aX cK aF cA;refine ch l.length (λi x=>x=((i:Int),wo (l.take i) n)) ?_ ?_ rfl
 .rintro i x hi rfl;have hq:(wo (l.take i) n).length<=i:=dt (List.length_filter_le ..) (qd ..);have ht:wo (l.take (i+1)) n=if aJ (T:=.int .i64) l (i:Int)=n then wo (l.take i) n else wo (l.take i) n++[aJ (T:=.int .i64) l (i:Int)]:=by
   unfold wo;rw[o6 hi,List.filter_append,OT,ax,aB hi];by_cases h:l[i]=n<;>simp[h]
  with_reducible repeat' first|(refine OS.ok ?_;constructor)|refine IM.mk λ_=>?_
  all_goals try simp only[au,qW] at*
  all_goals first|omega|skip
  .simp;omega
  .rename_i h;rw[ht,aA h,gM (by omega)]
  .rename_i h;rw[ht,aE h,gM (by omega)]
 .rintro x rfl;with_reducible repeat' first|(refine OS.ok ?_;constructor)|refine IM.mk λ_=>?_
  all_goals try simp only[au,qW] at*
  all_goals first|omega|(rw [cR])
theorem oo {T:Ty} {xs:List T.den} {i:Nat} (hi:i<al xs):dF (i+1) xs=dF i xs++[aJ xs (i:Int)]:=by
 rw[o6 hi,uW,ax,aB hi];rfl
theorem qP {n:Nat} (s:SY) (hs:SB n s):iw s=af (s.2.1,s.1,s.2.2.1,s.2.2.2):=by
 refine cE ?_;obtain⟨s1,s2,J,I⟩:=s;have hn:=hs.n1;have Y:=hs.lk;have U:=hs.dn;have M:=hs.th;dsimp only at Y U M;unfold iw aV bh bw bL cN bB bF bH aX cK aF cA;with_reducible repeat' first|(refine OS.ok ?_;constructor)|refine IM.mk λ_=>?_
 all_goals try simp only[au,qW] at*
 .simp;omega
 .omega
 .simp;omega
 .omega
 refine ch s1.length (λi x=>x=((i:Int),(s1,s2,J,I),0,s2,s1.take i,J,I)) ?_ ?_ ?_
 .rintro i x hi rfl;have hg:=hs.rd _ (bI (T:=AC) (xs:=s1) (j:=(i:Int)) (by omega) (by omega));with_reducible repeat' first|(refine OS.ok ?_;constructor)|refine IM.mk λ_=>?_
  all_goals try simp only[au,qW] at*
  all_goals first|omega|skip
  .simp;omega
  .simp;omega
  .rw[gM (by omega),oo (T:=AC) hi];rfl
 .rintro x rfl;with_reducible repeat' first|(refine OS.ok ?_;constructor)|refine IM.mk λ_=>?_
  all_goals try simp only[au,qW] at*
  all_goals first|omega|skip
  simp
 .simp
theorem Hb (s:SY) (c:Int) (hs:s.2.2.2.length<=1000):jJ ((s.2.1,c),s.1,s.2.2.1,s.2.2.2)=af (wl s.2.2.2 c s.2.2.2.length):=by
 refine cE ?_;unfold jJ;refine ay (P:=λy=>y=(wl s.2.2.2 c s.2.2.2.length,s.1,s.2.2.1,s.2.2.2)) ?_ λy I=>by subst I;exact ael rfl (ar rfl)
 unfold ml aV bh bw bL cN bd bB bF kJ aX cK aF cA;refine ch s.2.2.2.length (λi x=>x=((i:Int),s.1,s.2.2.1,s.2.2.2,s.2.1,wl s.2.2.2 c i)) ?_ ?_ rfl
 .rintro i x hi rfl;have hl:=vP s.2.2.2 c i;with_reducible repeat' first|(refine OS.ok ?_;constructor)|refine IM.mk λ_=>?_
  all_goals try simp only[au,qW] at*
  all_goals first|omega|skip
  all_goals first|(simp;omega)|skip
  .rename_i h1 h2;rw[alw h1 h2,gM (by omega)]
  .rename_i h1 h2;rw[ah5 h2,gM (by omega)]
  .rename_i h1;rw[ah6 h1,gM (by omega)]
 .rintro x rfl;with_reducible repeat' first|(refine OS.ok ?_;constructor)|refine IM.mk λ_=>?_
  all_goals try simp only[au,qW] at*
  all_goals first|omega|rfl
structure AP (n:Nat) (s y:SY):Prop where
 a1:y.1.length=s.1.length
 a2:y.2.2.1.length=s.2.2.1.length
 a3:y.2.2.2.length=s.2.2.2.length
 rd:∀ l∈y.1,l.2.length<=n+1
theorem AP.toSB {n:Nat} {s y:SY} (h:AP n s y) (hs:SB n s) (hn:n+1<=100000):SB (n+1) y:=
 ⟨hn,by rw[h.a1];exact hs.lk,h.rd,by rw[h.a2];exact hs.dn,by rw[h.a3];exact hs.th⟩
theorem AP.same {n:Nat} {s:SY} (hs:SB n s) (x:Int) (d:List Bool) (t:List (Int×Int×Bool)) (hd:d.length=s.2.2.1.length) (ht:t.length=s.2.2.2.length):AP n s (s.1,x,d,t):=
 ⟨rfl,hd,ht,λl hl=>iG (hs.rd l hl)⟩
theorem AP.set {n:Nat} {s:SY} (hs:SB n s) (j a:Int) (r:List Int) (hr:r.length<=n+1) (x:Int) (d:List Bool) (t:List (Int×Int×Bool)) (hd:d.length=s.2.2.1.length) (ht:t.length=s.2.2.2.length):AP n s (ct s.1 j (a,r),x,d,t):=
 ⟨bU _ _ _,hd,ht,λl hl=>by
   rcases CH hl with h|rfl
   .exact iG (hs.rd l h)
   .exact hr⟩
def yl (th:List (Int×Int×Bool)) (t st:Int):List (Int×Int×Bool):=ct th t (st,(aJ (T:=jH) th t).2)
def owP (lk:List (Int×List Int)) (o t:Int):List (Int×List Int):=ct lk o (t,(aJ (T:=AC) lk o).2)
def rdP (lk:List (Int×List Int)) (o:Int) (l:List Int):List (Int×List Int):=ct lk o ((aJ (T:=AC) lk o).1,l)
def cdP (th:List (Int×Int×Bool)) (t c:Int):List (Int×Int×Bool):=ct th t ((aJ (T:=jH) th t).1,c,(aJ (T:=jH) th t).2.2)
def atP (th:List (Int×Int×Bool)) (t:Int) (b:Bool):List (Int×Int×Bool):=ct th t ((aJ (T:=jH) th t).1,(aJ (T:=jH) th t).2.1,b)
def CZ (th:List (Int×Int×Bool)) (l:List Int):List (Int×Int×Bool):=l.foldl (λx u=>yl x u 4) th
def Bv (l:List Int) (u:Int):Int:=if l.length=0 then -1 else if l.contains u then u else aJ (T:=.int .i64) l 0
def muP (w:WT) (o:Int):Int:=(aJ (T:=TJ) w.2.2.1 o).2
def rc (w:WT) (s:SY) (t k o u:Int):SY×Int:=
 if k=1 then ((s.1,s.2.1,s.2.2.1,yl s.2.2.2 t 2),0)
 else if k=2 then ((s.1,s.2.1,s.2.2.1,yl s.2.2.2 t 5),0)
 else if k=6\/k=10 then ((owP s.1 o t,s.2),0)
 else if k=7\/k=11 then ((owP s.1 o (-1),s.2),0)
 else if k=8 then ((rdP s.1 o (xr (aJ (T:=AC) s.1 o).2 [t]),s.2),0)
 else if k=9 then ((rdP s.1 o (wo (aJ (T:=AC) s.1 o).2 t),s.2),0)
 else if k=12 then ((s.1,t,s.2.2),0)
 else if k=13 then ((s.1,-1,s.2.2),0)
 else if k=14 then ((s.1,s.2.1,s.2.2.1,atP s.2.2.2 t ai),0)
 else if k=15 then ((s.1,s.2.1,s.2.2.1,atP s.2.2.2 t aj),0)
 else if k=16 then ((owP s.1 (muP w o) (-1),s.2.1,s.2.2.1,cdP (yl s.2.2.2 t 3) t o),0)
 else if k=17 then ((owP s.1 (muP w o) t,s.2.1,s.2.2.1,cdP (yl s.2.2.2 t 2) t 0),0)
 else if k=18 then (if (wl s.2.2.2 o s.2.2.2.length).length=0 then (s,-1) else ((s.1,s.2.1,s.2.2.1,yl s.2.2.2 (Bv (wl s.2.2.2 o s.2.2.2.length) u) 4),Bv (wl s.2.2.2 o s.2.2.2.length) u))
 else if k=19 then ((s.1,s.2.1,s.2.2.1,CZ s.2.2.2 (wl s.2.2.2 o s.2.2.2.length)),((wl s.2.2.2 o s.2.2.2.length).length:Int))
 else if k=20 then ((s.1,s.2.1,s.2.2.1,yl s.2.2.2 o 1),0)
 else if k=22 then ((s.1,s.2.1,ct s.2.2.1 o ai,s.2.2.2),0)
 else (s,0)
theorem H5 (l:List Int):∀ th,(CZ th l).length=th.length:=by
 induction l with
 |nil=>intro th;rfl
 |cons x r I=>intro th;unfold CZ;rw[xp];exact (I _).trans (bU ..)
theorem aap {th:List (Int×Int×Bool)} {l:List Int} {i:Nat} (hi:i<l.length):CZ th (l.take (i+1))=yl (CZ th (l.take i)) (aJ (T:=.int .i64) l (i:Int)) 4:=by
 unfold CZ;rw[o6 hi,fM,OT,ax,aB hi];rfl
theorem TD {n:Nat} (w:WT) (s:SY) (hs:SB n s) (U:w.2.2.1.length<=1000) (t k o u:Int):Ok (pt (w,s,t,k,o,u)) λy=>(y.2.2=ai->EN w s t k o/\Wa w s t k o/\AP n s y.1/\(y.1,y.2.1)=rc w s t k o u)/\(y.2.2=aj->y.1=([],0,[],[]))/\(ko (w,s,t,k,o)=af ai->y.2.2=ai):=by
 unfold pt aV bh bw cu bL dh cN eZ ck bd bB bH kJ aX cK aF cA;obtain⟨b,J,hb⟩:=Lg w s hs U t k o;refine aU J ?_;refine dW (λh=>ar ⟨λh=>(by cases h),λ_=>rfl,λh2=>(by rw[J,h] at h2;cases h2)⟩) (λh=>?_);obtain⟨he,hry⟩:=hb h;refine aU (qP s hs) ?_;suffices hmain:Ok _ _ from aY (λx=>AP n s (x.2.2.2.1,x.2.1,x.2.2.2.2)/\((x.2.2.2.1,x.2.1,x.2.2.2.2),x.1)=rc w s t k o u) hmain λx M=>ar ⟨λ_=>⟨he,hry,M⟩,λh=>(by cases h),λ_=>rfl⟩
 obtain⟨nm,t0,t1,cd,e1,e2,e3⟩:=id he;obtain⟨_,_,ce,lk,cn,th,fu⟩:=nm;have hn:=hs.n1;have hlk:=hs.lk;have hm:16<=k/\k<=19->0<=(aJ (T:=TJ) w.2.2.1 o).2/\(aJ (T:=TJ) w.2.2.1 o).2<w.2.1.length:=λh=>cd _ (bI (cn h).1 (cn h).2)
 have hr:∀ j:Int,0<=j->j<s.1.length->(aJ (T:=AC) s.1 j).2.length<=n:=λj h0 h1=>hs.rd _ (bI (T:=AC) h0 h1)
 rcases @I5 k with rfl|rfl|rfl|rfl|rfl|rfl|rfl|rfl|rfl|rfl|rfl|rfl|rfl|rfl|rfl|rfl|rfl|rfl|rfl|rfl|rfl|rfl|rfl|⟨hk,Y⟩
 case inr.inr.inr.inr.inr.inr.inr.inr.inr.inr.inr.inr.inr.inr.inr.inr.inr.inr.inr.inr.inr.inr.inr=>omega
 all_goals simp only[aZ,bp,tj]
 all_goals with_reducible repeat' first|(refine OS.ok ?_;constructor)|refine IM.mk λ_=>?_
 all_goals try simp only[au,qW] at*
 all_goals try rw[bU]
 all_goals first|omega|exact (hm ⟨by decide,by decide⟩).1|exact e1▸(hm ⟨by decide,by decide⟩).2|exact⟨AP.same hs _ _ _ rfl rfl,rfl⟩|exact⟨AP.same hs _ _ _ rfl (bU _ _ _),rfl⟩|exact⟨AP.same hs _ _ _ (bU _ _ _) rfl,rfl⟩|skip
 all_goals try exact⟨AP.set hs _ _ _ (iG (hr o (by omega) (by omega))) _ _ _ rfl rfl,rfl⟩
 .have:=hr o (by omega) (by omega);refine aU (Tb _ _ (dt this (by have:=hs.n1;omega)) (by simp)) ?_;with_reducible repeat' first|(refine OS.ok ?_;constructor)|refine IM.mk λ_=>?_
  all_goals try simp only[au,qW] at*
  all_goals first|omega|skip
  exact⟨AP.set hs _ _ _ (by have:=ZX (aJ (T:=AC) s.1 o).2 [t];simp at this;omega) _ _ _ rfl rfl,rfl⟩
 .have:=hr o (by omega) (by omega);have hl:(wo (aJ (T:=AC) s.1 o).2 t).length<=(aJ (T:=AC) s.1 o).2.length:=List.length_filter_le ..;refine aU (TU _ _ (by omega)) ?_;with_reducible repeat' first|(refine OS.ok ?_;constructor)|refine IM.mk λ_=>?_
  all_goals try simp only[au,qW] at*
  all_goals first|omega|skip
  exact⟨AP.set hs _ _ _ (dt hl (by omega)) _ _ _ rfl rfl,rfl⟩
 .exact⟨AP.set hs _ _ _ (iG (hr _ (hm ⟨by decide,by decide⟩).1 (by rw[e1];exact (hm ⟨by decide,by decide⟩).2))) _ _ _ rfl (by rw[bU,bU]),rfl⟩
 .exact⟨AP.set hs _ _ _ (iG (hr _ (hm ⟨by decide,by decide⟩).1 (by rw[e1];exact (hm ⟨by decide,by decide⟩).2))) _ _ _ rfl (by rw[bU,bU]),rfl⟩
 .refine aU (Hb s o hs.th) ?_;have hth:=hs.th;have hll:=vP s.2.2.2 o s.2.2.2.length;have hml:∀ u∈wl s.2.2.2 o s.2.2.2.length,0<=u/\u<s.2.2.2.length:=λu hu=>⟨(rh.1 hu).1,(rh.1 hu).2.1⟩
  have hap:rc w s t 18 o u=if (wl s.2.2.2 o s.2.2.2.length).length=0 then (s,-1) else ((s.1,s.2.1,s.2.2.1,yl s.2.2.2 (Bv (wl s.2.2.2 o s.2.2.2.length) u) 4),Bv (wl s.2.2.2 o s.2.2.2.length) u):=rfl
  unfold Bv at hap;revert hll hml hap;generalize wl s.2.2.2 o s.2.2.2.length=l;intro hll hml hap;with_reducible repeat' first|(refine OS.ok ?_;constructor)|refine IM.mk λ_=>?_
  all_goals try simp only[au,qW] at*
  all_goals first|omega|skip
  .have I:=hml _ (bI (T:=.int .i64) (xs:=l) (j:=0) (by omega) (by omega));rw[aA (by omega),aA (by omega)] at hap;simp only[Wf l u (by omega),WL];refine aP (λhc=>?_) λhc=>?_
   .have hu:=hml u (s9.1 hc);rw[hc,aE rfl] at hap;refine ar (aR hu.1 hu.2 (aR hu.1 hu.2 (ar ⟨AP.same hs _ _ _ rfl (bU ..),?_⟩)));rw[hap];rfl
   .rw[hc,aA (by decide)] at hap;refine ar (aR I.1 I.2 (aR I.1 I.2 (ar ⟨AP.same hs _ _ _ rfl (bU ..),?_⟩)));rw[hap];rfl
  .rw[aE (by omega)] at hap;exact⟨AP.same hs _ _ _ rfl rfl,hap.symm⟩
 .refine aU (Hb s o hs.th) ?_;have hth:=hs.th;have hll:=vP s.2.2.2 o s.2.2.2.length;have hml:∀ u∈wl s.2.2.2 o s.2.2.2.length,0<=u/\u<s.2.2.2.length:=λu hu=>⟨(rh.1 hu).1,(rh.1 hu).2.1⟩
  have hap:rc w s t 19 o u=((s.1,s.2.1,s.2.2.1,CZ s.2.2.2 (wl s.2.2.2 o s.2.2.2.length)),((wl s.2.2.2 o s.2.2.2.length).length:Int)):=rfl;rw[hap];clear hap;generalize wl s.2.2.2 o s.2.2.2.length=l at hll hml ⊢;refine ch l.length (λi x=>x=((i:Int),s.2.1,0,s.1,s.2.2.1,CZ s.2.2.2 (l.take i))) ?_ ?_ rfl
  .rintro i x hi rfl;have I:=hml _ (bI (T:=.int .i64) (xs:=l) (j:=(i:Int)) (by omega) (by omega));have hq:=H5 (l.take i) s.2.2.2;with_reducible repeat' first|(refine OS.ok ?_;constructor)|refine IM.mk λ_=>?_
   all_goals try simp only[au,qW] at*
   all_goals first|omega|skip
   rw[gM (by omega),aap hi];rfl
  .rintro x rfl;rw[cR];with_reducible repeat' first|(refine OS.ok ?_;constructor)|refine IM.mk λ_=>?_
   all_goals try simp only[au,qW] at*
   all_goals first|omega|skip
   exact AP.same hs _ _ _ rfl (H5 ..)
abbrev SN:Type:=SY×List Int×List Int×List Int
abbrev ET:Type:=Int×Int×Int×Int×Int×List Int×List Int
theorem amf (a b:Int):C2 (a,b)=af (decide (0<=a/\a<b)):=ab4 a b
structure NB (n:Nat) (s:SN):Prop where
 sb:SB n s.1
 c:s.2.1.length<=1000
 f:s.2.2.1.length<=1000
 k:s.2.2.2.length<=1000
structure SP (n:Nat) (s y:SN):Prop where
 ap:AP n s.1 y.1
 c:y.2.1.length=s.2.1.length
 f:y.2.2.1.length=s.2.2.1.length
 k:y.2.2.2.length=s.2.2.2.length
theorem SP.NB {n:Nat} {s y:SN} (h:SP n s y) (hs:NB n s) (hn:n+1<=100000):NB (n+1) y:=
 ⟨h.ap.toSB hs.sb hn,by rw[h.c];exact hs.c,by rw[h.f];exact hs.f,by rw[h.k];exact hs.k⟩
def sn0:SN:=(([],0,[],[]),[],[],[])
structure F16 (w:WT) (s:SN):Prop where
 c:s.2.1.length=w.1.length
 f:s.2.2.1.length=w.2.2.2.1.length
 k:s.2.2.2.length=w.2.2.2.2.1.length
theorem Zt (w:WT) (s:SN) (I:w.2.2.1.length<=1000):Ok (wB (w,s)) λb=>b=ai->F16 w s:=by
 unfold wB aV bh bw dh bd aX aF;refine gA (ay (P0 w s.1 (by omega)) λb hb=>?_);with_reducible repeat' first|(refine OS.ok ?_;constructor)|refine IM.mk λ_=>?_
 all_goals try simp only[au,qW] at*
 all_goals first|(intro h;constructor<;>omega)|(intro h;cases h;done)
theorem Xy:∀ (l:List Int),(∀ k:Nat,k+1<l.length->l.getD k 0<l.getD (k+1) 0)->HN l
 |[],_=>trivial
 |[x],_=>⟨λy M=>(by cases M),trivial⟩
 |x::y::r,h=>by
  have J:=Xy (y::r) λk hk=>by have:=h (k+1) (by simpa using hk);simpa using this
  have h0:=h 0 (by simp);simp at h0;refine ⟨λz I=>?_,J⟩;rcases bl.1 I with rfl|I
  .exact h0
  .have:=J.1 z I;omega
structure AN (c:Int) (l:List Int):Prop where
 a:HN l
 m:∀ x:Int,x∈l->1<=x/\x<c
theorem IP (l:List Int) (c:Int) (hl:l.length<=1000000000):Ok (nN (l,c)) λb=>b=ai->AN c l:=by
 unfold nN bB j7 bH aX cK aF cA;refine ch l.length (λi x=>x=(i:Int)/\(∀ k:Nat,k<i->1<=aJ (T:=.int .i64) l (k:Int)/\aJ (T:=.int .i64) l (k:Int)<c)/\∀ k:Nat,k+1<i->l.getD k 0<l.getD (k+1) 0) ?_ ?_ ⟨rfl,λk hk=>by omega,λk hk=>by omega⟩
 .rintro i x hi ⟨rfl,I,J⟩;have M:0<(i:Int)->bn .i64 ((i:Int)-1)=((i-1:Nat):Int):=λh=>by rw[iu (by omega) (by omega)];omega
  have hq:(0<i->l.getD (i-1) 0<l.getD i 0)->1<=aJ (T:=.int .i64) l (i:Int)/\aJ (T:=.int .i64) l (i:Int)<c->bn .i64 ((i:Int)+1)=((i+1:Nat):Int)/\(∀ k:Nat,k<i+1->1<=aJ (T:=.int .i64) l (k:Int)/\aJ (T:=.int .i64) l (k:Int)<c)/\∀ k:Nat,k+1<i+1->l.getD k 0<l.getD (k+1) 0:=λg1 Z=>by
   refine ⟨gM (by omega),λk hk=>?_,λk hk=>?_⟩
   .rcases b9 k i with h1|h1
    .exact I k h1
    .rw[show k=i by omega];exact Z
   .rcases b9 (k+1) i with h1|h1
    .exact J k h1
    .have:=g1 (by omega);rw[show k=i-1 by omega,show i-1+1=i by omega];exact this
  with_reducible repeat' first|(refine OS.ok ?_;constructor)|refine IM.mk λ_=>?_
  all_goals try simp only[au,qW] at*
  all_goals first|omega|(intro h;cases h;done)|(rw [M (by omega)];omega)|skip
  .rename_i h1 h2 Y U;rw[M Y,OT,OT] at U;exact hq (λ_=>U) ⟨by omega,by omega⟩
  .exact hq (λh=>by omega) ⟨by omega,by omega⟩
 .rintro x ⟨rfl,I,J⟩;with_reducible repeat' first|(refine OS.ok ?_;constructor)|refine IM.mk λ_=>?_
  all_goals try simp only[au,qW] at*
  all_goals first|omega|skip
  exact⟨Xy l λk hk=>J k hk,iC (T:=.int .i64) I⟩
structure VA (w:WT) (sy:SY) (ce fu:List Int) (t k o v:Int):Prop where
 ld:k=3->v=aJ (T:=.int .i64) ce o
 gt:k=23->v=aJ (T:=.int .i64) fu o
 br:k=5->v=0\/v=1
 el:¬k=3->¬k=23->¬k=5->¬k=4->¬k=22->v=(rc w sy t k o v).2
theorem ite2 {c:Prop} [Decidable c] {a b:SY×Int} (I:a.2=0) (hb:b.2=0):(if c then a else b).2=0:=by by_cases h:c<;>simp[h,I,hb]
theorem ahx (w:WT) (sy:SY) (t k o u:Int) (h1:¬k=18) (h2:¬k=19):(rc w sy t k o u).2=0:=by
 unfold rc;rw[aA h1,aA h2];repeat (first|exact rfl|refine ite2 rfl ?_)
theorem XC (w:WT) (sy:SY) (t k o u I:Int) (h1:¬k=18):rc w sy t k o u=rc w sy t k o I:=by
 unfold rc;rw[aA h1,aA h1]
theorem FE (w:WT) (sy:SY) (t o u:Int):rc w sy t 18 o u=if (wl sy.2.2.2 o sy.2.2.2.length).length=0 then (sy,-1) else ((sy.1,sy.2.1,sy.2.2.1,yl sy.2.2.2 (Bv (wl sy.2.2.2 o sy.2.2.2.length) u) 4),Bv (wl sy.2.2.2 o sy.2.2.2.length) u):=rfl
theorem ajk (w:WT) (sy:SY) (t o u:Int):(rc w sy t 19 o u).2=((wl sy.2.2.2 o sy.2.2.2.length).length:Int):=rfl
theorem ZW {n:Nat} (w:WT) (s:SN) (hs:NB n s) (hf:F16 w s) (e:ET) (he:EN w s.1 e.1 e.2.1 e.2.2.1):Ok (uj (s,e)) λb=>b=ai->VA w s.1 s.2.1 s.2.2.1 e.1 e.2.1 e.2.2.1 e.2.2.2.1:=by
 obtain⟨t,k,o,v,si,de,fr⟩:=e;obtain⟨s1,s2,s3,s4⟩:=s;obtain⟨nm,t0,t1,cd,e1,e2,e3⟩:=he;obtain⟨_,_,ce,lk,cn,th,fu,_,_,_⟩:=nm;obtain⟨f1,f2,f3⟩:=hf;have hth:=hs.sb.th;dsimp only at*
 unfold uj aV bh bw cu bL bd bB j7 bH aX aF;have hW:=V5 s1 o hth;have hWl:=vP s1.2.2.2 o s1.2.2.2.length;refine aK (λh=>?_) λn3=>?_
 .have h:k=3:=h;obtain⟨Z,Y⟩:=ce (.inl h);exact aR Z (by rw[f1];exact Y) (aT (ar λh2=>⟨λ_=>bf h2,λI=>by omega,λI=>by omega,λI=>(I h).elim⟩))
 refine aK (λh=>?_) λJ=>?_
 .have h:k=23:=h;obtain⟨Z,Y⟩:=fu (.inr h);exact aR Z (by rw[f2];exact Y) (aT (ar λh2=>⟨λI=>by omega,λ_=>bf h2,λI=>by omega,λ_ I=>(I h).elim⟩))
 refine aK (λh=>?_) λn5=>?_
 .have h:k=5:=h;exact gA (aK (λh2=>ar (ar λ_=>⟨λI=>by omega,λI=>by omega,λ_=>.inl h2,λ_ _ I=>(I h).elim⟩)) λ_=>ar (ar λh2=>⟨λI=>by omega,λI=>by omega,λ_=>.inr (bf h2),λ_ _ I=>(I h).elim⟩))
 refine aY (λx=>x.2=((s1,s2,s3,s4),t,k,o,v,si,de,fr)/\(x.1=ai->k=4\/k=22)) (aK (λh=>ar ⟨rfl,λ_=>.inl h⟩) λ_=>ar ⟨rfl,λh=>.inr (bf h)⟩) ?_;rintro⟨b,x⟩ ⟨e,hb⟩;dsimp only at e hb;subst e;refine aP (λh=>ar λ_=>⟨λI=>(n3 I).elim,λI=>(J I).elim,λI=>(n5 I).elim,λ_ _ _ h4 h5=>(hb h).elim (λh=>(h4 h).elim) λh=>(h5 h).elim⟩) λ_=>?_
 have fin:v=(rc w s1 t k o v).2->VA w s1 s2 s3 t k o v:=λh=>⟨λI=>(n3 I).elim,λI=>(J I).elim,λI=>(n5 I).elim,λ_ _ _ _ _=>h⟩
 refine aK (λh=>?_) λU=>?_
 .have h:k=18:=h;subst h;rw[FE] at fin;refine aU hW ?_;revert fin hWl;generalize wl s1.2.2.2 o s1.2.2.2.length=l;intro hWl fin;refine aK (λh=>ar λh2=>fin ?_) λh=>?_
  .dsimp only[au] at h;rw[aE (by omega)];exact bf h2
  .dsimp only[au] at h;have hne:¬l.length=0:=by omega
   refine gA (gh (λ_=>bK (λ_=>?_) λ_=>ar (ar λh=>(by cases h))) λ_=>ar (ar λh=>(by cases h)));refine aU (Wf _ _ (by omega)) (ar (ar λh2=>fin ?_));rw[aA hne];unfold Bv;rw[aA hne,aE h2]
 refine aK (λh=>?_) λM=>?_
 .have h:k=19:=h;subst h;exact aU hW (ar λh2=>fin (bf h2))
 exact ar λh2=>fin (by rw[ahx _ _ _ _ _ _ U M];exact bf h2)
structure S16 (w:WT) (s:SN) (e:ET):Prop where
 rd:Wa w s.1 e.1 e.2.1 e.2.2.1
 s1:e.2.1=1\/e.2.1=2->e.2.2.2.2.1= -1
 s2:¬(e.2.1=1\/e.2.1=2)->0<=e.2.2.2.2.1/\e.2.2.2.2.1<w.2.2.2.2.2.length/\(aJ (T:=yk) w.2.2.2.2.2 e.2.2.2.2.1).1=e.1
 de:0<e.2.2.2.2.2.1.length->e.2.1=5\/(e.2.1=3\/e.2.1=4)/\¬(aJ (T:=NX) w.1 e.2.2.1).2.2.1=0
 fr:0<e.2.2.2.2.2.2.length->e.2.1=4\/e.2.1=22
 nd:AN (aJ (T:=.int .i64) s.2.2.2 e.1) e.2.2.2.2.2.1
 nf:AN (aJ (T:=.int .i64) s.2.2.2 e.1) e.2.2.2.2.2.2
 va:VA w s.1 s.2.1 s.2.2.1 e.1 e.2.1 e.2.2.1 e.2.2.2.1
def YX (ce:List Int) (e:ET):List Int:=if e.2.1=4 then ct ce e.2.2.1 e.2.2.2.1 else ce
def ZM (fu:List Int) (e:ET):List Int:=if e.2.1=22 then ct fu e.2.2.1 e.2.2.2.1 else fu
def nxP (w:WT) (s:SN) (e:ET):SN:=((rc w s.1 e.1 e.2.1 e.2.2.1 e.2.2.2.1).1,YX s.2.1 e,ZM s.2.2.1 e,ct s.2.2.2 e.1 (bn .i64 (aJ (T:=.int .i64) s.2.2.2 e.1+1)))
theorem FI {n:Nat} (w:WT) (s:SN) (hs:NB n s) (hw:w.2.2.1.length<=1000) (e:ET) (hd:e.2.2.2.2.2.1.length<=1000000000) (hf:e.2.2.2.2.2.2.length<=1000000000):Ok (rm (w,s,e)) λy=>(y.2=ai->EN w s.1 e.1 e.2.1 e.2.2.1/\SP n s y.1/\S16 w s e/\y.1=nxP w s e)/\(y.2=aj->y.1=sn0):=by
 have Z:∀ {Q:SN×Bool->Prop},Q (sn0,aj)->Ok (af (sn0,aj)) Q:=λh=>ar h
 have z0:((sn0,aj).2=ai->EN w s.1 e.1 e.2.1 e.2.2.1/\SP n s (sn0,aj).1/\S16 w s e/\(sn0,aj).1=nxP w s e)/\((sn0,aj).2=aj->(sn0,aj).1=sn0):=⟨λh=>(by cases h),λ_=>rfl⟩
 unfold rm aV bh bw cu dU bL dh cN eZ mB ck bd bB il bF bH kJ aX cK aF cA;refine aY (λx=>x.2=(w,s,e,0)/\(x.1=aj->F16 w s/\(EN w s.1 e.1 e.2.1 e.2.2.1/\Wa w s.1 e.1 e.2.1 e.2.2.1)/\ko (w,s.1,e.1,e.2.1,e.2.2.1)=af ai)) ?_ ?_
 .refine ay (Zt w s hw) λb hb=>?_
  with_reducible repeat' first|(refine OS.ok ?_;constructor)|refine IM.mk λ_=>?_
  .exact⟨rfl,λh=>(by cases h)⟩
  simp only[amf,WL];with_reducible repeat' first|(refine OS.ok ?_;constructor)|refine IM.mk λ_=>?_
  .exact⟨rfl,λh=>(by cases h)⟩
  .exact⟨rfl,λh=>(by cases h)⟩
  .exact⟨rfl,λh=>(by cases h)⟩
  obtain⟨c,hc0,hc⟩:=Lg w s.1 hs.sb hw e.1 e.2.1 e.2.2.1;refine aU hc0 (ar ⟨rfl,λh=>?_⟩);have h:c=ai:=by simpa using h
  exact⟨hb (by assumption),hc h,h▸hc0⟩
 rintro⟨J,M⟩ ⟨I,hx⟩;dsimp only at I hx;subst I;refine aP (λ_=>Z z0) λh1=>?_
 obtain⟨hF,⟨hE,hR⟩,hEn⟩:=hx h1;clear hx h1;refine aY (λx=>x=(w,s,e,0)/\(e.2.1=1\/e.2.1=2->e.2.2.2.2.1= -1)/\(¬(e.2.1=1\/e.2.1=2)->0<=e.2.2.2.2.1/\e.2.2.2.2.1<w.2.2.2.2.2.length/\(aJ (T:=yk) w.2.2.2.2.2 e.2.2.2.2.1).1=e.1)) ?_ ?_
 .refine aY (λx=>x.2=(w,s,e,0)/\(x.1=ai->e.2.1=1\/e.2.1=2)/\(x.1=aj->¬(e.2.1=1\/e.2.1=2))) ?_ ?_
  .refine aK (λh=>ar ⟨rfl,λ_=>.inl h,λh=>(by cases h)⟩) λh=>ar ⟨rfl,λh2=>.inr (bf h2),λh2=>?_⟩
   have:=BE h2;exact λY=>Y.elim h this
  rintro⟨J,M⟩ ⟨I,hy1,hy2⟩;dsimp only at I hy1 hy2;subst I;refine aP (λhk=>?_) λhk=>?_
  .exact bY (λ_=>ar z0) λh=>ar ⟨rfl,λ_=>h,λY=>(Y (hy1 hk)).elim⟩
  .refine aY (λx=>x.2=(w,s,e,0)/\(x.1=aj->0<=e.2.2.2.2.1/\e.2.2.2.2.1<w.2.2.2.2.2.length/\(aJ (T:=yk) w.2.2.2.2.2 e.2.2.2.2.1).1=e.1)) ?_ ?_
   .simp only[amf,WL];refine bY (λ_=>ar ⟨rfl,λh=>(by cases h)⟩) λh=>aR h.1 h.2 (aT (ar ⟨rfl,λh2=>⟨h.1,h.2,?_⟩⟩))
    simpa using h2
   rintro⟨J,M⟩ ⟨I,Z⟩;dsimp only at I Z;subst I;exact aP (λ_=>ar z0) λh=>ar ⟨rfl,λY=>((hy2 hk) Y).elim,λ_=>Z h⟩
 rintro x ⟨rfl,hS1,hS2⟩;obtain⟨nm,t0,t1,cd,e1,e2,e3⟩:=id hE;obtain⟨_,_,ce,lk,cn,th,fu,_,_,_⟩:=nm;obtain⟨f1,f2,f3⟩:=id hF;refine aY (λx=>x.2=(w,s,e,0)/\(x.1=ai->e.2.1=3\/e.2.1=4)) ?_ ?_
 .with_reducible repeat' first|(refine OS.ok ?_;constructor)|refine IM.mk λ_=>?_
  .exact⟨rfl,λ_=>.inl (by assumption)⟩
  .exact⟨rfl,λh=>.inr (bf h)⟩
 rintro⟨J,M⟩ ⟨I,U⟩;dsimp only at I U;subst I;refine aY (λx=>x.2=(w,s,e,0)/\(x.1=aj->0<e.2.2.2.2.2.1.length->e.2.1=5\/(e.2.1=3\/e.2.1=4)/\¬(aJ (T:=NX) w.1 e.2.2.1).2.2.1=0)) ?_ ?_
 .refine bK (λ_=>bY (λ_=>aP (λh=>?_) λ_=>ar ⟨rfl,λh=>(by cases h)⟩) λh5=>ar ⟨rfl,λ_ _=>.inl h5⟩) λh=>ar ⟨rfl,λ_ h2=>?_⟩
  .refine aR (ce (U h)).1 (ce (U h)).2 (aT (ar ⟨rfl,λh2 _=>.inr ⟨U h,?_⟩⟩));simpa using h2
  .dsimp only[au] at h;omega
 rintro⟨J,M⟩ ⟨I,hDe⟩;dsimp only at I hDe;subst I;refine aP (λ_=>Z z0) λhde=>?_
 refine aY (λx=>x.2=(w,s,e,0)/\(x.1=aj->0<e.2.2.2.2.2.2.length->e.2.1=4\/e.2.1=22)) ?_ ?_
 .refine bK (λ_=>bY (λ_=>ar ⟨rfl,λh _=>.inr (by simpa using h)⟩) λh4=>ar ⟨rfl,λ_ _=>.inl h4⟩) λh=>ar ⟨rfl,λ_ h2=>?_⟩
  dsimp only[au] at h;omega
 rintro⟨J,M⟩ ⟨I,hFr⟩;dsimp only at I hFr;subst I;refine aP (λ_=>Z z0) λhfr=>?_
 have hk:=hs.k;have hc:=hs.c;have hfu:=hs.f;refine aY (λx=>x.2=(w,s,e,0)/\(x.1=aj->AN (aJ (T:=.int .i64) s.2.2.2 e.1) e.2.2.2.2.2.1/\AN (aJ (T:=.int .i64) s.2.2.2 e.1) e.2.2.2.2.2.2/\VA w s.1 s.2.1 s.2.2.1 e.1 e.2.1 e.2.2.1 e.2.2.2.1)) ?_ ?_
 .have hv:=ZW w s hs hF e hE;refine aR t0 (by rw[f3];exact t1) (aT (ay (IP _ _ hd) λb hb=>?_));refine dW (λ_=>ar ⟨rfl,λh=>(by cases h)⟩) λb1=>?_
  refine aR t0 (by rw[f3];exact t1) (aT (ay (IP _ _ hf) λb hb2=>?_));refine dW (λ_=>ar ⟨rfl,λh=>(by cases h)⟩) λb2=>?_
  exact ay hv λb hb3=>ar ⟨rfl,λh=>⟨hb b1,hb2 b2,hb3 (by simpa using h)⟩⟩
 rintro⟨J,M⟩ ⟨I,hNum⟩;dsimp only at I hNum;subst I;refine aP (λ_=>Z z0) λhnu=>?_
 obtain⟨hN1,hN2,hVA⟩:=hNum hnu;have hS:S16 w s e:=⟨hR,hS1,hS2,hDe hde,hFr hfr,hN1,hN2,hVA⟩
 refine bi (by simp;omega) (by omega) (bi (by simp;omega) (by omega) (bi (by simp;omega) (by omega) ?_));refine aY (λx=>x.2=(w,s,e,0,0,s.2.1,s.2.2.1,s.2.2.2)/\rc w s.1 e.1 e.2.1 e.2.2.1 x.1=rc w s.1 e.1 e.2.1 e.2.2.1 e.2.2.2.1) ?_ ?_
 .exact aK (λ_=>ar ⟨rfl,rfl⟩) λh=>ar ⟨rfl,XC _ _ _ _ _ _ _ h⟩
 rintro⟨J,M⟩ ⟨I,hxu⟩;dsimp only at I hxu;subst I;refine ay (TD w s.1 hs.sb hw e.1 e.2.1 e.2.2.1 J) λy hy=>?_
 obtain⟨_,_,hap,hyq⟩:=hy.1 (hy.2.2 hEn);rw[hxu] at hyq;refine aY (λx=>x.1=e/\x.2.2.1=y.1/\x.2.2.2.1=YX s.2.1 e/\x.2.2.2.2=(s.2.2.1,s.2.2.2)) ?_ ?_
 .unfold YX;refine aK (λh=>?_) λh=>ar ⟨rfl,rfl,(aA h).symm,rfl⟩
  have hc4:=ce (.inr h);with_reducible repeat' first|(refine OS.ok ?_;constructor)|refine IM.mk λ_=>?_
  all_goals try simp only[au,qW] at*
  all_goals first|omega|exact (aE h).symm
 rintro⟨J,M,x3,x4,x5,x6⟩ ⟨h1,h2,Y,h4⟩;simp only[aD] at h1 h2 Y h4;obtain⟨rfl,rfl⟩:=h4;subst h1;subst h2;subst Y;refine aY (λx=>x.1=J/\x.2.2.1=y.1/\x.2.2.2.1=YX s.2.1 J/\x.2.2.2.2.1=ZM s.2.2.1 J/\x.2.2.2.2.2=s.2.2.2) ?_ ?_
 .unfold ZM;refine aK (λh=>?_) λh=>ar ⟨rfl,rfl,rfl,(aA h).symm,rfl⟩
  have hc4:=fu (.inl h);with_reducible repeat' first|(refine OS.ok ?_;constructor)|refine IM.mk λ_=>?_
  all_goals try simp only[au,qW] at*
  all_goals first|omega|exact (aE h).symm
 rintro⟨J,M,x3,x4,x5,x6⟩ ⟨h1,h2,h4,h5,h6⟩;simp only at h1 h2 h4 h5 h6;subst h1;subst h2;subst h4;subst h5;subst h6;have l1:(YX s.2.1 J).length=s.2.1.length:=by unfold YX;split<;>simp[bU]
 have l2:(ZM s.2.2.1 J).length=s.2.2.1.length:=by unfold ZM;split<;>simp[bU]
 with_reducible repeat' first|(refine OS.ok ?_;constructor)|refine IM.mk λ_=>?_
 all_goals try simp only[au,qW] at*
 all_goals first|omega|skip
 exact⟨⟨hE,⟨hap,l1,l2,by rw[bU]⟩,hS,by unfold nxP;rw[<- hyq]⟩,λh=>(by cases h)⟩
theorem Tj:Ok (kA ()) λl=>l.length=22:=by
 unfold kA;with_reducible repeat' first|(refine OS.ok ?_;constructor)|refine IM.mk λ_=>?_
 all_goals rfl
theorem PY (s:List UInt8):Ok (jM s) λ_=>True:=by
 unfold jM bB bH aX cK aF cA;refine ay Tj λl hl=>?_
 refine ch l.length (λi x=>x=(i:Int)) ?_ ?_ rfl
 .rintro i x hi rfl;with_reducible repeat' first|(refine OS.ok ?_;constructor)|refine IM.mk λ_=>?_
  all_goals try simp only[au,qW] at*
  all_goals first|omega|exact gM (by omega)
 .rintro x rfl;with_reducible repeat' first|(refine OS.ok ?_;constructor)|refine IM.mk λ_=>?_
  all_goals try simp only[au,qW] at*
  all_goals omega
theorem Nz (c:Int):Ok (lz c) λ_=>True:=by
 unfold lz j7 aF;with_reducible repeat' first|(refine OS.ok ?_;constructor)|refine IM.mk λ_=>?_
 all_goals exact trivial
theorem ab2 (c:Int):Ok (py c) λ_=>True:=by
 unfold py rz j7 aF;refine gA (ay (Nz c) λ_ _=>?_);with_reducible repeat' first|(refine OS.ok ?_;constructor)|refine IM.mk λ_=>?_
 all_goals try exact trivial
 refine ay (P:=λ_=>True) ?_ λ_ _=>?_
 .with_reducible repeat' first|(refine OS.ok ?_;constructor)|refine IM.mk λ_=>?_
  all_goals exact trivial
 .with_reducible repeat' first|(refine OS.ok ?_;constructor)|refine IM.mk λ_=>?_
  all_goals exact trivial
theorem iE (s:List UInt8):Ok (fk s) λ_=>True:=by
 unfold fk bB vQ aX cK aF cA;refine aY (λb=>b=aj->s.length<=12) ?_ ?_
 .with_reducible repeat' first|(refine OS.ok ?_;constructor)|refine IM.mk λ_=>?_
  .exact λh=>(by cases h)
  .exact λh=>(by cases h)
  .omega
  .simp only[au] at *;omega
  refine ay (Nz _) λ_ _=>?_
  with_reducible repeat' first|(refine OS.ok ?_;constructor)|refine IM.mk λ_=>?_
  .exact λh=>(by cases h)
  refine ay (PY _) λ_ _=>ar λ_=>?_
  simp only[au] at *;omega
 .rintro b hb;refine aP (λ_=>ar trivial) λh=>?_
  have hb:=hb h;refine ch s.length (λi x=>x=(i:Int)) ?_ ?_ rfl
  .rintro i x hi rfl;with_reducible repeat' first|(refine OS.ok ?_;constructor)|refine IM.mk λ_=>?_
   all_goals try simp only[au,qW] at*
   all_goals first|omega|skip
   refine ay (ab2 _) λ_ _=>?_
   with_reducible repeat' first|(refine OS.ok ?_;constructor)|refine IM.mk λ_=>?_
   .exact trivial
   .exact gM (by omega)
  .rintro x rfl;with_reducible repeat' first|(refine OS.ok ?_;constructor)|refine IM.mk λ_=>?_
   all_goals try simp only[au,qW] at*
   all_goals first|omega|exact trivial
theorem yN (l:List (List UInt8)) (s:List UInt8) (hl:l.length<=1000000000):Ok (je (l,s)) λr=> -1<=r/\r<l.length/\(0<=r->aJ (T:=.str) l r=s)/\(r<0->s∉l):=by
 unfold je bB bH aX cK aF cA;refine ch l.length (λi x=>x=(i:Int)/\∀ k:Nat,k<i->aJ (T:=.str) l (k:Int)≠s) ?_ ?_ ⟨rfl,λk hk=>by omega⟩
 .rintro i x hi ⟨rfl,I⟩;with_reducible repeat' first|(refine OS.ok ?_;constructor)|refine IM.mk λ_=>?_
  all_goals try simp only[au,qW] at*
  all_goals first|omega|skip
  .exact⟨by omega,by omega,λ_=>by assumption,λh=>by omega⟩
  .refine ⟨gM (by omega),λk hk=>?_⟩;rcases b9 k i with h1|h1
   .exact I k h1
   .rw[show k=i by omega];assumption
 .rintro x ⟨rfl,I⟩;with_reducible repeat' first|(refine OS.ok ?_;constructor)|refine IM.mk λ_=>?_
  all_goals try simp only[au,qW] at*
  all_goals first|omega|skip
  exact⟨by omega,by omega,λh=>by omega,λ_ h=>iC (T:=.str) (p:=λc=>c≠s) I s h rfl⟩
structure VL (w:WT):Prop where
 c:w.1.length<=12
 l:w.2.1.length<=4
 d:w.2.2.1.length<=2
 f:w.2.2.2.1.length<=2
 t0:1<=w.2.2.2.2.1.length
 t:w.2.2.2.2.1.length<=4
 s:w.2.2.2.2.2.length<=60
theorem aam (w:WT) (h:VL w):Ok (pu w) λy=>y.1.length<=100:=by
 obtain⟨I,U,M,w4,Z,Y⟩:=w;obtain⟨h1,h2,h3,h4,_,h5,h6⟩:=h;dsimp only at*
 unfold pu aV bh bw cu dh mB bd bB il bF bH aX cK aF cA;refine qf (λx=>((I.length:Int)-x.1).toNat) (λx=>x.2.1=(I,U,M,w4,Z,Y)/\0<=x.1/\x.1<=(I.length:Int)/\(x.2.2.length:Int)<=x.1) ?_ ⟨rfl,by simp,by simp,by simp⟩;rintro⟨x1,x2,x3⟩ ⟨e,g1,g2,g3⟩;dsimp only at e g1 g2 g3;subst e;refine bK (λg4=>?_) λg4=>?_
 .dsimp only[au] at g4;refine aY (λx=>x.2.1=(I,U,M,w4,Z,Y)/\x1<x.1/\x.1<=(I.length:Int)/\(x.2.2.length:Int)<=x.1) ?_ ?_
  .refine cD (aT (bi (by simp;omega) (by omega) ?_));refine aK (λ_=>?_) λ_=>?_
   .with_reducible repeat' first|(refine OS.ok ?_;constructor)|refine IM.mk λ_=>?_
    .exact jZ _
    .rw[iu (by omega) (by omega)];exact⟨rfl,by dsimp only;omega,by dsimp only;omega,by simp;omega⟩
   .generalize hz:aJ _ x1=z;obtain⟨z1,(z2:Int),(J:Int),z4,z5⟩:=z;dsimp only;refine aY (λx=>x.2=((I,U,M,w4,Z,Y),x3++[z1],z1,z2,J,z4,z5)/\(x.1=aj->1<=J/\J<=4/\x1+J<=I.length)) ?_ ?_
    .with_reducible repeat' first|(refine OS.ok ?_;constructor)|refine IM.mk λ_=>?_
     .exact⟨rfl,λh=>(by cases h)⟩
     .exact⟨rfl,λh=>(by cases h)⟩
     .refine ⟨rfl,λh=>?_⟩;dsimp only[au] at*
      rw[iu (by omega) (by omega),gi] at h;omega
    .rintro⟨b,y⟩ ⟨e,hb⟩;dsimp only at e hb;subst e;refine aP (λ_=>ar (jZ _)) λh=>?_
     obtain⟨q1,q2,q3⟩:=hb h;refine qf (λx=>(J-x.1).toNat) (λx=>x.2=((I,U,M,w4,Z,Y),x3++[z1],z1,z2,J,z4,z5)/\0<=x.1/\x.1<=J) ?_ ⟨rfl,by simp,by dsimp only;omega⟩;rintro⟨k,y⟩ ⟨e,k0,k1⟩;dsimp only at e k0 k1;subst e;refine bK (λk2=>?_) λk2=>?_
     .dsimp only at k2;have e1:bn .i64 (x1+k)=x1+k:=iu (by omega) (by omega);refine aR (by dsimp only;rw[e1];omega) (by dsimp only;rw[e1];omega) (aT ?_);refine aY (λx=>x.2=((I,U,M,w4,Z,Y),x3++[z1],z1,z2,J,z4,z5)) ?_ ?_
      .with_reducible repeat' first|(refine OS.ok ?_;constructor)|refine IM.mk λ_=>?_
       all_goals rfl
      .rintro⟨b,y⟩ e;dsimp only at e;subst e;refine aP (λ_=>ar (jZ _)) λ_=>ar ?_
       dsimp only;rw[iu (by omega) (by omega)];exact⟨⟨rfl,by omega,by omega⟩,by omega⟩
     .dsimp only at k2;refine ar ?_;dsimp only;rw[iu (by omega) (by omega)];exact⟨rfl,by omega,by omega,by simp;omega⟩
  .rintro⟨y1,y2,y3⟩ ⟨e,g5,g6,g7⟩;dsimp only at e g5 g6 g7;subst e;refine ar ⟨⟨rfl,by dsimp only;omega,g6,g7⟩,?_⟩;dsimp only;omega
 .dsimp only[au] at g4;refine ay (P:=λy=>y.1.length<=100) ?_ λy hy=>ar hy
  refine ch U.length (λi x=>x.1=(i:Int)/\x.2.1=(I,U,M,w4,Z,Y)/\x.2.2.length<=12+i) ?_ ?_ ⟨rfl,rfl,by dsimp only;omega⟩
  .rintro i ⟨a,b,c⟩ hi ⟨e1,e2,e3⟩;dsimp only at e1 e2 e3;subst e1;subst e2;with_reducible repeat' first|(refine OS.ok ?_;constructor)|refine IM.mk λ_=>?_
   all_goals try simp only[au,qW] at*
   all_goals first|omega|(simp;omega)|skip
   exact⟨gM (by omega),by simp;omega⟩
  .rintro⟨a,b,c⟩ ⟨e1,e2,e3⟩;dsimp only at e1 e2 e3;subst e1;subst e2;refine bK (λg4=>(by dsimp only[au] at g4;omega)) λ_=>?_
   refine ay (P:=λy=>y.1.length<=100) ?_ λy hy=>ar hy
   refine ch M.length (λi x=>x.1=(i:Int)/\x.2.1=(I,U,M,w4,Z,Y)/\x.2.2.length<=16+i) ?_ ?_ ⟨rfl,rfl,by dsimp only;omega⟩
   .rintro i ⟨a,b,c⟩ hi ⟨e1,e2,e3⟩;dsimp only at e1 e2 e3;subst e1;subst e2;with_reducible repeat' first|(refine OS.ok ?_;constructor)|refine IM.mk λ_=>?_
    all_goals try simp only[au,qW] at*
    all_goals first|omega|(simp;omega)|skip
    exact⟨gM (by omega),by simp;omega⟩
   .rintro⟨a,b,c⟩ ⟨e1,e2,e3⟩;dsimp only at e1 e2 e3;subst e1;subst e2;refine bK (λg4=>(by dsimp only[au] at g4;omega)) λ_=>?_
    refine ay (P:=λy=>y.1.length<=100) ?_ λy hy=>ar hy
    with_reducible repeat' first|(refine OS.ok ?_;constructor)|refine IM.mk λ_=>?_
    all_goals try simp only[au,qW] at*
    all_goals first|omega|(simp;omega)
def TK (T:Int) (o:Option (Int×Int)) (s:Int×Int×Int):Option (Int×Int):=
 match o with
 |none=>ah
 |some (t,n)=>if s.1=t/\s.2.1=n then af (t,n+1) else if t<s.1/\s.1<T/\s.2.1=0 then af (s.1,1) else ah
def Lq (T:Int) (l:List (Int×Int×Int)):Option (Int×Int):=l.foldl (TK T) (af (0,0))
def SV0 (w:WT):Prop:=Lq w.2.2.2.2.1.length w.2.2.2.2.2≠ah
theorem Iu {T:Int} {l:List (Int×Int×Int)} {i:Nat} (hi:i<l.length):Lq T (l.take (i+1))=TK T (Lq T (l.take i)) (aJ (T:=yk) l (i:Int)):=by
 rw[oo (T:=yk) hi];unfold Lq;rw[fM];rfl
theorem Bw (w:WT):Ok (ic w) λb=>b=ai->VL w/\SV0 w:=by
 unfold ic aV bh bw cu cN eZ bd bB j7 il bF bH aX cK aF cA;refine aY (λx=>x.2=w/\(x.1=aj->VL w)) ?_ ?_
 .with_reducible repeat' first|(refine OS.ok ?_;constructor)|refine IM.mk λ_=>?_
  all_goals first|exact⟨rfl,λh=>(by cases h)⟩|skip
  dsimp only[au] at*
  refine ⟨rfl,λh=>?_⟩;rw[gi] at h;constructor<;>omega
 rintro⟨b,x⟩ ⟨e,hb⟩;dsimp only at e hb;subst e;refine aP (λ_=>ar λh=>(by cases h)) λh=>?_
 have hv:=hb h;refine ay (aam _ hv) λy hy=>?_
 refine dW (λ_=>ar λh=>(by cases h)) λ_=>?_
 obtain⟨w1,w2,U,Z,J,I⟩:=x;have h6:=hv.s;have h3:=hv.d;dsimp only at h6 h3;refine ch y.1.length (λi x=>x.1=(i:Int)/\x.2=(w1,w2,U,Z,J,I)) ?_ ?_ ⟨rfl,rfl⟩
 .rintro i ⟨a,b⟩ hi ⟨e1,e2⟩;dsimp only at e1 e2;subst e1;subst e2;refine bK (λY=>?_) λY=>(by dsimp only[au] at Y;omega)
  refine aY (λx=>x.2=(w1,w2,U,Z,J,I)) ?_ ?_
  .refine cD (aT (ay (iE _) λ_ _=>?_));refine dW (λ_=>ar rfl) λ_=>?_
   with_reducible repeat' first|(refine OS.ok ?_;constructor)|refine IM.mk λ_=>?_
   all_goals try simp only[au,qW] at*
   all_goals first|omega|skip
   refine ay (yN _ _ (by simp;omega)) λ_ _=>ar rfl
  .rintro⟨a,b⟩ e;dsimp only at e;subst e;with_reducible repeat' first|(refine OS.ok ?_;constructor)|refine IM.mk λ_=>?_
   .exact λh=>(by cases h)
   .dsimp only;exact⟨gM (by omega),rfl⟩
 rintro⟨a,b⟩ ⟨e1,e2⟩;dsimp only at e1 e2;subst e1;subst e2;refine bK (λY=>(by dsimp only[au] at Y;omega)) λ_=>?_
 refine ay (P:=λb=>b=ai->VL (w1,w2,U,Z,J,I)/\SV0 (w1,w2,U,Z,J,I)) ?_ λy hy=>ar hy
 refine ch U.length (λi x=>x.1=(i:Int)/\x.2=(w1,w2,U,Z,J,I)) ?_ ?_ ⟨rfl,rfl⟩
 .rintro i ⟨a,b⟩ hi ⟨e1,e2⟩;dsimp only at e1 e2;subst e1;subst e2;refine bK (λY=>?_) λY=>(by dsimp only[au] at Y;omega)
  refine cD (aT ?_);refine aY (λx=>x.2=(w1,w2,U,Z,J,I)) ?_ ?_
  .with_reducible repeat' first|(refine OS.ok ?_;constructor)|refine IM.mk λ_=>?_
   all_goals try simp only[au,qW] at*
   all_goals first|omega|rfl
  .rintro⟨a,b⟩ e;dsimp only at e;subst e;with_reducible repeat' first|(refine OS.ok ?_;constructor)|refine IM.mk λ_=>?_
   .exact λh=>(by cases h)
   .dsimp only;exact⟨gM (by omega),rfl⟩
 rintro⟨a,b⟩ ⟨e1,e2⟩;dsimp only at e1 e2;subst e1;subst e2;refine bK (λY=>(by dsimp only[au] at Y;omega)) λ_=>?_
 refine ay (P:=λb=>b=ai->VL (w1,w2,U,Z,J,I)/\SV0 (w1,w2,U,Z,J,I)) ?_ λy hy=>ar hy
 refine ch I.length (λi x=>x.1=(i:Int)/\x.2=(w1,w2,U,Z,J,I)/\Lq J.length (I.take i)=af (if i=0 then (0,0) else ((aJ (T:=yk) I ((i-1:Nat):Int)).1,(aJ (T:=yk) I ((i-1:Nat):Int)).2.1+1))/\(¬i=0->(0:Int)<=(aJ (T:=yk) I ((i-1:Nat):Int)).2.1/\(i:Int)>(aJ (T:=yk) I ((i-1:Nat):Int)).2.1)) ?_ ?_ ⟨rfl,rfl,rfl,λh=>(h rfl).elim⟩
 .rintro i ⟨a,b⟩ hi ⟨e1,e2,e3,hpb⟩;dsimp only at e1 e2;subst e1;subst e2;have hw:¬(i:Int)=0->bn .i64 ((i:Int)-1)=((i-1:Nat):Int):=λh=>by rw[iu (by omega) (by omega)];omega
  have hnx:=Iu (T:=J.length) hi;rw[e3] at hnx;clear e3;refine bK (λY=>?_) λY=>(by dsimp only[au] at Y;omega)
  refine aY (λx=>x=(w1,w2,U,Z,J,I)/\Lq J.length (I.take (i+1))=af (((aJ (T:=yk) I (i:Int)).1,(aJ (T:=yk) I (i:Int)).2.1+1))/\(0:Int)<=(aJ (T:=yk) I (i:Int)).2.1/\((i+1:Nat):Int)>(aJ (T:=yk) I (i:Int)).2.1) ?_ ?_
  .refine cD (aT ?_);rw[hnx];generalize hz:aJ (T:=yk) I (i:Int)=z;obtain⟨(z1:Int),(z2:Int),(z3:Int)⟩:=z;dsimp only;refine aY (λx=>x.2=((w1,w2,U,Z,J,I),z1,z2,z3)/\(x.1=aj->0<=z1/\z1<J.length)) ?_ ?_
   .refine bK (λ_=>ar ⟨rfl,λh=>(by cases h)⟩) λg=>ar ⟨rfl,λh=>⟨g,?_⟩⟩
    rw[mc] at h;exact h
   rintro⟨c,y⟩ ⟨e,hzr⟩;dsimp only at e hzr;subst e;refine aP (λ_=>ar λh=>(by cases h)) λhzb=>?_
   obtain⟨z0,zT⟩:=hzr hzb;refine aY (λx=>x.2=((w1,w2,U,Z,J,I),z1,z2,z3)/\(x.1=ai->i=0\/¬(aJ (T:=yk) I ((i-1:Nat):Int)).1=z1)/\(x.1=aj->¬(i:Int)=0/\(aJ (T:=yk) I ((i-1:Nat):Int)).1=z1)) ?_ ?_
   .refine aK (λh=>ar ⟨rfl,λ_=>.inl (by have h:((i:Nat):Int)=0:=h;omega),λh=>(by cases h)⟩) λh=>?_
    rw[hw h];refine cD (aT (ar ⟨rfl,λh2=>.inr (by simpa using h2),λh2=>⟨h,by simpa using h2⟩⟩))
   rintro⟨c,y⟩ ⟨e,hc1,hc⟩;dsimp only at e hc1 hc;subst e;refine aP (λhct=>?_) λhcf=>?_
   .refine aY (λx=>x.2=(w1,w2,U,Z,J,I)/\(x.1=aj->z2=0/\(¬i=0->((aJ (T:=yk) I ((i-1:Nat):Int)).1:Int)<z1))) ?_ ?_
    .refine bY (λ_=>ar ⟨rfl,λh=>(by cases h)⟩) λhz2=>?_
     refine bK (λh=>?_) λM=>ar ⟨rfl,λ_=>⟨hz2,λh=>by have M:((i:Nat):Int)<=0:=M;omega⟩⟩
     have h:(0:Int)<((i:Nat):Int):=h;rw[hw (by omega)];refine cD (aT (ar ⟨rfl,λh2=>⟨hz2,λh3=>?_⟩⟩));rw[gi] at h2;have h4:=(hc1 hct).resolve_left h3;have h2:(aJ (T:=yk) I ((i-1:Nat):Int)).1<=z1:=h2;exact Int.lt_iff_le_and_ne.2 ⟨h2,h4⟩
    rintro⟨c,y⟩ ⟨e,hy⟩;dsimp only at e hy;subst e;refine aP (λ_=>ar λh=>(by cases h)) λh=>ar ⟨rfl,?_⟩
    obtain⟨q1,q2⟩:=hy h;have q1:z2=0:=q1;subst q1;refine ⟨?_,eE 0,by show _>(0:Int);omega⟩;unfold TK;by_cases M:i=0
    .subst M;rw[aE rfl];dsimp only;by_cases hz1:z1=0
     .subst hz1;rfl
     .rw[aA (λh=>hz1 h.1),aE ⟨by omega,zT,rfl⟩];rfl
    .have:=q2 M;rw[aA M];dsimp only;rw[aA (λh=>by omega),aE ⟨this,zT,rfl⟩];rfl
   .obtain⟨M,hpr⟩:=hc hcf;rw[hw M];refine cD (aT ?_);refine bY (λ_=>ar λh=>(by cases h)) λh=>ar ⟨rfl,?_⟩
    obtain⟨b0,b1⟩:=hpb (by omega);have h:z2=bn .i64 ((aJ (T:=yk) I ((i-1:Nat):Int)).2.1+1):=h;rw[iu (by omega) (by omega)] at h;refine ⟨?_,by omega,by omega⟩;rw[aA (by omega)];unfold TK;dsimp only;rw[aE ⟨hpr.symm,h⟩,hpr,h]
  .rintro x ⟨rfl,hx,hx2⟩;refine ar ?_;dsimp only;refine ⟨gM (by omega),rfl,?_,λ_=>hx2⟩;rw[aA (by omega)];exact hx
 .rintro⟨a,b⟩ ⟨e1,e2,e3,_⟩;dsimp only at e1 e2;subst e1;subst e2;refine bK (λY=>(by dsimp only[au] at Y;omega)) λ_=>?_
  rw[cR] at e3;exact ar λ_=>⟨hv,by unfold SV0;dsimp only;rw[e3];simp⟩
def tI (e:ET):Bool:=decide (e.2.1=3)||decide (e.2.1=23)
def fl (l:List ET) (t:Int):List Bool:=(l.filter λe=>decide (e.1=t)).map tI
def Ld (l:List ET) (t y:Int):Prop:=0<=y/\(fl l t).getD y.toNat aj=ai
theorem uI (l m:List ET) (t:Int):fl (l++m) t=fl l t++fl m t:=by unfold fl;rw[List.filter_append,cP]
theorem zG {e:ET} {t:Int} (h:e.1=t):fl [e] t=[tI e]:=by unfold fl;simp[h]
theorem wR {e:ET} {t:Int} (h:¬e.1=t):fl [e] t=[]:=by unfold fl;simp[h]
theorem Ld.app {l:List ET} {t y:Int} (h:Ld l t y) (m:List ET):Ld (l++m) t y:=by
 obtain⟨h0,h1⟩:=h;refine ⟨h0,?_⟩;rw[uI];rw[ax] at h1 ⊢;rcases b9 y.toNat (fl l t).length with g|g
 .rw[bJ g];exact h1
 .rw[bR g] at h1;cases h1
theorem Ld.lt {l:List ET} {t y:Int} (h:Ld l t y):y<(fl l t).length:=by
 obtain⟨h0,h1⟩:=h;rcases b9 y.toNat (fl l t).length with g|g
 .omega
 .rw[ax,bR g] at h1;cases h1
theorem Ld.last {l:List ET} {e:ET} {y:Int} (h:tI e=ai) (I:y=(fl l e.1).length):Ld (l++[e]) e.1 y:=by
 subst I;refine ⟨by omega,?_⟩;rw[uI,zG rfl,ax,bW (by simp),h];simp
theorem W7 (l:List ET) (t:Int):(fl l t).length<=l.length:=by unfold fl;rw[bP];exact List.length_filter_le ..
structure SCx (w:WT) (l:List ET) (sy:SY) (ce fu:List Int) (e:ET):Prop where
 en:EN w sy e.1 e.2.1 e.2.2.1
 rd:Wa w sy e.1 e.2.1 e.2.2.1
 s1:e.2.1=1\/e.2.1=2->e.2.2.2.2.1= -1
 s2:¬(e.2.1=1\/e.2.1=2)->0<=e.2.2.2.2.1/\e.2.2.2.2.1<w.2.2.2.2.2.length/\(aJ (T:=yk) w.2.2.2.2.2 e.2.2.2.2.1).1=e.1
 de:0<e.2.2.2.2.2.1.length->e.2.1=5\/(e.2.1=3\/e.2.1=4)/\¬(aJ (T:=NX) w.1 e.2.2.1).2.2.1=0
 fr:0<e.2.2.2.2.2.2.length->e.2.1=4\/e.2.1=22
 nd:AN (fl l e.1).length e.2.2.2.2.2.1
 nf:AN (fl l e.1).length e.2.2.2.2.2.2
 rd1:∀ y∈e.2.2.2.2.2.1,Ld l e.1 y
 rd2:∀ y∈e.2.2.2.2.2.2,Ld l e.1 y
 va:VA w sy ce fu e.1 e.2.1 e.2.2.1 e.2.2.2.1
def XS:Nat->List (Int×Int×Bool)
 |0=>[]
 |n+1=>(1,0,aj)::aG n (0,0,aj)
def P1 (w:WT):SY:=(aG w.2.1.length (-1,[]),-1,aG w.2.2.2.1.length aj,XS w.2.2.2.2.1.length)
def ce0 (w:WT):List Int:=w.1.map λc=>c.2.2.2.2
def fu0 (w:WT):List Int:=aG w.2.2.2.1.length 0
inductive Acw (w:WT):List ET->SY->List Int->List Int->Prop
 |nil:Acw w [] (P1 w) (ce0 w) (fu0 w)
 |snoc {l:List ET} {sy:SY} {ce fu:List Int} {e:ET} (h:Acw w l sy ce fu) (hs:SCx w l sy ce fu e):Acw w (l++[e]) (rc w sy e.1 e.2.1 e.2.2.1 e.2.2.2.1).1 (YX ce e) (ZM fu e)
theorem Z2 (i:Nat):XS (i+2)=XS (i+1)++[(0,0,aj)]:=by
 show (1,0,aj)::aG (i+1) (0,0,aj)=(1,0,aj)::aG i (0,0,aj)++[(0,0,aj)]
 rw[El,gr]
theorem HX:∀ n,(XS n).length=n
 |0=>rfl
 |n+1=>by simp[XS]
theorem K4 (w:WT) (h:VL w):rn w=af (P1 w):=by
 obtain⟨w1,I,Z,J,U,Y⟩:=w;obtain⟨h1,h2,h3,h4,_,h5,h6⟩:=h;dsimp only at*
 refine cE ?_;unfold rn aV bh bw cu dh cN eZ bd bB bF aX cK aF cA;refine ch I.length (λi x=>x.1=(i:Int)/\x.2.1=(w1,I,Z,J,U,Y)/\x.2.2.2=(-1,aG i (-1,[]))) ?_ ?_ ⟨rfl,rfl,rfl⟩
 .rintro i ⟨a,b,c,d,e⟩ hi ⟨e1,e2,e3⟩;simp only[aD] at e1 e2 e3;obtain⟨rfl,rfl⟩:=e3;subst e1;subst e2;with_reducible repeat' first|(refine OS.ok ?_;constructor)|refine IM.mk λ_=>?_
  all_goals try simp only[au,qW] at*
  all_goals first|omega|(simp;omega)|skip
  exact⟨gM (by omega),by rw[El]⟩
 rintro⟨a,b,c,d,e⟩ ⟨e1,e2,e3⟩;simp only[aD] at e1 e2 e3;obtain⟨rfl,rfl⟩:=e3;subst e1;subst e2;refine bK (λM=>(by dsimp only[au] at M;omega)) λ_=>?_
 refine ay (P:=λs=>s=P1 (w1,I,Z,J,U,Y)) ?_ λy hy=>ar hy
 refine ch J.length (λi x=>x.1=(i:Int)/\x.2.1=(w1,I,Z,J,U,Y)/\x.2.2.2=(-1,aG I.length (-1,[]),aG i aj)) ?_ ?_ ⟨rfl,rfl,rfl⟩
 .rintro i ⟨a,b,c,d,e',f⟩ hi ⟨e1,e2,e3⟩;simp only[aD] at e1 e2 e3;obtain⟨rfl,rfl,rfl⟩:=e3;subst e1;subst e2;with_reducible repeat' first|(refine OS.ok ?_;constructor)|refine IM.mk λ_=>?_
  all_goals try simp only[au,qW] at*
  all_goals first|omega|(simp;omega)|skip
  exact⟨gM (by omega),by rw[El]⟩
 rintro⟨a,b,c,d,e',f⟩ ⟨e1,e2,e3⟩;simp only[aD] at e1 e2 e3;obtain⟨rfl,rfl,rfl⟩:=e3;subst e1;subst e2;refine bK (λM=>(by dsimp only[au] at M;omega)) λ_=>?_
 refine ay (P:=λs=>s=P1 (w1,I,Z,J,U,Y)) ?_ λy hy=>ar hy
 refine ch U.length (λi x=>x.1=(i:Int)/\x.2.1=(w1,I,Z,J,U,Y)/\x.2.2.2=(-1,aG I.length (-1,[]),aG J.length aj,XS i)) ?_ ?_ ⟨rfl,rfl,rfl⟩
 .rintro i ⟨a,b,c,d,e'',f',g⟩ hi ⟨e1,e2,e3⟩;simp only[aD] at e1 e2 e3;obtain⟨rfl,rfl,rfl,rfl⟩:=e3;subst e1;subst e2;have hl:=HX i;refine bK (λ_=>?_) λM=>(by dsimp only[au] at M;omega)
  refine gA (aK (λh0=>ar ?_) λh0=>ar ?_)
  .have h0:((i:Nat):Int)=0:=h0;have h0:i=0:=by omega
   subst h0;exact bi (by simp[XS]) (by omega) (ar ⟨rfl,rfl,rfl⟩)
  .have h0:¬((i:Nat):Int)=0:=h0;obtain⟨j,rfl⟩:∃ j,i=j+1:=⟨i-1,by omega⟩
   refine bi (by dsimp only;rw[hl];simp;omega) (by omega) (ar ⟨gM (by omega),rfl,?_⟩);dsimp only;rw[Z2]
 rintro⟨a,b,c,d,e'',f',g⟩ ⟨e1,e2,e3⟩;simp only[aD] at e1 e2 e3;obtain⟨rfl,rfl,rfl,rfl⟩:=e3;subst e1;subst e2;refine bK (λM=>(by dsimp only[au] at M;omega)) λ_=>ar rfl
theorem T_ {w:WT} (h:VL w):SB 0 (P1 w):=by
 obtain⟨h1,h2,U,M,_,J,I⟩:=h;refine ⟨by omega,by simp[P1];omega,λl hl=>?_,by simp[P1];omega,by simp[P1,HX];omega⟩;rw[pI hl];simp
theorem K3 (w:WT) (h:VL w):mS w=af (P1 w,ce0 w,fu0 w,aG w.2.2.2.2.1.length 0):=by
 have hs:=K4 w h;have hd:(P1 w)=P1 w:=rfl;obtain⟨I,Z,Y,M,J,U⟩:=w;obtain⟨h1,h2,h3,h4,_,h5,h6⟩:=h;dsimp only at*
 refine cE ?_;unfold mS aV bh bw bL cN bB bF bH aX cK aF cA;refine aU hs ?_;with_reducible repeat' first|(refine OS.ok ?_;constructor)|refine IM.mk λ_=>?_
 all_goals try simp only[au,qW] at*
 all_goals first|omega|skip
 refine ch I.length (λi x=>x.1=(i:Int)/\x.2.1=(I,Z,Y,M,J,U)/\x.2.2.2=(P1 (I,Z,Y,M,J,U),(I.take i).map (λc=>c.2.2.2.2),aG M.length 0,aG J.length 0)) ?_ ?_ ⟨rfl,rfl,rfl⟩
 .rintro i ⟨a,b,c,d,e,f,g⟩ hi ⟨e1,e2,e3⟩;simp only[aD] at e1 e2 e3;obtain⟨rfl,rfl,rfl,rfl⟩:=e3;subst e1;subst e2;with_reducible repeat' first|(refine OS.ok ?_;constructor)|refine IM.mk λ_=>?_
  all_goals try simp only[au,qW] at*
  all_goals first|omega|(simp;omega)|skip
  exact⟨gM (by omega),by rw[oo (T:=NX) hi,cP];rfl⟩
 rintro⟨a,b,c,d,e,f,g⟩ ⟨e1,e2,e3⟩;simp only[aD] at e1 e2 e3;obtain⟨rfl,rfl,rfl,rfl⟩:=e3;subst e1;subst e2;refine bK (λg4=>(by dsimp only[au] at g4;omega)) λ_=>ar ?_
 rw[cR];rfl
theorem V8 (w:WT) (h:VL w):Ok (mS w) λs=>NB 0 s/\s.2.1.length=w.1.length/\s.2.2.1.length=w.2.2.2.1.length/\s.2.2.2.length=w.2.2.2.2.1.length:=
 am9 (K3 w h) ⟨⟨T_ h,by have:=h.c;simp[ce0];omega,by have:=h.f;simp[fu0];omega,by have:=h.t;simp;omega⟩,by simp[ce0],by simp[fu0],by simp⟩
theorem Qs (l:List ET) (i t:Int) (I:List Int) (hl:l.length<=1000000000) (hi:0<=i/\i<=l.length) (hn:I.length<=1000000000):Ok (rk (l,i,t,I)) λb=>b=ai->∀ y∈I,Ld (l.take i.toNat) t y:=by
 unfold rk aV bL bd bB il bH aX cK aF cA;refine ch I.length (λk x=>x=(k:Int)/\∀ j:Nat,j<k->Ld (l.take i.toNat) t (aJ (T:=.int .i64) I (j:Int))) ?_ ?_ ⟨rfl,λj hj=>(by omega)⟩
 .rintro k x hk ⟨rfl,Y⟩;refine bK (λM=>?_) λM=>(by dsimp only[au] at M;omega)
  refine qf (λx=>(i-x.2.2).toNat) (λx=>0<=x.2.2/\x.2.2<=i/\x.1=((fl (l.take x.2.2.toNat) t).length:Int)/\(x.2.1=ai->Ld (l.take x.2.2.toNat) t (aJ (T:=.int .i64) I (k:Int)))) ?_ ⟨by simp,hi.1,by simp[fl],λh=>(by cases h)⟩;rintro⟨a,b,(c:Int)⟩ ⟨U,c1,Z,hb⟩;dsimp only at U c1 Z hb;subst Z;obtain⟨c,rfl⟩:∃ n:Nat,c=(n:Int):=⟨c.toNat,by omega⟩
  rw[dA] at hb;dsimp only;rw[dA];have hfl:=W7 (l.take c) t;have htl:=qd c l;refine bK (λJ=>?_) λJ=>?_
  .have J:(c:Int)<i:=J;have htk:l.take (c+1)=l.take c++[aJ (T:=tE) l (c:Int)]:=oo (T:=tE) (by omega);refine aY (λy=>y.1=((fl (l.take (c+1)) t).length:Int)/\(y.2=ai->Ld (l.take (c+1)) t (aJ (T:=.int .i64) I (k:Int)))) ?_ ?_
   .rw[htk,uI];refine aR U (by first|omega|(dsimp only;omega)) (aT ?_);refine bY (λhne=>ar ⟨by rw[wR hne];simp,λh=>(hb h).app _⟩) λhe=>?_
    have he:(aJ (T:=tE) l (c:Int)).1=t:=he;refine aY (λy=>y=ai->Ld (l.take c++[aJ (T:=tE) l (c:Int)]) t (aJ (T:=.int .i64) I (k:Int))) ?_ λy hy=>ar ⟨?_,hy⟩
    .refine aP (λh=>ar λ_=>(hb h).app _) λ_=>?_
     refine aR (by omega) (by first|omega|(dsimp only;omega)) (aT ?_);refine aK (λhn=>?_) λ_=>ar λh=>(by cases h)
     have hq:tI (aJ (T:=tE) l (c:Int))=ai->Ld (l.take c++[aJ (T:=tE) l (c:Int)]) t (aJ (T:=.int .i64) I (k:Int)):=λh=>by
      rw[<- he] at hn ⊢;exact Ld.last h hn.symm
     refine aR U (by first|omega|(dsimp only;omega)) (aT ?_);refine aK (λh=>ar λ_=>hq (by unfold tI;rw[aO h];rfl)) λ_=>?_
     exact aR U (by first|omega|(dsimp only;omega)) (aT (ar λh=>hq (by unfold tI;rw[h];simp)))
    .dsimp only;rw[zG he,gM (by omega)];simp
   .rintro⟨p,q⟩ ⟨hp,hq⟩;refine ar ?_;dsimp only at hp hq ⊢;rw[gM (by omega),dA];exact⟨⟨by omega,by omega,hp,hq⟩,by omega⟩
  .refine ay (P:=λr=>match r with|.inl y=>y=((k+1:Nat):Int)/\∀ j:Nat,j<k+1->Ld (l.take i.toNat) t (aJ (T:=.int .i64) I (j:Int))|.inr r=>r=ai->∀ y∈I,Ld (l.take i.toNat) t y) ?_ λr hr=>ar ?_
   .refine dW (λ_=>ar λh=>(by cases h)) λh=>ar ⟨gM (by omega),λj hj=>?_⟩
    rcases b9 j k with h1|h1
    .exact Y j h1
    .have:=hb h;have hci:c=i.toNat:=by have J:i<=(c:Int):=J;omega
     rw[show j=k by omega,<-hci];exact this
   .cases r with
    |inl y=>exact hr
    |inr r=>exact hr
 .rintro x ⟨rfl,Y⟩;refine bK (λM=>(by dsimp only[au] at M;omega)) λ_=>ar λ_=>iC (T:=.int .i64) Y
def CN (l:List ET) (c:List Int):Prop:=∀ t:Int,0<=t->t<c.length->aJ (T:=.int .i64) c t=((fl l t).length:Int)
theorem rM {T:Ty} (xs:List T.den) (j k:Int) (x:T.den) (hj:0<=j) (I:j<xs.length) (hk:0<=k):aJ (ct xs j x) k=if k=j then x else aJ xs k:=by
 unfold aJ ct;rw[ax,ax,o7];by_cases h:k=j
 .subst h;rw[aE rfl,aE rfl,aE (by omega)];rfl
 .rw[aA (by omega),aA h]
theorem CN.next {l:List ET} {c:List Int} (h:CN l c) (e:ET) (h0:0<=e.1) (h1:e.1<c.length) (hl:l.length<1000000):CN (l++[e]) (ct c e.1 (bn .i64 (aJ (T:=.int .i64) c e.1+1))):=λt t0 t1=>by
 rw[bU] at t1;have:=W7 l e.1;rw[rM (T:=.int .i64) _ _ _ _ h0 h1 t0,uI];split
 .rename_i h2;subst h2;rw[zG rfl,h _ h0 h1,gM (by omega)];simp
 .rename_i h2;rw[wR λI=>h2 I.symm,h _ t0 t1];simp
structure EvF (w:WT) (e:ET):Prop where
 nm:NM w e.2.1 e.2.2.1
 t0:0<=e.1
 t1:e.1<w.2.2.2.2.1.length
 cd:∀ c∈w.2.2.1,0<=c.2/\c.2<w.2.1.length
theorem adl (w:WT) (l:List ET) (hd:∀ e∈l,e.2.2.2.2.2.1.length<=1000000000/\e.2.2.2.2.2.2.length<=1000000000):Ok (uk (w,l)) λy=>y.2=0->(VL w/\SV0 w)/\(∀ e∈l,EvF w e)/\∃ sy ce fu,Acw w l sy ce fu:=by
 unfold uk cu bL eZ bB bH aX cK aF cA;refine bK (λ_=>ar λh=>(by cases h)) λhl=>?_
 dsimp only[au] at hl;refine ay (Bw w) λb hb=>?_
 refine dW (λ_=>ar λh=>(by cases h)) λh=>?_
 obtain⟨hv,hsv⟩:=hb h;refine aU (K3 w hv) ?_;have hs:NB 0 (P1 w,ce0 w,fu0 w,aG w.2.2.2.2.1.length 0):=⟨T_ hv,by have:=hv.c;simp[ce0];omega,by have:=hv.f;simp[fu0];omega,by have:=hv.t;simp;omega⟩
 have hw:w.2.2.1.length<=1000:=by have:=hv.d;omega
 refine ch l.length (λi x=>x.1=(i:Int)/\x.2.1=(w,l)/\NB i x.2.2/\(∀ k:Nat,k<i->EvF w (aJ (T:=tE) l (k:Int)))/\Acw w (l.take i) x.2.2.1 x.2.2.2.1 x.2.2.2.2.1/\CN (l.take i) x.2.2.2.2.2/\x.2.2.2.2.2.length=w.2.2.2.2.1.length) ?_ ?_ ⟨rfl,rfl,hs,λk hk=>(by omega),.nil,λt t0 t1=>?_,by simp⟩
 .rintro i ⟨a,b,s⟩ hi ⟨e1,e2,e3,Y,U,e6,Z⟩;dsimp only at e1 e2 e3 Y U e6 Z;subst e1;subst e2;refine bK (λI=>?_) λI=>(by dsimp only[au] at I;omega)
  refine cD (aT ?_);have hmem:=bI (T:=tE) (xs:=l) (j:=(i:Int)) (by omega) (by omega);obtain⟨d1,d2⟩:=hd _ hmem;refine ay (FI w s e3 hw _ d1 d2) λy hy=>?_
  refine aY (λx=>x.2.1=(w,l)/\x.2.2.2=y.1/\(x.1=aj->y.2=ai/\(∀ z∈(aJ (T:=tE) l (i:Int)).2.2.2.2.2.1,Ld (l.take i) (aJ (T:=tE) l (i:Int)).1 z)/\∀ z∈(aJ (T:=tE) l (i:Int)).2.2.2.2.2.2,Ld (l.take i) (aJ (T:=tE) l (i:Int)).1 z)) ?_ ?_
  .refine dW (λ_=>ar ⟨rfl,rfl,λh=>(by cases h)⟩) λh=>?_
   refine ay (Qs l _ _ _ (by omega) ⟨by dsimp only;omega,by dsimp only;omega⟩ d1) λb1 hr1=>?_
   refine dW (λ_=>ar ⟨rfl,rfl,λh=>(by cases h)⟩) λhb1=>?_
   refine ay (Qs l _ _ _ (by omega) ⟨by dsimp only;omega,by dsimp only;omega⟩ d2) λb2 hr2=>ar ⟨rfl,rfl,λhb2=>⟨h,hr1 hb1,hr2 (by simpa using hb2)⟩⟩
  .rintro⟨c,p,q,r⟩ ⟨f1,f2,f3⟩;dsimp only at f1 f2 f3;subst f1;subst f2;refine aP (λ_=>ar λh=>(by cases h)) λh=>?_
   obtain⟨f4,r1,r2⟩:=f3 h;obtain⟨J,g2,M,I⟩:=hy.1 f4;refine ar ?_;dsimp only;have htk:l.take (i+1)=l.take i++[aJ (T:=tE) l (i:Int)]:=oo (T:=tE) hi;have hc:=e6 _ J.t0 (by rw[Z];exact J.t1);have hnx:=gQ Prod.fst I;have hac:=U.snoc (e:=aJ (T:=tE) l (i:Int)) ⟨J,M.rd,M.s1,M.s2,M.de,M.fr,by rw[<- hc];exact M.nd,by rw[<- hc];exact M.nf,r1,r2,M.va⟩;refine ⟨gM (by omega),rfl,g2.NB e3 (by omega),λk hk=>?_,by rw[htk,I];exact hac,by rw[htk,I];exact e6.next _ J.t0 (by rw[Z];exact J.t1) (by rw[bA];omega),by rw[I];unfold nxP;rw[bU];exact Z⟩;rcases b9 k i with h1|h1
   .exact Y k h1
   .rw[show k=i by omega];exact⟨J.nm,J.t0,J.t1,J.cd⟩
 .rintro⟨a,b,s⟩ ⟨e1,e2,e3,Y,U,_⟩;dsimp only at e1 e2 e3 Y U;subst e1;subst e2;rw[cR] at U;refine bK (λI=>(by dsimp only[au] at I;omega)) λ_=>ar λ_=>⟨⟨hv,hsv⟩,iC (T:=tE) Y,_,_,_,U⟩
 .rw[eR] at t1;obtain⟨t,rfl⟩:∃ n:Nat,t=(n:Int):=⟨t.toNat,by omega⟩
  rw[OT,ax,lA];split<;>simp[fl]
structure TP (t:List Int×Int):Prop where
 l0:t.1.length<=9223372036854775807
 by_:∀ x∈t.1,0<=x/\x<=255
 a0:0<=t.2
 a1:t.2<=t.1.length
structure uZ (t t':List Int×Int):Prop where
 e:t'.1=t.1
 m:t.2<=t'.2
 p:TP t'
theorem uZ.refl {t:List Int×Int} (h:TP t):uZ t t:=⟨rfl,eE _,h⟩
theorem uZ.trans {a b c:List Int×Int} (h:uZ a b) (g:uZ b c):uZ a c:=⟨g.e.trans h.e,Int.le_trans h.m g.m,g.p⟩
theorem gm (n:Int) (t:List Int×Int) (h:TP t):Ok (bx (n,t)) λy=>uZ t y.2/\0<=y.1/\(1<=n->y.1<n)/\(t.2<t.1.length->1<=n->t.2<y.2.2):=by
 obtain⟨L,a⟩:=t;have U:=h;obtain⟨l0,hb,a0,a1⟩:=h;dsimp only at l0 hb a0 a1;unfold bx j7 bF bH aX aF cA;refine aY (λx=>x.2=(L,a)/\(x.1=ai->a=L.length\/n<1)/\(x.1=aj->a<L.length/\1<=n)) ?_ ?_
 .refine gh (λh=>ar ⟨rfl,λ_=>?_,λh=>(by cases h)⟩) λh=>ar ⟨rfl,λh2=>?_,λh2=>?_⟩
  .dsimp only[au] at h;omega
  .rw[tP] at h2;exact .inr h2
  .rw[gi] at h2;dsimp only[au] at h h2;omega
 rintro⟨b,x⟩ ⟨e,h1,h2⟩;dsimp only at e h1 h2;subst e;refine aP (λh=>ar ⟨uZ.refl U,eE _,λM=>(by dsimp only;omega),λM Z=>?_⟩) λh=>?_
 .have:=h1 h;dsimp only at M;omega
 obtain⟨J,Y⟩:=h2 h;refine aT ?_;have e1:bn .i64 (a+1)=a+1:=iu (by omega) (by omega);dsimp only;rw[e1,iu (n:=a+1-1) (by omega) (by omega),show a+1-1=a by omega];have I:=hb _ (bI (T:=.int .u8) (xs:=L) (j:=a) a0 J);refine aR a0 J (aT ?_);generalize (aJ _ a)=z at I;have I:0<=z/\z<=255:=I;rw[iu (n:=z) (by omega) (by omega)];refine zf (by omega) (ar ?_);dsimp only;refine ⟨⟨rfl,by dsimp only;omega,⟨l0,hb,by dsimp only;omega,by dsimp only;omega⟩⟩,Int.tmod_nonneg _ I.1,λ_=>?_,λ_ _=>by omega⟩;exact Int.tmod_lt_of_pos _ (by omega)
theorem TX (s:SY) (hs:s.2.2.2.length<=1000) (y:List Int×List Int×List Int):Ok (k_ (s,y)) λl=>l.length<=s.2.2.2.length:=by
 unfold k_ bL bd bB bF bH aX cK aF cA;refine ch s.2.2.2.length (λi x=>x.1=(i:Int)/\x.2.length<=i) ?_ ?_ ⟨rfl,by simp⟩
 .rintro i ⟨a,b⟩ hi ⟨e1,e2⟩;dsimp only at e1 e2;subst e1;with_reducible repeat' first|(refine OS.ok ?_;constructor)|refine IM.mk λ_=>?_
  all_goals try simp only[au,qW] at*
  all_goals first|omega|(simp;omega)|skip
  .exact⟨gM (by omega),by simp;omega⟩
  .exact⟨gM (by omega),by omega⟩
 .rintro⟨a,b⟩ ⟨e1,e2⟩;dsimp only at e1 e2;subst e1;refine bK (λI=>(by dsimp only[au] at I;omega)) λ_=>ar e2
theorem X6 (k u:Int) (t:List Int×Int) (h:TP t):Ok (oM ((k,u),t)) λy=>uZ t y.2/\(k=3\/k=4->0<=y.1/\y.1<5):=by
 unfold oM bd kJ aF cA;rcases @I5 k with rfl|rfl|rfl|rfl|rfl|rfl|rfl|rfl|rfl|rfl|rfl|rfl|rfl|rfl|rfl|rfl|rfl|rfl|rfl|rfl|rfl|rfl|rfl|⟨hk,J⟩
 case inr.inr.inr.inr.inr.inr.inr.inr.inr.inr.inr.inr.inr.inr.inr.inr.inr.inr.inr.inr.inr.inr.inr=>
  simp only[hk 1 (by decide) (by decide),hk 2 (by decide) (by decide),hk 3 (by decide) (by decide),hk 4 (by decide) (by decide),hk 5 (by decide) (by decide),hk 6 (by decide) (by decide),hk 7 (by decide) (by decide),hk 8 (by decide) (by decide),hk 9 (by decide) (by decide),hk 10 (by decide) (by decide),hk 11 (by decide) (by decide),hk 12 (by decide) (by decide),hk 13 (by decide) (by decide),hk 14 (by decide) (by decide),hk 15 (by decide) (by decide),hk 16 (by decide) (by decide),hk 17 (by decide) (by decide),hk 18 (by decide) (by decide),hk 19 (by decide) (by decide),hk 20 (by decide) (by decide),hk 21 (by decide) (by decide),hk 22 (by decide) (by decide),hk 23 (by decide) (by decide),aZ,bp,tj];exact ar ⟨uZ.refl h,λh=>(by first|omega|(simp at h;done)|(rcases h with h|h<;>cases h;done))⟩
 all_goals simp only[aZ,bp,tj]
 all_goals first
  |exact ar ⟨uZ.refl h,λh=>(by first|omega|(simp at h;done)|(rcases h with h|h<;>cases h;done))⟩
  |exact ay (gm 2 t h) λy I=>ar ⟨I.1,λh=>(by first|omega|(simp at h;done)|(rcases h with h|h<;>cases h;done))⟩
  |exact ay (gm 3 t h) λy I=>ar ⟨I.1,λh=>(by first|omega|(simp at h;done)|(rcases h with h|h<;>cases h;done))⟩
  |skip
 all_goals
  refine ay (gm 8 t h) λy I=>?_
  have h1:=I.2.1;have h2:=I.2.2.1 (by omega);refine aR h1 (by simp;omega) (aR h1 (by simp;omega) (aT (ar ⟨I.1,λ_=>?_⟩)));have:∀ z:Int,z∈([0,0,0,1,1,2,3,4]:List Int)->0<=z/\z<5:=by decide
  exact this _ (bI (T:=.int .i64) h1 (by simp;omega))
structure SZ (n:Nat) (s:SN):Prop where
 nb:NB n s
 c:s.2.1.length=5
 f:s.2.2.1.length=1
 k:s.2.2.2.length=4
theorem SZ.step {n:Nat} {s y:SN} (h:SZ n s) (hp:SP n s y) (hn:n+1<=100000):SZ (n+1) y:=
 ⟨hp.NB h.nb hn,by rw[hp.c];exact h.c,by rw[hp.f];exact h.f,by rw[hp.k];exact h.k⟩
theorem XU {n:Nat} (s:SN) (hs:SZ n s) (k o:Int) (M:k=3->0<=o/\o<5) (t:List Int×Int) (h:TP t):Ok (ql ((s,k,o),t)) λy=>uZ t y.2:=by
 obtain⟨s1,s2,Y,U⟩:=s;have hc:=hs.c;have hf:=hs.f;have hth:=hs.nb.sb.th;dsimp only at hc hf hth;have J:=TX s1 hth (s2,Y,U);unfold ql aV bd bB bH aX aF;rcases @I5 k with rfl|rfl|rfl|rfl|rfl|rfl|rfl|rfl|rfl|rfl|rfl|rfl|rfl|rfl|rfl|rfl|rfl|rfl|rfl|rfl|rfl|rfl|rfl|⟨hk,Z⟩
 case inr.inr.inr.inr.inr.inr.inr.inr.inr.inr.inr.inr.inr.inr.inr.inr.inr.inr.inr.inr.inr.inr.inr=>
  simp only[hk 1 (by decide) (by decide),hk 2 (by decide) (by decide),hk 3 (by decide) (by decide),hk 4 (by decide) (by decide),hk 5 (by decide) (by decide),hk 6 (by decide) (by decide),hk 7 (by decide) (by decide),hk 8 (by decide) (by decide),hk 9 (by decide) (by decide),hk 10 (by decide) (by decide),hk 11 (by decide) (by decide),hk 12 (by decide) (by decide),hk 13 (by decide) (by decide),hk 14 (by decide) (by decide),hk 15 (by decide) (by decide),hk 16 (by decide) (by decide),hk 17 (by decide) (by decide),hk 18 (by decide) (by decide),hk 19 (by decide) (by decide),hk 20 (by decide) (by decide),hk 21 (by decide) (by decide),hk 22 (by decide) (by decide),hk 23 (by decide) (by decide),aZ,bp,tj];exact ar (uZ.refl h)
 all_goals simp only[aZ,bp,tj]
 all_goals first
  |exact ar (uZ.refl h)
  |exact ay (gm 2 t h) λy I=>ar I.1
  |exact ay (gm 3 t h) λy I=>ar I.1
  |exact ay J λy I=>ar (uZ.refl h)
  |exact aR (by decide) (by omega) (aT (ar (uZ.refl h)))
  |exact aR (M rfl).1 (by have:=(M rfl).2;omega) (aT (ar (uZ.refl h)))
  |skip
 refine ay J λl hl=>?_
 refine bK (λh1=>?_) λ_=>ar (uZ.refl h)
 refine ay (gm _ t h) λy I=>?_
 dsimp only[au] at h1;have h2:=I.2.2.1 (by dsimp only[au];omega);exact aR I.2.1 h2 (aT (ar I.1))
theorem aeb (t:List Int×Int) (h:TP t) (r:List Int) (hr:r.length<=1000000):Ok (gB (t,r)) λy=>y.1.length<=r.length/\uZ t y.2.1/\y.2.2=r:=by
 unfold gB aV bL bB j7 bF kJ aX cK aF cA;refine ch r.length (λi x=>x.1=(i:Int)/\uZ t x.2.1/\x.2.2.1=r/\x.2.2.2.length<=i) ?_ ?_ ⟨rfl,uZ.refl h,rfl,by simp⟩
 .rintro i ⟨a,b,c,d⟩ hi ⟨e1,e2,e3,U⟩;dsimp only at e1 e2 e3 U;subst e1;subst e3;refine bK (λM=>?_) λM=>(by dsimp only[au] at M;omega)
  refine aY (λx=>uZ t x.1/\x.2.1=c/\x.2.2.length<=i+1) ?_ ?_
  .refine cD (cD (aT ?_));refine aY (λx=>uZ t x.2.1/\x.2.2=(c,d)) ?_ ?_
   .refine aP (λ_=>?_) λ_=>ar ⟨e2,rfl⟩
    exact ay (gm 2 b e2.p) λy Z=>ar ⟨e2.trans Z.1,rfl⟩
   .rintro⟨p,q,u⟩ ⟨I,J⟩;dsimp only at I J;subst J;refine aP (λ_=>?_) λ_=>ar ⟨I,rfl,by dsimp only;omega⟩
    exact bi (by simp;omega) (by omega) (ar ⟨I,rfl,by simp;omega⟩)
  .rintro⟨p,q,u⟩ ⟨I,J,Y⟩;dsimp only at I J Y;subst J;refine ar ?_;dsimp only;exact⟨gM (by omega),I,rfl,Y⟩
 .rintro⟨a,b,c,d⟩ ⟨e1,e2,e3,U⟩;dsimp only at e1 e2 e3 U;subst e1;subst e3;refine bK (λM=>(by dsimp only[au] at M;omega)) λ_=>ar ⟨U,e2,rfl⟩
theorem aax:tK ()=af [3,3,3,3,3,4,4,4,4,4,5,5,5,6,6,6,7,7,7,8,9,10,11,12,13,14,14,15,16,16,17,17,18,18,19,20,1,1,2,21,22,23,23]:=rfl
abbrev RR:Type:=List Int×List Int×List Int×List Int
structure RB4 (m:Nat) (r:RR):Prop where
 r0:r.1.length<=m
 r1:r.2.1.length<=m
 r2:r.2.2.1.length<=m
 r3:r.2.2.2.length<=m
theorem abp {n:Nat} (s:SN) (hs:SZ n s) (w:WT) (hw:w.1.length=5) (t:List Int×Int) (h:TP t) (r:RR) (hr:RB4 1000000 r):Ok (qm ((s,w),t,r)) λy=>uZ t y.2.1/\y.2.2=r/\(t.2<t.1.length->t.2<y.2.1.2)/\y.1.2.2.2.2.2.1.length<=1000000/\y.1.2.2.2.2.2.2.length<=1000000:=by
 obtain⟨r0,r1,r2,r3⟩:=r;obtain⟨h0,h1,h2,h3⟩:=hr;dsimp only at h0 h1 h2 h3;unfold qm xm Ek Prod.p12 aV bh bw cu dU iW ve xn Lj Prod.q12 cN eZ bd bF bH aX aF;refine ay (gm 4 t h) λy hy=>?_
 refine aU aax ?_;refine ay (gm _ y.2 hy.1.p) λz hz=>?_
 obtain⟨y1,yt⟩:=y;obtain⟨z1,zt⟩:=z;obtain⟨ty,yy0,yy1,yy2⟩:=hy;obtain⟨tz,zz0,zz1,_⟩:=hz;dsimp only at ty yy0 yy1 yy2 tz zz0 zz1;have yy1:=yy1 (by decide);have hzl:=zz1 (by decide);refine aR zz0 hzl (aT ?_);generalize (aJ _ z1)=k;refine ay (gm 6 zt tz.p) λv hv=>?_
 obtain⟨v1,vt⟩:=v;have tv:=hv.1;dsimp only at tv;have tt:=(ty.trans tz).trans tv;have hadv:t.2<t.1.length->t.2<vt.2:=λh=>by
  have:=yy2 h (by decide);have:=tz.m;have:=tv.m;omega
 refine aY (λx=>x.1=vt/\x.2.1=r0/\x.2.2.1=r1/\x.2.2.2.1=r2/\x.2.2.2.2.1=r3/\x.2.2.2.2.2.1=s/\x.2.2.2.2.2.2.1=w) ?_ ?_
 .refine aY (λx=>x.2.1=vt/\x.2.2.1=r0/\x.2.2.2.1=r1/\x.2.2.2.2.1=r2/\x.2.2.2.2.2.1=r3/\x.2.2.2.2.2.2.1=s/\x.2.2.2.2.2.2.2.1=w) ?_ ?_
  .with_reducible repeat' first|(refine OS.ok ?_;constructor)|refine IM.mk λ_=>?_
   all_goals exact⟨rfl,rfl,rfl,rfl,rfl,rfl,rfl⟩
  .rintro⟨p,q⟩ hq;dsimp only at hq;with_reducible repeat' first|(refine OS.ok ?_;constructor)|refine IM.mk λ_=>?_
   all_goals exact hq
 rintro⟨x1,x2,x3,x4,x5,x6,x7,x8,x9,x10⟩ ⟨J,Y,f3,f4,f5,f6,U⟩;dsimp only at J Y f3 f4 f5 f6 U;subst J;subst Y;subst f3;subst f4;subst f5;subst f6;subst U;refine ay (X6 _ _ _ tv.p) λo Z=>?_
 obtain⟨o1,ot⟩:=o;obtain⟨to,Z⟩:=Z;dsimp only at to Z;refine ay (XU _ hs _ _ (λhk=>Z (.inl hk)) _ to.p) λq hq=>?_
 obtain⟨q1,qt⟩:=q;dsimp only at hq;have M:=(tt.trans to).trans hq;have hadv2:t.2<t.1.length->t.2<qt.2:=λh=>by have:=hadv h;have:=to.m;have:=hq.m;omega
 have row:∀ (T:List Int×Int) (c:List Int) {R:Type} (k:List Int×((List Int×Int)×List Int)->Option R) (Q:R->Prop),uZ t T->c.length<=1000000->(∀ v T',uZ T T'->v.length<=1000000->Ok (k (v,T',c)) Q)->Ok (obind (gB (T,c)) k) Q:=λT c R k Q I hc hk=>by
  refine ay (aeb T I.p c hc) λy hy=>?_
  obtain⟨a,b,d⟩:=y;obtain⟨g1,g2,g3⟩:=hy;dsimp only at g1 g2 g3;subst g3;exact hk a b g2 (by omega)
 refine aY (λx=>uZ t x.1/\(t.2<t.1.length->t.2<x.1.2)/\x.2.1=x2/\x.2.2.1=x3/\x.2.2.2.1=x4/\x.2.2.2.2.1=x5/\x.2.2.2.2.2.2.2.2.2.2.2.length<=1000000) ?_ ?_
 .refine aY (λx=>x.2.1=qt/\x.2.2.1=x2/\x.2.2.2.1=x3/\x.2.2.2.2.1=x4/\x.2.2.2.2.2.1=x5) ?_ ?_
  .refine aK (λ_=>ar ⟨rfl,rfl,rfl,rfl,rfl⟩) λ_=>?_
   refine aK (λhk=>?_) λ_=>aK (λhk=>?_) λ_=>ar ⟨rfl,rfl,rfl,rfl,rfl⟩
   .exact aR (Z (.inl hk)).1 (by dsimp only;rw[hw];exact (Z (.inl hk)).2) (aT (ar ⟨rfl,rfl,rfl,rfl,rfl⟩))
   .exact aR (Z (.inr hk)).1 (by dsimp only;rw[hw];exact (Z (.inr hk)).2) (aT (ar ⟨rfl,rfl,rfl,rfl,rfl⟩))
  .rintro⟨b,p1,p2,p3,p4,p5,p6⟩ ⟨J,Y,f3,f4,f5⟩;dsimp only at J Y f3 f4 f5;subst J;subst Y;subst f3;subst f4;subst f5;refine aP (λ_=>?_) λ_=>ar ⟨M,hadv2,rfl,rfl,rfl,rfl,by simp⟩
   have adv3:∀ T',uZ p1 T'->t.2<t.1.length->t.2<T'.2:=λT' I h=>by have:=hadv2 h;have:=I.m;omega
   refine aK (λ_=>?_) λ_=>aK (λ_=>?_) λ_=>aK (λ_=>?_) λ_=>aK (λ_=>?_) λ_=>?_
   .refine row p1 p2 _ _ M h0 λv T' I hv=>?_
    refine cW (lD rfl (A_ ?_));exact ar ⟨M.trans I,adv3 T' I,rfl,rfl,rfl,rfl,hv⟩
   .refine row p1 p3 _ _ M h1 λv T' I hv=>?_
    refine cW (lD rfl (A_ ?_));exact ar ⟨M.trans I,adv3 T' I,rfl,rfl,rfl,rfl,hv⟩
   .refine row p1 p4 _ _ M h2 λv T' I hv=>?_
    refine cW (lD rfl (A_ ?_));exact ar ⟨M.trans I,adv3 T' I,rfl,rfl,rfl,rfl,hv⟩
   .refine row p1 p5 _ _ M h3 λv T' I hv=>?_
    refine cW (lD rfl (A_ ?_));exact ar ⟨M.trans I,adv3 T' I,rfl,rfl,rfl,rfl,hv⟩
   .omega
 rintro⟨u1,u2,u3,u4,u5,u6,u7,u8,u9,u10,u11,u12⟩ ⟨J,Y,f3,f4,f5,f6,U⟩;dsimp only at J Y f3 f4 f5 f6 U;subst f3;subst f4;subst f5;subst f6;refine aY (λx=>uZ t x.1/\(t.2<t.1.length->t.2<x.1.2)/\x.2.1=u2/\x.2.2.1=u3/\x.2.2.2.1=u4/\x.2.2.2.2.1=u5/\x.2.2.2.2.2.2.2.2.2.2.2.1.length<=1000000/\x.2.2.2.2.2.2.2.2.2.2.2.2.length<=1000000) ?_ ?_
 .refine aY (λx=>x.2=(u1,u2,u3,u4,u5,u6,u7,u8,u9,u10,u11,u12)) ?_ ?_
  .with_reducible repeat' first|(refine OS.ok ?_;constructor)|refine IM.mk λ_=>?_
   all_goals rfl
  .rintro⟨b,x⟩ e;dsimp only at e;subst e;refine aP (λ_=>?_) λ_=>ar ⟨J,Y,rfl,rfl,rfl,rfl,U,by simp⟩
   have adv3:∀ T',uZ u1 T'->t.2<t.1.length->t.2<T'.2:=λT' I h=>by have:=Y h;have:=I.m;omega
   refine aK (λ_=>?_) λ_=>aK (λ_=>?_) λ_=>aK (λ_=>?_) λ_=>aK (λ_=>?_) λ_=>?_
   .refine row u1 u2 _ _ J h0 λv T' I hv=>?_
    refine cW (lD rfl (A_ ?_));exact ar ⟨J.trans I,adv3 T' I,rfl,rfl,rfl,rfl,U,hv⟩
   .refine row u1 u3 _ _ J h1 λv T' I hv=>?_
    refine cW (lD rfl (A_ ?_));exact ar ⟨J.trans I,adv3 T' I,rfl,rfl,rfl,rfl,U,hv⟩
   .refine row u1 u4 _ _ J h2 λv T' I hv=>?_
    refine cW (lD rfl (A_ ?_));exact ar ⟨J.trans I,adv3 T' I,rfl,rfl,rfl,rfl,U,hv⟩
   .refine row u1 u5 _ _ J h3 λv T' I hv=>?_
    refine cW (lD rfl (A_ ?_));exact ar ⟨J.trans I,adv3 T' I,rfl,rfl,rfl,rfl,U,hv⟩
   .omega
 rintro⟨a1,a2,a3,a4,a5,a6,a7⟩ ⟨g1,g2,g3,g4,g5,g6,g7,g8⟩;dsimp only at g1 g2 g3 g4 g5 g6 g7 g8;subst g3;subst g4;subst g5;subst g6;exact ar ⟨g1,rfl,g2,g7,g8⟩
def Zu (e:ET):Prop:=e.2.2.2.2.2.1.length<=1000000/\e.2.2.2.2.2.2.length<=1000000
theorem aeh {m:Nat} (hm:m<=1000) (s:SN) (hs:SZ m s) (w:WT) (hw:w.1.length=5) (hwt:w.2.2.2.2.1.length=4) (hwc:w.2.2.1.length<=1000) (n:Int) (hn:n<=60) (t:List Int×Int) (h:TP t):Ok (sw ((s,w,n,aj),t)) λy=>(∀ e∈y.1,Zu e)/\y.1.length<=60:=by
 unfold sw aV bh bw cu dU iW ve xn Prod.q10 bL cN eZ mB nK NJ bd bB bF bH aX cK aF;refine cW (cW (cW (dx (by dsimp only[au];omega) (dx (eE _) (bi (by dsimp only[au];omega) (by omega) (WJ (by dsimp only[au];omega) ?_))))));refine aY (λx=>x=(t,s,w,[],[],[],[])) ⟨_,rfl,rfl⟩ ?_;rintro x rfl;refine qf (λx=>((t.1.length:Int)-x.1.2).toNat) (λx=>uZ t x.1/\x.2.2.1=w/\SZ (m+x.2.2.2.1.length) x.2.1/\x.2.2.2.1.length<=60/\(∀ e∈x.2.2.2.1,Zu e)/\RB4 x.2.2.2.1.length x.2.2.2.2) ?_ ⟨uZ.refl h,rfl,(by simpa using hs),by simp,λe he=>(by cases he),⟨by simp,by simp,by simp,by simp⟩⟩;rintro⟨I,s,w',out,r⟩ ⟨i1,i2,U,i4,i5,i6⟩;dsimp only at i1 i2 U i4 i5 i6;subst i2;refine aY (λx=>x.2=(I,s,w',out,r)/\(x.1=ai->out.length<60/\I.2<I.1.length)) ?_ ?_
 .refine bK (λh1=>ar ⟨rfl,λh2=>?_⟩) λ_=>ar ⟨rfl,λh=>(by cases h)⟩
  rw[tP] at h2;dsimp only[au] at h1 h2;exact⟨by omega,h2⟩
 rintro⟨b,x⟩ ⟨e,hb⟩;dsimp only at e hb;subst e;refine aP (λh1=>?_) λ_=>ar ⟨i5,i4⟩
 obtain⟨ho,ht⟩:=hb h1;obtain⟨q0,q1,q2,q3⟩:=id i6;refine aY (λx=>uZ I x.1/\I.2<x.1.2/\x.2.2.1=w'/\SZ (m+x.2.2.2.1.length) x.2.1/\x.2.2.2.1.length<=60/\(∀ e∈x.2.2.2.1,Zu e)/\RB4 x.2.2.2.1.length x.2.2.2.2) ?_ ?_
 .refine ay (abp s U w' hw I i1.p r ⟨by omega,by omega,by omega,by omega⟩) λy hy=>?_
  obtain⟨ev,tp',r'⟩:=y;obtain⟨j1,j2,j3,M,J⟩:=hy;dsimp only at j1 j2 j3 M J;subst j2;have j3:=j3 ht;refine cW (lD rfl (cW (lD rfl (cW (lD rfl (cW (lD rfl (A_ ?_))))))));refine ay (FI w' s U.nb hwc ev (by omega) (by omega)) λz hz=>?_
  refine dW (λ_=>ar ⟨j1,j3,rfl,U,i4,i5,i6⟩) λh2=>?_
  obtain⟨z1,z2⟩:=z;obtain⟨hE,hS,_⟩:=hz.1 h2;have hS2:=U.step hS (by omega);refine aY (λx=>x.1=tp'/\x.2.2.1=w'/\x.2.2.2.1=out/\Zu x.2.2.2.2.1/\x.2.2.2.2.2.1=z1/\RB4 (out.length+1) x.2.2.2.2.2.2) ?_ ?_
  .refine aY (λx=>x.2=(tp',s,w',out,ev,z1,r')) ?_ ?_
   .refine aK (λ_=>ar rfl) λ_=>ar rfl
   .rintro⟨b,x⟩ e;dsimp only at e;subst e;have hk:=U.k;obtain⟨ev1,ev2⟩:=ev;have t0:=hE.t0;have t1:=hE.t1;rw[hwt] at t1;dsimp only at t0 t1;refine aP (λ_=>?_) λ_=>ar ⟨rfl,rfl,rfl,⟨M,J⟩,rfl,⟨by dsimp only;omega,by dsimp only;omega,by dsimp only;omega,by dsimp only;omega⟩⟩
    refine aK (λ_=>?_) λ_=>aK (λ_=>?_) λ_=>aK (λ_=>?_) λ_=>aK (λ_=>?_) λ_=>?_
    .exact aR (by decide) (by dsimp only;omega) (aT (bi (by simp;omega) (by omega) (ar ⟨rfl,rfl,rfl,⟨M,J⟩,rfl,⟨by simp;omega,by dsimp only;omega,by dsimp only;omega,by dsimp only;omega⟩⟩)))
    .exact aR (by decide) (by dsimp only;omega) (aT (bi (by simp;omega) (by omega) (ar ⟨rfl,rfl,rfl,⟨M,J⟩,rfl,⟨by dsimp only;omega,by simp;omega,by dsimp only;omega,by dsimp only;omega⟩⟩)))
    .exact aR (by decide) (by dsimp only;omega) (aT (bi (by simp;omega) (by omega) (ar ⟨rfl,rfl,rfl,⟨M,J⟩,rfl,⟨by dsimp only;omega,by dsimp only;omega,by simp;omega,by dsimp only;omega⟩⟩)))
    .exact aR (by decide) (by dsimp only;omega) (aT (bi (by simp;omega) (by omega) (ar ⟨rfl,rfl,rfl,⟨M,J⟩,rfl,⟨by dsimp only;omega,by dsimp only;omega,by dsimp only;omega,by simp;omega⟩⟩)))
    .dsimp only at *;omega
  .rintro⟨x1,x2,x3,x4,x5,x6,x7⟩ ⟨k1,k2,k3,k4,Z,Y⟩;dsimp only at k1 k2 k3 k4 Z Y;subst k1;subst k2;subst k3;subst Z;refine bi (by simp;omega) (by omega) (ar ⟨j1,j3,rfl,?_,by simp;omega,λe he=>?_,?_⟩)
   .dsimp only;rw[bm,dV,<-sT];exact hS2
   .rcases bQ.1 he with he|he
    .exact i5 e he
    .rw[aL] at he;subst he;exact k4
   .dsimp only;rw[bm,dV];exact Y
 rintro⟨tp',s',w'',out',r'⟩ ⟨k1,k2,k3,k4,Z,Y,k7⟩;dsimp only at k1 k2 k3 k4 Z Y k7;have e1:=i1.e;have a1:=k1.p.a1;have e2:=k1.e;refine ar ⟨⟨i1.trans k1,k3,k4,Z,Y,k7⟩,?_⟩;dsimp only;rw[e2,e1] at a1;omega
def C0:List (List UInt8×Int×Int×Bool×Int):=[([120],0,0,aj,0),([121],0,0,aj,1),([118],0,0,ai,0),([113],0,2,aj,0),([113],1,2,aj,0)]
def Hc:List (List UInt8×Bool):=[([109],aj),([110],aj),([114],ai)]
def Mt:List (List UInt8×Int):=[([99],0)]
def Tp:List (List UInt8):=[[102]]
def wv:List (List UInt8):=[[109,97,105,110],[116,49],[116,50],[116,51]]
structure WX (w:WT):Prop where
 c:w.1=C0
 l:w.2.1=Hc
 d:w.2.2.1=Mt
 f:w.2.2.2.1=Tp
 t:∃ n,1<=n/\n<=4/\w.2.2.2.2.1=wv.take n
 s:w.2.2.2.2.2.length<=60
 v:SV0 w
structure W0 (w:WT):Prop where
 c:w.1.length=5
 l:w.2.1.length=3
 d:w.2.2.1.length=1
 f:w.2.2.2.1.length=1
 t:w.2.2.2.2.1.length=4
 s:w.2.2.2.2.2.length<=24
 x:WX w
theorem W0.vl {w:WT} (h:W0 w):VL w:=⟨by rw[h.c];decide,by rw[h.l];decide,by rw[h.d];decide,by rw[h.f];decide,by rw[h.t];decide,by rw[h.t];decide,by have:=h.s;omega⟩
def nxS (i j:Nat):Int×Int:=if j=0 then (if i=0 then (0,0) else ((i:Int)-1,6)) else (i,j)
theorem Wr {T:Int} {l:List (Int×Int×Int)} {s:Int×Int×Int}:Lq T (l++[s])=TK T (Lq T l) s:=by unfold Lq;rw[fM];rfl
theorem S9:Ok (nM ()) W0:=by
 unfold nM aV bh bw cu eZ bB bF cK aF cA;refine ch 4 (λi x=>x.1=(i:Int)/\x.2.1=C0/\x.2.2.1=Hc/\x.2.2.2.1=Mt/\x.2.2.2.2.1=Tp/\x.2.2.2.2.2.1=wv/\x.2.2.2.2.2.2.length<=6*i/\Lq 4 x.2.2.2.2.2.2=af (nxS i 0)) ?_ ?_ ⟨rfl,rfl,rfl,rfl,rfl,rfl,by simp,rfl⟩
 .rintro i ⟨a,w1,w2,w3,w4,w5,w6⟩ hi ⟨e1,e2,e3,Z,Y,I,e7,U⟩;dsimp only at e1 e2 e3 Z Y I e7 U;subst e1;have hl5:w5.length=4:=by rw[I];rfl
  refine bK (λ_=>?_) λg=>(by dsimp only[au] at g;simp at g;omega)
  refine ch 6 (λj x=>x.1=(j:Int)/\x.2.1=w1/\x.2.2.1=w2/\x.2.2.2.1=w3/\x.2.2.2.2.1=w4/\x.2.2.2.2.2.1=w5/\x.2.2.2.2.2.2.length<=6*i+j/\Lq 4 x.2.2.2.2.2.2=af (nxS i j)) ?_ ?_ ⟨rfl,rfl,rfl,rfl,rfl,rfl,by dsimp only;omega,U⟩
  .rintro j ⟨b,v1,v2,v3,v4,v5,v6⟩ hj ⟨d1,d2,d3,d4,d5,d6,d7,d8⟩;dsimp only at d1 d2 d3 d4 d5 d6 d7 d8;subst d1;refine dg ?_;refine bi (by simp;omega) (by omega) (ar ?_);dsimp only;refine ⟨gM (by omega),d2,d3,d4,d5,d6,by simp;omega,?_⟩;rw[Wr,d8];by_cases J:j=0
   .subst J;by_cases M:i=0
    .subst M;rfl
    .rw[show nxS i 0=((i:Int)-1,6) by unfold nxS;simp[M],show nxS i (0+1)=((i:Int),1) by unfold nxS;simp];unfold TK;dsimp only;rw[aA (λh=>by have:=h.1;omega),aE ⟨by omega,by omega,rfl⟩]
   .rw[show nxS i j=((i:Int),(j:Int)) by unfold nxS;simp[J],show nxS i (j+1)=((i:Int),(j:Int)+1) by unfold nxS;simp];unfold TK;dsimp only;rw[aE ⟨rfl,rfl⟩]
  .rintro⟨b,v1,v2,v3,v4,v5,v6⟩ ⟨d1,d2,d3,d4,d5,d6,d7,d8⟩;dsimp only at d1 d2 d3 d4 d5 d6 d7 d8;subst d1;subst d2;subst d3;subst d4;subst d5;subst d6;refine db (ar ?_);dsimp only;refine ⟨gM (by omega),e2,e3,Z,Y,I,by omega,?_⟩;rw[d8];unfold nxS;simp
 .rintro⟨a,w1,w2,w3,w4,w5,w6⟩ ⟨e1,e2,e3,Z,Y,I,e7,U⟩;dsimp only at e1 e2 e3 Z Y I e7 U;subst e1;subst e2;subst e3;subst Z;subst Y;subst I;refine bK (λg=>(by dsimp only[au] at g;simp[wv] at g)) λ_=>ar ?_
  refine ⟨rfl,rfl,rfl,rfl,rfl,by dsimp only;omega,rfl,rfl,rfl,rfl,⟨4,by decide,by decide,rfl⟩,by dsimp only;omega,?_⟩;unfold SV0;show Lq 4 w6≠ah;rw[U];simp
theorem SZ.mono {n m:Nat} {s:SN} (h:SZ n s) (hnm:n<=m) (hm:m<=100000):SZ m s:=
 ⟨⟨⟨hm,h.nb.sb.lk,λl hl=>dt (h.nb.sb.rd l hl) hnm,h.nb.sb.dn,h.nb.sb.th⟩,h.nb.c,h.nb.f,h.nb.k⟩,h.c,h.f,h.k⟩
theorem V7 (w:WT) (I:W0 w):Ok (mS w) λs=>SZ 0 s:=by
 refine (V8 w I.vl).mono λs hs=>⟨hs.1,?_,?_,?_⟩
 .rw[hs.2.1,I.c]
 .rw[hs.2.2.1,I.f]
 .rw[hs.2.2.2,I.t]
structure WB (w:WT):Prop where
 c:w.1.length<=12
 l:w.2.1.length<=4
 d:w.2.2.1.length<=2
 f:w.2.2.2.1.length<=2
 t:w.2.2.2.2.1.length<=4
 s:w.2.2.2.2.2.length<=60
theorem VL.wb {w:WT} (h:VL w):WB w:=⟨h.c,h.l,h.d,h.f,h.t,h.s⟩
structure TR (y:WT×List ET):Prop where
 wb:WB y.1
 vl:VL y.1
 ev:∀ e∈y.2,EvF y.1 e
 len:y.2.length<=400
 ls:∀ e∈y.2,Zu e
 wx:WX y.1
 ac:∃ sy ce fu,Acw y.1 y.2 sy ce fu
theorem Iv (L:List Int) (n:Int) (hl:L.length<=9223372036854775807) (hb:∀ x∈L,0<=x/\x<=255):Ok (qn (L,n)) TR:=by
 unfold qn aV bh bw dh cN bB j7 il bF kJ aX cK aF cA;refine aY (λx=>x.length<=600/\∀ z∈x,0<=z/\z<=255) ?_ ?_
 .refine bK (λg=>?_) λg=>?_
  .dsimp only[au] at g;refine cW (dx (by omega) (dx (by dsimp only;omega) (ar ⟨by dsimp only;rw[bA];simp;omega,λz I=>hb z (hP I)⟩)))
  .dsimp only[au] at g;exact ar ⟨by dsimp only;omega,hb⟩
 rintro L' ⟨hL,hB⟩;refine ay S9 λw J=>?_
 have hvl:=J.vl;refine ay (V7 w J) λs hs=>?_
 refine ay (gm 3 (L',0) ⟨by dsimp only;omega,hB,by dsimp only;omega,by dsimp only;omega⟩) λy hy=>?_
 obtain⟨y1,yt⟩:=y;obtain⟨ty,yy0,yy1,_⟩:=hy;have yy1:=yy1 (by decide);dsimp only at ty yy0 yy1;have ew:bn .i64 (1+y1)=1+y1:=iu (by omega) (by omega);refine qf (λx=>(1+y1+1-x.1).toNat) (λx=>1<=x.1/\x.1<=2+y1/\x.2.1=yt/\x.2.2.1=w/\x.2.2.2.1=s/\((x.2.2.2.2.length:Nat):Int)<=2*x.1/\∀ e∈x.2.2.2.2,Zu e) ?_ ⟨by dsimp only;omega,by dsimp only;omega,rfl,rfl,rfl,by simp,λe he=>?_⟩
 .rintro⟨a,t,w',s',es⟩ ⟨e1,e2,e3,e4,e5,e6,e7⟩;dsimp only at e1 e2 e3 e4 e5 e6 e7;subst e3;subst e4;subst e5;refine gh (λg=>?_) λg=>?_
  .dsimp only at g;rw[ew] at g;refine bi (by simp;omega) (by omega) (ar ?_);dsimp only;rw[iu (n:=a+1) (by omega) (by omega)];refine ⟨⟨by omega,by omega,rfl,rfl,rfl,by simp;omega,λe he=>?_⟩,by omega⟩;rcases bQ.1 he with he|he
   .exact e7 e he
   .simp only[bl,cw,gf] at he;rcases he with he|he<;>subst he<;>exact⟨by simp,by simp⟩
  .refine ay (P:=TR) ?_ λr hr=>ar hr
   refine ch es.length (λi x=>x.1=(i:Int)/\TP x.2.1/\x.2.2.1=w'/\SZ i x.2.2.2.1/\x.2.2.2.2.1=es/\x.2.2.2.2.2.length<=i/\∀ e∈x.2.2.2.2.2,Zu e) ?_ ?_ ⟨rfl,ty.p,rfl,hs,rfl,by simp,λe he=>(by cases he)⟩
   .rintro i ⟨b,t,w',s',es',out⟩ hi ⟨d1,U,Z,M,Y,d6,d7⟩;dsimp only at d1 U Z M Y d6 d7;subst d1;subst Z;subst Y;refine dg ?_;refine aY (λx=>TP x.1/\x.2.1=w'/\SZ (i+1) x.2.2.1/\x.2.2.2.1=es'/\x.2.2.2.2.length<=i+1/\∀ e∈x.2.2.2.2,Zu e) ?_ ?_
    .refine cD (cD (aT ?_));have I:=e7 _ (bI (T:=.st (.pr (.int .i64) (.pr (.int .i64) (.pr (.int .i64) (.pr (.int .i64) (.pr (.int .i64) (.pr (.sl (.int .i64)) (.sl (.int .i64))))))))) (xs:=es') (j:=(i:Int)) (by omega) (by omega));revert I;generalize (aJ _ _)=z;intro I;refine ay (FI w' s' M.nb (by rw[J.d];decide) z (by have:=I.1;omega) (by have:=I.2;omega)) λv hv=>?_
     refine aP (λh=>?_) λh=>ar ⟨U,rfl,M.mono (by omega) (by omega),rfl,by dsimp only;omega,d7⟩
     refine bi (by simp;omega) (by omega) (ar ⟨U,rfl,M.step (hv.1 h).2.1 (by omega),rfl,by simp;omega,λe he=>?_⟩);rcases bQ.1 he with he|he
     .exact d7 e he
     .rw[aL] at he;subst he;exact I
    .rintro⟨t,w'',s'',es'',out'⟩ ⟨f1,f2,f3,f4,f5,f6⟩;dsimp only at f1 f2 f3 f4 f5 f6;refine ar ?_;dsimp only;exact⟨gM (by omega),f1,f2,f3,f4,f5,f6⟩
   .rintro⟨b,t,w',s',es',out⟩ ⟨d1,U,Z,M,Y,d6,d7⟩;dsimp only at d1 U Z M Y d6 d7;subst d1;subst Z;subst Y;refine db ?_;refine ay (P:=TR) ?_ λr hr=>ar hr
    have hmin:Hm (jD n 0) 60<=60:=by
     unfold Hm;split
     .omega
     .rename_i h;simp[fX] at h;exact h
    refine ay (aeh (by omega) s' M w' J.c J.t (by rw[J.d];decide) _ hmin t U) λv hv=>?_
    refine bi (by have:=hv.2;dsimp only;omega) (by omega) ?_;have hall:∀ e∈out++v.1,Zu e:=λe he=>by
     rcases bQ.1 he with he|he
     .exact d7 e he
     .exact hv.1 e he
    refine ay (adl w' (out++v.1) λe he=>by have:=hall e he;exact⟨by have:=this.1;omega,by have:=this.2;omega⟩) λc hc=>?_
    refine bY (λ_=>?_) λh=>?_
    .exact ay S9 λu hu=>ar ⟨hu.vl.wb,hu.vl,λe he=>(by cases he),by simp,λe he=>(by cases he),hu.x,_,_,_,.nil⟩
    .exact ar ⟨(hc h).1.1.wb,(hc h).1.1,(hc h).2.1,by have:=hv.2;simp;omega,hall,J.x,(hc h).2.2⟩
 .rw[aL] at he;subst he;exact⟨by simp,by simp⟩
abbrev IT:Type:=Int×Int×Int×Int×Int×Int
abbrev CT:Type:=WT×List (Int×List IT)
theorem r9 (a b:Int):ju (a,b)=af (decide (0<=a/\a<b)):=by
 refine cE ?_;unfold ju j7 aF;with_reducible repeat' first|(refine OS.ok ?_;constructor)|refine IM.mk λ_=>?_
 .by_cases h:a<b<;>simp[*,fX]
 .simp;omega
theorem FJ (k:Int):pM k=af (decide (1<=k/\k<=5)):=by
 refine cE ?_;unfold pM j7 aF;with_reducible repeat' first|(refine OS.ok ?_;constructor)|refine IM.mk λ_=>?_
 .by_cases h:k<=5<;>simp[*,cZ]
 .simp;omega
def iT (i:IT):List Int:=
 if i.1=1\/i.1=6\/i.1=10\/i.1=27 then [i.2.1]
 else if i.1=2\/i.1=3 then [i.2.1,i.2.2.1]
 else if i.1=4 then [i.2.1,i.2.2.1,i.2.2.2.1]
 else if i.1=7 then [i.2.1,i.2.2.2.1]
 else if i.1=8\/i.1=26 then [i.2.2.1]
 else if i.1=9 then [i.2.2.1,i.2.2.2.1]
 else []
theorem tV (i:IT):jL i=af (iT i):=by
 obtain⟨I,i2⟩:=i;unfold jL iT aV bh bw bd aF;by_cases h1:I=1
 .subst h1;rfl
 by_cases h2:I=6
 .subst h2;rfl
 by_cases h3:I=10
 .subst h3;rfl
 by_cases h4:I=27
 .subst h4;rfl
 by_cases h5:I=2
 .subst h5;rfl
 by_cases h6:I=3
 .subst h6;rfl
 by_cases Z:I=4
 .subst Z;rfl
 by_cases Y:I=7
 .subst Y;rfl
 by_cases U:I=8
 .subst U;rfl
 by_cases M:I=26
 .subst M;rfl
 by_cases J:I=9
 .subst J;rfl
 simp only[h1,h2,h3,h4,h5,h6,Z,Y,U,M,J,dc,bcF,jnr,gf,ep]
theorem CR (z:IT):(iT z).length<=3:=by
 unfold iT
 (repeat' split)<;>simp
theorem aaw (l:List IT) (a:Int) (hl:l.length<=1000000):Ok (pw (l,a)) λ_=>True:=by
 unfold pw bd bB j7 bH aX cK aF cA;refine qf (λx=>((l.length:Int)+1-x.2).toNat) (λx=>0<=x.2/\x.2<=(l.length:Int)+1) ?_ ⟨by dsimp only;omega,by dsimp only;omega⟩;rintro⟨(a:Int),(n:Int)⟩ ⟨h0,h1⟩;dsimp only at h0 h1;refine gh (λg=>?_) λ_=>ar trivial
 dsimp only[au] at g;refine aY (λ_=>True) ?_ λb _=>ar ?_
 .refine aY (λb=>b=aj->0<=a/\a<(l.length:Int)) ?_ ?_
  .refine bK (λ_=>ar λh=>(by cases h)) λI=>ar λh=>?_
   rw[mc] at h;dsimp only[au] at h I;exact⟨I,h⟩
  .intro b hb;refine aP (λ_=>ar trivial) λh=>?_
   obtain⟨q0,J⟩:=hb h;refine aR q0 (by dsimp only;omega) (aT ?_);refine aU (FJ _) ?_;refine dW (λ_=>ar trivial) λ_=>?_
   refine aR q0 (by dsimp only;omega) (aT ?_);refine aK (λ_=>?_) λ_=>ar trivial
   exact aR q0 (by dsimp only;omega) (aT (ar trivial))
 .dsimp only;rw[iu (by omega) (by omega)];exact⟨⟨by omega,by omega⟩,by omega⟩
structure AR (w:WT) (b n:Int):Prop where
 b0:0<=b
 b1:b<w.1.length
 ix:(aJ (T:=NX) w.1 b).2.1=0
 sz:¬(aJ (T:=NX) w.1 b).2.2.1=0
 sn:(aJ (T:=NX) w.1 b).2.2.1=n
theorem SX (w:WT) (b n:Int):Ok (nh (w,b,n)) λr=>r=ai->AR w b n:=by
 unfold nh bd il bH aX aF;refine gA ?_;refine aU (r9 _ _) ?_;refine aK (λh=>?_) λ_=>ar (ar λh=>(by cases h))
 refine aR h.1 h.2 (aT (aK (λh1=>?_) λ_=>ar (ar λh=>(by cases h))));refine aR h.1 h.2 (aT (bY (λh2=>?_) λ_=>ar (ar λh=>(by cases h))));exact aR h.1 h.2 (aT (ar (ar λI=>⟨h.1,h.2,h1,h2,bf I⟩)))
theorem Ul (w:WT) (i:IT):Ok (lH (w,i)) λb=>b=ai->(i.1=7->AR w i.2.2.1 i.2.2.2.2.1)/\(i.1=9->AR w i.2.1 i.2.2.2.2.1):=by
 have tr:∀ {b:Bool},¬i.1=7->¬i.1=9->b=ai->(i.1=7->AR w i.2.2.1 i.2.2.2.2.1)/\(i.1=9->AR w i.2.1 i.2.2.2.2.1):=λh1 h2 _=>⟨λh=>(h1 h).elim,λh=>(h2 h).elim⟩
 unfold lH aV bh bw cu dU bd j7 bH aX aF;simp only[r9,WL];refine aK (λM=>?_) λ_=>?_
 .refine aY (λ_=>True) ?_ λ_ _=>ar (tr (by have M:i.1=6:=M;omega) (by have M:i.1=6:=M;omega))
  refine aK (λh=>?_) λ_=>ar trivial
  exact aR h.1 h.2 (aT (ar trivial))
 refine aK (λI=>?_) λ_=>?_
 .refine aY (λ_=>True) ?_ λ_ _=>ar (tr (by have I:i.1=8:=I;omega) (by have I:i.1=8:=I;omega))
  refine aK (λh=>?_) λ_=>ar trivial
  exact aR h.1 h.2 (aT (ar trivial))
 refine aK (λJ=>?_) λU=>?_
 .exact ay (SX _ _ _) λ_ h=>ar λh2=>⟨λ_=>h h2,λZ=>by have J:i.1=7:=J;omega⟩
 refine aK (λZ=>?_) λY=>?_
 .exact ay (SX _ _ _) λ_ h=>ar λh2=>⟨λJ=>(U J).elim,λ_=>h h2⟩
 have tr:∀ {b:Bool},b=ai->(i.1=7->AR w i.2.2.1 i.2.2.2.2.1)/\(i.1=9->AR w i.2.1 i.2.2.2.2.1):=tr U Y;refine aY (λx=>x.2=(w,i)) (aK (λ_=>ar rfl) λ_=>ar rfl) ?_;rintro⟨b,x⟩ e;dsimp only at e;subst e;refine aP (λ_=>?_) λ_=>?_
 .refine aY (λ_=>True) ?_ λ_ _=>ar tr
  refine aK (λh=>?_) λ_=>ar trivial
  exact aR h.1 h.2 (aT (ar trivial))
 refine aY (λx=>x.2=(w,i)) (aK (λ_=>ar rfl) λ_=>aK (λ_=>ar rfl) λ_=>aK (λ_=>ar rfl) λ_=>ar rfl) ?_;rintro⟨b,x⟩ e;dsimp only at e;subst e;refine aP (λ_=>?_) λ_=>?_
 .refine aY (λ_=>True) ?_ λ_ _=>ar tr
  refine aK (λh=>?_) λ_=>ar trivial
  exact aR h.1 h.2 (aT (ar trivial))
 refine aY (λx=>x.2=(w,i)) (aK (λ_=>ar rfl) λ_=>aK (λ_=>ar rfl) λ_=>ar rfl) ?_;rintro⟨b,x⟩ e;dsimp only at e;subst e;refine aP (λ_=>ar tr) λ_=>?_
 refine aY (λx=>x.2=(w,i)) (aK (λ_=>ar rfl) λ_=>ar rfl) ?_;rintro⟨b,x⟩ e;dsimp only at e;subst e;with_reducible repeat' first|(refine OS.ok ?_;constructor)|refine IM.mk λ_=>?_
 all_goals exact tr
structure VI (n:Int) (i:IT):Prop where
 o1:1<=i.1
 o2:i.1<=28
 r:∀ j∈iT i,0<=j/\j<n
structure VT (t:Int×List IT):Prop where
 r0:0<=t.1
 r1:t.1<=32
 i:∀ i∈t.2,VI t.1 i
structure VJ (w:WT) (k:Int) (i:IT):Prop where
 a7:i.1=7->AR w i.2.2.1 i.2.2.2.2.1
 a9:i.1=9->AR w i.2.1 i.2.2.2.2.1
 se:i.1=28->i.2.2.2.2.2= -1
 si:¬i.1=28->0<=i.2.2.2.2.2/\i.2.2.2.2.2<w.2.2.2.2.2.length/\(aJ (T:=yk) w.2.2.2.2.2 i.2.2.2.2.2).1=k
theorem Ip (w:WT) (k:Int) (c:Int×List IT) (hc:c.2.length<=1000000):Ok (iy (w,k,c)) λb=>b=ai->VT c/\∀ i∈c.2,VJ w k i:=by
 unfold iy aV bh bw cu bL cN nK bd bB il bH aX cK aF cA;refine aY (λx=>x.2=(w,c)/\(x.1=aj->0<=c.1/\c.1<=32)) ?_ ?_
 .refine bK (λ_=>ar ⟨rfl,λh=>(by cases h)⟩) λh0=>bK (λ_=>ar ⟨rfl,λh=>(by cases h)⟩) λh1=>ar ⟨rfl,λ_=>⟨h0,h1⟩⟩
 rintro⟨b,x⟩ ⟨e,hb⟩;dsimp only at e hb;subst e;refine aP (λ_=>ar λh=>(by cases h)) λh=>?_
 obtain⟨r0,r1⟩:=hb h;refine ch c.2.length (λi x=>x.1=(i:Int)/\x.2=(w,c)/\∀ q:Nat,q<i->VI c.1 (aJ (T:=BH) c.2 (q:Int))/\VJ w k (aJ (T:=BH) c.2 (q:Int))) ?_ ?_ ⟨rfl,rfl,λk hk=>by omega⟩
 .rintro i ⟨a,x⟩ hi ⟨e1,e2,e3⟩;dsimp only at e1 e2 e3;subst e1;subst e2;refine dg ?_;refine cD (aT ?_);generalize Y:(aJ _ _)=z;refine aY (λx=>x.2=(w,c,z)/\(x.1=aj->(1<=z.1/\z.1<=28)/\(z.1=7->AR w z.2.2.1 z.2.2.2.2.1)/\(z.1=9->AR w z.2.1 z.2.2.2.2.1))) ?_ ?_
  .refine bK (λ_=>ar ⟨rfl,λh=>(by cases h)⟩) λh0=>bK (λ_=>ar ⟨rfl,λh=>(by cases h)⟩) λh1=>?_
   refine aP (λ_=>ar ⟨rfl,λh=>(by cases h)⟩) λ_=>?_
   refine ay (Ul w z) λy Z=>?_
   refine dW (λ_=>ar ⟨rfl,λh=>(by cases h)⟩) λhyt=>?_
   exact ay (aaw c.2 _ hc) λy _=>ar ⟨rfl,λ_=>⟨⟨h0,h1⟩,Z hyt⟩⟩
  rintro⟨b,x⟩ ⟨e,hb⟩;dsimp only at e hb;subst e;refine aP (λ_=>ar λh=>(by cases h)) λh=>?_
  obtain⟨⟨o1,o2⟩,a7,a9⟩:=hb h;refine aY (λx=>x.2=(w,c,z)/\(x.1=aj->(z.1=28->z.2.2.2.2.2= -1)/\(¬z.1=28->0<=z.2.2.2.2.2/\z.2.2.2.2.2<w.2.2.2.2.2.length/\(aJ (T:=yk) w.2.2.2.2.2 z.2.2.2.2.2).1=k))) ?_ ?_
  .simp only[r9,WL];refine aK (λI=>?_) λI=>?_
   .refine bY (λ_=>ar ⟨rfl,λh=>(by cases h)⟩) λhm=>?_
    exact bY (λh=>(h I).elim) λ_=>ar ⟨rfl,λ_=>⟨λ_=>hm,λh=>(h I).elim⟩⟩
   .refine bY (λ_=>?_) λh=>(I h).elim
    refine bY (λ_=>ar ⟨rfl,λh=>(by cases h)⟩) λh=>?_
    exact aR h.1 h.2 (aT (ar ⟨rfl,λh2=>⟨λh3=>(I h3).elim,λ_=>⟨h.1,h.2,by simpa using h2⟩⟩⟩))
  rintro⟨b,x⟩ ⟨e,hsi⟩;dsimp only at e hsi;subst e;refine aP (λ_=>ar λh=>(by cases h)) λhbs=>?_
  obtain⟨se,si⟩:=hsi hbs;refine aY (λx=>x.2=(w,c,z)) ?_ ?_
  .simp only[r9,WL];with_reducible repeat' first|(refine OS.ok ?_;constructor)|refine IM.mk λ_=>?_
   all_goals rfl
  rintro⟨b,x⟩ e;dsimp only at e;subst e;refine aP (λ_=>ar λh=>(by cases h)) λ_=>?_
  refine aU (tV z) ?_;refine ch (iT z).length (λj x=>x.1=(j:Int)/\x.2=(w,c)/\∀ k:Nat,k<j->0<=aJ (T:=.int .i64) (iT z) (k:Int)/\aJ (T:=.int .i64) (iT z) (k:Int)<c.1) ?_ ?_ ⟨rfl,rfl,λk hk=>by omega⟩
  .rintro j ⟨a,x⟩ hj ⟨U,M,J⟩;dsimp only at U M J;subst U;subst M;refine dg ?_;refine cD (aT ?_);refine aU (r9 _ _) ?_;refine bY (λ_=>ar λh=>(by cases h)) λh=>ar ?_
   dsimp only at h ⊢;have hj32:(iT z).length<=3:=CR z;refine ⟨gM (by omega),rfl,λk hk=>?_⟩;rcases b9 k j with h1|h1
   .exact J k h1
   .rw[show k=j by omega];exact h
  .rintro⟨a,x⟩ ⟨U,M,J⟩;dsimp only at U M J;subst U;subst M;refine db (ar ?_);dsimp only;refine ⟨gM (by omega),rfl,λk hk=>?_⟩;rcases b9 k i with h1|h1
   .exact e3 k h1
   .rw[show k=i by omega,Y];exact⟨⟨o1,o2,iC (T:=.int .i64) J⟩,⟨a7,a9,se,si⟩⟩
 .rintro⟨a,x⟩ ⟨e1,e2,e3⟩;dsimp only at e1 e2 e3;subst e1;subst e2;refine db (ar λ_=>⟨⟨r0,r1,iC (T:=BH) (p:=VI c.1) λq hq=>(e3 q hq).1⟩,iC (T:=BH) (p:=VJ w k) λq hq=>(e3 q hq).2⟩)
structure VC (c:CT):Prop where
 vl:VL c.1
 tl:c.2.length=c.1.2.2.2.2.1.length
 t:∀ t∈c.2,VT t
 sv:SV0 c.1
 j:∀ k:Nat,k<c.2.length->∀ i∈(aJ (T:=wq) c.2 (k:Int)).2,VJ c.1 (k:Int) i
structure CB (c:CT):Prop where
 th:c.2.length<=1000000
 ins:∀ t∈c.2,t.2.length<=1000000
 rg:∀ t∈c.2,1<=t.1
 wx:WX c.1
 ok:jK c=af ai
theorem Ta (c:CT) (h1:c.2.length<=1000000) (h2:∀ t∈c.2,t.2.length<=1000000):Ok (jK c) λb=>b=ai->VC c:=by
 obtain⟨w,l⟩:=c;dsimp only at h1 h2;unfold jK bw bB bH aX cK aF cA;refine aY (λx=>x.2=(w,l)/\(x.1=aj->(VL w/\SV0 w)/\l.length=w.2.2.2.2.1.length)) ?_ ?_
 .refine ay (Bw w) λb hb=>?_
  refine dW (λ_=>ar ⟨rfl,λh=>(by cases h)⟩) λh=>ar ⟨rfl,λM=>⟨hb h,?_⟩⟩
  simp at M;omega
 rintro⟨b,x⟩ ⟨e,I⟩;dsimp only at e I;subst e;refine aP (λ_=>ar λh=>(by cases h)) λh=>?_
 obtain⟨⟨hv,hsv⟩,hl⟩:=I h;refine ch l.length (λi x=>x.1=(i:Int)/\x.2=(w,l)/\∀ k:Nat,k<i->VT (aJ (T:=wq) l (k:Int))/\∀ q∈(aJ (T:=wq) l (k:Int)).2,VJ w (k:Int) q) ?_ ?_ ⟨rfl,rfl,λk hk=>by omega⟩
 .rintro i ⟨a,x⟩ hi ⟨e1,e2,e3⟩;dsimp only at e1 e2 e3;subst e1;subst e2;refine dg ?_;refine cD (aT ?_);have hm:=bI (T:=wq) (xs:=l) (j:=(i:Int)) (by omega) (by omega);revert hm;generalize J:(aJ (T:=wq) l (i:Int))=z;intro hm;refine ay (Ip w _ z (h2 z hm)) λb hb=>?_
  refine dW (λ_=>ar λh=>(by cases h)) λh=>ar ?_
  dsimp only;refine ⟨gM (by omega),rfl,λk hk=>?_⟩;rcases b9 k i with h1|h1
  .exact e3 k h1
  .rw[show k=i by omega,J];exact hb h
 .rintro⟨a,x⟩ ⟨e1,e2,e3⟩;dsimp only at e1 e2 e3;subst e1;subst e2;refine db (ar λ_=>⟨hv,hl,iC (T:=wq) (p:=VT) λk hk=>(e3 k hk).1,hsv,λk hk=>(e3 k hk).2⟩)
abbrev TT:Type:=Int×List Int×List (List Int)×Int
structure TL (F:Int->Prop) (E:Nat) (l:List Int):Prop where
 a:HN l
 m:∀ y∈l,0<=y/\y<(E:Int)
 f:∀ y∈l,F y
theorem PD:∀ (l:List Int) (lo hi:Int),HN l->(∀ y∈l,lo<=y/\y<hi)->(l.length:Int)<=max 0 (hi-lo)
 |[],lo,hi,_,_=>by simp;omega
 |x::r,lo,hi,h,hm=>by
  have h1:=hm x (dG ..);have h2:=PD r (x+1) hi h.2 λy I=>⟨by have:=h.1 y I;omega,(hm y (cO _ I)).2⟩
  rw[b7];omega
variable {F:Int->Prop}
theorem TL.len {E:Nat} {l:List Int} (h:TL F E l):l.length<=E:=by
 have:=PD l 0 E h.a h.m;omega
theorem TL.nil (E:Nat):TL F E []:=⟨trivial,λy I=>(by cases I),λy I=>(by cases I)⟩
theorem TL.uni {E:Nat} {a b:List Int} (J:TL F E a) (hb:TL F E b):TL F E (xr a b):=
 ⟨Qa a b,λy I=>by
   rcases Iq.1 I with h|h
   .exact J.m y h
   .exact hb.m y h,λy I=>(Iq.1 I).elim (J.f y) (hb.f y)⟩
theorem TL.mono {E M:Nat} {J:Int->Prop} {l:List Int} (h:TL F E l) (hf:E<=M) (U:∀ y,F y->J y):TL J M l:=⟨h.a,λy I=>⟨(h.m y I).1,by have:=(h.m y I).2;omega⟩,λy I=>U y (h.f y I)⟩
structure TH (F:Int->Prop) (E:Nat) (s:TT):Prop where
 r:s.2.1.length<=32
 t:s.2.2.1.length<=32
 l:∀ l∈s.2.2.1,TL F E l
 e0:0<=s.2.2.2
 e1:s.2.2.2<=(E:Int)
theorem TH.zero (E:Nat):TH F E (0,[],[],0):=⟨by simp,by simp,λl hl=>(by cases hl),by simp,by simp⟩
theorem TH.mono {E J:Nat} {I:Int->Prop} {s:TT} (h:TH F E s) (hf:E<=J) (M:∀ y,F y->I y):TH I J s:=⟨h.r,h.t,λl hl=>(h.l l hl).mono hf M,h.e0,by have:=h.e1;omega⟩
theorem c_ (s:TT) (E:Nat) (Y:E<=100000) (h:TH F E s):cg s=af ((s.1,s.2.2.2),s.2.1,s.2.2.1):=by
 obtain⟨h1,h2,U,h4,Z⟩:=h;refine cE ?_;unfold cg aV bh bw bL cN bB bF bH aX cK aF cA;refine bi (by simp;omega) (by omega) ?_;refine ch s.2.2.1.length (λi x=>x.1=(i:Int)/\x.2.1=s/\x.2.2.2.1=(s.1,s.2.2.2)/\x.2.2.2.2.1=s.2.1/\x.2.2.2.2.2=s.2.2.1.take i) ?_ ?_ ⟨rfl,rfl,rfl,rfl,rfl⟩
 .rintro i ⟨a,b,c,d,e,f⟩ hi ⟨e1,e2,e3,J,I⟩;dsimp only at e1 e2 e3 J I;subst e1;subst e2;subst I;refine dg ?_;refine cD (aT ?_);have M:=(U _ (bI (T:=.sl (.int .i64)) (xs:=b.2.2.1) (j:=(i:Int)) (by omega) (by omega))).len;refine bi (by simp only[j6,bO];exact dt M (by omega)) (by omega) ?_;refine bi (by simp;omega) (by omega) (ar ?_);dsimp only;refine ⟨gM (by omega),rfl,e3,J,?_⟩;rw[oo (T:=.sl (.int .i64)) hi];rfl
 .rintro⟨a,b,c,d,e,f⟩ ⟨e1,e2,e3,J,I⟩;dsimp only at e1 e2 e3 J I;subst e1;subst e2;subst I;refine db (ar ?_);show (d,e,_)=_;rw[e3,J,cR]
theorem ww (b:Bool):Ok (fY b) λ_=>True:=by
 unfold fY;with_reducible repeat' first|(refine OS.ok ?_;constructor)|refine IM.mk λ_=>?_
 all_goals trivial
theorem F4 (n:Int):Ok (mm n) λ_=>True:=by
 unfold mm bB aF;with_reducible repeat' first|(refine OS.ok ?_;constructor)|refine IM.mk λ_=>?_
 all_goals trivial
theorem acv (x:Int×Int):Ok (ur x) λ_=>True:=by
 unfold ur bd;refine aK (λ_=>ar trivial) λ_=>aK (λ_=>?_) λ_=>ar trivial
 exact ay (ww _) λ_ _=>ar trivial
theorem ZH (x:Int×Int×Int):Ok (sA x) λ_=>True:=by
 unfold sA bd il bF aF;have t1:∀ b,Ok (obind (fY b) λy=>af (y,ai)) λ_=>True:=λb=>ay (ww _) λ_ _=>ar trivial
 refine aK (λ_=>ar trivial) λ_=>aK (λ_=>ar trivial) λ_=>aK (λ_=>ar trivial) λ_=>?_
 refine aK (λ_=>aK (λ_=>ar trivial) λh=>zf h (ar trivial)) λ_=>?_
 refine aK (λ_=>aK (λ_=>ar trivial) λh=>zf h (ar trivial)) λ_=>?_
 refine aK (λ_=>t1 _) λ_=>aK (λ_=>t1 _) λ_=>aK (λ_=>t1 _) λ_=>aK (λ_=>t1 _) λ_=>aK (λ_=>t1 _) λ_=>aK (λ_=>t1 _) λ_=>?_
 refine aK (λ_=>aY (λ_=>True) (bY (λ_=>ay (ww _) λ_ _=>ar trivial) λ_=>ay (ww _) λ_ _=>ar trivial) λ_ _=>ar trivial) λ_=>?_
 exact aK (λ_=>aY (λ_=>True) (bY (λ_=>ay (ww _) λ_ _=>ar trivial) λ_=>ay (ww _) λ_ _=>ar trivial) λ_ _=>ar trivial) λ_=>ar trivial
theorem XW (E:Nat) (hE:E<=100000) (i:IT) (p:Int×Int) (R:List Int) (T:List (List Int)) (hr:∀ j∈iT i,0<=j/\j<(R.length:Int)) (o1:1<=i.1) (o2:i.1<=5) (hR:R.length<=32) (I:T.length=R.length) (hl:∀ l∈T,TL F E l):Ok (wF ((i,p),R,T)) λy=>y.1.1.2=p.2/\y.2.1.length=R.length/\y.2.2.length=T.length/\∀ l∈y.2.2,TL F E l:=by
 unfold wF aV bh bw ck bd bB bF bH kJ aX cK aF cA;refine aU (tV i) ?_;have h3:=CR i;refine ch (iT i).length (λj x=>x.1=(j:Int)/\x.2.1=R/\x.2.2.1=T/\x.2.2.2.1=i/\x.2.2.2.2.1=p) ?_ ?_ ⟨rfl,rfl,rfl,rfl,rfl⟩
 .rintro j ⟨a,b,c,d,e⟩ hj ⟨e1,e2,e3,Z,M⟩;dsimp only at e1 e2 e3 Z M;subst e1;subst e2;subst e3;subst Z;refine dg ?_;have hz:=hr _ (bI (T:=.int .i64) (xs:=iT d) (j:=(j:Int)) (by omega) (by omega));refine aY (λx=>x.2=(b,c,d,e)/\x.1=aj) ?_ ?_
  .refine cD (aT ?_);refine bK (λg=>?_) λ_=>?_
   .dsimp only at g;omega
   refine cD (aT (ar ⟨rfl,?_⟩));dsimp only;rw[mc];exact hz.2
  rintro⟨b',x⟩ ⟨Y,U⟩;dsimp only at Y U;subst Y;subst U;refine aP (λh=>(by cases h)) λ_=>ar ?_
  dsimp only;exact⟨gM (by omega),rfl,rfl,rfl,M⟩
 .rintro⟨a,b,c,d,e⟩ ⟨e1,e2,e3,Z,M⟩;dsimp only at e1 e2 e3 Z M;subst e1;subst e2;subst e3;subst Z;refine db ?_;obtain⟨e,e'⟩:=e;dsimp only at M;subst M;refine ay (P:=λy=>y.1.1.2=e.2/\y.2.1.length=b.length/\y.2.2.length=c.length/\∀ l∈y.2.2,TL F E l) ?_ λr hr=>ar hr
  have hA:d.1≠5->0<=d.2.1/\d.2.1<(b.length:Int):=λh5=>hr _ (by
   unfold iT;(repeat' split)<;>simp<;>omega)
  have hB:2<=d.1->d.1≠5->0<=d.2.2.1/\d.2.2.1<(b.length:Int):=λh2 h5=>hr _ (by
   unfold iT;(repeat' split)<;>simp<;>omega)
  have hC:d.1=4->0<=d.2.2.2.1/\d.2.2.2.1<(b.length:Int):=λh5=>hr _ (by
   unfold iT;(repeat' split)<;>simp<;>omega)
  have hg:∀ {j:Int},0<=j->j<(b.length:Int)->TL F E (aJ (T:=.sl (.int .i64)) c j):=λh0 h1=>hl _ (bI (T:=.sl (.int .i64)) (xs:=c) h0 (by rw[I];exact h1))
  refine aY (λx=>x.2.1=b/\x.2.2.1=c/\x.2.2.2.1=d/\x.2.2.2.2.1=e/\TL F E x.1.2.2/\d.1≠5) ?_ ?_
  .refine aK (λ_=>ar ⟨rfl,rfl,rfl,hl⟩) λJ=>?_
   refine aK (λ_=>ar ⟨rfl,rfl,rfl,rfl,TL.nil E,J⟩) λn1=>?_
   dsimp only at n1 J;obtain⟨b0,b1⟩:=hB (by omega) J;refine aK (λ_=>?_) λn2=>?_
   .refine aR b0 b1 (aR b0 b1 (aT ?_));refine aR b0 (by dsimp only;rw[I];exact b1) (aR b0 (by dsimp only;rw[I];exact b1) (aT ?_));exact ar ⟨rfl,rfl,rfl,rfl,hg b0 b1,J⟩
   refine aK (λ_=>?_) λn3=>?_
   .refine ay (F4 _) λy _=>?_
    refine aR b0 b1 (aR b0 b1 (aT ?_));refine ay (acv _) λy _=>?_
    refine aR b0 (by dsimp only;rw[I];exact b1) (aR b0 (by dsimp only;rw[I];exact b1) (aT ?_));exact ar ⟨rfl,rfl,rfl,rfl,hg b0 b1,J⟩
   dsimp only at n2 n3;obtain⟨c0,c1⟩:=hC (by omega);refine ay (F4 _) λy _=>?_
   refine aR b0 b1 (aR b0 b1 (aT ?_));refine aR c0 c1 (aR c0 c1 (aT ?_));refine ay (ZH _) λy _=>?_
   refine aR b0 (by dsimp only;rw[I];exact b1) (aR b0 (by dsimp only;rw[I];exact b1) (aT ?_));refine aR c0 (by dsimp only;rw[I];exact c1) (aR c0 (by dsimp only;rw[I];exact c1) (aT ?_));have g1:=hg b0 b1;have g2:=hg c0 c1;refine aU (Tb _ _ (dt g1.len (by omega)) (dt g2.len (by omega))) ?_;exact ar ⟨rfl,rfl,rfl,rfl,g1.uni g2,J⟩
  rintro⟨⟨v,ok,tn⟩,b',c',d',e',e''⟩ ⟨Y,U,f3,f4,f5,f6⟩;dsimp only at Y U f3 f4 f5 f6;subst Y;subst U;subst f3;subst f4;obtain⟨a0,a1⟩:=hA f6;have ht:=f5.len;refine bi (by simp;omega) (by omega) ?_;refine aR a0 a1 (aR a0 a1 (aR a0 (by dsimp only;rw[I];exact a1) (aR a0 (by dsimp only;rw[I];exact a1) (ar ?_))));refine ⟨rfl,bU ..,bU ..,λl hm=>?_⟩;rcases CH hm with h|h
  .exact hl l h
  .rw[h];exact f5
theorem Zg (E:Nat) (Z:E<=100000) (c:Int×List IT) (hc:c.2.length<=1000000) (hv:VT c) (s:TT) (h:TH F E s):Ok (ng (c,s)) λy=>TH F E y.1/\(y.1.2.1.length=0\/y.1.2.2.2=s.2.2.2):=by
 unfold ng aV bh bw bL dh cN bd bB j7 il bF bH aX cK aF cA;have J:=h;obtain⟨h1,h2,h3,h4,h5⟩:=h;refine aY (λx=>x.2.1=c/\x.2.2.1=s/\(x.1=aj->(s.2.1.length:Int)=c.1/\(s.2.2.1.length:Int)=c.1)) ?_ ?_
 .refine bY (λ_=>ar ⟨rfl,rfl,λh=>(by cases h)⟩) λg=>ar ⟨rfl,rfl,λh=>?_⟩
  simp at h;exact⟨g,h⟩
 rintro⟨b,c',s',z⟩ ⟨e1,e2,e3⟩;dsimp only at e1 e2 e3;subst e1;subst e2;refine aP (λ_=>ar ⟨TH.zero E,.inl rfl⟩) λhb=>?_
 obtain⟨q1,q2⟩:=e3 hb;refine aU (c_ s' E Z J) ?_;refine qf (λx=>((c'.2.length:Int)+1-x.1).toNat) (λx=>0<=x.1/\x.1<=(c'.2.length:Int)+1/\x.2.1=c'/\x.2.2.1.2=s'.2.2.2/\x.2.2.2.2.1.length=s'.2.1.length/\x.2.2.2.2.2.length=s'.2.2.1.length/\∀ l∈x.2.2.2.2.2,TL F E l) ?_ ⟨by dsimp only;omega,by dsimp only;omega,rfl,rfl,rfl,rfl,h3⟩;rintro⟨(n:Int),c,⟨(I:Int),ev⟩,z',R,T⟩ ⟨n0,n1,e1,e2,e3,e4,M⟩;dsimp only at n0 n1 e1 e2 e3 e4 M;subst e1;subst e2;refine gh (λg=>?_) λ_=>ar ⟨TH.zero E,.inl rfl⟩
 dsimp only[au] at g;refine aY (λx=>x.2=(c,(I,s'.2.2.2),z',R,T)/\(x.1=aj->0<=I/\I<(c.2.length:Int))) ?_ ?_
 .refine bK (λ_=>ar ⟨rfl,λh=>(by cases h)⟩) λg1=>ar ⟨rfl,λh=>?_⟩
  dsimp only at g1 h;rw[mc] at h;exact⟨g1,h⟩
 rintro⟨b',x⟩ ⟨f1,f2⟩;dsimp only at f1 f2;subst f1;refine aP (λ_=>ar ⟨TH.zero E,.inl rfl⟩) λhb=>?_
 obtain⟨p0,p1⟩:=f2 hb;refine aR p0 p1 (aT ?_);have hi:=hv.i _ (bI (T:=BH) (xs:=c.2) (j:=I) p0 p1);revert hi;generalize (aJ (T:=BH) _ _)=i;intro hi;refine aU (FJ _) ?_;refine bY (λ_=>ar ⟨⟨by dsimp only;omega,by dsimp only;omega,M,h4,h5⟩,.inr rfl⟩) λhsil=>?_
 refine aK (λ_=>ar ⟨TH.zero E,.inl rfl⟩) λhn=>?_
 dsimp only[au] at hn;refine ay (XW E Z i (I,s'.2.2.2) R T (λj hj=>by have:=hi.r j hj;omega) hsil.1 hsil.2 (by omega) (by omega) M) λy hy=>?_
 obtain⟨⟨⟨pc',ev'⟩,ok⟩,R',T'⟩:=y;obtain⟨k1,k2,Y,U⟩:=hy;dsimp only at k1 k2 Y U;refine cW (lD Y.symm (cW (lD k2.symm (A_ ?_))));refine dW (λ_=>ar ⟨TH.zero E,.inl rfl⟩) λ_=>ar ?_
 dsimp only;rw[iu (by omega) (by omega)];exact⟨⟨by omega,by omega,rfl,k1,by omega,by omega,U⟩,by omega⟩
abbrev ST:Type:=SY×List Int×List Int×List TT
structure TF (c:Int×List IT) (t:TT):Prop where
 p0:0<=t.1
 p1:t.1<(c.2.length:Int)
 r:(t.2.1.length:Int)=c.1
 t:(t.2.2.1.length:Int)=c.1
structure FSx (c:CT) (s:ST):Prop where
 vc:VC c
 cd:∀ d∈c.1.2.2.1,0<=d.2/\d.2<(c.1.2.1.length:Int)
 e3:s.1.2.2.2.length=c.1.2.2.2.2.1.length
 ce:s.2.1.length=c.1.1.length
 fu:s.2.2.1.length=c.1.2.2.2.1.length
 th:s.2.2.2.length=c.2.length
 t:∀ k:Nat,k<c.2.length->TF (aJ (T:=wq) c.2 (k:Int)) (aJ (T:=uS) s.2.2.2 (k:Int))
def FQ (L:List ET) (k:Int) (y:Int):Prop:=1<=y/\Ld L k y
structure SV (n:Nat) (L:List ET) (s:ST):Prop where
 sb:SB n s.1
 ln:L.length=n
 t:∀ k:Nat,k<s.2.2.2.length->TH (FQ L k) n (aJ (T:=uS) s.2.2.2 (k:Int))
theorem SV.ti {n:Nat} {L:List ET} {s:ST} (h:SV n L s) {k:Int} (h0:0<=k) (h1:k<(s.2.2.2.length:Int)):TH (FQ L k) n (aJ (T:=uS) s.2.2.2 k):=by
 have:=h.t k.toNat (by omega);rw[show ((k.toNat:Nat):Int)=k by omega] at this;exact this
structure TG (c:CT) (L:List ET) (sy:SY) (k:Int) (t:TT):Prop where
 ev:t.2.2.2=((fl L k).length:Int)
 wi:(aJ (T:=jH) sy.2.2.2 k).1=3\/(aJ (T:=jH) sy.2.2.2 k).1=4->(aJ (T:=BH) (aJ (T:=wq) c.2 k).2 t.1).1=21
 nw:(fl L k).length=0->(aJ (T:=jH) sy.2.2.2 k).1=0\/(aJ (T:=jH) sy.2.2.2 k).1=1
structure Ls (c:CT) (L:List ET) (s:ST):Prop where
 ac:Acw c.1 L s.1 s.2.1 s.2.2.1
 t:∀ k:Nat,k<s.2.2.2.length->(aJ (T:=uS) s.2.2.2 (k:Int)).2.1.length=0\/TG c L s.1 (k:Int) (aJ (T:=uS) s.2.2.2 (k:Int))
theorem aff (c:CT) (s:ST) (hc:CB c):Ok (wE (c,s)) λb=>b=ai->FSx c s:=by
 unfold wE aV bh dh cN bB j7 il bH aX cK aF cA;refine aY (λx=>x.2=(c,s)/\(x.1=aj->VC c/\(∀ d∈c.1.2.2.1,0<=d.2/\d.2<(c.1.2.1.length:Int))/\s.1.2.2.2.length=c.1.2.2.2.2.1.length/\s.2.1.length=c.1.1.length/\s.2.2.1.length=c.1.2.2.2.1.length/\s.2.2.2.length=c.2.length)) ?_ ?_
 .refine ay (Ta c hc.th hc.ins) λb hb=>?_
  refine dW (λ_=>ar ⟨rfl,λh=>(by cases h)⟩) λh=>?_
  have hv:=hb h;refine ay (P0 c.1 s.1 (by have:=hv.vl.d;omega)) λb2 I=>?_
  refine dW (λ_=>ar ⟨rfl,λh=>(by cases h)⟩) λh2=>?_
  obtain⟨J,_,_,Z⟩:=I h2;refine bY (λ_=>ar ⟨rfl,λh=>(by cases h)⟩) λk1=>?_
  refine bY (λ_=>ar ⟨rfl,λh=>(by cases h)⟩) λk2=>ar ⟨rfl,λU=>⟨hv,J,Z,?_,?_,?_⟩⟩
  .dsimp only[au] at k1;omega
  .dsimp only[au] at k2;omega
  .simp at U;omega
 rintro⟨b,x⟩ ⟨e,hb⟩;dsimp only at e hb;subst e;refine aP (λ_=>ar λh=>(by cases h)) λh=>?_
 obtain⟨hv,hcd,Y,hce,hfu,hth⟩:=hb h;have hcl:=hc.th;refine ch c.2.length (λi x=>x.1=(i:Int)/\x.2=(c,s)/\∀ k:Nat,k<i->TF (aJ (T:=wq) c.2 (k:Int)) (aJ (T:=uS) s.2.2.2 (k:Int))) ?_ ?_ ⟨rfl,rfl,λk hk=>by omega⟩
 .rintro i ⟨a,x⟩ hi ⟨e1,e2,e3⟩;dsimp only at e1 e2 e3;subst e1;subst e2;refine dg ?_;have hin:((i:Nat):Int)<(c.2.length:Int):=by omega
  refine cD (aT ?_);refine aY (λx=>x.2=(c,s)/\(x.1=aj->TF (aJ (T:=wq) c.2 (i:Int)) (aJ (T:=uS) s.2.2.2 (i:Int)))) ?_ ?_
  .refine bK (λ_=>ar ⟨rfl,λh=>(by cases h)⟩) λg0=>?_
   refine aR (by dsimp only;omega) hin (aT ?_);refine gh (λ_=>ar ⟨rfl,λh=>(by cases h)⟩) λJ=>?_
   refine aR (by dsimp only;omega) hin (aT ?_);refine bY (λ_=>ar ⟨rfl,λh=>(by cases h)⟩) λg2=>?_
   refine aR (by dsimp only;omega) hin (aT (ar ⟨rfl,λM=>⟨g0,J,g2,?_⟩⟩));simp at M;exact M
  rintro⟨b,x⟩ ⟨e,hb⟩;dsimp only at e hb;subst e;refine aP (λ_=>ar λh=>(by cases h)) λh=>ar ?_
  dsimp only;refine ⟨gM (by omega),rfl,λk hk=>?_⟩;rcases b9 k i with h1|h1
  .exact e3 k h1
  .rw[show k=i by omega];exact hb h
 .rintro⟨a,x⟩ ⟨e1,e2,e3⟩;dsimp only at e1 e2 e3;subst e1;subst e2;refine db (ar λ_=>⟨hv,hcd,Y,hce,hfu,hth,e3⟩)
theorem ahe {i:IT} (h:i.1=6\/i.1=7\/i.1=27\/i.1=10):i.2.1∈iT i:=by
 unfold iT;(repeat' split)<;>simp<;>omega
theorem ahd {i:IT} (h:i.1=8\/i.1=9\/i.1=26):i.2.2.1∈iT i:=by
 unfold iT;(repeat' split)<;>simp<;>omega
theorem am1 {i:IT} (h:i.1=7\/i.1=9):i.2.2.2.1∈iT i:=by
 unfold iT;(repeat' split)<;>simp<;>omega
structure KD (op k:Int):Prop where
 ld:k=3->op=6\/op=7
 st:k=4->op=8\/op=9
 br:k=5->op=10
 se:k=22->op=26
 ge:k=23->op=27
 e1:k=2->op=28
 n1:¬k=1
 n17:¬k=17
 wt:k=16->op=21
 e2:¬k=0->op=28->k=2
 d7:¬k=0->op=7->k=3
 d8:¬k=0->op=8->k=4
 d9:¬k=0->op=9->k=4
 d10:¬k=0->op=10->k=5
 d26:¬k=0->op=26->k=22
theorem aev (op:Int):Ok (wC op) λk=>KD op k:=by
 unfold wC bB kJ aF;refine aY (λx=>x.2=[3,3,4,4,5,6,7,8,9,10,11,12,13,14,15,16,18,19,20,21,22,23,2]/\(x.1=aj->6<=op/\op<=28)) ?_ ?_
 .refine bK (λ_=>ar ⟨rfl,λh=>(by cases h)⟩) λg=>ar ⟨rfl,λh=>?_⟩
  dsimp only at h;rw[gi] at h;exact⟨g,h⟩
 rintro⟨b,x⟩ ⟨e,hb⟩;dsimp only at e hb;subst e;refine aP (λ_=>ar (by constructor<;>first|decide|(intro h;first|(exact (h rfl).elim)|(cases h;done)))) λh=>?_
 obtain⟨h1,h2⟩:=hb h;dsimp only;rw[iu (n:=op-6) (by omega) (by omega)];refine aR (by omega) (by simp;omega) (aR (by omega) (by simp;omega) (aT (ar ?_)));have:op=6\/op=7\/op=8\/op=9\/op=10\/op=11\/op=12\/op=13\/op=14\/op=15\/op=16\/op=17\/op=18\/op=19\/op=20\/op=21\/op=22\/op=23\/op=24\/op=25\/op=26\/op=27\/op=28:=by omega
 rcases this with rfl|rfl|rfl|rfl|rfl|rfl|rfl|rfl|rfl|rfl|rfl|rfl|rfl|rfl|rfl|rfl|rfl|rfl|rfl|rfl|rfl|rfl|rfl;all_goals (constructor<;>decide)
theorem To (a n:Int):Ok (rx (a,n)) λr=>n=2->r=0\/r=1:=by
 unfold rx bB bF aF;refine bK (λ_=>ar λh=>(by dsimp only at *;omega)) λh=>?_
 dsimp only at h;refine zf (by dsimp only;omega) ?_;have t1:=Int.tmod_lt_of_pos a (b:=n) (by omega);have I:=Int.lt_tmod_of_pos a (b:=n) (by omega);refine aY (λr=>n=2->r=0\/r=1) (bK (λg=>ar λh2=>?_) λg=>ar λh2=>?_) λ_ h=>ar h
 .dsimp only at g ⊢;rw[iu (by omega) (by omega)];omega
 .dsimp only at g ⊢;omega
theorem QJ (i:IT) (t:TT) (hr:∀ j∈iT i,0<=j/\j<(t.2.1.length:Int)):Ok (sx (i,t)) λo=>(i.1=7->i.2.2.1=3->i.2.2.2.2.1=2->o=3\/o=4)/\(i.1=9->i.2.1=3->i.2.2.2.2.1=2->o=3\/o=4):=by
 unfold sx aV bh bw bd bH aF;have J:i.1=7\/i.1=9->0<=i.2.2.2.1/\i.2.2.2.1<(t.2.1.length:Int):=λh=>hr _ (by
  unfold iT;(repeat' split)<;>simp<;>omega)
 have tr:∀ {o:Int},¬i.1=7->¬i.1=9->(i.1=7->i.2.2.1=3->i.2.2.2.2.1=2->o=3\/o=4)/\(i.1=9->i.2.1=3->i.2.2.2.2.1=2->o=3\/o=4):=λh1 h2=>⟨λh=>(h1 h).elim,λh=>(h2 h).elim⟩
 have wk:∀ {b r n:Int},b=3->n=2->(n=2->r=0\/r=1)->bn .i64 (b+r)=3\/bn .i64 (b+r)=4:=λh1 h2 I=>by
  have:=I h2;rw[iu (by omega) (by omega)];omega
 refine aY (λx=>x.2=(i,t)/\(x.1=ai->i.1=6\/i.1=27)) (aK (λh=>ar ⟨rfl,λ_=>.inl h⟩) λ_=>ar ⟨rfl,λh=>.inr (bf h)⟩) ?_;rintro⟨b,x⟩ ⟨e,hb⟩;dsimp only at e hb;subst e;refine aP (λh=>ar (tr (by have:=hb h;omega) (by have:=hb h;omega))) λ_=>?_
 refine aK (λh=>?_) λM=>?_
 .exact aR (J (.inl h)).1 (J (.inl h)).2 (aT (ay (To _ _) λy U=>ar ⟨λ_ I Y=>wk I Y U,λh9=>by dsimp only at h;omega⟩))
 refine aK (λh=>?_) λZ=>?_
 .exact aR (J (.inr h)).1 (J (.inr h)).2 (aT (ay (To _ _) λy U=>ar ⟨λh7=>(M h7).elim,λ_ I Y=>wk I Y U⟩))
 refine aY (λ_=>True) ?_ λx _=>aP (λ_=>ar (tr M Z)) λ_=>ar (tr M Z)
 with_reducible repeat' first|(refine OS.ok ?_;constructor)|refine IM.mk λ_=>?_
 all_goals trivial
theorem ahw {w:WT} (I:w.1=C0) {b n:Int} (h:AR w b n):b=3/\n=2:=by
 obtain⟨b0,b1,ix,sz,sn⟩:=h;rw[I] at b1 ix sz sn;have b1:b<5:=b1;rcases (by omega:b=0\/b=1\/b=2\/b=3\/b=4) with rfl|rfl|rfl|rfl|rfl
 .exact (sz rfl).elim
 .exact (sz rfl).elim
 .exact (sz rfl).elim
 .exact⟨rfl,sn.symm⟩
 .exact cV ix (by decide)
theorem ah7 {w:WT} (I:w.1=C0) {o:Int} (h:o=3\/o=4):¬(aJ (T:=NX) w.1 o).2.2.1=0:=by
 rw[I];rcases h with rfl|rfl<;>decide
structure PE (n:Nat) (c:CT) (s:ST) (t:Int) (e:ET):Prop where
 fs:FSx c s
 t0:0<=t
 t1:t<(c.2.length:Int)
 et:e.1=t
 d:e.2.2.2.2.2.1.length<=n
 f:e.2.2.2.2.2.2.length<=n
 a:e.2.1=3\/e.2.1=23\/e.2.1=5->0<=(aJ (T:=BH) (aJ (T:=wq) c.2 t).2 (aJ (T:=uS) s.2.2.2 t).1).2.1/\(aJ (T:=BH) (aJ (T:=wq) c.2 t).2 (aJ (T:=uS) s.2.2.2 t).1).2.1<((aJ (T:=uS) s.2.2.2 t).2.1.length:Int)
 b:e.2.1=4\/e.2.1=22->0<=(aJ (T:=BH) (aJ (T:=wq) c.2 t).2 (aJ (T:=uS) s.2.2.2 t).1).2.2.1/\(aJ (T:=BH) (aJ (T:=wq) c.2 t).2 (aJ (T:=uS) s.2.2.2 t).1).2.2.1<((aJ (T:=uS) s.2.2.2 t).2.1.length:Int)
structure PS (c:CT) (L:List ET) (s:ST) (t:Int) (e:ET):Prop where
 tg:TG c L s.1 t (aJ (T:=uS) s.2.2.2 t)
 s1:e.2.1=1\/e.2.1=2->e.2.2.2.2.1= -1
 s2:¬(e.2.1=1\/e.2.1=2)->0<=e.2.2.2.2.1/\e.2.2.2.2.1<c.1.2.2.2.2.2.length/\(aJ (T:=yk) c.1.2.2.2.2.2 e.2.2.2.2.1).1=t
 de:0<e.2.2.2.2.2.1.length->e.2.1=5\/(e.2.1=3\/e.2.1=4)/\¬(aJ (T:=NX) c.1.1 e.2.2.1).2.2.1=0
 fr:0<e.2.2.2.2.2.2.length->e.2.1=4\/e.2.1=22
 da:HN e.2.2.2.2.2.1
 dq:∀ y∈e.2.2.2.2.2.1,FQ L t y
 fa:HN e.2.2.2.2.2.2
 fq:∀ y∈e.2.2.2.2.2.2,FQ L t y
 wt:e.2.1=16->(aJ (T:=BH) (aJ (T:=wq) c.2 t).2 (aJ (T:=uS) s.2.2.2 t).1).1=21
theorem Wb (n:Nat) (hn:n<=100000) (c:CT) (L:List ET) (s:ST) (hc:CB c) (hs:SV n L s) (hI:Ls c L s) (t:Int):Ok (nO (c,s,t)) λy=>y.2=ai->PE n c s t y.1/\PS c L s t y.1:=by
 unfold nO aV bh bw bL dh cN bd bB bF bH aX aF;refine aY (λx=>x.2.1=c/\x.2.2.1=s/\(x.1=aj->FSx c s/\0<=t/\t<(c.2.length:Int))) ?_ ?_
 .refine ay (aff c s hc) λb hb=>?_
  refine dW (λ_=>ar ⟨rfl,rfl,λh=>(by cases h)⟩) λh=>?_
  refine bK (λ_=>ar ⟨rfl,rfl,λh=>(by cases h)⟩) λg0=>ar ⟨rfl,rfl,λg1=>?_⟩
  dsimp only at g0 g1;rw[mc] at g1;exact⟨hb h,g0,g1⟩
 rintro⟨b,c',s',z⟩ ⟨e1,e2,hb⟩;dsimp only at e1 e2 hb;subst e1;subst e2;refine aP (λ_=>ar λh=>(by cases h)) λh=>?_
 obtain⟨hf,t0,t1⟩:=hb h;have hk:((t.toNat:Nat):Int)=t:=by omega
 have htf:=hf.t t.toNat (by omega);rw[hk] at htf;have hvt:=hf.vc.t _ (bI (T:=wq) (xs:=c'.2) (j:=t) t0 t1);have hth:=hs.ti t0 (by rw[hf.th];exact t1);have key:∀ e:ET,e.1=t->e.2.2.2.2.2.1.length<=n->e.2.2.2.2.2.2.length<=n->(e.2.1=1\/e.2.1=17\/KD (aJ (T:=BH) (aJ (T:=wq) c'.2 t).2 (aJ (T:=uS) s'.2.2.2 t).1).1 e.2.1)->PE n c' s' t e:=by
  intro e h1 h2 h3 J;have hi:=hvt.i _ (bI (T:=BH) (xs:=(aJ (T:=wq) c'.2 t).2) (j:=(aJ (T:=uS) s'.2.2.2 t).1) htf.p0 htf.p1);refine ⟨hf,t0,t1,h1,h2,h3,λh5=>?_,λh5=>?_⟩
  .rw[htf.r];rcases J with J|J|J
   .omega
   .omega
   .refine hi.r _ ?_;have a1:=J.ld;have a2:=J.ge;have a3:=J.br;revert a1 a2 a3 h5;generalize (aJ (T:=BH) (aJ (T:=wq) c'.2 t).2 (aJ (T:=uS) s'.2.2.2 t).1)=i;intro h5 a1 a2 a3;exact ahe (by omega)
  .rw[htf.r];rcases J with J|J|J
   .omega
   .omega
   .refine hi.r _ ?_;have a1:=J.st;have a2:=J.se;revert a1 a2 h5;generalize (aJ (T:=BH) (aJ (T:=wq) c'.2 t).2 (aJ (T:=uS) s'.2.2.2 t).1)=i;intro h5 a1 a2;exact ahd (by omega)
 have hir:=(hvt.i _ (bI (T:=BH) (xs:=(aJ (T:=wq) c'.2 t).2) (j:=(aJ (T:=uS) s'.2.2.2 t).1) htf.p0 htf.p1)).r;rw[<- htf.r] at hir;have hrg:=hc.rg _ (bI (T:=wq) (xs:=c'.2) (j:=t) t0 t1);have htg:TG c' L s'.1 t (aJ (T:=uS) s'.2.2.2 t):=by
  have:=hI.t t.toNat (by rw[hf.th];omega);rw[hk] at this;refine this.resolve_left λh=>?_
  have:=htf.r;omega
 have hvj:=hf.vc.j t.toNat (by omega);rw[hk] at hvj;have hvj:=hvj _ (bI (T:=BH) (xs:=(aJ (T:=wq) c'.2 t).2) (j:=(aJ (T:=uS) s'.2.2.2 t).1) htf.p0 htf.p1);have hC0:=hc.wx.c;refine aR t0 (by dsimp only;rw[hf.th];exact t1) (aT ?_);refine aR t0 t1 (aT ?_);refine aR htf.p0 htf.p1 (aT ?_);have t4:t<(s'.1.2.2.2.length:Int):=by rw[hf.e3,<-hf.vc.tl];exact t1
 have tz:(aJ (T:=uS) s'.2.2.2 t).2.2.1.length=(aJ (T:=uS) s'.2.2.2 t).2.1.length:=by have:=htf.r;have:=htf.t;omega
 refine aR t0 t4 (aT ?_);refine aK (λ_=>ar λ_=>⟨key _ rfl (jZ _) (jZ _) (.inl rfl),⟨htg,λ_=>rfl,λh=>(h (.inl rfl)).elim,λh=>(by cases h),λh=>(by cases h),trivial,λy Z=>(by cases Z),trivial,λy Z=>(by cases Z),λh=>(by cases h)⟩⟩) λ_=>?_
 refine aK (λJ=>aR t0 t4 (aT (ar λ_=>⟨key _ rfl (jZ _) (jZ _) (.inr (.inl rfl)),⟨htg,λh=>(by rcases h with h|h<;>cases h),λ_=>hvj.si (by rw[htg.wi (.inr J)];decide),λh=>(by cases h),λh=>(by cases h),trivial,λy Z=>(by cases Z),trivial,λy Z=>(by cases Z),λh=>(by cases h)⟩⟩))) λ_=>?_
 refine aK (λ_=>?_) λ_=>ar λh=>(by cases h)
 refine ay (aev _) λk I=>?_
 refine ay (QJ _ _ hir) λo ho=>?_
 refine aK (λ_=>ar λh=>(by cases h)) λM=>?_
 have fin:∀ e:ET,e.1=t->e.2.1=k->e.2.2.1=o->e.2.2.2.2.1=(aJ (T:=BH) (aJ (T:=wq) c'.2 t).2 (aJ (T:=uS) s'.2.2.2 t).1).2.2.2.2.2->(0<e.2.2.2.2.2.1.length->(aJ (T:=BH) (aJ (T:=wq) c'.2 t).2 (aJ (T:=uS) s'.2.2.2 t).1).1=10\/(aJ (T:=BH) (aJ (T:=wq) c'.2 t).2 (aJ (T:=uS) s'.2.2.2 t).1).1=7\/(aJ (T:=BH) (aJ (T:=wq) c'.2 t).2 (aJ (T:=uS) s'.2.2.2 t).1).1=9)->(0<e.2.2.2.2.2.2.length->(aJ (T:=BH) (aJ (T:=wq) c'.2 t).2 (aJ (T:=uS) s'.2.2.2 t).1).1=8\/(aJ (T:=BH) (aJ (T:=wq) c'.2 t).2 (aJ (T:=uS) s'.2.2.2 t).1).1=9\/(aJ (T:=BH) (aJ (T:=wq) c'.2 t).2 (aJ (T:=uS) s'.2.2.2 t).1).1=26)->TL (FQ L t) n e.2.2.2.2.2.1->TL (FQ L t) n e.2.2.2.2.2.2->PE n c' s' t e/\PS c' L s' t e:=by
  intro e h1 h2 h3 J h5 h6 h7 h8;refine ⟨key e h1 h7.len h8.len (.inr (.inr (h2▸I))),htg,λh=>?_,λh=>?_,λh=>?_,λh=>?_,h7.a,h7.f,h8.a,h8.f,λh=>I.wt (h2▸h)⟩
  .rw[J];rw[h2] at h;exact hvj.se (I.e1 (h.resolve_left I.n1))
  .rw[J];rw[h2] at h;exact hvj.si λh9=>h (.inr (I.e2 M h9))
  .rw[h2,h3];rcases h5 h with g|g|g
   .exact .inl (I.d10 M g)
   .obtain⟨q1,q2⟩:=ahw hC0 (hvj.a7 g);exact .inr ⟨.inl (I.d7 M g),ah7 hC0 (ho.1 g q1 q2)⟩
   .obtain⟨q1,q2⟩:=ahw hC0 (hvj.a9 g);exact .inr ⟨.inr (I.d9 M g),ah7 hC0 (ho.2 g q1 q2)⟩
  .rw[h2];rcases h6 h with g|g|g
   .exact .inl (I.d8 M g)
   .exact .inl (I.d9 M g)
   .exact .inr (I.d26 M g)
 clear key htg hvj ho hC0 hrg;revert fin htf hvt hth hir tz I;dsimp only;generalize (aJ (T:=uS) s'.2.2.2 t)=th;generalize (aJ (T:=BH) _ th.1)=i;intro htf hvt hth hir tz I fin;have hlen:∀ {j:Int},0<=j->j<(th.2.2.1.length:Int)->TL (FQ L t) n (aJ (T:=.sl (.int .i64)) th.2.2.1 j):=λh0 h1=>hth.l _ (bI (T:=.sl (.int .i64)) (xs:=th.2.2.1) h0 h1)
 have hA:i.1=10->0<=i.2.1/\i.2.1<(th.2.2.1.length:Int):=λh=>by
  rw[tz];exact hir _ (ahe (.inr (.inr (.inr h))))
 have hB:i.1=8\/i.1=9\/i.1=26->0<=i.2.2.1/\i.2.2.1<(th.2.2.1.length:Int):=λh=>by
  rw[tz];exact hir _ (ahd (h))
 have hC:i.1=7\/i.1=9->0<=i.2.2.2.1/\i.2.2.2.1<(th.2.2.1.length:Int):=λh=>by
  rw[tz];exact hir _ (am1 (h))
 refine aY (λx=>x.2.1=th/\x.2.2.1=i/\(x.2.2.2.1.1=t/\x.2.2.2.1.2.1=k/\x.2.2.2.1.2.2.1=o/\x.2.2.2.1.2.2.2.2=i.2.2.2.2.2)/\TL (FQ L t) n x.2.2.2.2/\(0<x.2.2.2.2.length->i.1=10\/i.1=7\/i.1=9)) ?_ ?_
 .refine aK (λh=>?_) λ_=>?_
  .obtain⟨a0,a1⟩:=hA h;refine aR a0 a1 (aT ?_);have:=hlen a0 a1;exact bi (dt this.len (by omega)) (by omega) (ar ⟨rfl,rfl,⟨rfl,rfl,rfl,rfl⟩,this,λ_=>.inl h⟩)
  refine aY (λx=>x.2.2.1=th/\x.2.2.2.1=i/\(x.2.2.2.2.1=t/\x.2.2.2.2.2.1=k/\x.2.2.2.2.2.2.1=o/\x.2.2.2.2.2.2.2.2=i.2.2.2.2.2)/\(x.1=ai->i.1=7\/i.1=9)) ?_ ?_
  .refine aK (λh=>ar ⟨rfl,rfl,⟨rfl,rfl,rfl,rfl⟩,λ_=>.inl h⟩) λ_=>ar ⟨rfl,rfl,⟨rfl,rfl,rfl,rfl⟩,λh=>.inr (bf h)⟩
  rintro⟨b,z0,th',Y,t',k',z1⟩ ⟨e1,e2,e3,U⟩;dsimp only at e1 e2 e3 U;subst e1;subst e2;refine aP (λh=>?_) λ_=>ar ⟨rfl,rfl,e3,TL.nil n,λh=>(by cases h)⟩
  obtain⟨a0,a1⟩:=hC (U h);refine aR a0 a1 (aT ?_);have:=hlen a0 a1;exact bi (dt this.len (by omega)) (by omega) (ar ⟨rfl,rfl,e3,this,λ_=>.inr (U h)⟩)
 rintro⟨z0,th',Y,⟨t',k',z1⟩,ds⟩ ⟨e1,e2,e3,hd,hd2⟩;dsimp only at e1 e2 e3 hd hd2;subst e1;subst e2;refine aY (λx=>(x.2.1.1=t/\x.2.1.2.1=k/\x.2.1.2.2.1=o/\x.2.1.2.2.2.2=Y.2.2.2.2.2)/\x.2.2.1=ds/\TL (FQ L t) n x.2.2.2/\(0<x.2.2.2.length->Y.1=8\/Y.1=9\/Y.1=26)) ?_ ?_
 .refine aY (λx=>x.2=(z0,th',Y,(t',k',z1),ds)/\(x.1=ai->Y.1=8\/Y.1=9\/Y.1=26)) ?_ ?_
  .exact aK (λh=>ar ⟨rfl,λ_=>.inl h⟩) λ_=>aK (λh=>ar ⟨rfl,λ_=>.inr (.inl h)⟩) λ_=>ar ⟨rfl,λh=>.inr (.inr (bf h))⟩
  rintro⟨b,x⟩ ⟨e,U⟩;dsimp only at e U;subst e;refine aP (λh=>?_) λ_=>ar ⟨e3,rfl,TL.nil n,λh=>(by cases h)⟩
  obtain⟨a0,a1⟩:=hB (U h);refine aR a0 a1 (aT ?_);have:=hlen a0 a1;exact bi (dt this.len (by omega)) (by omega) (ar ⟨e3,rfl,this,λ_=>U h⟩)
 rintro⟨z2,⟨t2,k2,o2,z3,si⟩,d2,f2⟩ ⟨e1,e2,h1,h2⟩;dsimp only at e1 e2 h1 h2;subst e2;obtain⟨g1,g2,g3,g4⟩:=e1;exact ar λ_=>fin _ g1 g2 g3 g4 hd2 h2 hd h1
theorem aim {n:Nat} {k:Int} (h0:0<=k) (h1:k<n):(aJ (T:=jH) (XS n) k).1=0\/(aJ (T:=jH) (XS n) k).1=1:=by
 have hm:=bI (T:=jH) (xs:=XS n) h0 (by rw[HX];exact h1);revert hm;generalize aJ (T:=jH) (XS n) k=z;intro hm;cases n with
 |zero=>cases hm
 |succ n=>
  rcases bl.1 hm with rfl|hm
  .exact .inr rfl
  .rw[pI hm];exact .inl rfl
theorem V9 (c:CT) (hvt:jK c=af ai) (hv:VC c):Ok (ul c) λs=>SV 0 [] s/\Ls c [] s:=by
 unfold ul aV bh bw cu bL dh cN eZ bB vQ bF bH aX cK aF cA;refine aU hvt (dW (λh=>(by cases h)) λ_=>?_);obtain⟨vc,vl,vd,Z,_,Y,_⟩:=id hv.vl;have htl:=hv.tl;refine aU (K4 c.1 hv.vl) ?_;refine ch c.1.1.length (λi x=>x.1=(i:Int)/\x.2.1=c/\x.2.2.2.1=P1 c.1/\x.2.2.2.2=(c.1.1.take i).map λc=>c.2.2.2.2) ?_ ?_ ⟨rfl,rfl,rfl,rfl⟩
 .rintro i ⟨a,c',z,U,l⟩ hi ⟨e1,e2,e3,I⟩;dsimp only at e1 e2 e3 I;subst e1;subst e2;subst e3;subst I;refine dg ?_;refine cD (aT (bi (by simp;omega) (by omega) (ar ?_)));dsimp only;exact⟨gM (by omega),rfl,rfl,by rw[oo (T:=NX) hi,cP];rfl⟩
 rintro⟨a,c',z,U,l⟩ ⟨e1,e2,e3,I⟩;dsimp only at e1 e2 e3 I;subst e1;subst e2;subst e3;rw[cR] at I;subst I;refine db ?_;refine ay (P:=λs=>SV 0 [] s/\Ls c' [] s) ?_ λr hr=>ar hr
 refine ch c'.1.2.2.2.1.length (λi x=>x.1=(i:Int)/\x.2.1=c'/\x.2.2.2.1=P1 c'.1/\x.2.2.2.2.1=ce0 c'.1/\x.2.2.2.2.2=aG i 0) ?_ ?_ ⟨rfl,rfl,rfl,rfl,rfl⟩
 .rintro i ⟨a,c,z,y,l,f⟩ hi ⟨e1,e2,e3,I,J⟩;dsimp only at e1 e2 e3 I J;subst e1;subst e2;subst e3;subst J;refine dg ?_;refine bi (by simp;omega) (by omega) (ar ?_);dsimp only;exact⟨gM (by omega),rfl,rfl,I,by rw[El]⟩
 rintro⟨a,c,z,y,l,f⟩ ⟨e1,e2,e3,I,J⟩;dsimp only at e1 e2 e3 I J;subst e1;subst e2;subst e3;subst I;subst J;refine db ?_;refine ay (P:=λs=>SV 0 [] s/\Ls c [] s) ?_ λr hr=>ar hr
 refine ch c.2.length (λi x=>x.1=(i:Int)/\x.2.1=c/\x.2.2.2.1=P1 c.1/\x.2.2.2.2.1=ce0 c.1/\x.2.2.2.2.2.1=fu0 c.1/\x.2.2.2.2.2.2.length=i/\∀ t∈x.2.2.2.2.2.2,(∀ F,TH F 0 t)/\t.2.2.2=0) ?_ ?_ ⟨rfl,rfl,rfl,rfl,rfl,rfl,λt ht=>(by cases ht)⟩
 .rintro i ⟨a,c,z,y,l,f,th⟩ hi ⟨e1,e2,e3,I,e4b,J,M⟩;dsimp only at e1 e2 e3 I e4b J M;subst e1;subst e2;subst e3;refine dg ?_;have hin:((i:Nat):Int)<(c.2.length:Int):=by omega
  have hvt:=hv.t _ (bI (T:=wq) (xs:=c.2) (j:=(i:Int)) (by omega) hin);have q0:=hvt.r0;have q1:=hvt.r1;refine aR (by dsimp only;omega) hin (aT ?_);refine cW (cW (dx q0 (dx (eE _) (bi (by dsimp only;omega) (by omega) ?_))));refine aR (by dsimp only;omega) hin (aT ?_);refine cW (cW (dx q0 (dx (eE _) (bi (by dsimp only;omega) (by omega) ?_))));refine bi (by simp;omega) (by omega) (ar ?_);dsimp only;refine ⟨gM (by omega),rfl,rfl,I,e4b,by simp;omega,λt ht=>?_⟩;rcases bQ.1 ht with h|h
  .exact M t h
  .rw[aL] at h;subst h;refine ⟨λF=>⟨?_,?_,λl hl=>?_,eE _,eE _⟩,rfl⟩
   .dsimp only;rw[eR];omega
   .dsimp only;rw[eR];omega
   .rw[pI hl];exact TL.nil 0
 .rintro⟨a,c,z,y,l,f,th⟩ ⟨e1,e2,e3,I,e4b,J,M⟩;dsimp only at e1 e2 e3 I e4b J M;subst e1;subst e2;subst e3;subst I;subst e4b;refine db (ar ?_);have hm:∀ k:Nat,k<th.length->_:=λk hk=>M _ (bI (T:=uS) (xs:=th) (j:=(k:Int)) (by omega) (by omega))
  refine ⟨⟨T_ hv.vl,rfl,λk hk=>(hm k hk).1 _⟩,⟨.nil,λk hk=>.inr ?_⟩⟩;dsimp only at hk;have hst:=aim (n:=c.1.2.2.2.2.1.length) (k:=(k:Int)) (by omega) (by omega);exact⟨(hm k hk).2,λh=>(by rcases hst with q|q<;>rcases h with h|h<;>exact cV (q.symm.trans h) (by decide)),λ_=>hst⟩
theorem Is {th:List (Int×Int×Bool)} {t x j:Int} (h0:0<=t) (h1:t<th.length) (hj:0<=j):(aJ (T:=jH) (yl th t x) j).1=if j=t then x else (aJ (T:=jH) th j).1:=by
 unfold yl;rw[rM (T:=jH) _ _ _ _ h0 h1 hj];split<;>rfl
theorem ahp {th:List (Int×Int×Bool)} {t x j:Int} (h0:0<=t) (h1:t<th.length) (hj:0<=j):(aJ (T:=jH) (cdP th t x) j).1=(aJ (T:=jH) th j).1:=by
 unfold cdP;rw[rM (T:=jH) _ _ _ _ h0 h1 hj];split
 .rename_i h;rw[h]
 .rfl
theorem ahv {th:List (Int×Int×Bool)} {t j:Int} {x:Bool} (h0:0<=t) (h1:t<th.length) (hj:0<=j):(aJ (T:=jH) (atP th t x) j).1=(aJ (T:=jH) th j).1:=by
 unfold atP;rw[rM (T:=jH) _ _ _ _ h0 h1 hj];split
 .rename_i h;rw[h]
 .rfl
theorem ahi {j:Int} (hj:0<=j):∀ (l:List Int) (th:List (Int×Int×Bool)),(∀ u:Int,u∈l->0<=u/\u<th.length)->(aJ (T:=jH) (CZ th l) j).1=if j∈l then 4 else (aJ (T:=jH) th j).1
 |[],th,_=>by simp[CZ]
 |x::r,th,h=>by
  have I:=h x (dG ..);have J:=ahi hj r (yl th x 4) λu hu=>by unfold yl;rw[bU];exact h u (cO _ hu)
  have e:CZ th (x::r)=CZ (yl th x 4) r:=rfl;rw[e,J,Is I.1 I.2 hj];by_cases h1:j∈r
  .rw[aE h1,aE (cO _ h1)]
  .rw[aA h1];by_cases h2:j=x
   .rw[aE h2,aE (by rw[h2];exact dG ..)]
   .rw[aA h2,aA λh=>(bl.1 h).elim h2 h1]
theorem If {l:List Int} (u:Int) (hl:¬l.length=0):Bv l u∈l:=by
 unfold Bv;rw[aA hl];split
 .rename_i h;exact s9.1 h
 .exact bI (T:=.int .i64) (by omega) (by omega)
theorem S1 {w:WT} {s:SY} {t k o u v:Int} {sy:SY} (h:(sy,v)=rc w s t k o u):rc w s t k o v=(sy,v):=by
 by_cases hk:k=18
 .subst hk;rw[FE] at h ⊢;by_cases hl:(wl s.2.2.2 o s.2.2.2.length).length=0
  .rw[aE hl] at h ⊢;exact h.symm
  .rw[aA hl] at h ⊢;have hm:=If u hl;generalize wl s.2.2.2 o s.2.2.2.length=l at h hl hm ⊢;obtain⟨rfl,rfl⟩:=Prod.mk.inj h;have:Bv l (Bv l u)=Bv l u:=by
    rw[Bv,aA hl,aE (s9.2 hm)]
   rw[this]
 .rw[XC _ _ _ _ _ _ u hk,<-h]
theorem ajj {w:WT} {s:SY} {t k o:Int} (u:Int) (he:EN w s t k o) (hr:Wa w s t k o) {j:Int} (h0:0<=j):(¬j=t->(aJ (T:=jH) (rc w s t k o u).1.2.2.2 j).1=(aJ (T:=jH) s.2.2.2 j).1\/((aJ (T:=jH) s.2.2.2 j).1=3/\(aJ (T:=jH) (rc w s t k o u).1.2.2.2 j).1=4)\/((aJ (T:=jH) s.2.2.2 j).1=0/\(aJ (T:=jH) (rc w s t k o u).1.2.2.2 j).1=1))/\(j=t->¬k=16->¬(aJ (T:=jH) (rc w s t k o u).1.2.2.2 j).1=3/\¬(aJ (T:=jH) (rc w s t k o u).1.2.2.2 j).1=4):=by
 have t0:=he.t0;have t1:t<s.2.2.2.length:=by have:=he.t1;have:=he.e3;omega
 have M:=hr.r;have hml:∀ u:Int,u∈wl s.2.2.2 o s.2.2.2.length->0<=u/\u<s.2.2.2.length:=λu hu=>⟨(rh.1 hu).1,(rh.1 hu).2.1⟩
 have h3:∀ u:Int,u∈wl s.2.2.2 o s.2.2.2.length->(aJ (T:=jH) s.2.2.2 u).1=3:=λu hu=>by
  have:=(rh.1 hu).2.2;unfold Il at this;rw[av] at this;exact bf this.1
 have same:¬k=1->¬k=17->∀ th:List (Int×Int×Bool),(aJ (T:=jH) th j).1=(aJ (T:=jH) s.2.2.2 j).1->(¬j=t->(aJ (T:=jH) th j).1=(aJ (T:=jH) s.2.2.2 j).1\/((aJ (T:=jH) s.2.2.2 j).1=3/\(aJ (T:=jH) th j).1=4)\/((aJ (T:=jH) s.2.2.2 j).1=0/\(aJ (T:=jH) th j).1=1))/\(j=t->¬k=16->¬(aJ (T:=jH) th j).1=3/\¬(aJ (T:=jH) th j).1=4):=λa b th h=>⟨λ_=>.inl h,λh2 _=>by rw[h,h2,M a b];decide⟩
 have st:∀ x:Int,¬x=3\/k=16->¬x=4->∀ th:List (Int×Int×Bool),(aJ (T:=jH) th j).1=(if j=t then x else (aJ (T:=jH) s.2.2.2 j).1)->(¬j=t->(aJ (T:=jH) th j).1=(aJ (T:=jH) s.2.2.2 j).1\/((aJ (T:=jH) s.2.2.2 j).1=3/\(aJ (T:=jH) th j).1=4)\/((aJ (T:=jH) s.2.2.2 j).1=0/\(aJ (T:=jH) th j).1=1))/\(j=t->¬k=16->¬(aJ (T:=jH) th j).1=3/\¬(aJ (T:=jH) th j).1=4):=λx hx hx4 th h=>⟨λhn=>.inl (by rw[h,aA hn]),λh2 h16=>by rw[h,aE h2];exact⟨hx.resolve_right h16,hx4⟩⟩
 have U:∀ x:Int,t<(yl s.2.2.2 t x).length:=λx=>by unfold yl;rw[bU];exact t1
 by_cases k1:k=1
 .subst k1;exact st 2 (.inl (by decide)) (by decide) _ (Is t0 t1 h0)
 by_cases k2:k=2
 .subst k2;exact st 5 (.inl (by decide)) (by decide) _ (Is t0 t1 h0)
 by_cases k16:k=16
 .subst k16;exact st 3 (.inr rfl) (by decide) _ ((ahp t0 (U _) h0).trans (Is t0 t1 h0))
 by_cases I:k=17
 .subst I;exact st 2 (.inl (by decide)) (by decide) _ ((ahp t0 (U _) h0).trans (Is t0 t1 h0))
 by_cases k14:k=14
 .subst k14;exact same k1 I _ (ahv t0 t1 h0)
 by_cases k15:k=15
 .subst k15;exact same k1 I _ (ahv t0 t1 h0)
 by_cases k18:k=18
 .subst k18;rw[FE];by_cases hl:(wl s.2.2.2 o s.2.2.2.length).length=0
  .rw[aE hl];exact same k1 I _ rfl
  .rw[aA hl];have hc:=If u hl;have Y:=hml _ hc;have J:=h3 _ hc;dsimp only;rw[Is Y.1 Y.2 h0];generalize Bv (wl s.2.2.2 o s.2.2.2.length) u=c at J;by_cases hj:j=c
   .rw[aE hj,hj];exact⟨λ_=>.inr (.inl ⟨J,rfl⟩),λh _=>by rw[h,M k1 I] at J;exact cV J (by decide)⟩
   .rw[aA hj];exact⟨λ_=>.inl rfl,λh _=>by rw[h,M k1 I];decide⟩
 by_cases k19:k=19
 .subst k19;show (_->(aJ (T:=jH) (CZ _ _) j).1=_\/_/\(aJ (T:=jH) (CZ _ _) j).1=_\/_/\(aJ (T:=jH) (CZ _ _) j).1=_)/\(_->_->¬(aJ (T:=jH) (CZ _ _) j).1=_/\¬(aJ (T:=jH) (CZ _ _) j).1=_)
  rw[ahi h0 _ _ hml];by_cases hj:j∈wl s.2.2.2 o s.2.2.2.length
  .rw[aE hj];have J:=h3 _ hj;exact⟨λ_=>.inr (.inl ⟨J,rfl⟩),λh _=>by rw[h,M k1 I] at J;exact cV J (by decide)⟩
  .rw[aA hj];exact⟨λ_=>.inl rfl,λh _=>by rw[h,M k1 I];decide⟩
 by_cases k20:k=20
 .subst k20;obtain⟨o0,o1⟩:=he.nm.th (.inl rfl);obtain⟨hot,ho0⟩:=hr.sp rfl;have Z:o<s.2.2.2.length:=by rw[he.e3];exact o1
  show (_->(aJ (T:=jH) (yl _ _ _) j).1=_\/_/\(aJ (T:=jH) (yl _ _ _) j).1=_\/_/\(aJ (T:=jH) (yl _ _ _) j).1=_)/\(_->_->¬(aJ (T:=jH) (yl _ _ _) j).1=_/\¬(aJ (T:=jH) (yl _ _ _) j).1=_)
  rw[Is o0 Z h0];by_cases hj:j=o
  .rw[aE hj,hj];exact⟨λ_=>.inr (.inr ⟨ho0,rfl⟩),λh _=>(hot h).elim⟩
  .rw[aA hj];exact⟨λ_=>.inl rfl,λh _=>by rw[h,M k1 I];decide⟩
 refine same k1 I _ ?_;unfold rc;rw[aA k1,aA k2];repeat' split
 all_goals first|rfl|omega
theorem afe {e e':ET} (h1:e'.1=e.1) (h2:e'.2.1=e.2.1) (t:Int):fl [e'] t=fl [e] t:=by
 by_cases h:e.1=t
 .rw[zG h,zG (h1.trans h)];unfold tI;rw[h2]
 .rw[wR h,wR (λg=>h (h1.symm.trans g))]
theorem agz {L:List ET} {e e':ET} (h1:e'.1=e.1) (h2:e'.2.1=e.2.1) {k y:Int} (h:FQ (L++[e]) k y):FQ (L++[e']) k y:=by
 unfold FQ Ld at h ⊢;rw[uI,afe h1 h2,<-uI];exact h
theorem Jv {T:Ty} (xs:List T.den) (i k:Nat) (x:T.den) (hi:i<xs.length):aJ (xs.set i x) (k:Int)=if k=i then x else aJ xs (k:Int):=by
 refine (rM xs (i:Int) (k:Int) x (by omega) (by omega) (by omega)).trans ?_;by_cases h:k=i
 .rw[aE h,aE (by omega)]
 .rw[aA h,aA (by omega)]
def SQ (n:Nat) (c:CT) (L:List ET) (y:ST×ET×Bool):Prop:=y.2.2=ai->SV (n+1) (L++[y.2.1]) y.1/\Ls c (L++[y.2.1]) y.1/\EvF c.1 y.2.1/\Zu y.2.1
theorem agh {n:Nat} (hn:n+1<=100000) {c:CT} {L:List ET} {s:ST} {i:Nat} {kd o v0 si:Int} {ds fs:List Int} {sy:SY} (hs:SV n L s) (hI:Ls c L s) (hp:PE n c s (i:Int) ((i:Int),kd,o,v0,si,ds,fs)) (hm:PS c L s (i:Int) ((i:Int),kd,o,v0,si,ds,fs)) (he:EN c.1 s.1 (i:Int) kd o) (hr:Wa c.1 s.1 (i:Int) kd o) (ha:AP n s.1 sy) (I:Int) (ce fu:List Int) (t':TT) (hap:(rc c.1 s.1 (i:Int) kd o I).1=sy) (hva:VA c.1 s.1 s.2.1 s.2.2.1 (i:Int) kd o I) (hce:ce=YX s.2.1 ((i:Int),kd,o,I,si,ds,fs)) (hfu:fu=ZM s.2.2.1 ((i:Int),kd,o,I,si,ds,fs)) (ht:TH (FQ (L++[((i:Int),kd,o,v0,si,ds,fs)]) (i:Int)) (n+1) t') (hg:t'.2.1.length=0\/t'.2.2.2=bn .i64 ((aJ (T:=uS) s.2.2.2 (i:Int)).2.2.2+1)/\(kd=16->t'.1=(aJ (T:=uS) s.2.2.2 (i:Int)).1)):SQ n c L ((sy,ce,fu,s.2.2.2.set i t'),((i:Int),kd,o,I,si,ds,fs),ai):=by
 intro _;have q1:=hp.t1;have q2:=hp.fs.th;have q3:=hp.fs.e3;have q4:=hp.fs.vc.tl;have hil:i<s.2.2.2.length:=by omega
 have hln:=hs.ln;refine ⟨⟨ha.toSB hs.sb hn,by simp[hln],λk hk=>?_⟩,⟨?_,λk hk=>?_⟩,⟨he.nm,he.t0,he.t1,he.cd⟩,⟨dt hp.d (by omega),dt hp.f (by omega)⟩⟩
 .dsimp only at hk ⊢;rw[sR] at hk;rw[Jv (T:=uS) _ _ _ _ hil];split
  .rename_i h;subst h;exact ht.mono (bT _) λy J=>agz (e:=((k:Int),kd,o,v0,si,ds,fs)) (e':=((k:Int),kd,o,I,si,ds,fs)) rfl rfl J
  .exact (hs.t k hk).mono (by omega) λy J=>⟨J.1,J.2.app _⟩
 .rw[<- hap,hce,hfu];exact hI.ac.snoc (e:=((i:Int),kd,o,I,si,ds,fs)) ⟨he,hr,hm.s1,hm.s2,hm.de,hm.fr,⟨hm.da,λx U=>⟨(hm.dq x U).1,(hm.dq x U).2.lt⟩⟩,⟨hm.fa,λx U=>⟨(hm.fq x U).1,(hm.fq x U).2.lt⟩⟩,λy J=>(hm.dq y J).2,λy J=>(hm.fq y J).2,hva⟩
 .dsimp only at hk ⊢;rw[sR] at hk;rw[Jv (T:=uS) _ _ _ _ hil];obtain⟨It,Z6⟩:=ajj I he hr (j:=(k:Int)) (by omega);rw[hap] at It Z6;have hfl:=W7 L (i:Int);split
  .rename_i h;subst h;rcases hg with hg|⟨g1,g2⟩
   .exact .inl hg
   .refine .inr ⟨?_,λZ=>?_,λM=>?_⟩
    .rw[g1,hm.tg.ev,uI,zG rfl,gM (by omega)];simp
    .have Y:kd=16:=vO λh=>Z.elim (Z6 rfl h).1 (Z6 rfl h).2
     rw[g2 Y];exact hm.wt Y
    .rw[uI,zG rfl] at M;simp at M
  .rename_i h;have hki:¬(k:Int)=(i:Int):=by omega
   have hfo:∀ e:ET,e.1=(i:Int)->fl (L++[e]) (k:Int)=fl L (k:Int):=λe h=>by
    rw[uI,wR (by rw[h];exact λh=>hki h.symm),ia]
   have It:=It hki;refine (hI.t k hk).imp id λg=>⟨by rw[hfo _ rfl];exact g.ev,λZ=>g.wi (by
    rcases It with h1|⟨h1,_⟩|⟨_,h1⟩
    .rw[<- h1];exact Z
    .exact .inl h1
    .exact Z.elim (λh=>cV (h1.symm.trans h) (by decide)) λh=>cV (h1.symm.trans h) (by decide)),λM=>?_⟩
   rw[hfo _ rfl] at M;have g2:=g.nw M;rcases It with h1|⟨h1,_⟩|⟨_,h1⟩
   .rw[h1];exact g2
   .exact (g2.elim (λh=>cV (h1.symm.trans h) (by decide)) λh=>cV (h1.symm.trans h) (by decide))
   .exact .inr h1
theorem kz {α R:Type} (o:Option α):obind o (λ_=>(ah:Option R))=ah:=by cases o<;>rfl
theorem oV {R:Type} (b:Bool):chk b (λ_=>(ah:Option R))=ah:=by cases b<;>rfl
theorem r8 {α R:Type} (x:α):lt x (λ_=>(ah:Option R))=ah:=rfl
def P5 {R:Type} (o:Option R) (Q:R->Prop):Prop:=o=ah\/Ok o Q
theorem P5.or {R:Type} {a b:Option R} {Q:R->Prop} (I:P5 a Q) (hb:P5 b Q):P5 (orE a b) Q:=by
 rcases I with rfl|⟨y,rfl,h⟩
 .exact hb
 .exact .inr ⟨y,rfl,h⟩
theorem Ok.orL {R:Type} {a b:Option R} {Q:R->Prop} (I:Ok a Q):Ok (orE a b) Q:=by
 obtain⟨y,rfl,h⟩:=I;exact⟨y,rfl,h⟩
theorem P5.orR {R:Type} {a b:Option R} {Q:R->Prop} (I:P5 a Q) (hb:Ok b Q):Ok (orE a b) Q:=by
 rcases I with rfl|⟨y,rfl,h⟩
 .exact hb
 .exact⟨y,rfl,h⟩
theorem Ir {n:Nat} (hn:n+1<=100000) {c:CT} {L:List ET} {s:ST} {t u:Int} (hc:CB c) (hs:SV n L s) (U:Ls c L s) (G:Option (ST×ET×Bool)->Prop) (Y:∀ y,SQ n c L y->G (af y)) (k:ET×Bool->SY×Int×Bool->Option (ST×ET×Bool))
 (hk:∀ e v sy,PE n c s t e->PS c L s t e->EN c.1 s.1 t e.2.1 e.2.2.1->Wa c.1 s.1 t e.2.1 e.2.2.1->AP n s.1 sy->(sy,v)=rc c.1 s.1 t e.2.1 e.2.2.1 u->G (k (e,ai) (sy,v,ai))):
 G (obind (nO (c,s,t)) λI=>bcase (!I.2) (af ((([],0,[],[]),[],[],[]),(0,0,0,0,0,[],[]),aj)) (obind (pt (c.1,s.1,t,I.1.2.1,I.1.2.2.1,u)) λJ=>bcase (!J.2.2) (af ((([],0,[],[]),[],[],[]),(0,0,0,0,0,[],[]),aj)) (k I J))):=by
 have M:=Y ((([],0,[],[]),[],[],[]),(0,0,0,0,0,[],[]),aj) λh=>(by cases h)
 obtain⟨⟨e,b⟩,h1,h2⟩:=Wb n (by omega) c L s hc hs U t;rw[h1,WL];cases b with
 |false=>exact M
 |true=>
  obtain⟨hp,hm⟩:=h2 rfl;have hcd:c.1.2.2.1.length<=1000:=by have:=hp.fs.vc.vl.d;omega
  obtain⟨⟨sy,v,b⟩,h3,Z,_,_⟩:=TD c.1 s.1 hs.sb hcd t e.2.1 e.2.2.1 u;have e0:∀ {R:Type} (a b:Option R),bcase (!ai) a b=b:=λ_ _=>rfl
  rw[e0,h3,WL];cases b with
  |false=>exact M
  |true=>
   obtain⟨g1,g2,g3,g4⟩:=Z rfl;exact hk e v sy hp hm g1 g2 g3 g4
theorem ZF {E:Nat} {L:List ET} (sy:SY) (ce fu:List Int) (a:TT) (h:SV E L (sy,ce,fu,[a])) (hce:ce.length<=1000) (hfu:fu.length<=1000):ne (sy,ce,fu,[a])=af ((sy.2.1,sy.1,sy.2.2.1,sy.2.2.2).1,(sy.2.1,sy.1,sy.2.2.1,sy.2.2.2).2.1,(sy.2.1,sy.1,sy.2.2.1,sy.2.2.2).2.2.1,(sy.2.1,sy.1,sy.2.2.1,sy.2.2.2).2.2.2,(([]:List Int)++ce),(([]:List Int)++fu),((a.1,a.2.2.2),a.2.1,a.2.2.1)):=by
 have J:=h.sb.n1;have I:TH (FQ L 0) E a:=h.t 0 (by simp);refine cE ?_;unfold ne aV bL bB bF bH aX;refine aU (qP sy h.sb) ?_;refine bi (by simp;omega) (by omega) (bi (by simp;omega) (by omega) ?_);refine fE rfl (be rfl (aT (aU (c_ a E J I) ?_)));exact fJ rfl (ar rfl)
theorem TA (sy:SY) (ce fu:List Int) (l:List TT) (h0:l.length<=4) (h:l.length≠1):ne (sy,ce,fu,l)=ah:=by
 unfold ne aV bL bB bF bH aX;rcases l with _|⟨a,_|⟨b,_|⟨c,_|⟨d,_|⟨e,l⟩⟩⟩⟩⟩;all_goals first|(simp at h;done)|(exfalso;simp only[b7] at h0;omega)|simp[fX,kz,oV,r8,bcT,bcF]
theorem ZD {E:Nat} {L:List ET} (sy:SY) (ce fu:List Int) (a b:TT) (h:SV E L (sy,ce,fu,[a,b])) (hce:ce.length<=1000) (hfu:fu.length<=1000):m_ (sy,ce,fu,[a,b])=af ((sy.2.1,sy.1,sy.2.2.1,sy.2.2.2).1,(sy.2.1,sy.1,sy.2.2.1,sy.2.2.2).2.1,(sy.2.1,sy.1,sy.2.2.1,sy.2.2.2).2.2.1,(sy.2.1,sy.1,sy.2.2.1,sy.2.2.2).2.2.2,(([]:List Int)++ce),(([]:List Int)++fu),(((a.1,a.2.2.2),a.2.1,a.2.2.1).1.1,((a.1,a.2.2.2),a.2.1,a.2.2.1).1.2,((b.1,b.2.2.2),b.2.1,b.2.2.1).1.1,((b.1,b.2.2.2),b.2.1,b.2.2.1).2.1,((b.1,b.2.2.2),b.2.1,b.2.2.1).2.2,((b.1,b.2.2.2),b.2.1,b.2.2.1).1.2),((a.1,a.2.2.2),a.2.1,a.2.2.1).2):=by
 have I:=h.sb.n1;have J:TH (FQ L 0) E a:=h.t 0 (by simp);have hb:TH (FQ L 1) E b:=h.t 1 (by simp);refine cE ?_;unfold m_ aV bL bB bF bH aX;refine aU (qP sy h.sb) ?_;refine bi (by simp;omega) (by omega) (bi (by simp;omega) (by omega) ?_);refine fE rfl (be rfl (aT (aU (c_ a E I J) ?_)));refine fE rfl (be rfl (aT (aU (c_ b E I hb) ?_)));exact fJ rfl (ar rfl)
theorem Tz (sy:SY) (ce fu:List Int) (l:List TT) (h0:l.length<=4) (h:l.length≠2):m_ (sy,ce,fu,l)=ah:=by
 unfold m_ aV bL bB bF bH aX;rcases l with _|⟨a,_|⟨b,_|⟨c,_|⟨d,_|⟨e,l⟩⟩⟩⟩⟩;all_goals first|(simp at h;done)|(exfalso;simp only[b7] at h0;omega)|simp[fX,kz,oV,r8,bcT,bcF]
theorem ZC {E:Nat} {L:List ET} (sy:SY) (ce fu:List Int) (a b:TT) (h:SV E L (sy,ce,fu,[a,b])) (hce:ce.length<=1000) (hfu:fu.length<=1000):m8 (sy,ce,fu,[a,b])=af ((sy.2.1,sy.1,sy.2.2.1,sy.2.2.2).1,(sy.2.1,sy.1,sy.2.2.1,sy.2.2.2).2.1,(sy.2.1,sy.1,sy.2.2.1,sy.2.2.2).2.2.1,(sy.2.1,sy.1,sy.2.2.1,sy.2.2.2).2.2.2,(([]:List Int)++ce),(([]:List Int)++fu),((((a.1,a.2.2.2),a.2.1,a.2.2.1).1.1,((a.1,a.2.2.2),a.2.1,a.2.2.1).2.1,((a.1,a.2.2.2),a.2.1,a.2.2.1).2.2,((a.1,a.2.2.2),a.2.1,a.2.2.1).1.2),((b.1,b.2.2.2),b.2.1,b.2.2.1).1),((b.1,b.2.2.2),b.2.1,b.2.2.1).2):=by
 have I:=h.sb.n1;have J:TH (FQ L 0) E a:=h.t 0 (by simp);have hb:TH (FQ L 1) E b:=h.t 1 (by simp);refine cE ?_;unfold m8 aV bL bB bF bH aX;refine aU (qP sy h.sb) ?_;refine bi (by simp;omega) (by omega) (bi (by simp;omega) (by omega) ?_);refine fE rfl (be rfl (aT (aU (c_ a E I J) ?_)));refine fE rfl (be rfl (aT (aU (c_ b E I hb) ?_)));exact fJ rfl (ar rfl)
theorem Tx (sy:SY) (ce fu:List Int) (l:List TT) (h0:l.length<=4) (h:l.length≠2):m8 (sy,ce,fu,l)=ah:=by
 unfold m8 aV bL bB bF bH aX;rcases l with _|⟨a,_|⟨b,_|⟨c,_|⟨d,_|⟨e,l⟩⟩⟩⟩⟩;all_goals first|(simp at h;done)|(exfalso;simp only[b7] at h0;omega)|simp[fX,kz,oV,r8,bcT,bcF]
theorem ZB {E:Nat} {L:List ET} (sy:SY) (ce fu:List Int) (a b c:TT) (h:SV E L (sy,ce,fu,[a,b,c])) (hce:ce.length<=1000) (hfu:fu.length<=1000):m7 (sy,ce,fu,[a,b,c])=af ((sy.2.1,sy.1,sy.2.2.1,sy.2.2.2).1,(sy.2.1,sy.1,sy.2.2.1,sy.2.2.2).2.1,(sy.2.1,sy.1,sy.2.2.1,sy.2.2.2).2.2.1,(sy.2.1,sy.1,sy.2.2.1,sy.2.2.2).2.2.2,(([]:List Int)++ce),(([]:List Int)++fu),(((a.1,a.2.2.2),a.2.1,a.2.2.1).1.1,((a.1,a.2.2.2),a.2.1,a.2.2.1).1.2,(((b.1,b.2.2.2),b.2.1,b.2.2.1).1.1,((b.1,b.2.2.2),b.2.1,b.2.2.1).2.1,((b.1,b.2.2.2),b.2.1,b.2.2.1).2.2,((b.1,b.2.2.2),b.2.1,b.2.2.1).1.2),((c.1,c.2.2.2),c.2.1,c.2.2.1).1.1,((c.1,c.2.2.2),c.2.1,c.2.2.1).2.1,((c.1,c.2.2.2),c.2.1,c.2.2.1).2.2,((c.1,c.2.2.2),c.2.1,c.2.2.1).1.2),((a.1,a.2.2.2),a.2.1,a.2.2.1).2):=by
 have I:=h.sb.n1;have J:TH (FQ L 0) E a:=h.t 0 (by simp);have hb:TH (FQ L 1) E b:=h.t 1 (by simp);have hc:TH (FQ L 2) E c:=h.t 2 (by simp);refine cE ?_;unfold m7 aV bL bB bF bH aX;refine aU (qP sy h.sb) ?_;refine bi (by simp;omega) (by omega) (bi (by simp;omega) (by omega) ?_);refine fE rfl (be rfl (aT (aU (c_ a E I J) ?_)));refine fE rfl (be rfl (aT (aU (c_ b E I hb) ?_)));refine fE rfl (be rfl (aT (aU (c_ c E I hc) ?_)));exact fJ rfl (ar rfl)
theorem Tw (sy:SY) (ce fu:List Int) (l:List TT) (h0:l.length<=4) (h:l.length≠3):m7 (sy,ce,fu,l)=ah:=by
 unfold m7 aV bL bB bF bH aX;rcases l with _|⟨a,_|⟨b,_|⟨c,_|⟨d,_|⟨e,l⟩⟩⟩⟩⟩;all_goals first|(simp at h;done)|(exfalso;simp only[b7] at h0;omega)|simp[fX,kz,oV,r8,bcT,bcF]
theorem ZA {E:Nat} {L:List ET} (sy:SY) (ce fu:List Int) (a b c:TT) (h:SV E L (sy,ce,fu,[a,b,c])) (hce:ce.length<=1000) (hfu:fu.length<=1000):m6 (sy,ce,fu,[a,b,c])=af ((sy.2.1,sy.1,sy.2.2.1,sy.2.2.2).1,(sy.2.1,sy.1,sy.2.2.1,sy.2.2.2).2.1,(sy.2.1,sy.1,sy.2.2.1,sy.2.2.2).2.2.1,(sy.2.1,sy.1,sy.2.2.1,sy.2.2.2).2.2.2,(([]:List Int)++ce),(([]:List Int)++fu),((((a.1,a.2.2.2),a.2.1,a.2.2.1).1.1,((a.1,a.2.2.2),a.2.1,a.2.2.1).2.1,((a.1,a.2.2.2),a.2.1,a.2.2.1).2.2,((a.1,a.2.2.2),a.2.1,a.2.2.1).1.2),((b.1,b.2.2.2),b.2.1,b.2.2.1).1.1,((b.1,b.2.2.2),b.2.1,b.2.2.1).1.2,((c.1,c.2.2.2),c.2.1,c.2.2.1).1.1,((c.1,c.2.2.2),c.2.1,c.2.2.1).2.1,((c.1,c.2.2.2),c.2.1,c.2.2.1).2.2,((c.1,c.2.2.2),c.2.1,c.2.2.1).1.2),((b.1,b.2.2.2),b.2.1,b.2.2.1).2):=by
 have I:=h.sb.n1;have J:TH (FQ L 0) E a:=h.t 0 (by simp);have hb:TH (FQ L 1) E b:=h.t 1 (by simp);have hc:TH (FQ L 2) E c:=h.t 2 (by simp);refine cE ?_;unfold m6 aV bL bB bF bH aX;refine aU (qP sy h.sb) ?_;refine bi (by simp;omega) (by omega) (bi (by simp;omega) (by omega) ?_);refine fE rfl (be rfl (aT (aU (c_ a E I J) ?_)));refine fE rfl (be rfl (aT (aU (c_ b E I hb) ?_)));refine fE rfl (be rfl (aT (aU (c_ c E I hc) ?_)));exact fJ rfl (ar rfl)
theorem Tv (sy:SY) (ce fu:List Int) (l:List TT) (h0:l.length<=4) (h:l.length≠3):m6 (sy,ce,fu,l)=ah:=by
 unfold m6 aV bL bB bF bH aX;rcases l with _|⟨a,_|⟨b,_|⟨c,_|⟨d,_|⟨e,l⟩⟩⟩⟩⟩;all_goals first|(simp at h;done)|(exfalso;simp only[b7] at h0;omega)|simp[fX,kz,oV,r8,bcT,bcF]
theorem Zz {E:Nat} {L:List ET} (sy:SY) (ce fu:List Int) (a b c:TT) (h:SV E L (sy,ce,fu,[a,b,c])) (hce:ce.length<=1000) (hfu:fu.length<=1000):mZ (sy,ce,fu,[a,b,c])=af ((sy.2.1,sy.1,sy.2.2.1,sy.2.2.2).1,(sy.2.1,sy.1,sy.2.2.1,sy.2.2.2).2.1,(sy.2.1,sy.1,sy.2.2.1,sy.2.2.2).2.2.1,(sy.2.1,sy.1,sy.2.2.1,sy.2.2.2).2.2.2,(([]:List Int)++ce),(([]:List Int)++fu),((((a.1,a.2.2.2),a.2.1,a.2.2.1).1.1,((a.1,a.2.2.2),a.2.1,a.2.2.1).2.1,((a.1,a.2.2.2),a.2.1,a.2.2.1).2.2,((a.1,a.2.2.2),a.2.1,a.2.2.1).1.2),(((b.1,b.2.2.2),b.2.1,b.2.2.1).1.1,((b.1,b.2.2.2),b.2.1,b.2.2.1).2.1,((b.1,b.2.2.2),b.2.1,b.2.2.1).2.2,((b.1,b.2.2.2),b.2.1,b.2.2.1).1.2),((c.1,c.2.2.2),c.2.1,c.2.2.1).1),((c.1,c.2.2.2),c.2.1,c.2.2.1).2):=by
 have I:=h.sb.n1;have J:TH (FQ L 0) E a:=h.t 0 (by simp);have hb:TH (FQ L 1) E b:=h.t 1 (by simp);have hc:TH (FQ L 2) E c:=h.t 2 (by simp);refine cE ?_;unfold mZ aV bL bB bF bH aX;refine aU (qP sy h.sb) ?_;refine bi (by simp;omega) (by omega) (bi (by simp;omega) (by omega) ?_);refine fE rfl (be rfl (aT (aU (c_ a E I J) ?_)));refine fE rfl (be rfl (aT (aU (c_ b E I hb) ?_)));refine fE rfl (be rfl (aT (aU (c_ c E I hc) ?_)));exact fJ rfl (ar rfl)
theorem Tu (sy:SY) (ce fu:List Int) (l:List TT) (h0:l.length<=4) (h:l.length≠3):mZ (sy,ce,fu,l)=ah:=by
 unfold mZ aV bL bB bF bH aX;rcases l with _|⟨a,_|⟨b,_|⟨c,_|⟨d,_|⟨e,l⟩⟩⟩⟩⟩;all_goals first|(simp at h;done)|(exfalso;simp only[b7] at h0;omega)|simp[fX,kz,oV,r8,bcT,bcF]
theorem Zy {E:Nat} {L:List ET} (sy:SY) (ce fu:List Int) (a b c d:TT) (h:SV E L (sy,ce,fu,[a,b,c,d])) (hce:ce.length<=1000) (hfu:fu.length<=1000):mY (sy,ce,fu,[a,b,c,d])=af ((sy.2.1,sy.1,sy.2.2.1,sy.2.2.2).1,(sy.2.1,sy.1,sy.2.2.1,sy.2.2.2).2.1,(sy.2.1,sy.1,sy.2.2.1,sy.2.2.2).2.2.1,(sy.2.1,sy.1,sy.2.2.1,sy.2.2.2).2.2.2,(([]:List Int)++ce),(([]:List Int)++fu),(((a.1,a.2.2.2),a.2.1,a.2.2.1).1.1,((a.1,a.2.2.2),a.2.1,a.2.2.1).1.2,(((b.1,b.2.2.2),b.2.1,b.2.2.1).1.1,((b.1,b.2.2.2),b.2.1,b.2.2.1).2.1,((b.1,b.2.2.2),b.2.1,b.2.2.1).2.2,((b.1,b.2.2.2),b.2.1,b.2.2.1).1.2),(((c.1,c.2.2.2),c.2.1,c.2.2.1).1.1,((c.1,c.2.2.2),c.2.1,c.2.2.1).2.1,((c.1,c.2.2.2),c.2.1,c.2.2.1).2.2,((c.1,c.2.2.2),c.2.1,c.2.2.1).1.2),((d.1,d.2.2.2),d.2.1,d.2.2.1).1.1,((d.1,d.2.2.2),d.2.1,d.2.2.1).2.1,((d.1,d.2.2.2),d.2.1,d.2.2.1).2.2,((d.1,d.2.2.2),d.2.1,d.2.2.1).1.2),((a.1,a.2.2.2),a.2.1,a.2.2.1).2):=by
 have I:=h.sb.n1;have J:TH (FQ L 0) E a:=h.t 0 (by simp);have hb:TH (FQ L 1) E b:=h.t 1 (by simp);have hc:TH (FQ L 2) E c:=h.t 2 (by simp);have hd:TH (FQ L 3) E d:=h.t 3 (by simp);refine cE ?_;unfold mY aV bL bB bF bH aX;refine aU (qP sy h.sb) ?_;refine bi (by simp;omega) (by omega) (bi (by simp;omega) (by omega) ?_);refine fE rfl (be rfl (aT (aU (c_ a E I J) ?_)));refine fE rfl (be rfl (aT (aU (c_ b E I hb) ?_)));refine fE rfl (be rfl (aT (aU (c_ c E I hc) ?_)));refine fE rfl (be rfl (aT (aU (c_ d E I hd) ?_)));exact fJ rfl (ar rfl)
theorem Tt (sy:SY) (ce fu:List Int) (l:List TT) (h0:l.length<=4) (h:l.length≠4):mY (sy,ce,fu,l)=ah:=by
 unfold mY aV bL bB bF bH aX;rcases l with _|⟨a,_|⟨b,_|⟨c,_|⟨d,_|⟨e,l⟩⟩⟩⟩⟩;all_goals first|(simp at h;done)|(exfalso;simp only[b7] at h0;omega)|simp[fX,kz,oV,r8,bcT,bcF]
theorem Zx {E:Nat} {L:List ET} (sy:SY) (ce fu:List Int) (a b c d:TT) (h:SV E L (sy,ce,fu,[a,b,c,d])) (hce:ce.length<=1000) (hfu:fu.length<=1000):mX (sy,ce,fu,[a,b,c,d])=af ((sy.2.1,sy.1,sy.2.2.1,sy.2.2.2).1,(sy.2.1,sy.1,sy.2.2.1,sy.2.2.2).2.1,(sy.2.1,sy.1,sy.2.2.1,sy.2.2.2).2.2.1,(sy.2.1,sy.1,sy.2.2.1,sy.2.2.2).2.2.2,(([]:List Int)++ce),(([]:List Int)++fu),((((a.1,a.2.2.2),a.2.1,a.2.2.1).1.1,((a.1,a.2.2.2),a.2.1,a.2.2.1).2.1,((a.1,a.2.2.2),a.2.1,a.2.2.1).2.2,((a.1,a.2.2.2),a.2.1,a.2.2.1).1.2),((b.1,b.2.2.2),b.2.1,b.2.2.1).1.1,((b.1,b.2.2.2),b.2.1,b.2.2.1).1.2,(((c.1,c.2.2.2),c.2.1,c.2.2.1).1.1,((c.1,c.2.2.2),c.2.1,c.2.2.1).2.1,((c.1,c.2.2.2),c.2.1,c.2.2.1).2.2,((c.1,c.2.2.2),c.2.1,c.2.2.1).1.2),((d.1,d.2.2.2),d.2.1,d.2.2.1).1.1,((d.1,d.2.2.2),d.2.1,d.2.2.1).2.1,((d.1,d.2.2.2),d.2.1,d.2.2.1).2.2,((d.1,d.2.2.2),d.2.1,d.2.2.1).1.2),((b.1,b.2.2.2),b.2.1,b.2.2.1).2):=by
 have I:=h.sb.n1;have J:TH (FQ L 0) E a:=h.t 0 (by simp);have hb:TH (FQ L 1) E b:=h.t 1 (by simp);have hc:TH (FQ L 2) E c:=h.t 2 (by simp);have hd:TH (FQ L 3) E d:=h.t 3 (by simp);refine cE ?_;unfold mX aV bL bB bF bH aX;refine aU (qP sy h.sb) ?_;refine bi (by simp;omega) (by omega) (bi (by simp;omega) (by omega) ?_);refine fE rfl (be rfl (aT (aU (c_ a E I J) ?_)));refine fE rfl (be rfl (aT (aU (c_ b E I hb) ?_)));refine fE rfl (be rfl (aT (aU (c_ c E I hc) ?_)));refine fE rfl (be rfl (aT (aU (c_ d E I hd) ?_)));exact fJ rfl (ar rfl)
theorem Ts (sy:SY) (ce fu:List Int) (l:List TT) (h0:l.length<=4) (h:l.length≠4):mX (sy,ce,fu,l)=ah:=by
 unfold mX aV bL bB bF bH aX;rcases l with _|⟨a,_|⟨b,_|⟨c,_|⟨d,_|⟨e,l⟩⟩⟩⟩⟩;all_goals first|(simp at h;done)|(exfalso;simp only[b7] at h0;omega)|simp[fX,kz,oV,r8,bcT,bcF]
theorem Zw {E:Nat} {L:List ET} (sy:SY) (ce fu:List Int) (a b c d:TT) (h:SV E L (sy,ce,fu,[a,b,c,d])) (hce:ce.length<=1000) (hfu:fu.length<=1000):mW (sy,ce,fu,[a,b,c,d])=af ((sy.2.1,sy.1,sy.2.2.1,sy.2.2.2).1,(sy.2.1,sy.1,sy.2.2.1,sy.2.2.2).2.1,(sy.2.1,sy.1,sy.2.2.1,sy.2.2.2).2.2.1,(sy.2.1,sy.1,sy.2.2.1,sy.2.2.2).2.2.2,(([]:List Int)++ce),(([]:List Int)++fu),((((a.1,a.2.2.2),a.2.1,a.2.2.1).1.1,((a.1,a.2.2.2),a.2.1,a.2.2.1).2.1,((a.1,a.2.2.2),a.2.1,a.2.2.1).2.2,((a.1,a.2.2.2),a.2.1,a.2.2.1).1.2),(((b.1,b.2.2.2),b.2.1,b.2.2.1).1.1,((b.1,b.2.2.2),b.2.1,b.2.2.1).2.1,((b.1,b.2.2.2),b.2.1,b.2.2.1).2.2,((b.1,b.2.2.2),b.2.1,b.2.2.1).1.2),((c.1,c.2.2.2),c.2.1,c.2.2.1).1.1,((c.1,c.2.2.2),c.2.1,c.2.2.1).1.2,((d.1,d.2.2.2),d.2.1,d.2.2.1).1.1,((d.1,d.2.2.2),d.2.1,d.2.2.1).2.1,((d.1,d.2.2.2),d.2.1,d.2.2.1).2.2,((d.1,d.2.2.2),d.2.1,d.2.2.1).1.2),((c.1,c.2.2.2),c.2.1,c.2.2.1).2):=by
 have I:=h.sb.n1;have J:TH (FQ L 0) E a:=h.t 0 (by simp);have hb:TH (FQ L 1) E b:=h.t 1 (by simp);have hc:TH (FQ L 2) E c:=h.t 2 (by simp);have hd:TH (FQ L 3) E d:=h.t 3 (by simp);refine cE ?_;unfold mW aV bL bB bF bH aX;refine aU (qP sy h.sb) ?_;refine bi (by simp;omega) (by omega) (bi (by simp;omega) (by omega) ?_);refine fE rfl (be rfl (aT (aU (c_ a E I J) ?_)));refine fE rfl (be rfl (aT (aU (c_ b E I hb) ?_)));refine fE rfl (be rfl (aT (aU (c_ c E I hc) ?_)));refine fE rfl (be rfl (aT (aU (c_ d E I hd) ?_)));exact fJ rfl (ar rfl)
theorem Tr (sy:SY) (ce fu:List Int) (l:List TT) (h0:l.length<=4) (h:l.length≠4):mW (sy,ce,fu,l)=ah:=by
 unfold mW aV bL bB bF bH aX;rcases l with _|⟨a,_|⟨b,_|⟨c,_|⟨d,_|⟨e,l⟩⟩⟩⟩⟩;all_goals first|(simp at h;done)|(exfalso;simp only[b7] at h0;omega)|simp[fX,kz,oV,r8,bcT,bcF]
theorem Zv {E:Nat} {L:List ET} (sy:SY) (ce fu:List Int) (a b c d:TT) (h:SV E L (sy,ce,fu,[a,b,c,d])) (hce:ce.length<=1000) (hfu:fu.length<=1000):mV (sy,ce,fu,[a,b,c,d])=af ((sy.2.1,sy.1,sy.2.2.1,sy.2.2.2).1,(sy.2.1,sy.1,sy.2.2.1,sy.2.2.2).2.1,(sy.2.1,sy.1,sy.2.2.1,sy.2.2.2).2.2.1,(sy.2.1,sy.1,sy.2.2.1,sy.2.2.2).2.2.2,(([]:List Int)++ce),(([]:List Int)++fu),((((a.1,a.2.2.2),a.2.1,a.2.2.1).1.1,((a.1,a.2.2.2),a.2.1,a.2.2.1).2.1,((a.1,a.2.2.2),a.2.1,a.2.2.1).2.2,((a.1,a.2.2.2),a.2.1,a.2.2.1).1.2),(((b.1,b.2.2.2),b.2.1,b.2.2.1).1.1,((b.1,b.2.2.2),b.2.1,b.2.2.1).2.1,((b.1,b.2.2.2),b.2.1,b.2.2.1).2.2,((b.1,b.2.2.2),b.2.1,b.2.2.1).1.2),(((c.1,c.2.2.2),c.2.1,c.2.2.1).1.1,((c.1,c.2.2.2),c.2.1,c.2.2.1).2.1,((c.1,c.2.2.2),c.2.1,c.2.2.1).2.2,((c.1,c.2.2.2),c.2.1,c.2.2.1).1.2),((d.1,d.2.2.2),d.2.1,d.2.2.1).1),((d.1,d.2.2.2),d.2.1,d.2.2.1).2):=by
 have I:=h.sb.n1;have J:TH (FQ L 0) E a:=h.t 0 (by simp);have hb:TH (FQ L 1) E b:=h.t 1 (by simp);have hc:TH (FQ L 2) E c:=h.t 2 (by simp);have hd:TH (FQ L 3) E d:=h.t 3 (by simp);refine cE ?_;unfold mV aV bL bB bF bH aX;refine aU (qP sy h.sb) ?_;refine bi (by simp;omega) (by omega) (bi (by simp;omega) (by omega) ?_);refine fE rfl (be rfl (aT (aU (c_ a E I J) ?_)));refine fE rfl (be rfl (aT (aU (c_ b E I hb) ?_)));refine fE rfl (be rfl (aT (aU (c_ c E I hc) ?_)));refine fE rfl (be rfl (aT (aU (c_ d E I hd) ?_)));exact fJ rfl (ar rfl)
theorem Tq (sy:SY) (ce fu:List Int) (l:List TT) (h0:l.length<=4) (h:l.length≠4):mV (sy,ce,fu,l)=ah:=by
 unfold mV aV bL bB bF bH aX;rcases l with _|⟨a,_|⟨b,_|⟨c,_|⟨d,_|⟨e,l⟩⟩⟩⟩⟩;all_goals first|(simp at h;done)|(exfalso;simp only[b7] at h0;omega)|simp[fX,kz,oV,r8,bcT,bcF]
theorem kdx (k:Int):k=1\/k=16\/k=2\/k=3\/k=23\/k=4\/k=22\/k=5\/((k=1)=False/\(k=16)=False/\(k=2)=False/\(k=3)=False/\(k=23)=False/\(k=4)=False/\(k=22)=False/\(k=5)=False):=by
 by_cases h:k=1\/k=16\/k=2\/k=3\/k=23\/k=4\/k=22\/k=5
 .omega
 .repeat (first|exact⟨eq_false (by omega),eq_false (by omega),eq_false (by omega),eq_false (by omega),eq_false (by omega),eq_false (by omega),eq_false (by omega),eq_false (by omega)⟩|refine Or.inr ?_)
def KR {Z:Type} (n:Nat) (I:CT) (L:List ET) (i:Nat) (u:Int) (l:List TT) (z:Z) (k:Int->(CT×SY×(Int×Int)×Int×(Int×Int×Int×Int×Int)×ET×(Int×Int)×(List Int)×(List Int)×Z×(List Int)×List (List Int))->Option (ST×ET×Bool)):Prop:=
 ∀ (F:Int->Prop) (p:Int) (sy:SY) (kd o v si:Int) (ds fs ce fu R:List Int) (T:List (List Int)) (ev:Int),
  (kd≠16->kd≠2->Ok (ng (aJ (T:=wq) I.2 (i:Int),(p,R,T,bn .i64 (ev+1)))) λy=>TH F (n+1) y.1/\(y.1.2.1.length=0\/y.1.2.2.2=bn .i64 (ev+1)))->
  (kd=16\/kd=2->TH F (n+1) (p,R,T,bn .i64 (ev+1)))->
  (∀ t',TH F (n+1) t'->(t'.2.1.length=0\/t'.2.2.2=bn .i64 (ev+1)/\(kd=16->t'.1=p))->SQ n I L ((sy,ce,fu,l.set i t'),((i:Int),kd,o,v,si,ds,fs),ai))->(i:Int)<(I.2.length:Int)->
  ∀ J,Ok (k p (I,sy,((i:Int),u),0,(0,0,0,0,0),((i:Int),kd,o,v,si,ds,fs),(J,ev),ce,fu,z,R,T)) (SQ n I L)
theorem Bx {Z:Type} (N i:Nat) {M:SY×(List Int)×(List Int)×List TT->Option (Int×(List (Int×List Int))×(List Bool)×(List (Int×Int×Bool))×(List Int)×(List Int)×Z×(List Int)×List (List Int))} {pc ev:Z->Int} {k:Int->(CT×SY×(Int×Int)×Int×(Int×Int×Int×Int×Int)×ET×(Int×Int)×(List Int)×(List Int)×Z×(List Int)×List (List Int))->Option (ST×ET×Bool)} {n:Nat} (hn:n+1<=100000) (I:CT) (L:List ET) (s:ST) (t u:Int) (hc:CB I) (hs:SV n L s) (hI:Ls I L s)
 (h0:∀ sy ce fu (l:List TT),l.length<=4->l.length≠N->M (sy,ce,fu,l)=ah)
 (h1:∀ sy ce fu (l:List TT),SV n L (sy,ce,fu,l)->ce.length<=1000->fu.length<=1000->l.length=N->i<N/\∃ y,M (sy,ce,fu,l)=af y/\y.2.2.2.2.1=ce/\y.2.2.2.2.2.1=fu/\y.2.2.2.2.2.2.2.1=(aJ (T:=uS) l (i:Int)).2.1/\y.2.2.2.2.2.2.2.2=(aJ (T:=uS) l (i:Int)).2.2.1/\pc y.2.2.2.2.2.2.1=(aJ (T:=uS) l (i:Int)).1/\ev y.2.2.2.2.2.2.1=(aJ (T:=uS) l (i:Int)).2.2.2/\KR n I L i u l y.2.2.2.2.2.2.1 k):
 P5 (SG (i:Int) M pc ev k (I,s,t,u)) (SQ n I L)/\(s.2.2.2.length=N->t=(i:Int)->Ok (SG (i:Int) M pc ev k (I,s,t,u)) (SQ n I L)):=by
 by_cases hz:s.2.2.2.length=N/\t=(i:Int)
 .obtain⟨U,rfl⟩:=hz;suffices h:Ok (SG (i:Int) M pc ev k (I,s,(i:Int),u)) (SQ n I L) from ⟨.inr h,λ_ _=>h⟩
  unfold SG xm Ek Prod.p12 aV bh bw cu dU iW ve xn Prod.q10 Lj Prod.q13 bL dh mB NJ ck bd bH kJ aF;refine Ir hn hc hs hI (λo=>Ok o (SQ n I L)) (λy h=>ar h) _ λe v sy hp hm he hr ha hq=>?_
  obtain⟨sy0,ce,fu,l⟩:=s;obtain⟨e1,kd,o,e4,site,ds,fs⟩:=e;have het:=hp.et;dsimp only at U he hr ha hq het;subst het;have vl:=hp.fs.vc.vl;have hce:=hp.fs.ce;have hfu:=hp.fs.fu;dsimp only at hce hfu;obtain⟨hiN,⟨q1,q2,q3,q4,ce',fu',z,R0,T0⟩,hcp,g1,g2,g3,g4,hpc,hve,hk⟩:=h1 sy0 ce fu l hs (by have:=vl.c;omega) (by have:=vl.f;omega) U;dsimp only at g1 g2 g3 g4 hpc hve hk;rw[g1,g2,g3,g4] at hcp;obtain⟨_,_,nmce,_,_,_,nmfu,_,_,_⟩:=id he.nm;have t1:(i:Int)<(I.2.length:Int):=hp.t1;have htf:TF (aJ (T:=wq) I.2 (i:Int)) (aJ (T:=uS) l (i:Int)):=hp.fs.t i (by omega);have hA:=hp.a;have Y:=hp.b;dsimp only at hA Y;have hvt:=hp.fs.vc.t _ (bI (T:=wq) (xs:=I.2) (j:=(i:Int)) (by omega) t1);have hci:=hc.ins _ (bI (T:=wq) (xs:=I.2) (j:=(i:Int)) (by omega) t1);have hth:TH (FQ L (i:Int)) n (aJ (T:=uS) l (i:Int)):=hs.t i (by dsimp only;omega);have done:=agh hn hs hI hp hm he hr ha;have htg:=hm.tg;have hrun:=hr.r;dsimp only at done htg;have hgv:kd=3\/kd=23->FQ (L++[((i:Int),kd,o,e4,site,ds,fs)]) (i:Int) (aJ (T:=uS) l (i:Int)).2.2.2:=λh3=>by
   have h2:=hrun (by omega) (by omega);have hn0:¬(fl L (i:Int)).length=0:=λh=>(htg.nw h).elim (λg=>cV (h2.symm.trans g) (by decide)) λg=>cV (h2.symm.trans g) (by decide)
   refine ⟨by rw[htg.ev];omega,Ld.last (e:=((i:Int),kd,o,e4,site,ds,fs)) ?_ htg.ev⟩;unfold tI;rcases h3 with h|h
   .rw[aO h];rfl
   .simp[h]
  have vaA:¬kd=3->¬kd=23->¬kd=5->VA I.1 sy0 ce fu (i:Int) kd o v:=λa b c=>⟨λh=>(a h).elim,λh=>(b h).elim,λh=>(c h).elim,λ_ _ _ _ _=>by rw[S1 hq]⟩
  have apA:(rc I.1 sy0 (i:Int) kd o v).1=sy:=by rw[S1 hq]
  have apB:¬kd=18->∀ v',(rc I.1 sy0 (i:Int) kd o v').1=sy:=λh v'=>by rw[XC _ _ _ _ _ _ u h,<-hq]
  have keep:∀ x∈(aJ (T:=uS) l (i:Int)).2.2.1,TL (FQ (L++[((i:Int),kd,o,e4,site,ds,fs)]) (i:Int)) (n+1) x:=λx hx=>(hth.l x hx).mono (by omega) λy J=>⟨J.1,J.2.app _⟩
  clear g3 g4 hm hI hrun htg;revert done hgv keep;generalize FQ (L++[((i:Int),kd,o,e4,site,ds,fs)]) (i:Int)=F;generalize aJ (T:=uS) l (i:Int)=th at hcp hpc hve htf hA Y hth ⊢;intro done hgv keep;refine aU hcp ?_;dsimp only;rw[hpc,hve];refine fE (aO rfl) ?_;refine aR (by omega) t1 (aT (aR htf.p0 htf.p1 (aT ?_)));have htz:th.2.2.1.length=th.2.1.length:=by have:=htf.r;have:=htf.t;omega
  have fin:∀ (p:Int) (R:List Int) (T:List (List Int)),R.length=th.2.1.length->T.length=th.2.2.1.length->(∀ x∈T,TL F (n+1) x)->Ok (ng (aJ (T:=wq) I.2 (i:Int),(p,R,T,bn .i64 (th.2.2.2+1)))) λy=>TH F (n+1) y.1/\(y.1.2.1.length=0\/y.1.2.2.2=bn .i64 (th.2.2.2+1)):=λp R T h1 h2 h3=>by
   have a1:=hth.e0;have a2:=hth.e1;have a3:=hth.r;have a4:=hth.t;rw[iu (n:=th.2.2.2+1) (by omega) (by omega)];exact Zg (n+1) hn _ hci hvt _ ⟨by dsimp only;omega,by dsimp only;omega,h3,by dsimp only;omega,by dsimp only;omega⟩
  have mark:kd=3\/kd=23->∀ j:Int,∀ x∈ct th.2.2.1 j [th.2.2.2],TL F (n+1) x:=λh3 j x hx=>by
   rcases CH hx with h|h
   .exact keep x h
   .rw[h];exact⟨⟨λy J=>(by cases J),trivial⟩,λy J=>by rw[aL] at J;have:=hth.e0;have:=hth.e1;rw[J];exact⟨by omega,by omega⟩,λy J=>by rw[aL] at J;rw[J];exact hgv h3⟩
  have nopark:TH F (n+1) (th.1,th.2.1,th.2.2.1,bn .i64 (th.2.2.2+1)):=by
   have a1:=hth.e0;have a2:=hth.e1;rw[iu (n:=th.2.2.2+1) (by omega) (by omega)];exact⟨hth.r,hth.t,keep,by dsimp only;omega,by dsimp only;omega⟩
  clear hp hs hc h0 h1 hcp g1 g2 hr ha hq he;generalize (aJ (T:=BH) (aJ (T:=wq) I.2 (i:Int)).2 th.1)=ins at hA Y ⊢;rcases kdx kd with rfl|rfl|rfl|rfl|rfl|rfl|rfl|rfl|⟨k1,k2,k3,k4,k5,k6,k7,k8⟩
  case inr.inr.inr.inr.inr.inr.inr.inr=>
   simp only[k1,k2,k3,k4,k5,k6,k7,k8,aZ,bp,tj];refine hk F _ _ _ _ _ _ _ _ _ _ _ _ _ (λ_ _=>fin _ _ _ rfl rfl keep) (λh=>by rw[k2,k3] at h;exact (h.elim id id).elim) (λt' h g=>?_) t1 _;exact done v ce fu t' apA (vaA (of_eq_false k4) (of_eq_false k5) (of_eq_false k8)) (aA (of_eq_false k6)).symm (aA (of_eq_false k7)).symm h (g.imp id λh=>⟨h.1,λh2=>(of_eq_false k2 h2).elim⟩)
  all_goals simp only[aZ,bp,tj]
  .refine hk F _ _ _ _ _ _ _ _ _ _ _ _ _ (λ_ _=>fin _ _ _ rfl rfl keep) (λh=>by omega) (λt' h g=>?_) t1 _;exact done v ce fu t' apA (vaA (by decide) (by decide) (by decide)) rfl rfl h (g.imp id λh=>⟨h.1,λh2=>(by cases h2)⟩)
  .refine hk F _ _ _ _ _ _ _ _ _ _ _ _ _ (λh _=>(h rfl).elim) (λ_=>nopark) (λt' h g=>?_) t1 _;exact done v ce fu t' apA (vaA (by decide) (by decide) (by decide)) rfl rfl h g
  .refine hk F _ _ _ _ _ _ _ _ _ _ _ _ _ (λ_ h=>(h rfl).elim) (λ_=>nopark) (λt' h g=>?_) t1 _;exact done v ce fu t' apA (vaA (by decide) (by decide) (by decide)) rfl rfl h (g.imp id λh=>⟨h.1,λh2=>(by cases h2)⟩)
  .obtain⟨o0,o1⟩:=nmce (.inl rfl);rw[<- hce] at o1;obtain⟨a0,a1⟩:=hA (.inl rfl);have a2:ins.2.1<(th.2.2.1.length:Int):=by rw[htz];exact a1
   refine gA (aR o0 o1 (aR o0 o1 (ar ?_)));simp only[aZ,bp,tj];refine gA (aR a0 a1 (aR a0 a1 (aR a0 a2 (aR a0 a2 (ar ?_)))));refine hk F _ _ _ _ _ _ _ _ _ _ _ _ _ (λ_ _=>fin _ _ _ (bU ..) (bU ..) (mark (.inl rfl) _)) (λh=>by omega) (λt' h g=>?_) t1 _;exact done _ ce fu t' (apB (by decide) _) ⟨λ_=>rfl,λh=>(by cases h),λh=>(by cases h),λh=>(h rfl).elim⟩ rfl rfl h (g.imp id λh=>⟨h.1,λh2=>(by cases h2)⟩)
  .obtain⟨o0,o1⟩:=nmfu (.inr rfl);rw[<- hfu] at o1;obtain⟨a0,a1⟩:=hA (.inr (.inl rfl));have a2:ins.2.1<(th.2.2.1.length:Int):=by rw[htz];exact a1
   refine gA (aR o0 o1 (aR o0 o1 (ar ?_)));simp only[aZ,bp,tj];refine gA (aR a0 a1 (aR a0 a1 (aR a0 a2 (aR a0 a2 (ar ?_)))));refine hk F _ _ _ _ _ _ _ _ _ _ _ _ _ (λ_ _=>fin _ _ _ (bU ..) (bU ..) (mark (.inr rfl) _)) (λh=>by omega) (λt' h g=>?_) t1 _;exact done _ ce fu t' (apB (by decide) _) ⟨λh=>(by cases h),λ_=>rfl,λh=>(by cases h),λ_ h=>(h rfl).elim⟩ rfl rfl h (g.imp id λh=>⟨h.1,λh2=>(by cases h2)⟩)
  .obtain⟨o0,o1⟩:=nmce (.inr rfl);rw[<- hce] at o1;obtain⟨a0,a1⟩:=Y (.inl rfl);refine gA (aR a0 a1 (aR a0 a1 (aR o0 o1 (aR o0 o1 (ar ?_)))));simp only[aZ,bp,tj];refine hk F _ _ _ _ _ _ _ _ _ _ _ _ _ (λ_ _=>fin _ _ _ rfl rfl keep) (λh=>by omega) (λt' h g=>?_) t1 _;exact done _ _ fu t' (apB (by decide) _) ⟨λh=>(by cases h),λh=>(by cases h),λh=>(by cases h),λ_ _ _ h=>(h rfl).elim⟩ rfl rfl h (g.imp id λh=>⟨h.1,λh2=>(by cases h2)⟩)
  .obtain⟨o0,o1⟩:=nmfu (.inl rfl);rw[<- hfu] at o1;obtain⟨a0,a1⟩:=Y (.inr rfl);refine gA (aR a0 a1 (aR a0 a1 (aR o0 o1 (aR o0 o1 (ar ?_)))));simp only[aZ,bp,tj];refine hk F _ _ _ _ _ _ _ _ _ _ _ _ _ (λ_ _=>fin _ _ _ rfl rfl keep) (λh=>by omega) (λt' h g=>?_) t1 _;exact done _ ce _ t' (apB (by decide) _) ⟨λh=>(by cases h),λh=>(by cases h),λh=>(by cases h),λ_ _ _ _ h=>(h rfl).elim⟩ rfl rfl h (g.imp id λh=>⟨h.1,λh2=>(by cases h2)⟩)
  .obtain⟨a0,a1⟩:=hA (.inr (.inr rfl));refine gA (aR a0 a1 (aR a0 a1 (aK (λ_=>ar ?_) λ_=>ar ?_)));all_goals
    simp only[aZ,bp,tj];refine hk F _ _ _ _ _ _ _ _ _ _ _ _ _ (λ_ _=>fin _ _ _ rfl rfl keep) (λh=>by omega) (λt' h g=>?_) t1 _;exact done _ ce fu t' (apB (by decide) _) ⟨λh=>(by cases h),λh=>(by cases h),λ_=>(by decide),λ_ _ h=>(h rfl).elim⟩ rfl rfl h (g.imp id λh=>⟨h.1,λh2=>(by cases h2)⟩)
 .refine ⟨?_,λh1 h2=>(hz ⟨h1,h2⟩).elim⟩;unfold SG xm Ek Prod.p12 aV bh bw cu dU iW ve xn Prod.q10 Lj Prod.q13 bL dh mB NJ ck bd bH kJ aF;refine Ir hn hc hs hI (λo=>P5 o (SQ n I L)) (λy h=>.inr (ar h)) _ λe v sy hp _ _ _ _ _=>.inl ?_
  obtain⟨sy0,ce,fu,l⟩:=s;have vl:=hp.fs.vc.vl;by_cases hl:l.length=N
  .have ht:¬t=(i:Int):=λh=>hz ⟨hl,h⟩
   dsimp only;cases M (sy0,ce,fu,l) with
   |none=>rfl
   |some y=>rw[WL,bz ht];rfl
  .show obind (M (sy0,ce,fu,l)) _=ah;rw[h0 sy0 ce fu l (by have h1:l.length=I.2.length:=hp.fs.th;have:=hp.fs.vc.tl;have:=vl.t;omega) hl];rfl
theorem By {Z W V:Type} {n:Nat} {U:CT} {L:List ET} {i:Nat} {u:Int} {l:List TT} {z:Z} {t1:Z->List Int->List (List Int)->W} {J:W->V} {I:V->TT->List TT} (Y:∀ R T t',I (J (t1 z R T)) t'=l.set i t'):KR n U L i u l z (KG (i:Int) t1 J I):=by
 intro F p sy kd o v si ds fs ce fu R T ev fin park done ht pc;unfold KG xm aV bh bw cu dU iW ve xn Prod.q10 Lj nK bd il bH aF cA;dsimp only;have done:∀ t',TH F (n+1) t'->(t'.2.1.length=0\/t'.2.2.2=bn .i64 (ev+1)/\(kd=16->t'.1=p))->SQ n U L ((sy,ce,fu,I (J (t1 z R T)) t'),((i:Int),kd,o,v,si,ds,fs),ai):=λt' h g=>by rw[Y];exact done t' h g
 by_cases h1:kd=16
 .subst h1;exact gA (gA (fJ rfl (ar (fJ rfl (ar (fE (aO rfl) (ar (done _ (park (.inl rfl)) (.inr ⟨rfl,λ_=>rfl⟩)))))))))
 by_cases h2:kd=2
 .subst h2;exact gA (gA (fE rfl (ar (fJ rfl (ar (fE (aO rfl) (ar (done _ (park (.inr rfl)) (.inr ⟨rfl,λh=>(by cases h)⟩)))))))))
 rw[bz h1,bz h2];exact gA (gA (fE rfl (ar (fE rfl (aR (eM i) ht (aT (ay (fin h1 h2) λy M=>ar (fE (aO rfl) (ar (done _ M.1 (M.2.imp id λh=>⟨h,λh2=>(h1 h2).elim⟩)))))))))))
theorem Y9 {n:Nat} (hn:n+1<=100000) (I:CT) (L:List ET) (s:ST) (t u:Int) (hc:CB I) (hs:SV n L s) (J:Ls I L s):P5 (mU (I,s,t,u)) (SQ n I L)/\(s.2.2.2.length=4->t=0->Ok (mU (I,s,t,u)) (SQ n I L)):=by
 refine Bx 4 0 hn I L s t u hc hs J Tt λsy ce fu l hs hce hfu hl=>⟨by decide,?_⟩
 obtain⟨a,b,c,d,rfl⟩:∃ a b c d,l=[a,b,c,d]:=by
  rcases l with _|⟨a,_|⟨b,_|⟨c,_|⟨d,_|⟨e,l⟩⟩⟩⟩⟩;all_goals first|exact⟨_,_,_,_,rfl⟩|(simp at hl;done)|(exfalso;simp only[b7] at hl;omega)
 refine ⟨_,Zy sy ce fu a b c d hs hce hfu,rfl,rfl,rfl,rfl,rfl,rfl,By λR T t'=>rfl⟩
theorem Y8 {n:Nat} (hn:n+1<=100000) (I:CT) (L:List ET) (s:ST) (t u:Int) (hc:CB I) (hs:SV n L s) (J:Ls I L s):P5 (mT (I,s,t,u)) (SQ n I L)/\(s.2.2.2.length=4->t=1->Ok (mT (I,s,t,u)) (SQ n I L)):=by
 refine Bx 4 1 hn I L s t u hc hs J Ts λsy ce fu l hs hce hfu hl=>⟨by decide,?_⟩
 obtain⟨a,b,c,d,rfl⟩:∃ a b c d,l=[a,b,c,d]:=by
  rcases l with _|⟨a,_|⟨b,_|⟨c,_|⟨d,_|⟨e,l⟩⟩⟩⟩⟩;all_goals first|exact⟨_,_,_,_,rfl⟩|(simp at hl;done)|(exfalso;simp only[b7] at hl;omega)
 refine ⟨_,Zx sy ce fu a b c d hs hce hfu,rfl,rfl,rfl,rfl,rfl,rfl,By λR T t'=>rfl⟩
theorem Y7 {n:Nat} (hn:n+1<=100000) (I:CT) (L:List ET) (s:ST) (t u:Int) (hc:CB I) (hs:SV n L s) (J:Ls I L s):P5 (lx (I,s,t,u)) (SQ n I L)/\(s.2.2.2.length=4->t=2->Ok (lx (I,s,t,u)) (SQ n I L)):=by
 refine Bx 4 2 hn I L s t u hc hs J Tr λsy ce fu l hs hce hfu hl=>⟨by decide,?_⟩
 obtain⟨a,b,c,d,rfl⟩:∃ a b c d,l=[a,b,c,d]:=by
  rcases l with _|⟨a,_|⟨b,_|⟨c,_|⟨d,_|⟨e,l⟩⟩⟩⟩⟩;all_goals first|exact⟨_,_,_,_,rfl⟩|(simp at hl;done)|(exfalso;simp only[b7] at hl;omega)
 refine ⟨_,Zw sy ce fu a b c d hs hce hfu,rfl,rfl,rfl,rfl,rfl,rfl,By λR T t'=>rfl⟩
theorem Y6 {n:Nat} (hn:n+1<=100000) (I:CT) (L:List ET) (s:ST) (t u:Int) (hc:CB I) (hs:SV n L s) (J:Ls I L s):P5 (kn (I,s,t,u)) (SQ n I L)/\(s.2.2.2.length=4->t=3->Ok (kn (I,s,t,u)) (SQ n I L)):=by
 refine Bx 4 3 hn I L s t u hc hs J Tq λsy ce fu l hs hce hfu hl=>⟨by decide,?_⟩
 obtain⟨a,b,c,d,rfl⟩:∃ a b c d,l=[a,b,c,d]:=by
  rcases l with _|⟨a,_|⟨b,_|⟨c,_|⟨d,_|⟨e,l⟩⟩⟩⟩⟩;all_goals first|exact⟨_,_,_,_,rfl⟩|(simp at hl;done)|(exfalso;simp only[b7] at hl;omega)
 refine ⟨_,Zv sy ce fu a b c d hs hce hfu,rfl,rfl,rfl,rfl,rfl,rfl,By λR T t'=>rfl⟩
theorem Za {n:Nat} (hn:n+1<=100000) (I:CT) (L:List ET) (s:ST) (t u:Int) (hc:CB I) (hs:SV n L s) (J:Ls I L s):P5 (jx (I,s,t,u)) (SQ n I L)/\(s.2.2.2.length=3->t=0->Ok (jx (I,s,t,u)) (SQ n I L)):=by
 refine Bx 3 0 hn I L s t u hc hs J Tw λsy ce fu l hs hce hfu hl=>⟨by decide,?_⟩
 obtain⟨a,b,c,rfl⟩:∃ a b c,l=[a,b,c]:=by
  rcases l with _|⟨a,_|⟨b,_|⟨c,_|⟨d,_|⟨e,l⟩⟩⟩⟩⟩;all_goals first|exact⟨_,_,_,rfl⟩|(simp at hl;done)|(exfalso;simp only[b7] at hl;omega)
 refine ⟨_,ZB sy ce fu a b c hs hce hfu,rfl,rfl,rfl,rfl,rfl,rfl,By λR T t'=>rfl⟩
theorem Y' {n:Nat} (hn:n+1<=100000) (I:CT) (L:List ET) (s:ST) (t u:Int) (hc:CB I) (hs:SV n L s) (J:Ls I L s):P5 (iM (I,s,t,u)) (SQ n I L)/\(s.2.2.2.length=3->t=1->Ok (iM (I,s,t,u)) (SQ n I L)):=by
 refine Bx 3 1 hn I L s t u hc hs J Tv λsy ce fu l hs hce hfu hl=>⟨by decide,?_⟩
 obtain⟨a,b,c,rfl⟩:∃ a b c,l=[a,b,c]:=by
  rcases l with _|⟨a,_|⟨b,_|⟨c,_|⟨d,_|⟨e,l⟩⟩⟩⟩⟩;all_goals first|exact⟨_,_,_,rfl⟩|(simp at hl;done)|(exfalso;simp only[b7] at hl;omega)
 refine ⟨_,ZA sy ce fu a b c hs hce hfu,rfl,rfl,rfl,rfl,rfl,rfl,By λR T t'=>rfl⟩
theorem Y_ {n:Nat} (hn:n+1<=100000) (I:CT) (L:List ET) (s:ST) (t u:Int) (hc:CB I) (hs:SV n L s) (J:Ls I L s):P5 (ib (I,s,t,u)) (SQ n I L)/\(s.2.2.2.length=3->t=2->Ok (ib (I,s,t,u)) (SQ n I L)):=by
 refine Bx 3 2 hn I L s t u hc hs J Tu λsy ce fu l hs hce hfu hl=>⟨by decide,?_⟩
 obtain⟨a,b,c,rfl⟩:∃ a b c,l=[a,b,c]:=by
  rcases l with _|⟨a,_|⟨b,_|⟨c,_|⟨d,_|⟨e,l⟩⟩⟩⟩⟩;all_goals first|exact⟨_,_,_,rfl⟩|(simp at hl;done)|(exfalso;simp only[b7] at hl;omega)
 refine ⟨_,Zz sy ce fu a b c hs hce hfu,rfl,rfl,rfl,rfl,rfl,rfl,By λR T t'=>rfl⟩
theorem Zc {n:Nat} (hn:n+1<=100000) (I:CT) (L:List ET) (s:ST) (t u:Int) (hc:CB I) (hs:SV n L s) (J:Ls I L s):P5 (gC (I,s,t,u)) (SQ n I L)/\(s.2.2.2.length=2->t=0->Ok (gC (I,s,t,u)) (SQ n I L)):=by
 refine Bx 2 0 hn I L s t u hc hs J Tz λsy ce fu l hs hce hfu hl=>⟨by decide,?_⟩
 obtain⟨a,b,rfl⟩:∃ a b,l=[a,b]:=by
  rcases l with _|⟨a,_|⟨b,_|⟨c,_|⟨d,_|⟨e,l⟩⟩⟩⟩⟩;all_goals first|exact⟨_,_,rfl⟩|(simp at hl;done)|(exfalso;simp only[b7] at hl;omega)
 refine ⟨_,ZD sy ce fu a b hs hce hfu,rfl,rfl,rfl,rfl,rfl,rfl,By λR T t'=>rfl⟩
theorem Zb {n:Nat} (hn:n+1<=100000) (I:CT) (L:List ET) (s:ST) (t u:Int) (hc:CB I) (hs:SV n L s) (J:Ls I L s):P5 (f_ (I,s,t,u)) (SQ n I L)/\(s.2.2.2.length=2->t=1->Ok (f_ (I,s,t,u)) (SQ n I L)):=by
 refine Bx 2 1 hn I L s t u hc hs J Tx λsy ce fu l hs hce hfu hl=>⟨by decide,?_⟩
 obtain⟨a,b,rfl⟩:∃ a b,l=[a,b]:=by
  rcases l with _|⟨a,_|⟨b,_|⟨c,_|⟨d,_|⟨e,l⟩⟩⟩⟩⟩;all_goals first|exact⟨_,_,rfl⟩|(simp at hl;done)|(exfalso;simp only[b7] at hl;omega)
 refine ⟨_,ZC sy ce fu a b hs hce hfu,rfl,rfl,rfl,rfl,rfl,rfl,By λR T t'=>rfl⟩
theorem Zd {n:Nat} (hn:n+1<=100000) (I:CT) (L:List ET) (s:ST) (t u:Int) (hc:CB I) (hs:SV n L s) (J:Ls I L s):P5 (gd (I,s,t,u)) (SQ n I L)/\(s.2.2.2.length=1->t=0->Ok (gd (I,s,t,u)) (SQ n I L)):=by
 refine Bx 1 0 hn I L s t u hc hs J TA λsy ce fu l hs hce hfu hl=>⟨by decide,?_⟩
 obtain⟨a,rfl⟩:∃ a,l=[a]:=by
  rcases l with _|⟨a,_|⟨b,_|⟨c,_|⟨d,_|⟨e,l⟩⟩⟩⟩⟩;all_goals first|exact⟨_,rfl⟩|(simp at hl;done)|(exfalso;simp only[b7] at hl;omega)
 refine ⟨_,ZF sy ce fu a hs hce hfu,rfl,rfl,rfl,rfl,rfl,rfl,By λR T t'=>rfl⟩
theorem Ze {n:Nat} (hn:n+1<=100000) (c:CT) (L:List ET) (s:ST) (t u:Int) (hc:CB c) (hs:SV n L s) (Z:Ls c L s):Ok (Aq (c,s,t,u)) (SQ n c L):=by
 unfold Aq;have I:=Y9 hn c L s t u hc hs Z;have J:=Y8 hn c L s t u hc hs Z;have M:=Y7 hn c L s t u hc hs Z;have U:=Y6 hn c L s t u hc hs Z;have Y:=Za hn c L s t u hc hs Z;have a31:=Y' hn c L s t u hc hs Z;have a32:=Y_ hn c L s t u hc hs Z;have a20:=Zc hn c L s t u hc hs Z;have a21:=Zb hn c L s t u hc hs Z;have a10:=Zd hn c L s t u hc hs Z;by_cases hz:s.2.2.2.length<=4/\0<=t/\t<(s.2.2.2.length:Int)
 .obtain⟨h1,h2,h3⟩:=hz;have:(s.2.2.2.length=4/\t=0)\/(s.2.2.2.length=4/\t=1)\/(s.2.2.2.length=4/\t=2)\/(s.2.2.2.length=4/\t=3)\/(s.2.2.2.length=3/\t=0)\/(s.2.2.2.length=3/\t=1)\/(s.2.2.2.length=3/\t=2)\/(s.2.2.2.length=2/\t=0)\/(s.2.2.2.length=2/\t=1)\/(s.2.2.2.length=1/\t=0):=by omega
  rcases this with h|h|h|h|h|h|h|h|h|h
  .exact (I.2 h.1 h.2).orL
  .exact I.1.orR (J.2 h.1 h.2).orL
  .exact I.1.orR (J.1.orR (M.2 h.1 h.2).orL)
  .exact I.1.orR (J.1.orR (M.1.orR (U.2 h.1 h.2).orL))
  .exact I.1.orR (J.1.orR (M.1.orR (U.1.orR (Y.2 h.1 h.2).orL)))
  .exact I.1.orR (J.1.orR (M.1.orR (U.1.orR (Y.1.orR (a31.2 h.1 h.2).orL))))
  .exact I.1.orR (J.1.orR (M.1.orR (U.1.orR (Y.1.orR (a31.1.orR (a32.2 h.1 h.2).orL)))))
  .exact I.1.orR (J.1.orR (M.1.orR (U.1.orR (Y.1.orR (a31.1.orR (a32.1.orR (a20.2 h.1 h.2).orL))))))
  .exact I.1.orR (J.1.orR (M.1.orR (U.1.orR (Y.1.orR (a31.1.orR (a32.1.orR (a20.1.orR (a21.2 h.1 h.2).orL)))))))
  .exact I.1.orR (J.1.orR (M.1.orR (U.1.orR (Y.1.orR (a31.1.orR (a32.1.orR (a20.1.orR (a21.1.orR (a10.2 h.1 h.2)))))))))
 .refine Ok.orL ?_;unfold mU aV bh dh;refine Ir hn hc hs Z (λo=>Ok o (SQ n c L)) (λy h=>ar h) _ λe v sy hp _ _ _ _ _=>(hz ?_).elim
  have h1:s.2.2.2.length=c.2.length:=hp.fs.th;have h2:c.2.length=c.1.2.2.2.2.1.length:=hp.fs.vc.tl;have h3:c.1.2.2.2.2.1.length<=4:=hp.fs.vc.vl.t;have h4:0<=t:=hp.t0;have h5:t<(c.2.length:Int):=hp.t1;exact⟨by omega,h4,by omega⟩
theorem afd (c:CT) (s:ST) (l:List (Int×Int)) (hc:CB c) (hs:SV 0 [] s) (hI:Ls c [] s) (hl:l.length<=9223372036854775806):Ok (wD (c,s,l)) λy=>y.1.length<=400/\(∀ e∈y.1,EvF c.1 e/\Zu e)/\∃ sy ce fu,Acw c.1 y.1 sy ce fu:=by
 unfold wD aV bh dh bB bF bH aX cK aF cA;refine qf (λx=>((l.length:Int)-x.1).toNat) (λx=>0<=x.1/\x.2.2.1=c/\SV x.2.1.length x.2.1 x.2.2.2.1/\Ls c x.2.1 x.2.2.2.1/\x.2.1.length<=400/\∀ e∈x.2.1,EvF c.1 e/\Zu e) ?_ ⟨eE _,rfl,hs,hI,by simp,λe he=>(by cases he)⟩;rintro⟨(i:Int),es,c',s',z⟩ ⟨U,e1,e2,eI,e3,I⟩;dsimp only at U e1 e2 eI e3 I;subst e1;refine aY (λx=>x.2=(es,c',s',z)/\(x.1=ai->i<(l.length:Int)/\es.length<400)) ?_ ?_
 .refine bK (λg=>ar ⟨rfl,λh=>⟨g,?_⟩⟩) λ_=>ar ⟨rfl,λh=>(by cases h)⟩
  dsimp only at h;rw[tP] at h;dsimp only[au] at h;omega
 rintro⟨b,x⟩ ⟨Z,Y⟩;dsimp only at Z Y;subst Z;refine aP (λh=>?_) λ_=>ar ⟨e3,I,_,_,_,eI.ac⟩
 obtain⟨g1,g2⟩:=Y h;refine aY (λx=>x.2.1=c'/\SV x.1.length x.1 x.2.2.1/\Ls c' x.1 x.2.2.1/\x.1.length<=400/\∀ e∈x.1,EvF c'.1 e/\Zu e) ?_ ?_
 .refine aR U g1 (aT ?_);refine ay (Ze (n:=es.length) (by omega) c' es s' _ _ hc e2 eI) λy hy=>?_
  refine aP (λh=>?_) λ_=>ar ⟨rfl,e2,eI,e3,I⟩
  obtain⟨h1,hJ,h2,h3⟩:=hy h;refine bi (by simp;omega) (by omega) (ar ⟨rfl,?_,hJ,by simp;omega,λe he=>?_⟩)
  .dsimp only;rw[bm,dV];exact h1
  .rcases bQ.1 he with he|he
   .exact I e he
   .rw[aL] at he;subst he;exact⟨h2,h3⟩
 rintro⟨es',c2,s2,z2⟩ ⟨k1,k2,kI,M,J⟩;dsimp only at k1 k2 kI M J;subst k1;refine ar ?_;dsimp only;rw[iu (n:=i+1) (by omega) (by omega)];exact⟨⟨by omega,rfl,k2,kI,M,J⟩,by omega⟩
theorem CB.vc {c:CT} (hc:CB c):VC c:=by
 obtain⟨b,h1,h2⟩:=Ta c hc.th hc.ins;rw[hc.ok] at h1;cases h1;exact h2 rfl
theorem ak2 (c:CT) (l:List (Int×Int)) (hc:CB c) (hl:l.length<=9223372036854775806):Ok (zk (c,l)) λy=>TR y.1:=by
 unfold zk;refine aU hc.ok (dW (λh=>(by cases h)) λ_=>?_);have hv:=hc.vc;refine ay (V9 c hc.ok hv) λs hs=>?_
 refine ay (afd c s l hc hs.1 hs.2 hl) λy I=>ar ?_
 exact⟨hv.vl.wb,hv.vl,λe he=>(I.2.1 e he).1,by have:=I.1;dsimp only;omega,λe he=>(I.2.1 e he).2,hc.wx,I.2.2⟩
theorem Wg (l:List Int) (hl:l.length<=1000000):Ok (oS l) λy=>y.length=l.length:=by
 unfold oS bB bF bH aX cK aF cA;refine ch l.length (λi x=>x.1=(i:Int)/\x.2.length=i) ?_ ?_ ⟨rfl,rfl⟩
 .rintro i ⟨a,b⟩ hi ⟨e1,e2⟩;dsimp only at e1 e2;subst e1;refine dg ?_;refine cD (aT (cD (aT (bi (by simp;omega) (by omega) (ar ?_)))));dsimp only;exact⟨gM (by omega),by simp;omega⟩
 .rintro⟨a,b⟩ ⟨e1,e2⟩;dsimp only at e1 e2;subst e1;exact db (ar e2)
theorem fo (e:Xp):em (Xp.op e,Xp.n e,Xp.name e,Xp.l e)=e:=by cases e;rfl
theorem y_ (s:Sx):nU (Sx.op s,Sx.line s,Sx.name s,Sx.arg s,Sx.index s,Sx.expr s,Sx.body s,Sx.els s)=s:=by cases s;rfl
abbrev NV:List (List UInt8):=[[97],[98],[120],[121],[118]]
def GE:Nat->Xp->Prop
 |0,_=>False
 |d+1,e=>(e.op=3->e.name=[113])/\(e.op≠1->e.op≠2->1<=e.l.length)/\e.l.length<=2/\(∀ x∈e.l,GE d x)/\(e.op=2->e.name∈NV)/\(e.op≠1->e.op≠2->e.op≠3->2<=e.l.length/\6<=e.op/\e.op<=18)
theorem GE.mono:∀ {d:Nat} {e:Xp},GE d e->GE (d+1) e
 |0,_,h=>h.elim
 |_+1,_,h=>⟨h.1,h.2.1,h.2.2.1,λx I=>(h.2.2.2.1 x I).mono,h.2.2.2.2⟩
theorem GE.le {d k:Nat} {e:Xp} (h:GE d e) (hk:d<=k):GE k e:=by
 induction hk with
 |refl=>exact h
 |step _ I=>exact I.mono
theorem Oh (n:Int):rB n=af (.mk 1 n [] []):=rfl
theorem H4 (s:List UInt8):pA s=af (.mk 2 0 s []):=rfl
theorem FC (o:Int) (a b:Xp):nS (o,a,b)=af (.mk o 0 [] [a,b]):=by
 cases a;cases b;rfl
theorem uc (s:List UInt8) (e:Xp):jv (s,e)=af (.mk 1 0 s [] [] e [] []):=by
 cases e;rfl
abbrev MK:Type:=Int×Int×Bool×Bool×Bool×Bool
abbrev PK:Type:=List Int×Int
abbrev HD:Type:=Bool×List (List UInt8)
theorem GE.num (n:Int) (d:Nat):GE (d+1) (.mk 1 n [] []):=⟨λh=>(by cases h),λh=>(h rfl).elim,by simp[Xp.l],λx I=>(by cases I),λh=>(by cases h),λh=>(h rfl).elim⟩
theorem GE.nm {s:List UInt8} (hs:s∈NV) (d:Nat):GE (d+1) (.mk 2 0 s []):=⟨λh=>(by cases h),λ_ h=>(h rfl).elim,by simp[Xp.l],λx I=>(by cases I),λ_=>hs,λ_ h=>(h rfl).elim⟩
theorem GE.bin {o:Int} {a b:Xp} {d:Nat} (J:6<=o/\o<=18) (M:GE d a) (hb:GE d b):GE (d+1) (.mk o 0 [] [a,b]):=
 ⟨λh=>(by have h:o=3:=h;omega),λ_ _=>by simp[Xp.l],by simp[Xp.l],λx I=>by
   simp only[Xp.l,bl,cw,gf] at I;rcases I with rfl|rfl
   .exact M
   .exact hb,λh=>(by have h:o=2:=h;omega),λ_ _ _=>⟨by simp[Xp.l],J⟩⟩
theorem GE.ix {a:Xp} {d:Nat} (J:GE d a):GE (d+1) (.mk 3 0 [113] [a]):=
 ⟨λ_=>rfl,λ_ _=>by simp[Xp.l],by simp[Xp.l],λx I=>by
   simp only[Xp.l,bl,cw,gf] at I;rw[I];exact J,λh=>(by cases h),λ_ _ h=>(h rfl).elim⟩
theorem Ds:∀ (n d:Nat),d<n->d<=10->∀ (m:MK) (t:PK) (h:HD),TP t->Ok (iB n ((d:Int),m,t,h)) λy=>GE (d+1) y.1/\y.2.1=m/\uZ t y.2.2.1/\y.2.2.2=h
 |0,d,hd,_,_,_,_,_=>by omega
 |n+1,d,hd,h10,m,t,h,ht=>by
  rw[yT];unfold oc aV bh bL dh cN bd bB bF kJ aX aF;refine ay (gm 10 t ht) λy I=>?_
  obtain⟨k,t1⟩:=y;obtain⟨s1,k0,k1,_⟩:=I;have k1:=k1 (by decide);dsimp only at s1 k0 k1;refine aY (λx=>x.2=(m,t1,h,(0,0,[]),[[97],[98],[120],[121],[118],[120],[121]])/\(x.1=aj->2<=k/\(d=0->k<7))) ?_ ?_
  .refine bK (λ_=>ar ⟨rfl,λh=>(by cases h)⟩) λg=>aK (λg2=>ar ⟨rfl,λg3=>⟨g,λ_=>?_⟩⟩) λg2=>ar ⟨rfl,λ_=>⟨g,λh=>(g2 (by dsimp only;omega)).elim⟩⟩
   dsimp only at g3;rw[mc] at g3;exact g3
  rintro⟨b,x⟩ ⟨e,hb⟩;dsimp only at e hb;subst e;refine aP (λ_=>?_) λg=>?_
  .refine ay (gm 4 t1 s1.p) λy I=>?_
   refine aU (Oh _) (ar ?_);exact⟨GE.num _ _,rfl,s1.trans I.1,rfl⟩
  obtain⟨q0,q1⟩:=hb g;refine bK (λg=>?_) λg=>?_
  .refine ay (gm _ t1 s1.p) λy I=>?_
   obtain⟨u1,M,J,_⟩:=I;have J:=J (show (1:Int)<=7 by decide);refine aR M J (aR M J (aT ?_));refine aU (H4 _) (ar ?_);have hnv:∀ z∈([[97],[98],[120],[121],[118],[120],[121]]:List (List UInt8)),z∈NV:=by decide
   exact⟨GE.nm (hnv _ (bI (T:=.str) M J)) _,rfl,s1.trans u1,rfl⟩
  dsimp only at g;have hd0:d≠0:=λh=>by have:=q1 h;omega
  obtain⟨d,rfl⟩:∃ k,d=k+1:=⟨d-1,by omega⟩
  refine aK (λg=>?_) λg=>?_
  .refine ay (Ds n 0 (by omega) (by omega) m t1 h s1.p) λy I=>?_
   obtain⟨e,m',t',h'⟩:=y;obtain⟨v1,Z,U,Y⟩:=I;dsimp only at v1 Z U Y;subst Z;subst Y;refine be (by simp) (ar ?_);dsimp only;rw[fo];exact⟨(GE.ix (v1.le (by omega):GE (d+1) e)),rfl,s1.trans U,rfl⟩
  .refine ay (gm _ t1 s1.p) λy I=>?_
   obtain⟨k2,t2⟩:=y;obtain⟨u1,M,J,_⟩:=I;have J:=J (by decide);dsimp only at u1 M J;refine aR M J (aR M J (aT ?_));have ho:(6:Int)<=aJ (T:=.int .i64) [6,7,8,11,13,17] k2/\aJ (T:=.int .i64) [6,7,8,11,13,17] k2<=(18:Int):=by
    have h1:=bI (T:=.int .i64) (xs:=([6,7,8,11,13,17]:List Int)) M J;have:∀ z:Int,z∈([6,7,8,11,13,17]:List Int)->6<=z/\z<=18:=by decide
    exact this _ h1
   have ew:bn .i64 (((d+1:Nat):Int)-1)=(d:Int):=by rw[iu (by omega) (by omega)];omega
   dsimp only;rw[ew];refine ay (Ds n d (by omega) (by omega) m t2 h u1.p) λy I=>?_
   obtain⟨e,m',t',h'⟩:=y;obtain⟨v1,Z,U,Y⟩:=I;dsimp only at v1 Z U Y;subst Z;subst Y;refine be (by simp) ?_;refine ay (Ds n d (by omega) (by omega) m' t' h' U.p) λy I=>?_
   obtain⟨e2,m2,t2',h2⟩:=y;obtain⟨w1,w2,w3,w4⟩:=I;dsimp only at w1 w2 w3 w4;subst w2;subst w4;refine be (by simp) ?_;refine aU (FC _ _ _) (ar ?_);dsimp only;rw[fo];exact⟨GE.bin ho v1 w1,rfl,s1.trans (u1.trans (U.trans w3)),rfl⟩
theorem aas (d:Nat) (hd:d<=10) (m:MK) (t:PK) (h:HD) (ht:TP t):Ok (fh ((d:Int),m,t,h)) λy=>GE (d+1) y.1/\y.2.1=m/\uZ t y.2.2.1/\y.2.2.2=h:=Ds fuel d (by rw[jX];omega) hd m t h ht
end
end Go.Proofs.YtgijlolllojpaaaGreatDoor.AI
