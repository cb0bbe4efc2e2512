/-
  Texts of the proof, part 2 of 6: what is used to prove the statement. No condition.
-/
import Derived.Test.YtgijlolllojpaaaGreatDoorShbRacesQ0
namespace Go.Proofs.YtgijlolllojpaaaGreatDoor.AI
open Go.RowKit
set_option maxRecDepth 100000
set_option maxHeartbeats 4000000
set_option linter.unusedVariables false
set_option linter.unusedSimpArgs false
open _root_.Bool renaming true→ai,false→aj
open _root_.Int renaming ofNat_eq_natCast→au,ofNat→aP,toNat→aT,reduceEq→aV,reduceNeg→bt,toNat_natCast→cZ
open _root_.List renaming length→al,replicate→aG,range→bx,length_cons→cf,length_singleton→c9,take→dI,cons_append→gC,length_nil→j8,take_succ_cons→wG,foldl_cons→xK,take_zero→L6
open _root_.Nat renaming beq→aC,blt→gz
open _root_.Option renaming some→af,none→ah,map_some→cr,getD_some→vD
open _root_.Prod renaming p2→aX,p3→bf,p4→bu,q3→bK,p5→ch,q5→cN,q4→dx,p6→dC,q6→fg,p7→ja,q7→kP,q8→nZ,p8→vC,p10→xF,p9→xG,p11→EM,q11→L4,q9→OO
open _root_.Sum renaming inr→bO,inl→kO
noncomputable section
abbrev Kd0:Ty:=(.st (.pr kg (.pr kg (.pr kg (.pr kg (.pr kg (.pr kg (.pr (.sl aM) (.pr kg (.sl aM))))))))))
abbrev Kd1:Ty:=(.st (.pr .bool .bool))
abbrev YS:=((List η)×(List η)×(List η)×(List η)×(List η)×(List η)×η×(List η)×η)
abbrev Yd1:=(η×(List η)×(List η)×(List η)×(List η)×(List η)×(List η)×(List η)×η×η)
abbrev Yd2:=(Int×gP×θ×List dF)
abbrev Yd3:=(Int×gY×gI×(List fE)×cj×cj×List ν)
abbrev Yd4:=(dt×Int×Int×Int×Int×Int×η×η)
abbrev OE:=(List Γ)
abbrev Yd6:=(Int×θ×List dF)
def Nv {α R:Type} [DecidableEq α] (a b:α) (r:Option R):Option R:=if a=b then r else ah
theorem Ru {α R:Type} [DecidableEq α] (a b:α) (r:Option R):Nv a b r=same a b r:=by unfold Nv same;by_cases h:a=b<;>simp[h]
theorem Rt {α R:Type} [DecidableEq α] {a b:α} (h:a=b) (r:Option R):Nv a b r=r:=by unfold Nv;rw[aD h]
def jF (x:η×Int):Option (Int):=
 (jn (α:=Bool) (bA x.2 0 (aF ai) (aF (c_ (aZ x.1) x.2))) λI=>(bcase I (af 0) (vp x.2 x.1 (af (aK (T:=aM) x.1 x.2)))))
def vV (it:zj) (x:η×η):Option η:=
 (bE (c_ 0 (iK (aZ x.1) (aZ x.2))&&c_ (iK (aZ x.1) (aZ x.2)) (iK (aZ x.1) (aZ x.2))&&a8 (aT (iK (aZ x.1) (aZ x.2))) 8) (it (Int×η) _ (λI=>(bA I.1 (aP (al (aG (aT (iK (aZ x.1) (aZ x.2))) (0:Int)))) (obind (jF (x.1,I.1)) λM=>(obind (jF (x.2,I.1)) λJ=>(ck (eP I.1 (al I.2)) (cK ((cH I.1),(cz I.2 I.1 (iK M J))))))) (aF I.2))) (0,(aG (aT (iK (aZ x.1) (aZ x.2))) (0:Int)))))
def zM (x:η×η):Option η:=vV @iter x
def iR (x:η×η):Option η:=vV @gh x
def Do (x:η×Int):Option (Int):=
 (jn (α:=Bool) (bA x.2 0 (aF ai) (aF (c_ (aZ x.1) x.2))) λI=>(bcase I (af 0) (vp x.2 x.1 (af (aK (T:=aM) x.1 x.2)))))
def FA (it:zj) (x:η×η):Option η:=
 (bE (c_ 0 (iK (aZ x.1) (aZ x.2))&&c_ (iK (aZ x.1) (aZ x.2)) (iK (aZ x.1) (aZ x.2))&&a8 (aT (iK (aZ x.1) (aZ x.2))) 8) (it (Int×η) _ (λI=>(bA I.1 (aP (al (aG (aT (iK (aZ x.1) (aZ x.2))) (0:Int)))) (obind (Do (x.1,I.1)) λM=>(obind (Do (x.2,I.1)) λJ=>(ck (eP I.1 (al I.2)) (cK ((cH I.1),(cz I.2 I.1 (iK M J))))))) (aF I.2))) (0,(aG (aT (iK (aZ x.1) (aZ x.2))) (0:Int)))))
def E9 (x:η×η):Option η:=FA @iter x
def od (x:η×η):Option η:=FA @gh x
def Po (x:η):Option η:=
 (bcase (aC (al x) 0) (F5 (af ([]:η)) (bE (a8 (al ([]:η)+al x) 8) (af (([]:η)++x)))) (bE (a8 (al ([]:η)+al x) 8) (af (([]:η)++x))))
def xW (x:η):Option η:=chk (a8 (al x) 8) λ_=>af x
def yc (it:zj) (x:List η):Option (List η):=
 (bE (c_ 0 (aZ x)&&c_ (aZ x) (aZ x)&&a8 (aT (aZ x)) 24) (it (Int×List η) _ (λI=>(bA I.1 (aZ x) (vp I.1 x (obind (xW (aK (T:=(.sl aM)) x I.1)) λJ=>(ck (eP I.1 (al I.2)) (cK ((cH I.1),(cz I.2 I.1 J)))))) (aF I.2))) (0,(aG (aT (aZ x)) ([]:η)))))
def Cm (x:List η):Option (List η):=yc @iter x
def iB (x:List η):Option (List η):=yc @gh x
def Jv (x:η):Option η:=
 (bcase (aC (al x) 0) (F5 (af ([]:η)) (bE (a8 (al ([]:η)+al x) 8) (af (([]:η)++x)))) (bE (a8 (al ([]:η)+al x) 8) (af (([]:η)++x))))
def pu (x:η):Option η:=chk (a8 (al x) 8) λ_=>af x
def rZ (x:(List η)×(List η)×(List η)×(List η)×(List η)×(List η)×η×(List η)×η):Option (η×(List η)×(List η)×(List η)×(List η)×(List η)×(List η)×(List η)×η):=
 (obind (iB x.1) λy1=>(obind (iB x.2.1) λy2=>(obind (iB x.p2) λy3=>(obind (iB x.p3) λZ=>(obind (iB x.p4) λY=>(obind (iB x.p5) λU=>(obind (pu x.p6) λM=>(obind (iB x.p7) λJ=>(obind (pu x.q8) λI=>(af (M,y1,y2,y3,Z,Y,U,J,I)))))))))))
def uo (x:Int×List η):Option (η×List η):=
 (jn (α:=Bool×List η) (bA x.1 0 (aF (ai,x.2)) (aF ((c_ (aZ x.2) x.1),x.2))) λI=>(bcase I.1 (af (([]:η),I.2)) (ck (eP x.1 (al I.2)) (af ((aK (T:=(.sl aM)) I.2 x.1),I.2)))))
def r7 (x:gd×η×dt×(List η)×(List η)×(List η)×(List η)×(List η)×(List η)×(List η)×η):Option ((List η)×gd×η×dt×(List η)×(List η)×(List η)×(List η)×(List η)×(List η)×(List η)×η):=
 (bd x.1.2.1 1 (ck (eP x.1.1 (al x.p4)) (af ([(aK (T:=(.sl aM)) x.p4 x.1.1)],(x.1.1,x.1.2.1,x.1.p2,x.1.p3,x.1.p4,x.1.p5,x.1.q6),x.2.1,(x.p2.1,x.p2.2.1,x.p2.p2,x.p2.p3,x.p2.p4,x.p2.q5),x.p3,x.p4,x.p5,x.p6,x.p7,x.p8,x.p9,x.q10))) (bd x.1.2.1 21 (ck (eP x.1.p2 (al x.p3)) (af ([(aK (T:=(.sl aM)) x.p3 x.1.p2)],(x.1.1,x.1.2.1,x.1.p2,x.1.p3,x.1.p4,x.1.p5,x.1.q6),x.2.1,(x.p2.1,x.p2.2.1,x.p2.p2,x.p2.p3,x.p2.p4,x.p2.q5),x.p3,x.p4,x.p5,x.p6,x.p7,x.p8,x.p9,x.q10))) (jn (α:=Bool×gd×η×dt×(List η)×(List η)×(List η)×(List η)×(List η)×(List η)×(List η)×η) (bd x.1.2.1 6 (aF ((decide ((x.1.2.1:Int)=6)),(x.1.1,x.1.2.1,x.1.p2,x.1.p3,x.1.p4,x.1.p5,x.1.q6),x.2.1,(x.p2.1,x.p2.2.1,x.p2.p2,x.p2.p3,x.p2.p4,x.p2.q5),x.p3,x.p4,x.p5,x.p6,x.p7,x.p8,x.p9,x.q10)) (aF ((decide ((x.1.2.1:Int)=10)),(x.1.1,x.1.2.1,x.1.p2,x.1.p3,x.1.p4,x.1.p5,x.1.q6),x.2.1,(x.p2.1,x.p2.2.1,x.p2.p2,x.p2.p3,x.p2.p4,x.p2.q5),x.p3,x.p4,x.p5,x.p6,x.p7,x.p8,x.p9,x.q10))) λI=>(bcase I.1 (ck (eP I.2.1.p2 (al I.p6)) (ck (eP I.2.1.p2 (al I.p7)) (af ([(aK (T:=(.sl aM)) I.p6 I.2.1.p2),(aK (T:=(.sl aM)) I.p7 I.2.1.p2)],(I.2.1.1,I.2.1.2.1,I.2.1.p2,I.2.1.p3,I.2.1.p4,I.2.1.p5,I.2.1.q6),I.p2,(I.p3.1,I.p3.2.1,I.p3.p2,I.p3.p3,I.p3.p4,I.p3.q5),I.p4,I.p5,I.p6,I.p7,I.p8,I.p9,I.p10,I.q11)))) (bd x.1.2.1 8 (ck (eP I.2.1.p2 (al I.p6)) (af ([(aK (T:=(.sl aM)) I.p6 I.2.1.p2)],(I.2.1.1,I.2.1.2.1,I.2.1.p2,I.2.1.p3,I.2.1.p4,I.2.1.p5,I.2.1.q6),I.p2,(I.p3.1,I.p3.2.1,I.p3.p2,I.p3.p3,I.p3.p4,I.p3.q5),I.p4,I.p5,I.p6,I.p7,I.p8,I.p9,I.p10,I.q11))) (bd x.1.2.1 17 (vp I.2.1.p2 I.p3.p2 (obind (uo ((aK (T:=ma) I.p3.p2 I.2.1.p2).2,I.p6)) λM=>(bE (aC (al I.p6) (al M.2)&&ai) (obind (uo ((aK (T:=ma) I.p3.p2 I.2.1.p2).2,I.p7)) λJ=>(bE (aC (al I.p7) (al J.2)&&ai) (ck (eP I.2.1.1 (al I.p10)) (af ([M.1,J.1,(aK (T:=(.sl aM)) I.p10 I.2.1.1)],(I.2.1.1,I.2.1.2.1,I.2.1.p2,I.2.1.p3,I.2.1.p4,I.2.1.p5,I.2.1.q6),I.p2,(I.p3.1,I.p3.2.1,I.p3.p2,I.p3.p3,I.p3.p4,I.p3.q5),I.p4,I.p5,M.2,J.2,I.p8,I.p9,I.p10,I.q11)))))))) (bd x.1.2.1 3 (ck (eP I.2.1.p2 (al I.p8)) (af ([(aK (T:=(.sl aM)) I.p8 I.2.1.p2)],(I.2.1.1,I.2.1.2.1,I.2.1.p2,I.2.1.p3,I.2.1.p4,I.2.1.p5,I.2.1.q6),I.p2,(I.p3.1,I.p3.2.1,I.p3.p2,I.p3.p3,I.p3.p4,I.p3.q5),I.p4,I.p5,I.p6,I.p7,I.p8,I.p9,I.p10,I.q11))) (bd x.1.2.1 23 (ck (eP I.2.1.p2 (al I.p9)) (af ([(aK (T:=(.sl aM)) I.p9 I.2.1.p2)],(I.2.1.1,I.2.1.2.1,I.2.1.p2,I.2.1.p3,I.2.1.p4,I.2.1.p5,I.2.1.q6),I.p2,(I.p3.1,I.p3.2.1,I.p3.p2,I.p3.p3,I.p3.p4,I.p3.q5),I.p4,I.p5,I.p6,I.p7,I.p8,I.p9,I.p10,I.q11))) (bd x.1.2.1 12 (af ([I.p2],(I.2.1.1,I.2.1.2.1,I.2.1.p2,I.2.1.p3,I.2.1.p4,I.2.1.p5,I.2.1.q6),I.p2,(I.p3.1,I.p3.2.1,I.p3.p2,I.p3.p3,I.p3.p4,I.p3.q5),I.p4,I.p5,I.p6,I.p7,I.p8,I.p9,I.p10,I.q11)) (af (([]:List η),(I.2.1.1,I.2.1.2.1,I.2.1.p2,I.2.1.p3,I.2.1.p4,I.2.1.p5,I.2.1.q6),I.p2,(I.p3.1,I.p3.2.1,I.p3.p2,I.p3.p3,I.p3.p4,I.p3.q5),I.p4,I.p5,I.p6,I.p7,I.p8,I.p9,I.p10,I.q11)))))))))))
def AW (it:zj) (x:gY×gI×(List fE)×cj×cj×List ν):Option YS:=
 (ck (c_ 0 (aZ x.p4)&&c_ (aZ x.p4) (aZ x.p4)&&a8 (aT (aZ x.p4)) 24) (ck (c_ 0 (aZ x.2.1)&&c_ (aZ x.2.1) (aZ x.2.1)&&a8 (aT (aZ x.2.1)) 24) (bE (c_ 0 (aZ x.1)&&c_ (aZ x.1) (aZ x.1)&&a8 (aT (aZ x.1)) 24) (bE (c_ 0 (aZ x.p3)&&c_ (aZ x.p3) (aZ x.p3)&&a8 (aT (aZ x.p3)) 24) (bE (c_ 0 (aZ x.p4)&&c_ (aZ x.p4) (aZ x.p4)&&a8 (aT (aZ x.p4)) 24) (bE (c_ 0 (aZ x.p4)&&c_ (aZ x.p4) (aZ x.p4)&&a8 (aT (aZ x.p4)) 8) (it (Int×(List η)×(List η)×(List η)×(List η)×(List η)×(List η)×(List η)×η) _ (λI=>(bA I.1 (aP (al (aG (aT (aZ x.p4)) (0:Int)))) (ck (eP I.1 (al I.q8)) (cK ((cH I.1),I.2.1,I.p2,I.p3,I.p4,I.p5,I.p6,I.p7,(cz I.q8 I.1 (-1))))) (aF (I.2.1,I.p2,I.p3,I.p4,I.p5,I.p6,([]:η),I.p7,I.q8)))) (0,(aG (aT (aZ x.p4)) ([]:η)),(aG (aT (aZ x.p4)) ([]:η)),(aG (aT (aZ x.2.1)) ([]:η)),(aG (aT (aZ x.2.1)) ([]:η)),(aG (aT (aZ x.1)) ([]:η)),(aG (aT (aZ x.p3)) ([]:η)),(aG (aT (aZ x.p4)) ([]:η)),(aG (aT (aZ x.p4)) (0:Int))))))))))
def Fc (x:gY×gI×(List fE)×cj×cj×List ν):Option YS:=AW @iter x
def ov (x:gY×gI×(List fE)×cj×cj×List ν):Option YS:=AW @gh x
def ql (x:η×Int):Option η:=
 (jn (α:=Bool) (iY 0 x.2 (aF (gf x.2 4)) (aF aj)) λM=>(jn (α:=Int) (bcase M (aF (iK (aZ x.1) (cH x.2))) (aF (aZ x.1))) λI=>(bE (c_ 0 I&&c_ I I&&a8 (aT I) 8) (jn (α:=η) (jn (α:=Bool×η) (bcase M (ck (eP x.2 (al (U0 (aG (aT I) (0:Int)) x.1))) (aF ((gf (aK (T:=aM) (U0 (aG (aT I) (0:Int)) x.1) x.2) 9223372036854775807),(U0 (aG (aT I) (0:Int)) x.1)))) (aF (aj,(U0 (aG (aT I) (0:Int)) x.1)))) λJ=>(bcase J.1 (ck (eP x.2 (al J.2)) (ck (eP x.2 (al J.2)) (aF (cz J.2 x.2 (bk .i64 ((aK (T:=aM) J.2 x.2)+1)))))) (aF J.2))) λU=>(af U)))))
def w7 (x:η):Option (η×η):=
 (bE (a8 (al ([]:η)+al x) 8) (af ((([]:η)++x),x)))
def vM (x:η):Option η:=obind (w7 x) λy=>Nv y.2 x (af y.1)
def II (it:zj) (x:η×η):Option (η×η):=
 (bE (c_ 0 (iK (aZ x.1) (aZ x.2))&&c_ (iK (aZ x.1) (aZ x.2)) (iK (aZ x.1) (aZ x.2))&&a8 (aT (iK (aZ x.1) (aZ x.2))) 8) (it (Int×η×η) _ (λI=>(bA I.1 (aP (al (aG (aT (iK (aZ x.1) (aZ x.2))) (0:Int)))) (obind (jF (x.1,I.1)) λM=>(obind (jF (I.2.1,I.1)) λJ=>(ck (eP I.1 (al I.2.2)) (cK ((cH I.1),I.2.1,(cz I.2.2 I.1 (iK M J))))))) (aF (I.2.2,I.2.1)))) (0,x.2,(aG (aT (iK (aZ x.1) (aZ x.2))) (0:Int)))))
def Ph (x:η×η):Option (η×η):=II @iter x
def ub (x:η×η):Option (η×η):=II @gh x
def Cv (x:η×η):Option η:=obind (ub x) λy=>Nv y.2 x.2 (af y.1)
def lV (x:Int×(List η)×η):Option ((List η)×η):=
 (jn (α:=Bool×(List η)×η) (iY 0 x.1 (aF ((gf x.1 (aZ x.2.1)),x.2.1,x.2.2)) (aF (aj,x.2.1,x.2.2))) λI=>(bcase I.1 (ck (eP x.1 (al I.2.1)) (obind (Cv ((aK (T:=(.sl aM)) I.2.1 x.1),I.2.2)) λJ=>(ck (eP x.1 (al I.2.1)) (af ((cz I.2.1 x.1 J),I.2.2))))) (af (I.2.1,I.2.2))))
def wX (x:Int×η×(List η)×(List η)×(List η)×(List η)×(List η)×(List η)×(List η)×η×η):Option Yd1:=
 (obind (vM x.q10) λI=>(ck (eP x.1 (al x.p8)) (ck (eP x.1 (al x.p9)) (af (x.2.1,x.p2,x.p3,x.p4,x.p5,x.p6,x.p7,(cz x.p8 x.1 I),(cz x.p9 x.1 (-1)),x.q10)))))
def AT (it:zj) (x:Yd4×η×(List η)×(List η)×(List η)×(List η)×(List η)×(List η)×(List η)×η×η):Option Yd1:=
 (obind (vM x.q10) λy1=>(ck (eP x.1.2.1 (al x.p2)) (jn (α:=η×(List η)×(List η)×(List η)×(List η)×(List η)×(List η)×(List η)×η×η) (bd x.1.p2 20 (obind (vM x.q10) λy3=>(ck (eP x.1.p3 (al x.p3)) (aF (x.2.1,(cz x.p2 x.1.2.1 y1),(cz x.p3 x.1.p3 y3),x.p4,x.p5,x.p6,x.p7,x.p8,x.p9,x.q10)))) (jn (α:=Bool×η×(List η)×(List η)×(List η)×(List η)×(List η)×(List η)×(List η)×η×η×dt×Int×Int×Int×Int×Int×η×η) (bd x.1.p2 7 (aF ((decide ((x.1.p2:Int)=7)),x.2.1,(cz x.p2 x.1.2.1 y1),x.p3,x.p4,x.p5,x.p6,x.p7,x.p8,x.p9,x.q10,(x.1.1.1,x.1.1.2.1,x.1.1.p2,x.1.1.p3,x.1.1.p4,x.1.1.q5),x.1.2.1,x.1.p2,x.1.p3,x.1.p4,x.1.p5,x.1.p6,x.1.q7)) (aF ((decide ((x.1.p2:Int)=11)),x.2.1,(cz x.p2 x.1.2.1 y1),x.p3,x.p4,x.p5,x.p6,x.p7,x.p8,x.p9,x.q10,(x.1.1.1,x.1.1.2.1,x.1.1.p2,x.1.1.p3,x.1.1.p4,x.1.1.q5),x.1.2.1,x.1.p2,x.1.p3,x.1.p4,x.1.p5,x.1.p6,x.1.q7))) λI=>(bcase I.1 (obind (lV (I.p14,I.p4,I.p10)) λy5=>(bE (aC (al I.p10) (al y5.2)&&(aC (al I.p4) (al y5.1)&&ai)) (aF (I.2.1,I.p2,I.p3,y5.1,I.p5,I.p6,I.p7,I.p8,I.p9,y5.2)))) (bd x.1.p2 9 (obind (lV (I.p14,I.p5,I.p10)) λy6=>(bE (aC (al I.p10) (al y6.2)&&(aC (al I.p5) (al y6.1)&&ai)) (aF (I.2.1,I.p2,I.p3,I.p4,y6.1,I.p6,I.p7,I.p8,I.p9,y6.2)))) (bd x.1.p2 16 (ck (eP I.p12 (al I.p9)) (vp I.p14 I.p11.p2 (obind (lV ((aK (T:=ma) I.p11.p2 I.p14).2,I.p4,I.p10)) λy7=>(bE (aC (al I.p10) (al y7.2)&&(aC (al I.p4) (al y7.1)&&ai)) (aF (I.2.1,I.p2,I.p3,y7.1,I.p5,I.p6,I.p7,I.p8,(cz I.p9 I.p12 I.p14),y7.2)))))) (bd x.1.p2 4 (vp I.p14 I.p11.1 (bcase (((((aK (T:=kK) I.p11.1 I.p14).2).2).2).1) (obind (lV (I.p14,I.p6,I.p10)) λy8=>(bE (aC (al I.p10) (al y8.2)&&(aC (al I.p6) (al y8.1)&&ai)) (aF (I.2.1,I.p2,I.p3,I.p4,I.p5,y8.1,I.p7,I.p8,I.p9,y8.2)))) (aF (I.2.1,I.p2,I.p3,I.p4,I.p5,I.p6,I.p7,I.p8,I.p9,I.p10)))) (bd x.1.p2 22 (obind (lV (I.p14,I.p7,I.p10)) λy9=>(bE (aC (al I.p10) (al y9.2)&&(aC (al I.p7) (al y9.1)&&ai)) (aF (I.2.1,I.p2,I.p3,I.p4,I.p5,I.p6,y9.1,I.p8,I.p9,y9.2)))) (bd x.1.p2 13 (obind (Cv (I.2.1,I.p10)) λy10=>(aF (y10,I.p2,I.p3,I.p4,I.p5,I.p6,I.p7,I.p8,I.p9,I.p10))) (bd x.1.p2 18 (jn (α:=Bool×η×(List η)×(List η)×(List η)×(List η)×(List η)×(List η)×(List η)×η×η×Int×Int×Int×Int×Int×η×η) (iY 0 I.p15 (aF ((gf I.p15 (aZ I.p8)),I.2.1,I.p2,I.p3,I.p4,I.p5,I.p6,I.p7,I.p8,I.p9,I.p10,I.p12,I.p13,I.p14,I.p15,I.p16,I.p17,I.q18)) (aF (aj,I.2.1,I.p2,I.p3,I.p4,I.p5,I.p6,I.p7,I.p8,I.p9,I.p10,I.p12,I.p13,I.p14,I.p15,I.p16,I.p17,I.q18))) λM=>(bcase M.1 (obind (wX (M.p14,M.2.1,M.p2,M.p3,M.p4,M.p5,M.p6,M.p7,M.p8,M.p9,M.p10)) λY=>(bE (aC (al M.p10) (al Y.q9)&&(aC (al M.p9) (al Y.p8)&&(aC (al M.p8) (al Y.p7)&&(aC (al M.p7) (al Y.p6)&&(aC (al M.p6) (al Y.p5)&&(aC (al M.p5) (al Y.p4)&&(aC (al M.p4) (al Y.p3)&&(aC (al M.p3) (al Y.p2)&&(aC (al M.p2) (al Y.2.1)&&ai))))))))) (aF (Y.1,Y.2.1,Y.p2,Y.p3,Y.p4,Y.p5,Y.p6,Y.p7,Y.p8,Y.q9)))) (aF (M.2.1,M.p2,M.p3,M.p4,M.p5,M.p6,M.p7,M.p8,M.p9,M.p10)))) (bd x.1.p2 19 (it (Int×η×(List η)×(List η)×(List η)×(List η)×(List η)×(List η)×(List η)×η×η×Int×Int×Int×Int×Int×η×η) _ (λJ=>(bA J.1 (aZ I.p9) (jn (α:=η×(List η)×(List η)×(List η)×(List η)×(List η)×(List η)×(List η)×η×η×Int×Int×Int×Int×Int×η×η) (ck (eP J.1 (al J.p9)) (bd (aK (T:=aM) J.p9 J.1) J.p13 (obind (wX (J.1,J.2.1,J.p2,J.p3,J.p4,J.p5,J.p6,J.p7,J.p8,J.p9,J.p10)) λU=>(bE (aC (al J.p10) (al U.q9)&&(aC (al J.p9) (al U.p8)&&(aC (al J.p8) (al U.p7)&&(aC (al J.p7) (al U.p6)&&(aC (al J.p6) (al U.p5)&&(aC (al J.p5) (al U.p4)&&(aC (al J.p4) (al U.p3)&&(aC (al J.p3) (al U.p2)&&(aC (al J.p2) (al U.2.1)&&ai))))))))) (aF (U.1,U.2.1,U.p2,U.p3,U.p4,U.p5,U.p6,U.p7,U.p8,U.q9,J.p11,J.p12,J.p13,J.p14,J.p15,J.p16,J.q17)))) (aF (J.2.1,J.p2,J.p3,J.p4,J.p5,J.p6,J.p7,J.p8,J.p9,J.p10,J.p11,J.p12,J.p13,J.p14,J.p15,J.p16,J.q17)))) λZ=>(cK ((cH J.1),Z.1,Z.2.1,Z.p2,Z.p3,Z.p4,Z.p5,Z.p6,Z.p7,Z.p8,Z.p9,Z.p10,Z.p11,Z.p12,Z.p13,Z.p14,Z.p15,Z.q16))) (aF (bO (J.2.1,J.p2,J.p3,J.p4,J.p5,J.p6,J.p7,J.p8,J.p9,J.p10))))) (0,I.2.1,I.p2,I.p3,I.p4,I.p5,I.p6,I.p7,I.p8,I.p9,I.p10,I.p12,I.p13,I.p14,I.p15,I.p16,I.p17,I.q18)) (aF (I.2.1,I.p2,I.p3,I.p4,I.p5,I.p6,I.p7,I.p8,I.p9,I.p10)))))))))))) λx2=>(af (x2.1,x2.2.1,x2.p2,x2.p3,x2.p4,x2.p5,x2.p6,x2.p7,x2.p8,x2.q9)))))
def Fa (x:Yd4×η×(List η)×(List η)×(List η)×(List η)×(List η)×(List η)×(List η)×η×η):Option Yd1:=AT @iter x
def qi (x:Yd4×η×(List η)×(List η)×(List η)×(List η)×(List η)×(List η)×(List η)×η×η):Option Yd1:=AT @gh x
def DL (it:zj) (x:dt×YS×Int×Int×Int×Int×Int×η×η):Option (YS×η):=
 (obind (rZ (x.2.1.1,x.2.1.2.1,x.2.1.p2,x.2.1.p3,x.2.1.p4,x.2.1.p5,x.2.1.p6,x.2.1.p7,x.2.1.q8)) λU=>(ck (eP x.p2 (al U.2.1)) (obind (r7 ((x.p2,x.p3,x.p4,x.p5,x.p6,x.p7,x.q8),U.1,(x.1.1,x.1.2.1,x.1.p2,x.1.p3,x.1.p4,x.1.q5),U.2.1,U.p2,U.p3,U.p4,U.p5,U.p6,U.p7,U.q8)) λJ=>(bE (aC (al U.q8) (al J.q11)&&(aC (al U.p7) (al J.p10)&&(aC (al U.p6) (al J.p9)&&(aC (al U.p5) (al J.p8)&&(aC (al U.p4) (al J.p7)&&(aC (al U.p3) (al J.p6)&&(aC (al U.p2) (al J.p5)&&(aC (al U.2.1) (al J.p4)&&ai)))))))) (it (Int×dt×gd×η×η×(List η)×(List η)×(List η)×(List η)×(List η)×(List η)×(List η)×η) _ (λI=>(bA I.1 (aZ J.1) (vp I.1 J.1 (obind (iR (I.p4,(aK (T:=(.sl aM)) J.1 I.1))) λZ=>(cK ((cH I.1),(I.2.1.1,I.2.1.2.1,I.2.1.p2,I.2.1.p3,I.2.1.p4,I.2.1.q5),(I.p2.1,I.p2.2.1,I.p2.p2,I.p2.p3,I.p2.p4,I.p2.p5,I.p2.q6),I.p3,Z,I.p5,I.p6,I.p7,I.p8,I.p9,I.p10,I.p11,I.q12)))) (obind (obind (ql (I.p4,I.p2.1)) λY=>(obind (qi (((I.2.1.1,I.2.1.2.1,I.2.1.p2,I.2.1.p3,I.2.1.p4,I.2.1.q5),I.p2.1,I.p2.2.1,I.p2.p2,I.p2.p3,I.p2.p4,I.p2.p5,I.p2.q6),I.p3,I.p5,I.p6,I.p7,I.p8,I.p9,I.p10,I.p11,I.q12,Y)) λM=>(bE (aC (al Y) (al M.q9)&&(aC (al I.q12) (al M.p8)&&(aC (al I.p11) (al M.p7)&&(aC (al I.p10) (al M.p6)&&(aC (al I.p9) (al M.p5)&&(aC (al I.p8) (al M.p4)&&(aC (al I.p7) (al M.p3)&&(aC (al I.p6) (al M.p2)&&(aC (al I.p5) (al M.2.1)&&ai))))))))) (af ((M.2.1,M.p2,M.p3,M.p4,M.p5,M.p6,M.1,M.p7,M.p8),M.q9))))) λr=>af (bO r)))) (0,(J.p3.1,J.p3.2.1,J.p3.p2,J.p3.p3,J.p3.p4,J.p3.q5),(J.2.1.1,J.2.1.2.1,J.2.1.p2,J.2.1.p3,J.2.1.p4,J.2.1.p5,J.2.1.q6),J.p2,(aK (T:=(.sl aM)) U.2.1 x.p2),J.p4,J.p5,J.p6,J.p7,J.p8,J.p9,J.p10,J.q11))))))
def Jp (x:dt×YS×Int×Int×Int×Int×Int×η×η):Option (YS×η):=DL @iter x
def sY (x:dt×YS×Int×Int×Int×Int×Int×η×η):Option (YS×η):=DL @gh x
def uF (x:η):Option η:=
 (bE (a8 (al (x:η)) 8) (af x))
def AS (it:zj) (x:η×Int):Option η:=
 (obind (uF x.1) λM=>(jn (α:=Bool×η) (bA x.2 0 (aF (ai,M)) (aF ((c_ 4 x.2),M))) λJ=>(bcase J.1 (af J.2) (it η _ (λI=>(iY (aZ I) x.2 (bE (a8 (al I+al ([0])) 8) (cK (I++([0])))) (obind (jn (α:=η) (ck (eP x.2 (al I)) (bA (aK (T:=aM) I x.2) 9223372036854775807 (ck (eP x.2 (al I)) (ck (eP x.2 (al I)) (aF (cz I x.2 (bk .i64 ((aK (T:=aM) I x.2)+1)))))) (aF I))) λU=>(af U)) λr=>af (bO r)))) J.2))))
def E8 (x:η×Int):Option η:=AS @iter x
def mz (x:η×Int):Option η:=AS @gh x
def rN (x:dt×Int):Option (Int):=
 (jn (α:=Bool×gY×gI×(List fE)×cj×cj×List ν) (bA x.2 0 (aF (ai,x.1.1,x.1.2.1,x.1.p2,x.1.p3,x.1.p4,x.1.q5)) (aF ((c_ (aZ x.1.p2) x.2),x.1.1,x.1.2.1,x.1.p2,x.1.p3,x.1.p4,x.1.q5))) λI=>(bcase I.1 (af (-1)) (vp x.2 I.p3 (af ((aK (T:=ma) I.p3 x.2).2)))))
def pa (x:dt×Int×Int×Int×Int×Int×η×η):Option (Int×Bool):=
 (jn (α:=Bool×dt×Int×Int×Int×Int×Int×η×η) (bd x.p2 6 (aF ((decide ((x.p2:Int)=6)),(x.1.1,x.1.2.1,x.1.p2,x.1.p3,x.1.p4,x.1.q5),x.2.1,x.p2,x.p3,x.p4,x.p5,x.p6,x.q7)) (aF ((decide ((x.p2:Int)=10)),(x.1.1,x.1.2.1,x.1.p2,x.1.p3,x.1.p4,x.1.q5),x.2.1,x.p2,x.p3,x.p4,x.p5,x.p6,x.q7))) λI=>(bcase I.1 (af (I.p4,aj)) (bd x.p2 8 (af (I.p4,ai)) (bd x.p2 17 (obind (rN ((I.2.1.1,I.2.1.2.1,I.2.1.p2,I.2.1.p3,I.2.1.p4,I.2.1.q5),I.p4)) λJ=>(af (J,aj))) (af ((-1),aj))))))
def o9 (x:dt×Int×Int×Int×Int×Int×η×η):Option (Int×Bool):=
 (jn (α:=Bool×dt×Int×Int×Int×Int×Int×η×η) (bd x.p2 7 (aF ((decide ((x.p2:Int)=7)),(x.1.1,x.1.2.1,x.1.p2,x.1.p3,x.1.p4,x.1.q5),x.2.1,x.p2,x.p3,x.p4,x.p5,x.p6,x.q7)) (aF ((decide ((x.p2:Int)=11)),(x.1.1,x.1.2.1,x.1.p2,x.1.p3,x.1.p4,x.1.q5),x.2.1,x.p2,x.p3,x.p4,x.p5,x.p6,x.q7))) λI=>(bcase I.1 (af (I.p4,aj)) (bd x.p2 9 (af (I.p4,ai)) (bd x.p2 16 (obind (rN ((I.2.1.1,I.2.1.2.1,I.2.1.p2,I.2.1.p3,I.2.1.p4,I.2.1.q5),I.p4)) λJ=>(af (J,aj))) (af ((-1),aj))))))
def sd (it:zj) (x:ζ):Option (Bool):=
 (lt (aK (T:=(.st (.pr .str (.pr .str (.pr .str (.pr .str (.pr .str (.pr .str (.pr .str (.pr .str (.pr .str (.pr .str (.pr .str (.pr .str (.pr .str (.pr .str (.pr .str (.pr .str (.pr .str (.pr .str (.pr .str (.pr .str (.pr .str .str))))))))))))))))))))))) ([kwV]) 0) λI=>(it (Int) _ (λJ=>(bA J 22 (bE (c_ 0 J&&gf J 22) (lt (aK (T:=.str) [I.1,I.2.1,I.p2,I.p3,I.p4,I.p5,I.p6,I.p7,I.p8,I.p9,I.p10,I.p11,I.p12,I.p13,I.p14,I.p15,I.p16,I.p17,I.p18,I.p19,I.p20,I.q21] J) λM=>(bcase (decide ((x:ζ)=M)) (aF ai) (cK (cH J))))) (aF aj))) 0))
def rM (x:ζ):Option (Bool):=sd @iter x
def ll (x:ζ):Option (Bool):=sd @gh x
def wz (it:zj) (x:ζ):Option (Bool):=
 (jn (α:=Bool) (bA (aZ x) 1 (aF ai) (bA 12 (aZ x) (aF ai) (obind (ll x) λU=>(aF U)))) λZ=>(bcase Z (af aj) (it (List (fE×Unit)) _ (λI=>(bcase (gz (Pr I) (al (Rb I))) (bE (gf (Bc (Rb I) (aP (Pr I))) 128) (jn (α:=List (fE×Unit)) (jn (α:=Bool×List (fE×Unit)) (iY 97 (Bc (Rb I) (aP (Pr I))) (iY (Bc (Rb I) (aP (Pr I))) 122 (aF (ai,[(((Rb I),(aP ((Pr I)+1))),())])) (iY 65 (Bc (Rb I) (aP (Pr I))) (aF ((c_ (Bc (Rb I) (aP (Pr I))) 90),[(((Rb I),(aP ((Pr I)+1))),())])) (aF (aj,[(((Rb I),(aP ((Pr I)+1))),())])))) (iY 65 (Bc (Rb I) (aP (Pr I))) (aF ((c_ (Bc (Rb I) (aP (Pr I))) 90),[(((Rb I),(aP ((Pr I)+1))),())])) (aF (aj,[(((Rb I),(aP ((Pr I)+1))),())])))) λJ=>(bcase J.1 (aF J.2) (jn (α:=Bool×List (fE×Unit)) (bA 0 (aP (Pr I)) (bd (Bc (Rb I) (aP (Pr I))) 95 (aF (ai,J.2)) (iY 48 (Bc (Rb I) (aP (Pr I))) (aF ((c_ (Bc (Rb I) (aP (Pr I))) 57),J.2)) (aF (aj,J.2)))) (aF (aj,J.2))) λM=>(bcase M.1 (aF M.2) (cK (bO aj)))))) λY=>(cK Y))) (aF ai))) ([((x,0),())]))))
def wn (x:ζ):Option (Bool):=wz @iter x
def o7 (x:ζ):Option (Bool):=wz @gh x
def yh (it:zj) (x:η×Int):Option (Int):=
 (it (Int) _ (λI=>(bA I (aZ x.1) (bD aM x.1 I λJ=>(bd x.2 J (aF I) (cK (cH I)))) (aF (-1)))) 0)
def Cp (x:η×Int):Option (Int):=yh @iter x
def r8 (x:η×Int):Option (Int):=yh @gh x
def kH (x:η×Int):Option (Bool):=
 (obind (r8 x) λI=>(af (c_ 0 I)))
def mH (x:η×Int×Int):Option (Bool):=
 (obind (jF (x.1,x.2.2)) λI=>(af (c_ x.2.1 I)))
def tB (x:Γ):Option (Bool):=
 (jn (α:=Bool) (iY 0 x.1 (aF (gf x.1 x.2)) (aF aj)) λI=>(af I))
def tC (x:dt×Int×Bool):Option (Bool):=
 (jn (α:=Bool) (obind (tB (x.2.1,(aZ x.1.2.1))) λJ=>(bcase J (bD su x.1.2.1 x.2.1 λI=>(aF ((I.2==x.2.2) !=aj))) (aF aj))) λM=>(af M))
def oU (it:zj) (x:List Ur):Option (cj×Bool):=
 (it (Int×List ζ) _ (λM=>(bA M.1 (aZ x) (jn (α:=Int×List ζ) (bD kK x M.1 λI=>(bE (a8 (al M.2+al ([I.1])) 16) (bd I.p2 0 (iO I.2.1 0 (cK (bO (([]:List ζ),aj))) (aF ((cH M.1),(M.2++([I.1]))))) (jn (α:=Bool×cj×ζ×Int×Int×Bool×Int) (bA I.p2 1 (aF (ai,(M.2++([I.1])),I)) (bA 4 I.p2 (aF (ai,(M.2++([I.1])),I)) (bcase I.p3 (aF (ai,(M.2++([I.1])),I)) (aF ((gf (bk .i64 ((aZ x)-M.1)) I.p2),(M.2++([I.1])),I))))) λY=>(bcase Y.1 (cK (bO (([]:List ζ),aj))) (it (Int×cj×ζ×Int×Int×Bool×Int) _ (λJ=>(bA J.1 Y.p4 (bD kK x (bk .i64 (M.1+J.1)) λU=>(bcase (N3 (.pr .str (.pr aM (.pr aM (.pr .bool (.pr aM .un))))) (U.1,U.2.1,U.p2,U.p3,U.q4,()) (J.p2,J.1,J.p4,J.p5,J.q6,()) !=ai) (aF (kO (bO (([]:List ζ),aj)))) (cK ((cH J.1),J.2.1,J.p2,J.1,J.q4)))) (aF (bO ((bk .i64 (M.1+J.p4)),J.2.1))))) (0,Y.2))))))) λZ=>(cK Z)) (aF (M.2,ai)))) (0,([]:List ζ)))
def oO (x:List Ur):Option (cj×Bool):=oU @iter x
def ib (x:List Ur):Option (cj×Bool):=oU @gh x
def oS (it:zj) (x:dt×List ζ):Option (Bool):=
 (bE (a8 (al (x.2:List ζ)) 16) (it (Int×dt×List ζ) _ (λJ=>(bA J.1 (aZ x.1.2.1) (bD su x.1.2.1 J.1 λz2=>(bE (a8 (al J.2.2+al ([z2.1])) 16) (cK ((cH J.1),J.2.1,(J.2.2++([z2.1])))))) (obind (it (Int×dt×List ζ) _ (λI=>(bA I.1 (aZ J.2.1.p2) (bD ma J.2.1.p2 I.1 λZ=>(bE (a8 (al I.2.2+al ([Z.1])) 16) (cK ((cH I.1),I.2.1,(I.2.2++([Z.1])))))) (obind (bE (a8 (al I.2.2+al I.2.1.p3) 16) (bE (a8 (al (I.2.2++I.2.1.p3)+al I.2.1.p4) 16) (it (Int×gI×List ζ) _ (λM=>(bA M.1 (aP (al ((I.2.2++I.2.1.p3)++I.2.1.p4))) (kl (.str) M.2.2 M.1 λU=>(jn (α:=Bool×gI×List ζ) (obind (o7 U) λy8=>(bcase (!y8) (aF (ai,M.2)) (aF ((Gt (K:=.str) (V:=.bool) U M.2.1 aj),M.2)))) λY=>(bcase Y.1 (aF aj) (cK ((cH M.1),(Jr (K:=.str) (V:=.bool) U ai Y.2.1),Y.2.2))))) (aF ai))) (0,([]:List (ζ×Bool)),((I.2.2++I.2.1.p3)++I.2.1.p4))))) λr=>af (bO r)))) (0,J.2)) λr=>af (bO r)))) (0,x)))
def oN (x:dt×List ζ):Option (Bool):=oS @iter x
def dT (x:dt×List ζ):Option (Bool):=oS @gh x
def kV (it:zj) (x:gY×gI×(List fE)×cj×cj×List ν):Option (Bool):=
 (it (ν×gY×gI×(List fE)×cj×cj×List ν) _ (λI=>(bA I.1.2.2 (aZ x.q5) (bD pj x.q5 I.1.2.2 λU=>(jn (α:=Bool×dt×Int×Int×Int) (bA U.1 I.1.1 (aF (ai,I.2,U)) (aF ((c_ (aZ I.p5) U.1),I.2,U))) λM=>(bcase M.1 (aF aj) (jn (α:=(Γ)×dt×Int×Int×Int) (bA I.1.1 M.p2 (aF ((M.p2,0),M.2)) (aF ((I.1.1,I.1.2.1),M.2))) λJ=>(iO J.p3 J.1.2 (aF aj) (cK ((J.1.1,(cH J.1.2),(cH I.1.2.2)),J.2.1))))))) (aF ai))) ((0,0,0),x))
def oM (x:gY×gI×(List fE)×cj×cj×List ν):Option (Bool):=kV @iter x
def gm (x:gY×gI×(List fE)×cj×cj×List ν):Option (Bool):=kV @gh x
def kW (it:zj) (x:gY×gI×(List fE)×cj×cj×List ν):Option (Bool):=
 (jn (α:=Bool×gY×gI×(List fE)×cj×cj×List ν) (bA 12 (aZ x.1) (aF (ai,x)) (bA 4 (aZ x.2.1) (aF (ai,x)) (bA 2 (aZ x.p2) (aF (ai,x)) (bA 2 (aZ x.p3) (aF (ai,x)) (aF ((gf 60 (aZ x.q5)),x)))))) λM=>(bcase M.1 (af aj) (jn (α:=Bool×gY×gI×(List fE)×cj×cj×List ν) (bA (aZ M.p5) 1 (aF (ai,M.2)) (aF ((gf 4 (aZ M.p5)),M.2))) λJ=>(bcase J.1 (af aj) (obind (ib J.2.1) λY=>(jn (α:=Bool×gY×gI×(List fE)×cj×cj×List ν) (bcase (!Y.2) (aF (ai,J.2)) (obind (dT (J.2,Y.1)) λy5=>(aF ((!y5),J.2)))) λU=>(bcase U.1 (af aj) (it Yd3 _ (λI=>(bA I.1 (aZ U.p3) (bD ma U.p3 I.1 λZ=>(obind (tC (I.2,Z.2,aj)) λy8=>(bcase (!y8) (aF aj) (cK ((cH I.1),I.2))))) (obind (obind (gm I.2) λy9=>(af y9)) λr=>af (bO r)))) (0,U.2)))))))))
def oP (x:gY×gI×(List fE)×cj×cj×List ν):Option (Bool):=kW @iter x
def dU (x:gY×gI×(List fE)×cj×cj×List ν):Option (Bool):=kW @gh x
def wA (it:zj) (x:gY×gI×(List fE)×cj×cj×List ν):Option pB:=
 (bE (c_ 0 (aZ x.2.1)&&c_ (aZ x.2.1) (aZ x.2.1)&&a8 (aT (aZ x.2.1)) 32) (bE (c_ 0 (aZ x.p3)&&c_ (aZ x.p3) (aZ x.p3)&&a8 (aT (aZ x.p3)) 1) (bE (c_ 0 (aZ x.p4)&&c_ (aZ x.p4) (aZ x.p4)&&a8 (aT (aZ x.p4)) 24) (it (Int×Int×Int×gP×θ×List dF) _ (λI=>(bA I.1 (aP (al (aG (aT (aZ x.2.1)) ((0,[]):Int×η)))) (ck (eP I.1 (al I.p3)) (cK ((cH I.1),I.2.1,I.p2,(cz I.p3 I.1 ((-1),(aK (T:=eh) I.p3 I.1).2)),I.q4))) (obind (jn (α:=Int×Int×gP×θ×List dF) (bA 0 (aZ I.q5) (ck (eP 0 (al I.q5)) (aF (I.2.1,I.p2,I.p3,I.p4,(cz I.q5 0 (1,(aK (T:=im) I.q5 0).2))))) (aF I.2)) λJ=>(af (J.p2,J.2.1,J.q3))) λr=>af (bO r)))) (0,0,(-1),(aG (aT (aZ x.2.1)) ((0,[]):Int×η)),(aG (aT (aZ x.p3)) (aj:Bool)),(aG (aT (aZ x.p4)) ((0,(0,aj)):Int×Int×Bool)))))))
def wu (x:gY×gI×(List fE)×cj×cj×List ν):Option pB:=wA @iter x
def pe (x:gY×gI×(List fE)×cj×cj×List ν):Option pB:=wA @gh x
def qX (it:zj) (x:gY×gI×(List fE)×cj×cj×List ν):Option eQ:=
 (obind (pe x) λM=>(bE (c_ 0 0&&c_ 0 (aZ x.1)&&a8 (aT (aZ x.1)) 8) (bE (c_ 0 (aZ x.p3)&&c_ (aZ x.p3) (aZ x.p3)&&a8 (aT (aZ x.p3)) 8) (bE (c_ 0 (aZ x.p4)&&c_ (aZ x.p4) (aZ x.p4)&&a8 (aT (aZ x.p4)) 8) (it (Int×Int×pB×η×η×η) _ (λI=>(bA I.1 (aZ x.1) (bD kK x.1 I.1 λJ=>(bE (a8 (al I.p3+al ([J.q4])) 8) (cK ((cH I.1),I.2.1,I.p2,(I.p3++([J.q4])),I.q4)))) (aF I.2.2))) (0,0,M,(aG (aT 0) (0:Int)),(aG (aT (aZ x.p3)) (0:Int)),(aG (aT (aZ x.p4)) (0:Int))))))))
def qI (x:gY×gI×(List fE)×cj×cj×List ν):Option eQ:=qX @iter x
def dy (x:gY×gI×(List fE)×cj×cj×List ν):Option eQ:=qX @gh x
def kA (it:zj) (x:θ×Int×Int×Int×Int×Int×η×η):Option (Bool):=
 (it (Int) _ (λI=>(bA I 2 (bE (c_ 0 I&&gf I 2) (lt (aK (T:=(.sl aM)) [x.p6,x.q7] I) λU=>(it (Int) _ (λM=>(bA M (aZ U) (bD aM U M λJ=>(jn (α:=Bool) (bA J 0 (aF ai) (iY (aZ x.1) J (aF ai) (bD (.bool) x.1 J λY=>(aF (!Y))))) λZ=>(bcase Z (aF (bO aj)) (cK (cH M))))) (aF (kO (cH I))))) 0))) (aF ai))) 0)
def m7 (x:θ×Int×Int×Int×Int×Int×η×η):Option (Bool):=kA @iter x
def cu (x:θ×Int×Int×Int×Int×Int×η×η):Option (Bool):=kA @gh x
def fo (x:Γ):Option (Bool):=
 (jn (α:=Bool) (iY 0 x.1 (aF (gf x.1 x.2)) (aF aj)) λI=>(af I))
def mh (x:dt×Int×Int):Option (Bool):=
 (jn (α:=Bool×gY×gI×(List fE)×cj×cj×List ν) (bd x.2.1 1 (aF ((decide ((x.2.1:Int)=1)),x.1)) (bd x.2.1 2 (aF ((decide ((x.2.1:Int)=2)),x.1)) (bd x.2.1 5 (aF ((decide ((x.2.1:Int)=5)),x.1)) (bd x.2.1 12 (aF ((decide ((x.2.1:Int)=12)),x.1)) (bd x.2.1 13 (aF ((decide ((x.2.1:Int)=13)),x.1)) (bd x.2.1 14 (aF ((decide ((x.2.1:Int)=14)),x.1)) (aF ((decide ((x.2.1:Int)=15)),x.1)))))))) λx1=>(bcase x1.1 (af (decide ((x.2.2:Int)=(-1)))) (jn (α:=Bool×gY×gI×(List fE)×cj×cj×List ν) (bd x.2.1 3 (aF ((decide ((x.2.1:Int)=3)),x1.2)) (aF ((decide ((x.2.1:Int)=4)),x1.2))) λZ=>(bcase Z.1 (obind (fo (x.2.2,(aZ Z.2.1))) λy3=>(af y3)) (jn (α:=Bool×gY×gI×(List fE)×cj×cj×List ν) (bd x.2.1 6 (aF ((decide ((x.2.1:Int)=6)),Z.2)) (aF ((decide ((x.2.1:Int)=7)),Z.2))) λU=>(bcase U.1 (jn (α:=Bool) (obind (fo (x.2.2,(aZ U.p2))) λy6=>(bcase y6 (bD su U.p2 x.2.2 λz7=>(aF (!z7.2))) (aF aj))) λx5=>(af x5)) (jn (α:=Bool×gY×gI×(List fE)×cj×cj×List ν) (bd x.2.1 8 (aF ((decide ((x.2.1:Int)=8)),U.2)) (bd x.2.1 9 (aF ((decide ((x.2.1:Int)=9)),U.2)) (bd x.2.1 10 (aF ((decide ((x.2.1:Int)=10)),U.2)) (aF ((decide ((x.2.1:Int)=11)),U.2))))) λM=>(bcase M.1 (jn (α:=Bool) (obind (fo (x.2.2,(aZ M.p2))) λy10=>(bcase y10 (bD su M.p2 x.2.2 λz11=>(aF z11.2)) (aF aj))) λx9=>(af x9)) (jn (α:=Bool×gY×gI×(List fE)×cj×cj×List ν) (bd x.2.1 16 (aF ((decide ((x.2.1:Int)=16)),M.2)) (bd x.2.1 17 (aF ((decide ((x.2.1:Int)=17)),M.2)) (bd x.2.1 18 (aF ((decide ((x.2.1:Int)=18)),M.2)) (aF ((decide ((x.2.1:Int)=19)),M.2))))) λJ=>(bcase J.1 (obind (fo (x.2.2,(aZ J.p3))) λy13=>(af y13)) (jn (α:=Bool×gY×gI×(List fE)×cj×cj×List ν) (bd x.2.1 20 (aF ((decide ((x.2.1:Int)=20)),J.2)) (aF ((decide ((x.2.1:Int)=21)),J.2))) λI=>(bcase I.1 (obind (fo (x.2.2,(aZ I.p5))) λy15=>(af y15)) (jn (α:=Bool×gY×gI×(List fE)×cj×cj×List ν) (bd x.2.1 22 (aF ((decide ((x.2.1:Int)=22)),I.2)) (aF ((decide ((x.2.1:Int)=23)),I.2))) λY=>(bcase Y.1 (obind (fo (x.2.2,(aZ Y.p4))) λy17=>(af y17)) (af aj)))))))))))))))
def ue (it:zj) (x:dt×gP×Int×θ×List dF):Option (Bool):=
 (jn (α:=Bool×gY×gI×(List fE)×cj×cj×List ν) (iO (aZ x.2.1) (aZ x.1.2.1) (aF (ai,x.1)) (iO (aZ x.p3) (aZ x.1.p3) (aF (ai,x.1)) (aF ((!decide (((aZ x.q4):Int)=(aZ x.1.p4))),x.1)))) λJ=>(bcase J.1 (af aj) (it Yd3 _ (λI=>(bA I.1 (aZ J.p3) (bD ma J.p3 I.1 λM=>(obind (fo (M.2,(aZ I.p2))) λU=>(bcase (!U) (aF aj) (cK ((cH I.1),I.2))))) (aF ai))) (0,J.2))))
def xT (x:dt×gP×Int×θ×List dF):Option (Bool):=ue @iter x
def kx (x:dt×gP×Int×θ×List dF):Option (Bool):=ue @gh x
def pd (x:dt×pB×Int×Int×Int):Option (Bool):=
 (bd x.p3 6 (bD eh x.2.1.1 x.q4 λz1=>(af (decide ((z1.1:Int)=(-1))))) (bd x.p3 10 (jn (α:=Bool) (bD eh x.2.1.1 x.q4 λz3=>(bd z3.1 (-1) (bD eh x.2.1.1 x.q4 λz4=>(aF (decide (((aZ z4.2):Int)=0)))) (aF aj))) λx2=>(af x2)) (bd x.p3 8 (jn (α:=Bool) (bD eh x.2.1.1 x.q4 λz6=>(bd z6.1 (-1) (bD eh x.2.1.1 x.q4 λz7=>(obind (kH (z7.2,x.p2)) λy8=>(aF (!y8)))) (aF aj))) λx5=>(af x5)) (jn (α:=Bool×dt×gP×Int×θ×List dF) (bd x.p3 7 (aF ((decide ((x.p3:Int)=7)),x.1,x.2.1)) (aF ((decide ((x.p3:Int)=11)),x.1,x.2.1))) λJ=>(bcase J.1 (bD eh J.p2 x.q4 λz10=>(af (decide ((z10.1:Int)=x.p2)))) (bd x.p3 9 (bD eh J.p2 x.q4 λz11=>(obind (kH (z11.2,x.p2)) λy12=>(af y12))) (bd x.p3 12 (af (decide ((J.p3:Int)=(-1)))) (bd x.p3 13 (af (decide ((J.p3:Int)=x.p2))) (bd x.p3 14 (bD im J.q5 x.p2 λz13=>(af (!z13.2.2))) (bd x.p3 15 (bD im J.q5 x.p2 λz14=>(af z14.2.2)) (jn (α:=Bool×dt×gP×Int×θ×List dF) (bd x.p3 16 (aF ((decide ((x.p3:Int)=16)),J.2)) (bd x.p3 18 (aF ((decide ((x.p3:Int)=18)),J.2)) (aF ((decide ((x.p3:Int)=19)),J.2)))) λI=>(bcase I.1 (bD ma I.2.1.p2 x.q4 λz16=>(bD eh I.p2 z16.2 λz17=>(af (decide ((z17.1:Int)=x.p2))))) (bd x.p3 20 (jn (α:=Bool) (iO x.q4 x.p2 (bD im I.q5 x.q4 λZ=>(aF (decide ((Z.1:Int)=0)))) (aF aj)) λx18=>(af x18)) (bd x.p3 21 (jn (α:=Bool) (iO x.q4 x.p2 (bD im I.q5 x.q4 λY=>(aF (decide ((Y.1:Int)=5)))) (aF aj)) λx20=>(af x20)) (bd x.p3 22 (bD (.bool) I.p4 x.q4 λU=>(af (!U))) (bd x.p3 23 (bD (.bool) I.p4 x.q4 λM=>(af M)) (af ai)))))))))))))))))
def jq (x:dt×pB×Int×Int×Int):Option (Bool):=
 (jn (α:=Bool×dt×gP×Int×θ×List dF) (obind (kx (x.1,x.2.1)) λy2=>(bcase (!y2) (aF (ai,x.1,x.2.1)) (obind (fo (x.p2,(aZ x.1.p4))) λy3=>(bcase (!y3) (aF (ai,x.1,x.2.1)) (obind (mh (x.1,x.q3)) λZ=>(aF ((!Z),x.1,x.2.1))))))) λI=>(bcase I.1 (af aj) (bD im I.q5 x.p2 λJ=>(bd x.p3 1 (af (decide ((J.1:Int)=1))) (bd x.p3 17 (jn (α:=Bool) (bd J.1 4 (bd J.2.1 x.q4 (bD ma I.2.1.p2 x.q4 λY=>(bD eh I.p2 Y.2 λU=>(aF (decide ((U.1:Int)=(-1)))))) (aF aj)) (aF aj)) λx6=>(af x6)) (jn (α:=Bool) (bd J.1 2 (obind (pd (I.2.1,I.2.2,x.2.2)) λM=>(aF M)) (aF aj)) λx9=>(af x9)))))))
def lj (x:dt×pB×η×η×η):Option (Bool):=
 (jn (α:=Bool) (obind (kx (x.1,x.2.1)) λI=>(bcase I (bd (aZ x.p2) (aZ x.1.1) (bd (aZ x.p3) (aZ x.1.p3) (aF (decide (((aZ x.q4):Int)=(aZ x.1.p4)))) (aF aj)) (aF aj)) (aF aj))) λJ=>(af J))
def jK (x:dt×Int×Int×Int×Int×Int×η×η):Option (Bool):=
 (jn (α:=Bool×dt×Int×Int×Int×Int×Int×η×η) (bd x.p2 1 (aF (ai,x)) (aF ((decide ((x.p2:Int)=2)),x))) λI=>(bcase I.1 (af (decide ((I.p6:Int)=(-1)))) (jn (α:=Bool) (iY 0 I.p6 (bA I.p6 (aZ I.2.1.q5) (bD pj I.2.1.q5 I.p6 λJ=>(aF (decide ((J.1:Int)=I.p2)))) (aF aj)) (aF aj)) λM=>(af M))))
def jz (it:zj) (x:dt×eQ×Int×Int×Int×Int×Int×η×η):Option (Bool):=
 (jn (α:=Bool×eQ×Int×Int×Int×Int×Int×η×η) (bd x.p3 3 (bD kK x.1.1 x.p4 λz2=>(aF ((!decide ((z2.2.2.1:Int)=0)),x.2))) (bd x.p3 4 (bD kK x.1.1 x.p4 λz3=>(aF ((!decide ((z3.2.2.1:Int)=0)),x.2))) (aF (aj,x.2)))) λI=>(jn (α:=eQ×gd×Bool×Bool) (bd I.p3 5 (bd I.p3 4 (aF (I.2.1,I.2.2,ai,ai)) (aF (I.2.1,I.2.2,ai,(decide ((I.p3:Int)=22))))) (bd I.p3 4 (aF (I.2.1,I.2.2,I.1,ai)) (aF (I.2.1,I.2.2,I.1,(decide ((I.p3:Int)=22)))))) λx4=>(it (Int×eQ×gd×Bool×Bool) _ (λJ=>(bA J.1 2 (bE (c_ 0 J.1&&gf J.1 2) (lt (aK (T:=(.sl aM)) [x4.2.1.p5,x4.2.1.q6] J.1) λZ=>(jn (α:=Bool×eQ×gd×Bool×Bool) (bA 0 (aZ Z) (bE (c_ 0 J.1&&gf J.1 2) (bE (eP J.1 2) (lt (aK (T:=.bool) [J.p3,J.q4] J.1) λz8=>(aF ((!z8),J.2))))) (aF (aj,J.2))) λx7=>(bcase x7.1 (aF aj) (it (Γ×eQ×gd×Bool×Bool) _ (λM=>(bA M.1.2 (aZ Z) (bD aM Z M.1.2 λU=>(jn (α:=Bool×eQ×gd×Bool×Bool) (iY U M.1.1 (aF (ai,M.2)) (bD aM M.2.1.q3 M.p2.1 λz12=>(aF ((c_ z12 U),M.2)))) λY=>(bcase Y.1 (aF (bO aj)) (cK ((U,(cH M.1.2)),Y.2))))) (aF (kO ((cH J.1),M.2))))) ((0,0),x7.2)))))) (aF ai))) (0,x4))))
def lP (x:dt×eQ×Int×Int×Int×Int×Int×η×η):Option (Bool):=jz @iter x
def fh (x:dt×eQ×Int×Int×Int×Int×Int×η×η):Option (Bool):=jz @gh x
def lY (it:zj) (x:eQ×Int×Int×Int×Int×Int×η×η):Option (Bool):=
 (bd x.p2 3 (bD aM x.1.2.1 x.p3 λz1=>(af (decide ((x.p4:Int)=z1)))) (bd x.p2 23 (bD aM x.1.p2 x.p3 λz2=>(af (decide ((x.p4:Int)=z2)))) (bd x.p2 5 (jn (α:=Bool) (bd x.p4 0 (aF ai) (aF (decide ((x.p4:Int)=1)))) λx3=>(af x3)) (jn (α:=Bool×eQ×Int×Int×Int×Int×Int×η×η) (bd x.p2 4 (aF ((decide ((x.p2:Int)=4)),x)) (aF ((decide ((x.p2:Int)=22)),x))) λM=>(bcase M.1 (af ai) (bd x.p2 18 (it ((Int×Bool×Int)×Int×Int×Int×Int×Int×η×η) _ (λJ=>(bA J.1.2.2 (aZ M.2.1.1.q3) (jn (α:=(Int×Bool)×Int×Int×Int×Int×Int×η×η) (bD im M.2.1.1.q3 J.1.2.2 λz7=>(jn (α:=Bool×Int×Int×Int×Int×Int×η×η) (bd z7.1 3 (aF ((decide ((z7.2.1:Int)=J.p3)),J.2)) (aF (aj,J.2))) λZ=>(bcase Z.1 (bcase J.1.2.1 (aF (((cH J.1.1),ai),Z.2)) (aF (((cH J.1.1),(decide ((Z.p4:Int)=J.1.2.2))),Z.2))) (aF ((J.1.1,J.1.2.1),Z.2))))) λx6=>(cK ((x6.1.1,x6.1.2,(cH J.1.2.2)),x6.2))) (obind (jn (α:=Bool) (bcase J.1.2.1 (aF ai) (bd J.1.1 0 (aF (decide ((J.p4:Int)=(-1)))) (aF aj))) λx9=>(af x9)) λr=>af (bO r)))) ((0,aj,0),M.2.2)) (bd x.p2 19 (it (Γ×Int×Int×Int×Int×Int×η×η) _ (λI=>(bA I.1.2 (aZ M.2.1.1.q3) (jn (α:=Int×Int×Int×Int×Int×Int×η×η) (bD im M.2.1.1.q3 I.1.2 λY=>(jn (α:=Bool×Int×Int×Int×Int×Int×η×η) (bd Y.1 3 (aF ((decide ((Y.2.1:Int)=I.p3)),I.2)) (aF (aj,I.2))) λU=>(bcase U.1 (aF ((cH I.1.1),U.2)) (aF (I.1.1,U.2))))) λx11=>(cK ((x11.1,(cH I.1.2)),x11.2))) (aF (decide ((I.p4:Int)=I.1.1))))) ((0,0),M.2.2)) (af (decide ((M.p5:Int)=0))))))))))
def pE (x:eQ×Int×Int×Int×Int×Int×η×η):Option (Bool):=lY @iter x
def gH (x:eQ×Int×Int×Int×Int×Int×η×η):Option (Bool):=lY @gh x
def mG (x:dF×Int):Option (Bool):=
 (jn (α:=Bool) (bd x.1.1 3 (aF (decide ((x.1.2.1:Int)=x.2))) (aF aj)) λI=>(af I))
def Jx (x:θ):Option θ:=
 (bcase (aC (al x) 0) (F5 (af ([]:θ)) (bE (a8 (al ([]:θ)+al x) 1) (af (([]:θ)++x)))) (bE (a8 (al ([]:θ)+al x) 1) (af (([]:θ)++x))))
def Pn (x:θ):Option θ:=chk (a8 (al x) 1) λ_=>af x
def Fg (x:θ):Option θ:=
 (bcase (aC (al x) 0) (F5 (af ([]:θ)) (bE (a8 (al ([]:θ)+al x) 1) (af (([]:θ)++x)))) (bE (a8 (al ([]:θ)+al x) 1) (af (([]:θ)++x))))
def Jw (x:θ):Option θ:=chk (a8 (al x) 1) λ_=>af x
def Ju (x:List dF):Option (List dF):=
 (bcase (aC (al x) 0) (F5 (af ([]:List dF)) (bE (a8 (al ([]:List dF)+al x) 24) (af (([]:List dF)++x)))) (bE (a8 (al ([]:List dF)+al x) 24) (af (([]:List dF)++x))))
def Pm (x:List dF):Option (List dF):=chk (a8 (al x) 24) λ_=>af x
def Fe (x:List dF):Option (List dF):=
 (bcase (aC (al x) 0) (F5 (af ([]:List dF)) (bE (a8 (al ([]:List dF)+al x) 24) (af (([]:List dF)++x)))) (bE (a8 (al ([]:List dF)+al x) 24) (af (([]:List dF)++x))))
def Jt (x:List dF):Option (List dF):=chk (a8 (al x) 24) λ_=>af x
def Ff (x:η):Option η:=
 (bcase (aC (al x) 0) (F5 (af ([]:η)) (bE (a8 (al ([]:η)+al x) 8) (af (([]:η)++x)))) (bE (a8 (al ([]:η)+al x) 8) (af (([]:η)++x))))
def zP (x:η):Option η:=chk (a8 (al x) 8) λ_=>af x
def sI (it:zj) (x:gP×Int×θ×List dF):Option Yd2:=
 (bE (c_ 0 (aZ x.1)&&c_ (aZ x.1) (aZ x.1)&&a8 (aT (aZ x.1)) 32) (it (Int×pB×Int×List (Int×η)) _ (λI=>(bA I.1 (aZ x.1) (bD eh x.1 I.1 λJ=>(obind (xW J.2) λY=>(ck (eP I.1 (al I.q3)) (cK ((cH I.1),I.2.1,I.p2,(cz I.q3 I.1 (J.1,Y))))))) (obind (obind (Jw I.2.1.p2) λU=>(obind (Jt I.2.1.q3) λM=>(af (I.2.1.2.1,I.q3,U,M)))) λr=>af (bO r)))) (0,x,0,(aG (aT (aZ x.1)) ((0,[]):Int×η)))))
def wq (x:gP×Int×θ×List dF):Option Yd2:=sI @iter x
def kG (x:gP×Int×θ×List dF):Option Yd2:=sI @gh x
def q_ (it:zj) (x:ν×gP×θ×List dF):Option Yd2:=
 (it (Γ×gP×θ×(List dF)×Int) _ (λI=>(bA I.1.2 (aZ x.q3) (jn (α:=Int×gP×θ×(List dF)×Int) (kl im I.p3 I.1.2 λU=>(jn (α:=Bool×gP×θ×(List dF)×Int) (obind (mG (U,x.1.2.1)) λY=>(bcase Y (bA I.1.1 0 (aF (ai,I.2)) (aF ((decide ((I.1.2:Int)=x.1.2.2)),I.2))) (aF (aj,I.2)))) λJ=>(bcase J.1 (aF (I.1.2,J.2)) (aF (I.1.1,J.2))))) λM=>(cK ((M.1,(cH I.1.2)),M.2))) (obind (jn (α:=gP×θ×List dF) (iY 0 I.1.1 (ck (eP I.1.1 (al I.p3)) (aF (I.2.1,I.p2,(cz I.p3 I.1.1 (4,(aK (T:=im) I.p3 I.1.1).2))))) (aF (I.2.1,I.p2,I.p3))) λZ=>(af (I.1.1,Z))) λr=>af (bO r)))) (((-1),0),x.2.1,x.p2,x.q3,x.1.1))
def uC (x:ν×gP×θ×List dF):Option Yd2:=q_ @iter x
def jP (x:ν×gP×θ×List dF):Option Yd2:=q_ @gh x
def mO (it:zj) (x:Γ×gP×θ×List dF):Option Yd2:=
 (it (Γ×gP×θ×(List dF)×Int) _ (λI=>(bA I.1.2 (aZ x.q3) (jn (α:=Int×gP×θ×(List dF)×Int) (kl im I.p3 I.1.2 λM=>(obind (mG (M,x.1.2)) λU=>(bcase U (ck (eP I.1.2 (al I.p3)) (aF ((cH I.1.1),I.2.1,I.p2,(cz I.p3 I.1.2 (4,(aK (T:=im) I.p3 I.1.2).2)),I.q4))) (aF (I.1.1,I.2))))) λJ=>(cK ((J.1,(cH I.1.2)),J.2))) (aF (I.1.1,I.2.1,I.p2,I.p3)))) ((0,0),x.2.1,x.p2,x.q3,x.1.1))
def qJ (x:Γ×gP×θ×List dF):Option Yd2:=mO @iter x
def hY (x:Γ×gP×θ×List dF):Option Yd2:=mO @gh x
def qT (x:Int):Option (Bool):=
 (af (!decide ((x:Int)=x)))
def ww (x:Γ):Option (Bool):=
 (jn (α:=Bool) (obind (qT x.1) λJ=>(bcase J (obind (qT x.2) λI=>(bcase (!I) (aF ai) (aF (gf x.1 x.2)))) (aF (gf x.1 x.2)))) λM=>(af M))
def rX (x:Int):Option (Int):=
 (iY 4294967296 x ah (iY 65536 x ah (iY 256 x ah (vp (bk .u8 x) ([0,1,2,2,3,3,3,3,4,4,4,4,4,4,4,4,5,5,5,5,5,5,5,5,5,5,5,5,5,5,5,5,6,6,6,6,6,6,6,6,6,6,6,6,6,6,6,6,6,6,6,6,6,6,6,6,6,6,6,6,6,6,6,6,7,7,7,7,7,7,7,7,7,7,7,7,7,7,7,7,7,7,7,7,7,7,7,7,7,7,7,7,7,7,7,7,7,7,7,7,7,7,7,7,7,7,7,7,7,7,7,7,7,7,7,7,7,7,7,7,7,7,7,7,7,7,7,7,8,8,8,8,8,8,8,8,8,8,8,8,8,8,8,8,8,8,8,8,8,8,8,8,8,8,8,8,8,8,8,8,8,8,8,8,8,8,8,8,8,8,8,8,8,8,8,8,8,8,8,8,8,8,8,8,8,8,8,8,8,8,8,8,8,8,8,8,8,8,8,8,8,8,8,8,8,8,8,8,8,8,8,8,8,8,8,8,8,8,8,8,8,8,8,8,8,8,8,8,8,8,8,8,8,8,8,8,8,8,8,8,8,8,8,8,8,8,8,8,8,8,8,8,8,8,8,8]) (af (bk .i64 (0+(bk .i64 (Bc ([0,1,2,2,3,3,3,3,4,4,4,4,4,4,4,4,5,5,5,5,5,5,5,5,5,5,5,5,5,5,5,5,6,6,6,6,6,6,6,6,6,6,6,6,6,6,6,6,6,6,6,6,6,6,6,6,6,6,6,6,6,6,6,6,7,7,7,7,7,7,7,7,7,7,7,7,7,7,7,7,7,7,7,7,7,7,7,7,7,7,7,7,7,7,7,7,7,7,7,7,7,7,7,7,7,7,7,7,7,7,7,7,7,7,7,7,7,7,7,7,7,7,7,7,7,7,7,7,8,8,8,8,8,8,8,8,8,8,8,8,8,8,8,8,8,8,8,8,8,8,8,8,8,8,8,8,8,8,8,8,8,8,8,8,8,8,8,8,8,8,8,8,8,8,8,8,8,8,8,8,8,8,8,8,8,8,8,8,8,8,8,8,8,8,8,8,8,8,8,8,8,8,8,8,8,8,8,8,8,8,8,8,8,8,8,8,8,8,8,8,8,8,8,8,8,8,8,8,8,8,8,8,8,8,8,8,8,8,8,8,8,8,8,8,8,8,8,8,8,8,8,8,8,8,8,8]) (bk .u8 x))))))))))
def uN (x:Int):Option (Int):=
 (obind (rX x) λI=>(af I))
def j_ (it:zj) (x:Γ×η):Option η:=
 (it (Int×η) _ (λM=>(bA M.1 x.1.2 (it (Int×η) _ (λI=>(jn (α:=Bool×η) (bA x.1.1 I.1 (kl aM I.2 I.1 λz4=>(kl aM I.2 (bk .i64 (I.1-1)) λZ=>(obind (ww (z4,Z)) λy6=>(aF (y6,I.2))))) (aF (aj,I.2))) λJ=>(bcase J.1 (kl aM J.2 (bk .i64 (I.1-1)) λU=>(kl aM J.2 I.1 λY=>(ck (eP I.1 (al J.2)) (ck (eP (bk .i64 (I.1-1)) (al (cz J.2 I.1 U))) (cK ((bk .i64 (I.1-1)),(cz (cz J.2 I.1 U) (bk .i64 (I.1-1)) Y))))))) (aF (kO ((cH M.1),J.2)))))) M) (aF M.2))) ((cH x.1.1),x.2))
def j9 (x:Γ×η):Option η:=j_ @iter x
def gg (x:Γ×η):Option η:=j_ @gh x
def oR (it:zj) (x:ν×η):Option η:=
 (it ((Int×Int×Int×Bool×Bool)×η) _ (λI=>(iY (bk .i64 (I.1.2.1-I.1.1)) 12 (obind (gg ((I.1.1,I.1.2.1),I.2)) λJ=>(bE (aC (al I.2) (al J)&&ai) (aF J))) (bd I.1.p2 0 ah (bcase (!I.1.p3) ah ah)))) ((x.1.1,x.1.2.1,x.1.2.2,ai,ai),x.2))
def oL (x:ν×η):Option η:=oR @iter x
def jt (x:ν×η):Option η:=oR @gh x
def wZ (x:η):Option η:=
 (obind (uN (bk .u64 (aZ x))) λJ=>(obind (jt ((0,(aZ x),J),x)) λI=>(bE (aC (al x) (al I)&&ai) (af I))))
def yi (it:zj) (x:η):Option η:=
 (bA (aZ x) 2 (af x) (it (Int×η) _ (λI=>(bA I.1 (aZ I.2) (kl aM I.2 I.1 λM=>(kl aM I.2 (bk .i64 (I.1-1)) λJ=>(bd M J (bE (c_ 0 I.1&&gf I.1 (al I.2)) ah) (cK ((cH I.1),I.2))))) (aF I.2))) (1,x)))
def xU (x:η):Option η:=yi @iter x
def lX (x:η):Option η:=yi @gh x
def pt (x:Γ):Option (Bool×Int):=
 (af ((decide ((x.1:Int)=x.2)),x.2))
def uX (it:zj) (x:η×Int):Option (Int×η×Int):=
 (it (Int×η×Int) _ (λI=>(bA I.1 (aZ x.1) (kl aM I.2.1 I.1 λM=>(obind (pt (M,I.2.2)) λJ=>(bcase J.1 (aF (I.1,I.2.1,J.2)) (cK ((cH I.1),I.2.1,J.2))))) (aF ((-1),I.2)))) (0,x))
def uD (x:η×Int):Option (Int×η×Int):=uX @iter x
def nK (x:η×Int):Option (Int×η×Int):=uX @gh x
def tG (it:zj) (x:η×Int):Option (Int×η):=
 (obind (nK x) λJ=>(bE (aC (al x.1) (al J.2.1)&&ai) (bd J.1 (-1) ah (it (Γ×η×Int) _ (λI=>(bA I.1.2 (aZ I.2.1) (jn (α:=Int×η×Int) (kl aM I.2.1 I.1.2 λU=>(obind (pt (U,I.2.2)) λM=>(bcase (!M.1) (ck (eP I.1.1 (al I.2.1)) (aF ((cH I.1.1),(cz I.2.1 I.1.1 U),M.2))) (aF (I.1.1,I.2.1,M.2))))) λY=>(cK ((Y.1,(cH I.1.2)),Y.2))) (obind (ck (c_ 0 I.1.1&&gf I.1.1 (al I.2.1)) (bE (c_ 0 I.1.1&&gf I.1.1 (al (dI (aT I.1.1) I.2.1++aG (al I.2.1-aT I.1.1) (0:Int)))) (af (I.2.2,(dI (aT I.1.1) (dI (aT I.1.1) I.2.1++aG (al I.2.1-aT I.1.1) (0:Int))))))) λr=>af (bO r)))) ((J.1,(cH J.1)),J.2)))))
def tw (x:η×Int):Option (Int×η):=tG @iter x
def jr (x:η×Int):Option (Int×η):=tG @gh x
def hZ (x:dt×pB×Int×Int×Int×Int):Option (pB×Int×Bool):=
 (obind (jq (x.1,x.2.1,x.p2,x.p3,x.p4)) λy1=>(bcase (!y1) (af ((([]:List (Int×η)),0,([]:θ),([]:List dF)),0,aj)) (obind (kG x.2.1) λJ=>(jn (α:=Int×Int×Int×gP×θ×List dF) (bd x.p3 1 (ck (eP x.p2 (al J.q3)) (aF (0,J.1,0,J.2.1,J.p2,(cz J.q3 x.p2 (2,(aK (T:=im) J.q3 x.p2).2))))) (bd x.p3 2 (ck (eP x.p2 (al J.q3)) (aF (0,J.1,0,J.2.1,J.p2,(cz J.q3 x.p2 (5,(aK (T:=im) J.q3 x.p2).2))))) (jn (α:=Bool×dt×Int×Int×Int×gP×θ×List dF) (bd x.p3 6 (aF ((decide ((x.p3:Int)=6)),x.1,J.1,x.p2,0,J.2)) (aF ((decide ((x.p3:Int)=10)),x.1,J.1,x.p2,0,J.2))) λY=>(bcase Y.1 (ck (eP x.p4 (al Y.p5)) (aF (0,Y.p2,Y.p4,(cz Y.p5 x.p4 (Y.p3,(aK (T:=eh) Y.p5 x.p4).2)),Y.q6))) (jn (α:=Bool×dt×Int×Int×Int×gP×θ×List dF) (bd x.p3 7 (aF ((decide ((x.p3:Int)=7)),Y.2)) (aF ((decide ((x.p3:Int)=11)),Y.2))) λI=>(bcase I.1 (ck (eP x.p4 (al I.p5)) (aF (0,I.p2,I.p4,(cz I.p5 x.p4 ((-1),(aK (T:=eh) I.p5 x.p4).2)),I.q6))) (bd x.p3 8 (kl eh I.p5 x.p4 λz6=>ah) (bd x.p3 9 (kl eh I.p5 x.p4 λz7=>ah) (bd x.p3 12 (aF (0,I.q3)) (bd x.p3 13 (aF (0,(-1),I.q4)) (bd x.p3 14 (ck (eP I.p3 (al I.q7)) (aF (0,I.p2,I.p4,I.p5,I.p6,(cz I.q7 I.p3 ((aK (T:=im) I.q7 I.p3).1,((aK (T:=im) I.q7 I.p3).2).1,ai))))) (bd x.p3 15 (ck (eP I.p3 (al I.q7)) (aF (0,I.p2,I.p4,I.p5,I.p6,(cz I.q7 I.p3 ((aK (T:=im) I.q7 I.p3).1,((aK (T:=im) I.q7 I.p3).2).1,aj))))) (bd x.p3 16 (bD ma I.2.1.p2 x.p4 λz8=>(ck (eP z8.2 (al I.p5)) (ck (eP I.p3 (al I.q7)) (ck (eP I.p3 (al (cz I.q7 I.p3 (3,(aK (T:=im) I.q7 I.p3).2)))) (aF (0,I.p2,I.p4,(cz I.p5 z8.2 ((-1),(aK (T:=eh) I.p5 z8.2).2)),I.p6,(cz (cz I.q7 I.p3 (3,(aK (T:=im) I.q7 I.p3).2)) I.p3 ((aK (T:=im) (cz I.q7 I.p3 (3,(aK (T:=im) I.q7 I.p3).2)) I.p3).1,x.p4,((aK (T:=im) (cz I.q7 I.p3 (3,(aK (T:=im) I.q7 I.p3).2)) I.p3).2).2)))))))) (bd x.p3 17 (bD ma I.2.1.p2 x.p4 λz9=>(ck (eP z9.2 (al I.p5)) (ck (eP I.p3 (al I.q7)) (ck (eP I.p3 (al (cz I.q7 I.p3 (2,(aK (T:=im) I.q7 I.p3).2)))) (aF (0,I.p2,I.p4,(cz I.p5 z9.2 (I.p3,(aK (T:=eh) I.p5 z9.2).2)),I.p6,(cz (cz I.q7 I.p3 (2,(aK (T:=im) I.q7 I.p3).2)) I.p3 ((aK (T:=im) (cz I.q7 I.p3 (2,(aK (T:=im) I.q7 I.p3).2)) I.p3).1,0,((aK (T:=im) (cz I.q7 I.p3 (2,(aK (T:=im) I.q7 I.p3).2)) I.p3).2).2)))))))) (bd x.p3 18 (obind (jP ((I.p2,x.q4),I.q5)) λU=>(bE (aC (al I.q7) (al U.q3)&&(aC (al I.p6) (al U.p2)&&(aC (al I.p5) (al U.2.1)&&ai))) (aF (U.1,I.p2,I.p4,U.2)))) (bd x.p3 19 (obind (hY ((I.p2,x.p4),I.q5)) λM=>(bE (aC (al I.q7) (al M.q3)&&(aC (al I.p6) (al M.p2)&&(aC (al I.p5) (al M.2.1)&&ai))) (aF (M.1,I.p2,I.p4,M.2)))) (bd x.p3 20 (ck (eP x.p4 (al I.q7)) (aF (0,I.p2,I.p4,I.p5,I.p6,(cz I.q7 x.p4 (1,(aK (T:=im) I.q7 x.p4).2))))) (bd x.p3 22 (ck (eP x.p4 (al I.p6)) (aF (0,I.p2,I.p4,I.p5,(cz I.p6 x.p4 ai),I.q7))) (aF (0,I.p2,I.q4)))))))))))))))))))) λZ=>(af ((Z.p3,Z.2.1,Z.q4),Z.1,ai))))))
def nJ (x:gP×Int×θ×List dF):Option (Yd6×(ν)×η×η×η):=
 (bE (c_ 0 (aZ x.1)&&c_ (aZ x.1) (aZ x.1)&&a8 (aT (aZ x.1)) 32&&decide (((aZ x.1):Int)=3)) (jn (α:=pB×Int×(ν)×η×η×η) (bA 0 (aZ x.1) (bD eh x.1 0 λI=>(obind (pu I.2) λU=>(bA 1 (aZ x.1) (bD eh x.1 1 λM=>(obind (pu M.2) λy5=>(bA 2 (aZ x.1) (bD eh x.1 2 λz6=>(obind (pu z6.2) λy7=>(bA 3 (aZ x.1) (bD eh x.1 3 λz8=>(obind (pu z8.2) λy9=>ah)) (aF (x,0,(I.1,M.1,z6.1),U,y5,y7))))) (aF (x,0,(I.1,M.1,0),U,y5,([]:η)))))) (aF (x,0,(I.1,0,0),U,([]:η),([]:η)))))) (aF (x,0,(0,0,0),([]:η),([]:η),([]:η)))) λJ=>(obind (Pn J.1.p2) λZ=>(obind (Pm J.1.q3) λY=>(af ((J.1.2.1,Z,Y),J.2.2))))))
def lx (x:dt×pB×Int×Int×Int×Int):Option (pB×Int×Bool):=
 (obind (jq (x.1,x.2.1,x.p2,x.p3,x.p4)) λy1=>(bcase (!y1) (af ((([]:List (Int×η)),0,([]:θ),([]:List dF)),0,aj)) (obind (nJ x.2.1) λM=>(jn (α:=Int×Yd6×Int×((Int×η)×(Int×η)×Int)×Bool×η) (bd x.p3 1 (vp x.p2 M.1.2.2 ah) (bd x.p3 2 (vp x.p2 M.1.2.2 ah) (jn (α:=Bool×dt×Yd6×Int×Int×(ν)×η×η×η) (bd x.p3 6 (aF ((decide ((x.p3:Int)=6)),x.1,M.1,x.p2,0,M.2)) (aF ((decide ((x.p3:Int)=10)),x.1,M.1,x.p2,0,M.2))) λJ=>(bcase J.1 ah (jn (α:=Bool×dt×Yd6×Int×Int×(Int×η×Int×η×Int)×η) (bd x.p3 7 (aF ((decide ((x.p3:Int)=7)),J.2.1,J.p2,J.p3,J.p4,(J.p5.1,J.p6,J.p5.2.1,J.p7,J.p5.2.2),J.q8)) (aF ((decide ((x.p3:Int)=11)),J.2.1,J.p2,J.p3,J.p4,(J.p5.1,J.p6,J.p5.2.1,J.p7,J.p5.2.2),J.q8))) λI=>(bcase I.1 ah (bd x.p3 8 (bd x.p4 0 ah (bd x.p4 1 ah (bd x.p4 2 (bE (a8 (al I.q6+al ([I.p3])) 8) (obind (wZ (I.q6++([I.p3]))) λY=>(bE (aC (al (I.q6++([I.p3]))) (al Y)&&ai) (obind (lX Y) λZ=>(bE (aC (al Y) (al Z)&&ai) (aF (0,I.p2,I.p4,((I.p5.1,I.p5.2.1),(I.p5.p2,I.p5.p3),I.p5.q4),ai,Z))))))) ah))) (bd x.p3 9 (bd x.p4 0 ah (bd x.p4 1 ah (bd x.p4 2 (obind (jr (I.q6,I.p3)) λy8=>(bE (aC (al I.q6) (al I.q6)&&ai) (aF (0,I.p2,I.p4,((I.p5.1,I.p5.2.1),(I.p5.p2,I.p5.p3),I.p5.q4),aj,y8.2)))) ah))) (bd x.p3 12 (aF (0,(I.p3,I.p2.2),I.p4,((I.p5.1,I.p5.2.1),(I.p5.p2,I.p5.p3),I.p5.q4),ai,I.q6)) (bd x.p3 13 (aF (0,((-1),I.p2.2),I.p4,((I.p5.1,I.p5.2.1),(I.p5.p2,I.p5.p3),I.p5.q4),ai,I.q6)) (bd x.p3 14 (vp I.p3 I.p2.2.2 ah) (bd x.p3 15 (vp I.p3 I.p2.2.2 ah) (bd x.p3 16 ah (bd x.p3 17 ah (bd x.p3 18 ah (bd x.p3 19 ah (bd x.p3 20 (vp x.p4 I.p2.2.2 ah) (bd x.p3 22 (vp x.p4 I.p2.2.1 ah) (aF (0,I.p2,I.p4,((I.p5.1,I.p5.2.1),(I.p5.p2,I.p5.p3),I.p5.q4),ai,I.q6)))))))))))))))))))) λU=>(af (([U.p3.1,U.p3.2.1,(U.p3.2.2,U.q5)],U.2.1),U.1,ai))))))
def sD (x:dt×pB×Int×Int×Int×Int):Option (pB×Int×Bool):=orE (hZ x) (lx x)
def f_ (x:dt×eQ×Int×Int×Int×Int×Int×η×η):Option (eQ×Bool):=
 (jn (α:=Bool×dt×eQ×gd×Int) (obind (lj (x.1,x.2.1)) λy2=>(bcase (!y2) (aF (ai,x.1,x.2.1,x.2.2,0)) (bA x.p2 0 (aF (ai,x.1,x.2.1,x.2.2,0)) (iY (aZ x.1.p4) x.p2 (aF (ai,x.1,x.2.1,x.2.2,0)) (bA x.p3 1 (aF (ai,x.1,x.2.1,x.2.2,0)) (aF ((gf 23 x.p3),x.1,x.2.1,x.2.2,0))))))) λM=>(bcase M.1 (af (((([]:List (Int×η)),0,([]:θ),([]:List dF)),([]:η),([]:η),([]:η)),aj)) (jn (α:=Bool×dt×eQ×gd×Int) (obind (jq (M.2.1,M.p2.1,M.p3.1,M.p3.2.1,M.p3.p2)) λy4=>(bcase (!y4) (aF (ai,M.2)) (obind (jK (M.2.1,M.p3)) λy5=>(bcase (!y5) (aF (ai,M.2)) (obind (fh (M.2.1,M.p2,M.p3)) λy6=>(bcase (!y6) (aF (ai,M.2)) (obind (gH (M.p2,M.p3)) λy7=>(aF ((!y7),M.2))))))))) λx3=>(bcase x3.1 (af (((([]:List (Int×η)),0,([]:θ),([]:List dF)),([]:η),([]:η),([]:η)),aj)) (jn (α:=Int×dt×eQ×gd×Int) (bd x3.p3.2.1 18 (aF (x3.p3.p3,x3.2)) (aF ((-1),x3.2))) λI=>(obind (sD (I.2.1,I.p2.1,I.p3.1,I.p3.2.1,I.p3.p2,I.1)) λy9=>(bcase (!y9.2.2) (af (((([]:List (Int×η)),0,([]:θ),([]:List dF)),([]:η),([]:η),([]:η)),aj)) (obind (zP I.p2.2.1) λY=>(obind (zP I.p2.p2) λU=>(obind (pu I.p2.q3) λZ=>(jn (α:=gd×Int×pB×η×η×η) (bd I.p3.2.1 4 (ck (eP I.p3.p2 (al Y)) (aF (I.p3,I.q4,y9.1,(cz Y I.p3.p2 I.p3.p3),U,Z))) (bd I.p3.2.1 22 (ck (eP I.p3.p2 (al U)) (aF (I.p3,I.q4,y9.1,Y,(cz U I.p3.p2 I.p3.p3),Z))) (aF (I.p3,I.q4,y9.1,Y,U,Z)))) λJ=>(kl aM J.q5 J.1.1 λz14=>(ck (eP J.1.1 (al J.q5)) (af ((J.p2,J.p3,J.p4,(cz J.q5 J.1.1 (cH z14))),ai)))))))))))))))
def lZ (it:zj) (x:dt×List gd):Option Γ:=
 (bA 400 (aZ x.2) (af (0,2)) (obind (dU x.1) λy1=>(bcase (!y1) (af (0,1)) (obind (dy x.1) λy2=>(bE (c_ 0 (aZ x.1.p4)&&c_ (aZ x.1.p4) (aZ x.1.p4)&&a8 (aT (aZ x.1.p4)) 24&&decide (((aZ x.1.p4):Int)=1)) (it (Int×(dt×List gd)×eQ×θ) _ (λJ=>(bA J.1 (aZ x.2) (bD gr x.2 J.1 λM=>(obind (f_ (J.2.1.1,J.p2,M)) λU=>(jn (α:=Bool×(dt×List gd)×eQ×gd×eQ×θ) (bd M.1 0 (bcase (!U.2) (aF (ai,J.2.1,J.p2,(0,M.2),U.1,J.q3)) (obind (cu (J.q3,0,M.2)) λZ=>(aF ((!Z),J.2.1,J.p2,(0,M.2),U.1,J.q3)))) ah) λI=>(bcase I.1 (aF (J.1,12)) (jn (α:=(dt×List gd)×eQ×eQ×θ) (bd I.p3.1 0 (bd I.p3.2.1 3 (bE (a8 (al I.q5+al ([ai])) 1) (aF (I.2.1,I.p2,I.p4,(I.q5++([ai]))))) (bE (a8 (al I.q5+al ([(decide ((I.p3.2.1:Int)=23))])) 1) (aF (I.2.1,I.p2,I.p4,(I.q5++([(decide ((I.p3.2.1:Int)=23))])))))) ah) λY=>(cK ((cH J.1),Y.1,Y.2.2))))))) (aF (0,0)))) (0,x,y2,([]:θ))))))))
def pJ (x:dt×List gd):Option Γ:=lZ @iter x
def eC (x:dt×List gd):Option Γ:=lZ @gh x
def jU (it:zj) (x:dt×List gd):Option Γ:=
 (bA 400 (aZ x.2) (af (0,2)) (obind (dU x.1) λy1=>(bcase (!y1) (af (0,1)) (obind (dy x.1) λy2=>(bE (c_ 0 (aZ x.1.p4)&&c_ (aZ x.1.p4) (aZ x.1.p4)&&a8 (aT (aZ x.1.p4)) 24&&decide (((aZ x.1.p4):Int)=2)) (it (Int×(dt×List gd)×eQ×θ×θ) _ (λJ=>(bA J.1 (aZ x.2) (bD gr x.2 J.1 λM=>(obind (f_ (J.2.1.1,J.p2,M)) λU=>(jn (α:=Bool×(dt×List gd)×eQ×gd×eQ×θ×θ) (bd M.1 0 (bcase (!U.2) (aF (ai,J.2.1,J.p2,(0,M.2),U.1,J.q3)) (obind (cu (J.p3,0,M.2)) λy7=>(aF ((!y7),J.2.1,J.p2,(0,M.2),U.1,J.q3)))) (bd M.1 1 (bcase (!U.2) (aF (ai,J.2.1,J.p2,(1,M.2),U.1,J.q3)) (obind (cu (J.q4,1,M.2)) λZ=>(aF ((!Z),J.2.1,J.p2,(1,M.2),U.1,J.q3)))) ah)) λI=>(bcase I.1 (aF (J.1,12)) (jn (α:=(dt×List gd)×eQ×eQ×θ×θ) (bd I.p3.1 0 (bd I.p3.2.1 3 (bE (a8 (al I.p5+al ([ai])) 1) (aF (I.2.1,I.p2,I.p4,(I.p5++([ai])),I.q6))) (bE (a8 (al I.p5+al ([(decide ((I.p3.2.1:Int)=23))])) 1) (aF (I.2.1,I.p2,I.p4,(I.p5++([(decide ((I.p3.2.1:Int)=23))])),I.q6)))) (bd I.p3.1 1 (bd I.p3.2.1 3 (bE (a8 (al I.q6+al ([ai])) 1) (aF (I.2.1,I.p2,I.p4,I.p5,(I.q6++([ai]))))) (bE (a8 (al I.q6+al ([(decide ((I.p3.2.1:Int)=23))])) 1) (aF (I.2.1,I.p2,I.p4,I.p5,(I.q6++([(decide ((I.p3.2.1:Int)=23))])))))) ah)) λY=>(cK ((cH J.1),Y.1,Y.2.2))))))) (aF (0,0)))) (0,x,y2,([]:θ),([]:θ))))))))
def pI (x:dt×List gd):Option Γ:=jU @iter x
def dz (x:dt×List gd):Option Γ:=jU @gh x
def jT (it:zj) (x:dt×List gd):Option Γ:=
 (bA 400 (aZ x.2) (af (0,2)) (obind (dU x.1) λy1=>(bcase (!y1) (af (0,1)) (obind (dy x.1) λy2=>(bE (c_ 0 (aZ x.1.p4)&&c_ (aZ x.1.p4) (aZ x.1.p4)&&a8 (aT (aZ x.1.p4)) 24&&decide (((aZ x.1.p4):Int)=3)) (it (Int×(dt×List gd)×eQ×θ×θ×θ) _ (λJ=>(bA J.1 (aZ x.2) (bD gr x.2 J.1 λM=>(obind (f_ (J.2.1.1,J.p2,M)) λU=>(jn (α:=Bool×(dt×List gd)×eQ×gd×eQ×θ×θ×θ) (bd M.1 0 (bcase (!U.2) (aF (ai,J.2.1,J.p2,(0,M.2),U.1,J.q3)) (obind (cu (J.p3,0,M.2)) λy7=>(aF ((!y7),J.2.1,J.p2,(0,M.2),U.1,J.q3)))) (bd M.1 1 (bcase (!U.2) (aF (ai,J.2.1,J.p2,(1,M.2),U.1,J.q3)) (obind (cu (J.p4,1,M.2)) λy8=>(aF ((!y8),J.2.1,J.p2,(1,M.2),U.1,J.q3)))) (bd M.1 2 (bcase (!U.2) (aF (ai,J.2.1,J.p2,(2,M.2),U.1,J.q3)) (obind (cu (J.q5,2,M.2)) λZ=>(aF ((!Z),J.2.1,J.p2,(2,M.2),U.1,J.q3)))) ah))) λI=>(bcase I.1 (aF (J.1,12)) (jn (α:=(dt×List gd)×eQ×eQ×θ×θ×θ) (bd I.p3.1 0 (bd I.p3.2.1 3 (bE (a8 (al I.p5+al ([ai])) 1) (aF (I.2.1,I.p2,I.p4,(I.p5++([ai])),I.q6))) (bE (a8 (al I.p5+al ([(decide ((I.p3.2.1:Int)=23))])) 1) (aF (I.2.1,I.p2,I.p4,(I.p5++([(decide ((I.p3.2.1:Int)=23))])),I.q6)))) (bd I.p3.1 1 (bd I.p3.2.1 3 (bE (a8 (al I.p6+al ([ai])) 1) (aF (I.2.1,I.p2,I.p4,I.p5,(I.p6++([ai])),I.q7))) (bE (a8 (al I.p6+al ([(decide ((I.p3.2.1:Int)=23))])) 1) (aF (I.2.1,I.p2,I.p4,I.p5,(I.p6++([(decide ((I.p3.2.1:Int)=23))])),I.q7)))) (bd I.p3.1 2 (bd I.p3.2.1 3 (bE (a8 (al I.q7+al ([ai])) 1) (aF (I.2.1,I.p2,I.p4,I.p5,I.p6,(I.q7++([ai]))))) (bE (a8 (al I.q7+al ([(decide ((I.p3.2.1:Int)=23))])) 1) (aF (I.2.1,I.p2,I.p4,I.p5,I.p6,(I.q7++([(decide ((I.p3.2.1:Int)=23))])))))) ah))) λY=>(cK ((cH J.1),Y.1,Y.2.2))))))) (aF (0,0)))) (0,x,y2,([]:θ),([]:θ),([]:θ))))))))
def pH (x:dt×List gd):Option Γ:=jT @iter x
def dR (x:dt×List gd):Option Γ:=jT @gh x
def jS (it:zj) (x:dt×List gd):Option Γ:=
 (bA 400 (aZ x.2) (af (0,2)) (obind (dU x.1) λy1=>(bcase (!y1) (af (0,1)) (obind (dy x.1) λy2=>(bE (c_ 0 (aZ x.1.p4)&&c_ (aZ x.1.p4) (aZ x.1.p4)&&a8 (aT (aZ x.1.p4)) 24&&decide (((aZ x.1.p4):Int)=4)) (it (Int×(dt×List gd)×eQ×θ×θ×θ×θ) _ (λJ=>(bA J.1 (aZ x.2) (bD gr x.2 J.1 λM=>(obind (f_ (J.2.1.1,J.p2,M)) λU=>(jn (α:=Bool×(dt×List gd)×eQ×gd×eQ×θ×θ×θ×θ) (bd M.1 0 (bcase (!U.2) (aF (ai,J.2.1,J.p2,(0,M.2),U.1,J.q3)) (obind (cu (J.p3,0,M.2)) λy7=>(aF ((!y7),J.2.1,J.p2,(0,M.2),U.1,J.q3)))) (bd M.1 1 (bcase (!U.2) (aF (ai,J.2.1,J.p2,(1,M.2),U.1,J.q3)) (obind (cu (J.p4,1,M.2)) λy8=>(aF ((!y8),J.2.1,J.p2,(1,M.2),U.1,J.q3)))) (bd M.1 2 (bcase (!U.2) (aF (ai,J.2.1,J.p2,(2,M.2),U.1,J.q3)) (obind (cu (J.p5,2,M.2)) λy9=>(aF ((!y9),J.2.1,J.p2,(2,M.2),U.1,J.q3)))) (bd M.1 3 (bcase (!U.2) (aF (ai,J.2.1,J.p2,(3,M.2),U.1,J.q3)) (obind (cu (J.q6,3,M.2)) λZ=>(aF ((!Z),J.2.1,J.p2,(3,M.2),U.1,J.q3)))) ah)))) λI=>(bcase I.1 (aF (J.1,12)) (jn (α:=(dt×List gd)×eQ×eQ×θ×θ×θ×θ) (bd I.p3.1 0 (bd I.p3.2.1 3 (bE (a8 (al I.p5+al ([ai])) 1) (aF (I.2.1,I.p2,I.p4,(I.p5++([ai])),I.q6))) (bE (a8 (al I.p5+al ([(decide ((I.p3.2.1:Int)=23))])) 1) (aF (I.2.1,I.p2,I.p4,(I.p5++([(decide ((I.p3.2.1:Int)=23))])),I.q6)))) (bd I.p3.1 1 (bd I.p3.2.1 3 (bE (a8 (al I.p6+al ([ai])) 1) (aF (I.2.1,I.p2,I.p4,I.p5,(I.p6++([ai])),I.q7))) (bE (a8 (al I.p6+al ([(decide ((I.p3.2.1:Int)=23))])) 1) (aF (I.2.1,I.p2,I.p4,I.p5,(I.p6++([(decide ((I.p3.2.1:Int)=23))])),I.q7)))) (bd I.p3.1 2 (bd I.p3.2.1 3 (bE (a8 (al I.p7+al ([ai])) 1) (aF (I.2.1,I.p2,I.p4,I.p5,I.p6,(I.p7++([ai])),I.q8))) (bE (a8 (al I.p7+al ([(decide ((I.p3.2.1:Int)=23))])) 1) (aF (I.2.1,I.p2,I.p4,I.p5,I.p6,(I.p7++([(decide ((I.p3.2.1:Int)=23))])),I.q8)))) (bd I.p3.1 3 (bd I.p3.2.1 3 (bE (a8 (al I.q8+al ([ai])) 1) (aF (I.2.1,I.p2,I.p4,I.p5,I.p6,I.p7,(I.q8++([ai]))))) (bE (a8 (al I.q8+al ([(decide ((I.p3.2.1:Int)=23))])) 1) (aF (I.2.1,I.p2,I.p4,I.p5,I.p6,I.p7,(I.q8++([(decide ((I.p3.2.1:Int)=23))])))))) ah)))) λY=>(cK ((cH J.1),Y.1,Y.2.2))))))) (aF (0,0)))) (0,x,y2,([]:θ),([]:θ),([]:θ),([]:θ))))))))
def pG (x:dt×List gd):Option Γ:=jS @iter x
def eB (x:dt×List gd):Option Γ:=jS @gh x
def mL (x:dt×List gd):Option Γ:=orE (eB x) (orE (dR x) (orE (dz x) (eC x)))
def yd (it:zj) (x:dt×List gd):Option ((List η)×Int):=
 (obind (mL x) λY=>(iO Y.2 0 (af (([]:List η),12)) (obind (ov x.1) λU=>(bE (c_ 0 (aZ x.2)&&c_ (aZ x.2) (aZ x.2)&&a8 (aT (aZ x.2)) 24) (it (Int×(dt×List gd)×YS×List η) _ (λI=>(bA I.1 (aZ x.2) (bD gr x.2 I.1 λM=>(obind (sY (I.2.1.1,I.p2,M)) λJ=>(ck (eP I.1 (al I.q3)) (cK ((cH I.1),I.2.1,J.1,(cz I.q3 I.1 J.2)))))) (aF (I.q3,0)))) (0,x,U,(aG (aT (aZ x.2)) ([]:η))))))))
def Co (x:dt×List gd):Option ((List η)×Int):=yd @iter x
def pV (x:dt×List gd):Option ((List η)×Int):=yd @gh x
def P0 (it:zj) (x:Unit):Option dt:=
 (it Yd3 _ (λJ=>(bA J.1 (aP (al ([[109,97,105,110],[116,49],[116,50],[116,51]]))) (it Yd3 _ (λI=>(bA I.1 6 (bE (a8 (al I.q6+al ([(J.1,I.1,(bk .i64 ((bk .i64 ((bk .i64 (10*J.1))+I.1))+1)))])) 24) (cK ((cH I.1),I.2.1,I.p2,I.p3,I.p4,I.p5,(I.q6++([(J.1,I.1,(bk .i64 ((bk .i64 ((bk .i64 (10*J.1))+I.1))+1)))]))))) (aF (kO ((cH J.1),I.2))))) (0,J.2)) (aF J.2))) (0,[([120],0,0,aj,0),([121],0,0,aj,1),([118],0,0,ai,0),([113],0,2,aj,0),([113],1,2,aj,0)],[([109],aj),([110],aj),([114],ai)],[([99],0)],[[102]],[[109,97,105,110],[116,49],[116,50],[116,51]],([]:List ν)))
def Pf (x:Unit):Option dt:=P0 @iter x
def Dr (x:Unit):Option dt:=P0 @gh x
def wJ:Nat:=1000000000
def jl (a b:η):η:=(bx (max a.length b.length)).map λi=>iK (a.getD i 0) (b.getD i 0)
theorem oy (a b:η):(jl a b).length=max a.length b.length:=by simp[jl]
theorem pW (a b:η) (i:Nat):(jl a b).getD i 0=iK (a.getD i 0) (b.getD i 0):=by
 unfold jl;simp only[ay,ba];by_cases h:i<max a.length b.length
 .rw[qD h];rfl
 .rw[bT (by simp only[fV];omega),bT (l:=a) (by omega),bT (l:=b) (by omega)];rfl
theorem L2 (c:η) (i:Nat):jF (c,(i:Int))=af (c.getD i 0):=by
 unfold jF bA vp aZ aF;simp only[];rw[vQ (by omega)];simp only[c6,ju];by_cases h:i<c.length
 .rw[NL (by simp;omega)];simp only[c6];rw[cg (cY h),s5];rfl
 .rw[qV (by simp;omega)];simp only[c5];rw[ay,bT (by omega)];rfl
theorem XU:od=iR:=rfl
theorem IV (a b:η) (U:a.length<=wJ) (hb:b.length<=wJ):iR (a,b)=af (jl a b):=by
 unfold wJ at U hb;unfold iR vV ck bA bE aZ cK aF cH;have hm:max a.length b.length<=1000000000:=by omega
 rw[cg (by simp only[zU];rw[qV (by omega),qV (by omega),tY (by simp;omega) (by simp;omega)];rfl)];simp only[zU,cZ,eV];have:=w_ (σ:=Int×η) (R:=η) (max a.length b.length) (by omega) (λi=>((i:Int),(bx (max a.length b.length)).map λk=>if k<i then iK (a.getD k 0) (b.getD k 0) else 0)) (f:=(λI=>(bcase (gf I.1 (aP (max a.length b.length))) (obind (jF (a,I.1)) λM=>(obind (jF (b,I.1)) λJ=>(chk (eP I.1 (al I.2)) λ_=>(chk (eP I.1 (al I.2)) λ_=>(af (kO ((bk .i64 (I.1+1)),(cz I.2 I.1 (iK M J))))))))) (af (bO I.2))))) (r:=jl a b) ?_ ?_
 .refine Eq.trans ?_ this;congr 1;simp only[Int.natCast_zero,xH,ey,aE,B8];apply dJ<;>simp
 .intro i hi;simp only[];rw[uO (by simp;omega),c5,L2,L2,cO,cO,cg (cY (by simpa using hi)),cg (cY (by simpa using hi)),qd hi (by omega),eD];congr 3;apply dJ
  .simp
  .intro k h1 h2;simp only[bS,fV]at h2;simp only[vG,ry,nU];by_cases e:i=k
   .subst e;simp
   .by_cases h:k<i
    .rw[aA e,aD h,aD (by omega)]
    .rw[aA e,aA h,aA (by omega)]
 .simp only[];rw[vQ (by simp),c6];congr 2;unfold jl;apply qB;intro k hk;rw[aD (lD.1 hk)]
theorem aax (a b:η) (U:a.length<=wJ) (hb:b.length<=wJ):ub (a,b)=af (jl a b,b):=by
 unfold wJ at U hb;unfold ub II ck bA bE aZ cK aF cH;have hm:max a.length b.length<=1000000000:=by omega
 rw[cg (by simp only[zU];rw[qV (by omega),qV (by omega),tY (by simp;omega) (by simp;omega)];rfl)];simp only[zU,cZ,eV];have:=w_ (σ:=Int×η×η) (R:=η×η) (max a.length b.length) (by omega) (λi=>((i:Int),b,(bx (max a.length b.length)).map λk=>if k<i then iK (a.getD k 0) (b.getD k 0) else 0)) (f:=(λI=>(bcase (gf I.1 (aP (max a.length b.length))) (obind (jF (a,I.1)) λM=>(obind (jF (I.2.1,I.1)) λJ=>(chk (eP I.1 (al I.2.2)) λ_=>(chk (eP I.1 (al I.2.2)) λ_=>(af (kO ((bk .i64 (I.1+1)),I.2.1,(cz I.2.2 I.1 (iK M J))))))))) (af (bO (I.2.2,I.2.1)))))) (r:=(jl a b,b)) ?_ ?_
 .refine Eq.trans ?_ this;congr 1;simp only[Int.natCast_zero,xH,ey,aE,B8];apply dJ<;>simp
 .intro i hi;simp only[];rw[uO (by simp;omega),c5,L2,L2,cO,cO,cg (cY (by simpa using hi)),cg (cY (by simpa using hi)),qd hi (by omega),eD];congr 4;apply dJ
  .simp
  .intro k h1 h2;simp only[bS,fV]at h2;simp only[vG,ry,nU];by_cases e:i=k
   .subst e;simp
   .by_cases h:k<i
    .rw[aA e,aD h,aD (by omega)]
    .rw[aA e,aA h,aA (by omega)]
 .simp only[];rw[vQ (by simp),c6];congr 3;unfold jl;apply qB;intro k hk;rw[aD (lD.1 hk)]
theorem UF (a b:η) (I:a.length<=wJ) (hb:b.length<=wJ):Cv (a,b)=af (jl a b):=by
 unfold Cv;rw[aax a b I hb,cO];exact Rt rfl _
def tk (c:η) (t:Nat):η:=(c++aG (t+1-c.length) 0).set t (c.getD t 0+1)
theorem EU (c:η) (t:Nat):(tk c t).length=max c.length (t+1):=by simp[tk];omega
theorem akl (c:η) (n i:Nat):(c++aG n 0).getD i 0=c.getD i 0:=by
 simp only[ay];by_cases h:i<c.length
 .rw[bM h]
 .rw[b7 (by omega),bT (l:=c) (by omega),lK];split<;>rfl
theorem uy (c:η) (t i:Nat):(tk c t).getD i 0=if i=t then c.getD t 0+1 else c.getD i 0:=by
 unfold tk;rw[ay,pn];by_cases h:t=i
 .subst h;rw[aD rfl,aD (by simp;omega),aD rfl];rfl
 .rw[aA h,aA (λe=>h e.symm),<-ay,akl]
theorem ady (c:η) (n:Nat) (h:c.length<=n):U0 (aG n 0) c=c++aG (n-c.length) 0:=by
 unfold U0;rw[eV,fw h,List.drop_replicate]
theorem YT (c:η) (t:Nat) (hc:c.length<=wJ) (ht:t<4) (h0:0<=c.getD t 0) (h1:c.getD t 0<9223372036854775807):ql (c,(t:Int))=af (tk c t):=by
 unfold wJ at hc;unfold ql ck iY bE aZ aF cH;simp only[];rw[qV (by omega),c5,ju,uO (by omega)];simp only[c5,ju];have e1:iK (aP c.length) (bk .i64 ((t:Int)+1))=((max c.length (t+1):Nat):Int):=by
  rw[qd ht (by omega)];exact zU _ _
 rw[e1];rw[cg (by rw[qV (by omega),qV (by omega),tY (by simp;omega) (by simp;omega)];rfl)];rw[cZ];have e2:U0 (aG (max c.length (t+1)) (0:Int)) c=c++aG (t+1-c.length) 0:=by
  rw[ady c _ (by omega)];rw[show max c.length (t+1)-c.length=t+1-c.length from by omega]
 rw[e2];have hl:t<(c++aG (t+1-c.length) (0:Int)).length:=by simp;omega
 rw[cg (cY hl),cg (cY hl),ju];have e3:aK (T:=.int .i64) (c++aG (t+1-c.length) (0:Int)) (t:Int)=c.getD t 0:=by
  rw[s5];exact akl c _ t
 simp only[];rw[e3,uO h1,c5,cg (cY hl),cg (cY hl),cg (cY hl),cg (cY hl),ju,abm (by omega) (by omega),eD];rfl
theorem afe (c:η) (hc:c.length<=wJ):uF c=af c:=by
 unfold wJ at hc;unfold uF bE;rw[cg (tY (by omega) (by omega))]
theorem EK (c:η) (hc:c.length<=wJ):xW c=af c:=by
 unfold wJ at hc;unfold xW;rw[cg (tY (by omega) (by omega))]
theorem OK (c:η) (hc:c.length<=wJ):vM c=af c:=by
 unfold wJ at hc;unfold vM w7 bE;rw[cg (tY (by simp;omega) (by simp;omega)),cO];exact Rt rfl _
theorem OL (c:η) (hc:c.length<=wJ):pu c=af c:=EK c hc
theorem Vj (c:η) (t:Nat) (hc:c.length<=wJ) (ht:t<4) (h0:0<=c.getD t 0) (h1:c.getD t 0<9223372036854775807):mz (c,(t:Int))=af (tk c t):=by
 unfold wJ at hc;unfold mz AS ck bA iY bE aZ cK aF;simp only[];rw[afe c (by unfold wJ;omega),cO,vQ (by omega),c6,ju,NL (by omega)];simp only[c6];have:=w_ (σ:=η) (R:=η) (t+1-c.length) (by omega) (λi=>c++aG i 0) (f:=(λI=>(bcase (c_ (aP (al I)) (t:Int)) (chk (a8 (al I+al ([(0:Int)])) 8) λ_=>(af (kO (I++([0]))))) (obind (jn (α:=η) (chk (eP (t:Int) (al I)) λ_=>(chk (eP (t:Int) (al I)) λ_=>(bcase (gf (aK (T:=(.int .i64)) I (t:Int)) 9223372036854775807) (chk (eP (t:Int) (al I)) λ_=>(chk (eP (t:Int) (al I)) λ_=>(chk (eP (t:Int) (al I)) λ_=>(chk (eP (t:Int) (al I)) λ_=>(af (bO (cz I (t:Int) (bk .i64 ((aK (T:=(.int .i64)) I (t:Int))+1))))))))) (af (bO I))))) λJ=>(af J)) λr=>af (bO r))))) (r:=tk c t) ?_ ?_
 .simpa using this
 .intro i hi;rw[qV (by simp;omega),c5,cg (tY (by simp;omega) (by simp;omega)),fY,<-vk]
 .have hl:t<(c++aG (t+1-c.length) (0:Int)).length:=by simp;omega
  have e3:aK (T:=.int .i64) (c++aG (t+1-c.length) (0:Int)) (t:Int)=c.getD t 0:=by
   rw[s5];exact akl c _ t
  rw[NL (by simp;omega),c6,cg (cY hl),cg (cY hl),e3,uO h1,c5,cg (cY hl),cg (cY hl),cg (cY hl),cg (cY hl),ju,cO,abm (by omega) (by omega),eD];rfl
def GL (l:List η):Prop:=l.length<=wJ/\∀c∈l,c.length<=wJ
abbrev HTp:Type:=List η×List η×List η×List η×List η×List η×η×List η×η
def GH (h:HTp):Prop:=GL h.1/\GL h.2.1/\GL h.2.2.1/\GL h.2.2.2.1/\GL h.2.2.2.2.1/\GL h.2.2.2.2.2.1/\h.2.2.2.2.2.2.1.length<=wJ/\GL h.2.2.2.2.2.2.2.1/\h.2.2.2.2.2.2.2.2.length<=wJ
theorem DN {l:List η} {i:Nat} (h:i<l.length):l.getD i []∈l:=by
 rw[ay,aB h];exact vH h
theorem GL.at {l:List η} (h:GL l) (i:Nat):(l.getD i []).length<=wJ:=by
 by_cases hi:i<l.length
 .exact h.2 _ (DN hi)
 .rw[ay,bT (by omega)];simp
theorem Z6 (g:η->Option η) (l:List η) (hl:l.length<=wJ) (hg:∀c∈l,g c=af c):
 gh (σ:=Int×List η) (λI=>(bcase (gf I.1 (aP (al l))) (chk (eP I.1 (al l)) λ_=>(obind (g (aK (T:=(.sl (.int .i64))) l I.1)) λJ=>(chk (eP I.1 (al I.2)) λ_=>(chk (eP I.1 (al I.2)) λ_=>(af (kO ((bk .i64 (I.1+1)),(cz I.2 I.1 J)))))))) (af (bO I.2)))) (0,(aG (aT (aP (al l))) ([]:η)))=af l:=by
 unfold wJ at hl;have:=w_ (σ:=Int×List η) (R:=List η) l.length (by omega) (λi=>((i:Int),(bx l.length).map λk=>if k<i then l.getD k [] else [])) (f:=(λI=>(bcase (gf I.1 (aP (al l))) (chk (eP I.1 (al l)) λ_=>(obind (g (aK (T:=(.sl (.int .i64))) l I.1)) λJ=>(chk (eP I.1 (al I.2)) λ_=>(chk (eP I.1 (al I.2)) λ_=>(af (kO ((bk .i64 (I.1+1)),(cz I.2 I.1 J)))))))) (af (bO I.2))))) (r:=l) ?_ ?_
 .refine Eq.trans ?_ this;congr 1;simp only[Int.natCast_zero,xH,ey,aE,B8,au,cZ];apply dJ<;>simp
 .intro i hi;simp only[];rw[uO (by simp;omega),c5,cg (cY hi),s5,show (l.getD i (Ty.zero (.sl (.int .i64))))=l.getD i [] from rfl,hg _ (DN hi),cO,cg (cY (by simpa using hi)),cg (cY (by simpa using hi)),qd hi (by omega),eD];congr 3;apply dJ
  .simp
  .intro k h1 h2;simp only[bS,fV]at h2;simp only[vG,ry,nU];by_cases e:i=k
   .subst e;simp
   .by_cases h:k<i
    .rw[aA e,aD h,aD (by omega)]
    .rw[aA e,aA h,aA (by omega)]
 .simp only[];rw[vQ (by simp),c6];congr 2;apply dJ
  .simp
  .intro k h1 h2;simp only[ry,nU];rw[aD h2,ay,aB h2];rfl
theorem sk (l:List η) (h:GL l):iB l=af l:=by
 have hl:=h.1;unfold wJ at hl;unfold iB yc ck bA vp bE aZ cK aF cH;rw[cg (by rw[qV (by simp),qV (by omega),tY (by simp;omega) (by simp;omega)];rfl)];exact Z6 xW l h.1 λc hc=>EK c (h.2 c hc)
theorem Ox (h:HTp) (g:GH h):rZ h=af (h.2.2.2.2.2.2.1,h.1,h.2.1,h.2.2.1,h.2.2.2.1,h.2.2.2.2.1,h.2.2.2.2.2.1,h.2.2.2.2.2.2.2.1,h.2.2.2.2.2.2.2.2):=by
 obtain⟨g1,g2,g3,Z,Y,U,M,J,I⟩:=g;unfold rZ aX bf bu ch dC ja nZ;rw[sk _ g1,cO,sk _ g2,cO,sk _ g3,cO,sk _ Z,cO,sk _ Y,cO,sk _ U,cO,OL _ M,cO,sk _ J,cO,OL _ I,cO]
abbrev vh:Type:=List (ζ×Int×Int×Bool×Int)×List (ζ×Bool)×List (ζ×Int)×List ζ×List ζ×List ν
def h0 (w:vh):HTp:=(aG w.2.2.2.2.1.length [],aG w.2.2.2.2.1.length [],aG w.2.1.length [],aG w.2.1.length [],aG w.1.length [],aG w.2.2.2.1.length [],[],aG w.2.2.2.2.1.length [],aG w.2.2.2.2.1.length (-1))
theorem aev (w:vh) (h1:w.1.length<=wJ) (h2:w.2.1.length<=wJ) (M:w.2.2.2.1.length<=wJ) (J:w.2.2.2.2.1.length<=wJ):ov w=af (h0 w):=by
 unfold wJ at h1 h2 M J;have c:∀n b:Nat,n<=1000000000->b<=24->(c_ 0 (aP n)&&c_ (aP n) (aP n)&&a8 (aT (aP n)) b)=ai:=λn b hn hb=>by
  have:n*b<=n*24:=Nat.mul_le_mul_left n hb;rw[qV (by simp),qV (by omega),tY (by simp;omega) (by simp;omega)];rfl
 unfold ov AW aX bf bu ch dC ja nZ ck bA bE aZ cK aF cH;rw[cg (c _ 24 J (by omega)),cg (c _ 24 J (by omega)),cg (c _ 24 h2 (by omega)),cg (c _ 24 h2 (by omega)),cg (c _ 24 h1 (by omega)),cg (c _ 24 M (by omega)),cg (c _ 24 J (by omega)),cg (c _ 8 J (by omega))];simp only[au,cZ,eV];have:=w_ (σ:=Int×(List η)×(List η)×(List η)×(List η)×(List η)×(List η)×(List η)×η) (R:=HTp) w.2.2.2.2.1.length (by omega) (λi=>((i:Int),aG w.2.2.2.2.1.length [],aG w.2.2.2.2.1.length [],aG w.2.1.length [],aG w.2.1.length [],aG w.1.length [],aG w.2.2.2.1.length [],aG w.2.2.2.2.1.length [],(bx w.2.2.2.2.1.length).map λk=>if k<i then -1 else 0)) (f:=(λI=>(bcase (gf I.1 (w.2.2.2.2.1.length:Int)) (chk (eP I.1 (al I.2.2.2.2.2.2.2.2)) λ_=>(chk (eP I.1 (al I.2.2.2.2.2.2.2.2)) λ_=>(af (kO ((bk .i64 (I.1+1)),I.2.1,I.2.2.1,I.2.2.2.1,I.2.2.2.2.1,I.2.2.2.2.2.1,I.2.2.2.2.2.2.1,I.2.2.2.2.2.2.2.1,(cz I.2.2.2.2.2.2.2.2 I.1 (-1))))))) (af (bO (I.2.1,I.2.2.1,I.2.2.2.1,I.2.2.2.2.1,I.2.2.2.2.2.1,I.2.2.2.2.2.2.1,([]:η),I.2.2.2.2.2.2.2.1,I.2.2.2.2.2.2.2.2)))))) (r:=h0 w) ?_ ?_
 .refine Eq.trans ?_ this;congr 1;simp only[Int.natCast_zero,xH,ey,aE,B8];apply dJ<;>simp
 .intro i hi;simp only[];rw[uO (by omega),c5,cg (cY (by simpa using hi)),cg (cY (by simpa using hi)),qd hi (by omega),eD];congr 3;simp only[aE,B8];apply dJ
  .simp
  .intro k h1 h2;simp only[bS,fV]at h2;simp only[vG,ry,nU];by_cases e:i=k
   .subst e;simp
   .by_cases h:k<i
    .rw[aA e,aD h,aD (by omega)]
    .rw[aA e,aA h,aA (by omega)]
 .simp only[];rw[vQ (by omega),c6];unfold h0;congr 3;simp only[aE,B8];apply dJ
  .simp
  .intro k h1 h2;simp only[eV]at h2;simp only[ry,nU,List.getElem_replicate];rw[aD h2]
theorem ky (x y:Int):iK x y=max x y:=by
 unfold iK;by_cases h:x<y
 .rw[uO h,aD rfl];omega
 .rw[vQ (by omega)];simp;omega
theorem VG (a b c:Int):iK (iK a b) c=iK a (iK b c):=by
 simp only[ky];omega
theorem uq {a b:η} (hl:a.length=b.length) (h:∀i,a.getD i 0=b.getD i 0):a=b:=by
 apply dJ hl;intro i h1 h2;have:=h i;simpa[ay,aB h1,aB h2] using this
theorem qU (a b c:η):jl (jl a b) c=jl a (jl b c):=
 uq (by simp only[oy];omega) λi=>by simp only[pW,VG]
def En (n:Int) (c:η):Prop:=c.length<=4/\∀i,0<=c.getD i 0/\c.getD i 0<=n
theorem En.nil {n:Int} (h:0<=n):En n []:=⟨by simp,λi=>by simp;exact h⟩
theorem En.mono {n m:Int} {c:η} (h:En n c) (hm:n<=m):En m c:=⟨h.1,λi=>⟨(h.2 i).1,Int.le_trans (h.2 i).2 hm⟩⟩
theorem En.jl {n:Int} {a b:η} (I:En n a) (hb:En n b):En n (jl a b):=⟨by rw[oy];have:=I.1;have:=hb.1;omega,λi=>by
 rw[pW];obtain⟨h1,h2⟩:=I.2 i;obtain⟨M,J⟩:=hb.2 i;unfold iK;split<;>exact⟨by assumption,by assumption⟩⟩
theorem En.tk {n:Int} {c:η} {t:Nat} (h:En n c) (ht:t<4):En (n+1) (tk c t):=⟨by rw[EU];have:=h.1;omega,λi=>by
 rw[uy];obtain⟨h1,h2⟩:=h.2 i;obtain⟨J,I⟩:=h.2 t;split<;>omega⟩
theorem mK {n:Int} {c:η} (h:En n c):jl c []=c:=uq (by simp[oy]) λi=>by
 rw[pW,ky];have:=(h.2 i).1;simp only[List.getD_nil];omega
theorem akn {n:Int} {c:η} (h:En n c):jl [] c=c:=uq (by simp[oy]) λi=>by
 rw[pW,ky];have:=(h.2 i).1;simp only[List.getD_nil];omega
def B4 (n:Int) (l:List η):Prop:=∀i,En n (l.getD i [])
theorem B4.mono {n m:Int} {l:List η} (h:B4 n l) (hm:n<=m):B4 m l:=λi=>(h i).mono hm
theorem B4.set {n:Int} {l:List η} (h:B4 n l) {c:η} (hc:En n c) (j:Nat):B4 n (l.set j c):=λi=>by
 rw[ay,pn];by_cases e:j=i
 .subst e;rw[aD rfl];split
  .exact hc
  .have:=h j;simp only[ay]at this;rename_i hj;rw[bT (by omega)]at this;exact this
 .rw[aA e,<-ay];exact h i
theorem B4.repl {n:Int} (h:0<=n) (k:Nat):B4 n (aG k []):=λi=>by
 rw[ay,lK];split<;>exact En.nil h
structure HS where
 T:List η
 S:List η
 L:List η
 R:List η
 C:List η
 F:List η
 X:η
 N:List η
 W:η
def HS.t (h:HS):HTp:=(h.T,h.S,h.L,h.R,h.C,h.F,h.X,h.N,h.W)
structure EV where
 th:Nat
 k:Nat
 ob:Nat
 va:Int
abbrev WTc:=List (ζ×Int)
def Pj (I:WTc) (o:Nat):Nat:=((I.getD o ([],0)).2).toNat
def zo (I:List (ζ×Int×Int×Bool×Int)) (o:Nat):Bool:=(I.getD o ([],0,0,aj,0)).2.2.2.1
def qw (w:vh) (h:HS) (e:EV):List η:=
 if e.k=1 then [h.S.getD e.th []]
 else if e.k=21 then [h.T.getD e.ob []]
 else if e.k=6\/e.k=10 then [h.L.getD e.ob [],h.R.getD e.ob []]
 else if e.k=8 then [h.L.getD e.ob []]
 else if e.k=17 then [h.L.getD (Pj w.2.2.1 e.ob) [],h.R.getD (Pj w.2.2.1 e.ob) [],h.N.getD e.th []]
 else if e.k=3 then [h.C.getD e.ob []]
 else if e.k=23 then [h.F.getD e.ob []]
 else if e.k=12 then [h.X]
 else []
def uh (w:vh) (h:HS) (e:EV):η:=tk ((qw w h e).foldl jl (h.T.getD e.th [])) e.th
def jat (l:List η) (i:Nat) (c:η):List η:=l.set i (jl (l.getD i []) c)
def C5 (p:Nat->Bool) (c:η) (h:HS):HS:={h with N:=h.N.mapIdx λu x=>if p u then c else x,W:=h.W.mapIdx λu x=>if p u then -1 else x}
def io (w:vh) (h:HS) (e:EV) (c:η):HS:=
 let h:={h with T:=h.T.set e.th c}
 if e.k=20 then {h with S:=h.S.set e.ob c}
 else if e.k=7\/e.k=11 then {h with L:=jat h.L e.ob c}
 else if e.k=9 then {h with R:=jat h.R e.ob c}
 else if e.k=16 then {h with L:=jat h.L (Pj w.2.2.1 e.ob) c,W:=h.W.set e.th e.ob}
 else if e.k=4 then (if zo w.1 e.ob then {h with C:=jat h.C e.ob c} else h)
 else if e.k=22 then {h with F:=jat h.F e.ob c}
 else if e.k=13 then {h with X:=jl h.X c}
 else if e.k=18 then (if 0<=e.va/\e.va<h.N.length then {h with N:=h.N.set e.va.toNat c,W:=h.W.set e.va.toNat (-1)} else h)
 else if e.k=19 then C5 (λu=>decide (h.W.getD u 0=(e.ob:Int))) c h
 else h
def Gi (w:vh) (h:HS) (e:EV):HS×η:=(io w h e (uh w h e),uh w h e)
structure EOK (w:vh) (h:HS) (e:EV):Prop where
 th4:e.th<4
 th:e.th<h.T.length
 k1:1<=e.k
 k2:e.k<=23
 sp:e.k=20\/e.k=21->e.ob<h.T.length
 lk:6<=e.k/\e.k<=11->e.ob<h.L.length
 cd:e.k=16\/e.k=17->e.ob<w.2.2.1.length/\0<=(w.2.2.1.getD e.ob ([],0)).2/\Pj w.2.2.1 e.ob<h.L.length
 ce:e.k=3\/e.k=4->e.ob<h.C.length/\e.ob<w.1.length
 fu:e.k=22\/e.k=23->e.ob<h.F.length
structure Q4 (n:Int) (h:HS):Prop where
 n0:0<=n
 n1:n<=1000000
 T:B4 n h.T
 S:B4 n h.S
 L:B4 n h.L
 R:B4 n h.R
 C:B4 n h.C
 F:B4 n h.F
 X:En n h.X
 N:B4 n h.N
 lT:h.T.length<=1000
 lS:h.S.length=h.T.length
 lN:h.N.length=h.T.length
 lW:h.W.length=h.T.length
 lL:h.L.length<=1000
 lR:h.R.length=h.L.length
 lC:h.C.length<=1000
 lF:h.F.length<=1000
theorem En.lb {n:Int} {c:η} (h:En n c):c.length<=wJ:=by have:=h.1;unfold wJ;omega
theorem B4.GL {n:Int} {l:List η} (h:B4 n l) (hl:l.length<=1000):GL l:=⟨by unfold wJ;omega,λc hc=>by
 obtain⟨i,hi⟩:=fx hc;have:=(h i).lb
 rwa [ay,hi]at this⟩
theorem Q4.GH {n:Int} {h:HS} (o:Q4 n h):GH h.t:=
 ⟨o.T.GL o.lT,o.S.GL (by rw[o.lS];exact o.lT),o.L.GL o.lL,o.R.GL (by rw[o.lR];exact o.lL),o.C.GL o.lC,o.F.GL o.lF,o.X.lb,o.N.GL (by rw[o.lN];exact o.lT),by show h.W.length<=wJ;have:=o.lT;rw[o.lW];unfold wJ;omega⟩
theorem En.join {n:Int} {a b:η} (I:En n a) (hb:En n b):iR (a,b)=af (AI.jl a b):=IV a b I.lb hb.lb
theorem O1 {n:Int} {w:vh} {h:HS} (o:Q4 n h) (e:EV):∀c∈qw w h e,En n c:=by
 intro c hc;unfold qw at hc;repeat' (split at hc)
 all_goals simp only[bp,cF,gu]at hc
 .subst hc;exact o.S _
 .subst hc;exact o.T _
 .rcases hc with rfl|rfl
  .exact o.L _
  .exact o.R _
 .subst hc;exact o.L _
 .rcases hc with rfl|rfl|rfl
  .exact o.L _
  .exact o.R _
  .exact o.N _
 .subst hc;exact o.C _
 .subst hc;exact o.F _
 .subst hc;exact o.X
theorem yk {n:Int}:∀(l:List η) (c:η),En n c->(∀x∈l,En n x)->En n (l.foldl jl c)
 |[],_,hc,_=>hc
 |x::r,c,hc,h=>yk r _ (hc.jl (h x (dw ..))) λy I=>h y (cM _ I)
theorem Lr {n:Int} {w:vh} {h:HS} (o:Q4 n h) {e:EV} (he:e.th<4):En (n+1) (uh w h e):=(yk _ _ (o.T _) (O1 o e)).tk he
theorem B4.jat {n:Int} {l:List η} {c:η} (h:B4 n l) (hc:En n c) (i:Nat):B4 n (jat l i c):=h.set ((h i).jl hc) i
theorem B4.mapIdx {n:Int} {l:List η} {c:η} (h:B4 n l) (hc:En n c) (p:Nat->Bool):B4 n (l.mapIdx λu x=>if p u then c else x):=λi=>by
 rw[ay,EO];have:=h i;rw[ay]at this;cases I:l[i]? with
 |none=>rw[I]at this;exact this
 |some x=>
  rw[I]at this;simp only[cr,vD];split
  .exact hc
  .exact this
theorem Yr {n:Int} {w:vh} {h:HS} (o:Q4 n h) (hn:n+1<=1000000) {e:EV} {c:η} (hc:En (n+1) c):Q4 (n+1) (io w h e c):=by
 have m:n<=n+1:=by omega
 have oT:B4 (n+1) (h.T.set e.th c):=(o.T.mono m).set hc _;have b:Q4 (n+1) {h with T:=h.T.set e.th c}:=⟨by have:=o.n0;omega,hn,oT,o.S.mono m,o.L.mono m,o.R.mono m,o.C.mono m,o.F.mono m,o.X.mono m,o.N.mono m,by simpa using o.lT,by simpa using o.lS,by simpa using o.lN,by simpa using o.lW,o.lL,o.lR,o.lC,o.lF⟩
 unfold io;simp only[];repeat' split
 .exact {b with S:=(o.S.mono m).set hc _,lS:=by simpa using b.lS}
 .exact {b with L:=(o.L.mono m).jat hc _,lL:=by simpa[jat] using b.lL,lR:=by simpa[jat] using b.lR}
 .exact {b with R:=(o.R.mono m).jat hc _,lR:=by simpa[jat] using b.lR}
 .exact {b with L:=(o.L.mono m).jat hc _,lL:=by simpa[jat] using b.lL,lR:=by simpa[jat] using b.lR,lW:=by simpa using b.lW}
 .exact {b with C:=(o.C.mono m).jat hc _,lC:=by simpa[jat] using b.lC}
 .exact b
 .exact {b with F:=(o.F.mono m).jat hc _,lF:=by simpa[jat] using b.lF}
 .exact {b with X:=(o.X.mono m).jl hc}
 .exact {b with N:=(o.N.mono m).set hc _,lN:=by simpa using b.lN,lW:=by simpa using b.lW}
 .exact b
 .exact {b with N:=(o.N.mono m).mapIdx hc _,lN:=by simpa[C5] using b.lN,lW:=by simpa[C5] using b.lW}
 .exact b
theorem aby {n:Int} {w:vh} {h:HS} (o:Q4 n h) (hn:n+1<=1000000) {e:EV} (he:e.th<4):Q4 (n+1) (Gi w h e).1:=Yr o hn (Lr o he)
theorem Xg {a b:Nat} (h:a=b):aC a b=ai:=by subst h;exact sx a
theorem S6 (l:List η) (i:Nat) (h:i<l.length):uo ((i:Int),l)=af (l.getD i [],l):=by
 unfold uo ck bA aZ aF;simp only[];rw[vQ (by omega)];simp only[c6,ju];rw[NL (by simp;omega)];simp only[c6];rw[cg (cY h),cg (cY h),l7]
theorem ut {n:Int} (l:List η) (i:Nat) (c:η) (h:i<l.length) (hl:B4 n l) (hc:En n c):lV ((i:Int),l,c)=af (jat l i c,c):=by
 unfold lV ck iY aZ aF;simp only[];rw[qV (by omega)];simp only[c5,ju];rw[uO (by simp;omega)];simp only[c5];rw[cg (cY h),cg (cY h),l7,UF _ _ (hl i).lb hc.lb,cO,cg (cY h),cg (cY h),eD];rfl
theorem r_ (l:List η) (i:Nat) (c:η):(jat l i c).length=l.length:=by simp[jat]
theorem XG {n:Int} (h:HS) (u:Nat) (c:η) (h1:u<h.N.length) (h2:u<h.W.length) (hc:En n c):wX ((u:Int),h.X,h.T,h.S,h.L,h.R,h.C,h.F,h.N,h.W,c)=af (h.X,h.T,h.S,h.L,h.R,h.C,h.F,h.N.set u c,h.W.set u (-1),c):=by
 unfold wX aX bf bu ch dC ja vC xG Prod.q10 ck;simp only[];rw[OK c hc.lb,cO,cg (cY h1),cg (cY h1),cg (cY h2),cg (cY h2),eD,eD]
theorem PW (I:WTc) (i:Nat):aK (T:=.st (.pr .str (.int .i64))) I (i:Int)=I.getD i ([],0):=s5 (T:=.st (.pr .str (.int .i64))) I i
theorem PU (I:List (ζ×Int×Int×Bool×Int)) (i:Nat):aK (T:=.st (.pr .str (.pr (.int .i64) (.pr (.int .i64) (.pr .bool (.int .i64)))))) I (i:Int)=I.getD i ([],0,0,aj,0):=s5 (T:=.st (.pr .str (.pr (.int .i64) (.pr (.int .i64) (.pr .bool (.int .i64)))))) I i
abbrev ETp:Type:=Int×Int×Int×Int×Int×η×η
structure EvT (e:EV) (x:ETp):Prop where
 th:x.1=(e.th:Int)
 k:x.2.1=(e.k:Int)
 ob:e.k∈[3,4,6,7,8,9,10,11,16,17,18,19,20,21,22,23]->x.2.2.1=(e.ob:Int)
 va:x.2.2.2.1=e.va
theorem Iz {k:Nat} {z:Int} (I:z=(k:Int)) (h1:1<=k) (h2:k<=23):(k=1/\z=1)\/(k=2/\z=2)\/(k=3/\z=3)\/(k=4/\z=4)\/(k=5/\z=5)\/(k=6/\z=6)\/(k=7/\z=7)\/(k=8/\z=8)\/(k=9/\z=9)\/(k=10/\z=10)\/(k=11/\z=11)\/(k=12/\z=12)\/(k=13/\z=13)\/(k=14/\z=14)\/(k=15/\z=15)\/(k=16/\z=16)\/(k=17/\z=17)\/(k=18/\z=18)\/(k=19/\z=19)\/(k=20/\z=20)\/(k=21/\z=21)\/(k=22/\z=22)\/(k=23/\z=23):=by
 have h:k=1\/k=2\/k=3\/k=4\/k=5\/k=6\/k=7\/k=8\/k=9\/k=10\/k=11\/k=12\/k=13\/k=14\/k=15\/k=16\/k=17\/k=18\/k=19\/k=20\/k=21\/k=22\/k=23:=by omega
 subst I;rcases h with rfl|rfl|rfl|rfl|rfl|rfl|rfl|rfl|rfl|rfl|rfl|rfl|rfl|rfl|rfl|rfl|rfl|rfl|rfl|rfl|rfl|rfl|rfl<;>simp
theorem Xf (a:Nat):(aC a a&&ai)=ai:=by rw[Xg rfl];rfl
theorem Ux {n:Int} {w:vh} {h:HS} (o:Q4 n h) {e:EV} (ok:EOK w h e) {x:ETp} (hx:EvT e x):r7 (x,h.X,w,h.T,h.S,h.L,h.R,h.C,h.F,h.N,h.W)=af (qw w h e,x,h.X,w,h.T,h.S,h.L,h.R,h.C,h.F,h.N,h.W):=by
 obtain⟨x1,x2,M,x4,x5,x6,x7⟩:=x;obtain⟨w1,w2,U,w4,w5,w6⟩:=w;obtain⟨th,k,ob,va⟩:=e;obtain⟨q1,Y,q3,q4⟩:=hx;simp only at q1 Y q3 q4;subst q1 q4;have t1:=ok.th;simp only at t1;have fS:eP (th:Int) h.S.length=ai:=cY (by rw[o.lS];exact t1);have fN:eP (th:Int) h.N.length=ai:=cY (by rw[o.lN];exact t1);have fT:k=21->eP (ob:Int) h.T.length=ai/\M=(ob:Int):=λe=>by
  subst e;have:=ok.sp (.inr rfl);exact⟨cY this,q3 (by decide)⟩
 have fL:(k=6\/k=10\/k=8)->eP (ob:Int) h.L.length=ai/\eP (ob:Int) h.R.length=ai/\M=(ob:Int):=λe=>by
  have h1:ob<h.L.length:=ok.lk (by rcases e with rfl|rfl|rfl<;>(simp only[];omega));exact⟨cY h1,cY (by rw[o.lR];exact h1),q3 (by rcases e with rfl|rfl|rfl<;>decide)⟩
 have fC:k=3->eP (ob:Int) h.C.length=ai/\M=(ob:Int):=λe=>by
  subst e;have:=(ok.ce (.inl rfl)).1;exact⟨cY this,q3 (by decide)⟩
 have fF:k=23->eP (ob:Int) h.F.length=ai/\M=(ob:Int):=λe=>by
  subst e;have:=ok.fu (.inr rfl);exact⟨cY this,q3 (by decide)⟩
 unfold r7 qw xF aX bf bu ch dC ja vC xG Prod.q10 L4 cN fg ck bd vp bE aF;rcases Iz Y ok.k1 ok.k2 with ⟨e,e'⟩|⟨e,e'⟩|⟨e,e'⟩|⟨e,e'⟩|⟨e,e'⟩|⟨e,e'⟩|⟨e,e'⟩|⟨e,e'⟩|⟨e,e'⟩|⟨e,e'⟩|⟨e,e'⟩|⟨e,e'⟩|⟨e,e'⟩|⟨e,e'⟩|⟨e,e'⟩|⟨e,e'⟩|⟨e,e'⟩|⟨e,e'⟩|⟨e,e'⟩|⟨e,e'⟩|⟨e,e'⟩|⟨e,e'⟩|⟨e,e'⟩<;>clear Y<;>subst e<;>subst e'
 case inr.inr.inr.inr.inr.inr.inr.inr.inr.inr.inr.inr.inr.inr.inr.inr.inl=>
  have q3:=q3 (by decide);subst q3;obtain⟨d1,d2,Z⟩:=ok.cd (.inr rfl);simp only at d1 d2 Z;have d4:Pj U ob<h.R.length:=by rw[o.lR];exact Z
  have e1:(U.getD ob ([],0)).2=((Pj U ob:Nat):Int):=by unfold Pj;omega
  simp only[aV,cD,cS,c5,c6,ju,cg,cY d1,PW,e1,S6 _ _ Z,S6 _ _ d4,cO,Xf,fN,l7];rfl
 case inr.inr.inl=>
  obtain⟨I,rfl⟩:=fC rfl;simp only[aV,cD,cS,c5,c6,ju,cg,I,l7];rfl
 case inr.inr.inr.inr.inr.inr.inr.inr.inr.inr.inr.inr.inr.inr.inr.inr.inr.inr.inr.inr.inr.inr=>
  obtain⟨I,rfl⟩:=fF rfl;simp only[aV,cD,cS,c5,c6,ju,cg,I,l7];rfl
 case inr.inr.inr.inr.inr.inr.inr.inr.inr.inr.inr.inr.inr.inr.inr.inr.inr.inr.inr.inr.inl=>
  obtain⟨I,rfl⟩:=fT rfl;simp only[aV,cD,cS,c5,c6,ju,cg,I,l7];rfl
 case inl=>
  simp only[aV,cD,cS,c5,c6,ju,cg,fS,l7];rfl
 case inr.inr.inr.inr.inr.inl=>
  obtain⟨I,J,rfl⟩:=fL (by decide);simp only[aV,cD,cS,c5,c6,ju,cg,I,J,l7];rfl
 case inr.inr.inr.inr.inr.inr.inr.inr.inr.inl=>
  obtain⟨I,J,rfl⟩:=fL (by decide);simp only[aV,cD,cS,c5,c6,ju,cg,I,J,l7];rfl
 case inr.inr.inr.inr.inr.inr.inr.inl=>
  obtain⟨I,J,rfl⟩:=fL (by decide);simp only[aV,cD,cS,c5,c6,ju,cg,I,J,l7];rfl
 all_goals
  simp only[aV,cD,cS,c5,c6,ju];rfl
theorem Fk {σ R:Type} {f:σ->Option (σ⊕R)} {x0:σ} {r:R} (n:Nat) (hn:n<18446744073709551616) (st:Nat->σ) (I:x0=st 0) (h0:∀i,i<n->f (st i)=af (.inl (st (i+1)))) (h1:f (st n)=af (.inr r)):gh f x0=af r:=by
 subst I;exact w_ n hn st h0 h1
def L9 {α:Type} (p:Nat->Bool) (c:α) (u:Nat) (l:List α):List α:=l.mapIdx λk x=>if decide (k<u)&&p k then c else x
theorem abn {α:Type} (p:Nat->Bool) (c:α) (l:List α):L9 p c 0 l=l:=by
 unfold L9;apply dJ
 .simp
 .intro i h1 h2;simp
theorem I0 {α:Type} (p:Nat->Bool) (c:α) (u:Nat) (l:List α):(L9 p c u l).length=l.length:=by simp[L9]
theorem Rg {α:Type} (p:Nat->Bool) (c:α) (u:Nat) (l:List α) (h:l.length<=u):L9 p c u l=l.mapIdx λk x=>if p k then c else x:=by
 unfold L9;apply dJ
 .simp
 .intro i h1 h2;simp only[List.length_mapIdx]at h1;simp only[List.getElem_mapIdx];rw[show decide (i<u)=ai from aQ (by omega)];rfl
theorem XA {α:Type} (p:Nat->Bool) (c:α) (u:Nat) (l:List α) (hp:p u=ai):(L9 p c u l).set u c=L9 p c (u+1) l:=by
 unfold L9;apply dJ
 .simp
 .intro i h1 h2;simp only[vG,List.getElem_mapIdx];by_cases e:u=i
  .subst e;simp[hp]
  .rw[aA e];by_cases h:i<u
   .rw[aQ h,aQ (show i<u+1 by omega)]
   .rw[bw h,bw (show ¬i<u+1 by omega)]
theorem Rf {α:Type} (p:Nat->Bool) (c:α) (u:Nat) (l:List α) (hp:p u=aj):L9 p c u l=L9 p c (u+1) l:=by
 unfold L9;apply dJ
 .simp
 .intro i h1 h2;simp only[List.getElem_mapIdx];by_cases e:u=i
  .subst e;simp[hp]
  .by_cases h:i<u
   .rw[aQ h,aQ (show i<u+1 by omega)]
   .rw[bw h,bw (show ¬i<u+1 by omega)]
theorem akb (p:Nat->Bool) (c:Int) (u:Nat) (l:η):(L9 p c u l).getD u 0=l.getD u 0:=by
 unfold L9;rw[ay,EO,ay];cases l[u]? with
 |none=>rfl
 |some x=>simp
def HS.e (h:HS) (c:η):η×List η×List η×List η×List η×List η×List η×List η×η×η:=(h.X,h.T,h.S,h.L,h.R,h.C,h.F,h.N,h.W,c)
theorem S7 {n:Int} {w:vh} {h:HS} (o:Q4 n h) (hn:n+1<=1000000) {e:EV} (ok:EOK w h e) {x:ETp} (hx:EvT e x) {c:η} (hc:En (n+1) c):qi ((w,x),h.e c)=af ((io w h e c).e c):=by
 obtain⟨x1,x2,x3,I,x5,x6,x7⟩:=x;obtain⟨J,w2,M,w4,w5,w6⟩:=w;obtain⟨th,k,ob,va⟩:=e;obtain⟨q1,q2,q3,q4⟩:=hx;simp only at q1 q2 q3 q4;subst q1 q4;have t1:=ok.th;simp only at t1;have m:n<=n+1:=by omega
 have fT:eP (th:Int) h.T.length=ai:=cY t1;have fW:eP (th:Int) h.W.length=ai:=cY (by rw[o.lW];exact t1);have cl:=OK c hc.lb;unfold qi AT HS.e xF EM Prod.p12 Prod.p13 Prod.p14 Prod.p15 Prod.p16 Prod.p17 aX bf bu ch dC ja vC xG Prod.q10 Prod.q16 Prod.q17 Prod.q18 cN kP OO ck bd bA iY vp bE aZ cK aF cH;rcases Iz q2 ok.k1 ok.k2 with ⟨e,e'⟩|⟨e,e'⟩|⟨e,e'⟩|⟨e,e'⟩|⟨e,e'⟩|⟨e,e'⟩|⟨e,e'⟩|⟨e,e'⟩|⟨e,e'⟩|⟨e,e'⟩|⟨e,e'⟩|⟨e,e'⟩|⟨e,e'⟩|⟨e,e'⟩|⟨e,e'⟩|⟨e,e'⟩|⟨e,e'⟩|⟨e,e'⟩|⟨e,e'⟩|⟨e,e'⟩|⟨e,e'⟩|⟨e,e'⟩|⟨e,e'⟩<;>clear q2<;>subst e<;>subst e'
 case inr.inr.inr.inr.inr.inr.inr.inr.inr.inr.inr.inr.inr.inr.inr.inr.inr.inr.inr.inl=>
  obtain rfl:=q3 (by decide);have f:eP (ob:Int) h.S.length=ai:=cY (by rw[o.lS];exact ok.sp (.inl rfl));simp only[aV,cD,cS,c5,c6,ju,cO,cg,cl,fT,f,eD];rfl
 case inr.inr.inr.inr.inr.inr.inl=>
  obtain rfl:=q3 (by decide);have f:ob<h.L.length:=ok.lk (by simp only[];omega);simp only[aV,cD,cS,c5,c6,ju,cO,cg,cl,fT,eD,ut _ _ _ f (o.L.mono m) hc,r_,Xf];rfl
 case inr.inr.inr.inr.inr.inr.inr.inr.inr.inr.inl=>
  obtain rfl:=q3 (by decide);have f:ob<h.L.length:=ok.lk (by simp only[];omega);simp only[aV,cD,cS,c5,c6,ju,cO,cg,cl,fT,eD,ut _ _ _ f (o.L.mono m) hc,r_,Xf];rfl
 case inr.inr.inr.inr.inr.inr.inr.inr.inl=>
  obtain rfl:=q3 (by decide);have f:ob<h.R.length:=by rw[o.lR];exact ok.lk (by simp only[];omega)
  simp only[aV,cD,cS,c5,c6,ju,cO,cg,cl,fT,eD,ut _ _ _ f (o.R.mono m) hc,r_,Xf];rfl
 case inr.inr.inr.inr.inr.inr.inr.inr.inr.inr.inr.inr.inr.inr.inr.inl=>
  obtain rfl:=q3 (by decide);obtain⟨Y,Z,d3⟩:=ok.cd (.inl rfl);simp only at Y Z d3;have e1:(M.getD ob ([],0)).2=((Pj M ob:Nat):Int):=by unfold Pj;omega
  simp only[aV,cD,cS,c5,c6,ju,cO,cg,cl,fT,fW,eD,cY Y,PW,e1,ut _ _ _ d3 (o.L.mono m) hc,r_,Xf];rfl
 case inr.inr.inr.inl=>
  obtain rfl:=q3 (by decide);obtain⟨Y,Z⟩:=ok.ce (.inr rfl);simp only at Y Z;simp only[aV,cD,cS,c5,c6,ju,cO,cg,cl,fT,eD,cY Z,PU];cases hv:(J.getD ob ([],0,0,aj,0)).2.2.2.1 with
  |true=>
   simp only[c5,cO,cg,ut _ _ _ Y (o.C.mono m) hc,r_,Xf,ju];have U:io (J,w2,M,w4,w5,w6) h ⟨th,4,ob,I⟩ c=if zo J ob then {h with T:=h.T.set th c,C:=jat h.C ob c} else {h with T:=h.T.set th c}:=rfl
   rw[U,show zo J ob=ai from hv];rfl
  |false=>
   simp only[c6,ju];have U:io (J,w2,M,w4,w5,w6) h ⟨th,4,ob,I⟩ c=if zo J ob then {h with T:=h.T.set th c,C:=jat h.C ob c} else {h with T:=h.T.set th c}:=rfl
   rw[U,show zo J ob=aj from hv];rfl
 case inr.inr.inr.inr.inr.inr.inr.inr.inr.inr.inr.inr.inr.inr.inr.inr.inr.inr.inr.inr.inr.inl=>
  obtain rfl:=q3 (by decide);have f:ob<h.F.length:=ok.fu (.inl rfl);simp only[aV,cD,cS,c5,c6,ju,cO,cg,cl,fT,eD,ut _ _ _ f (o.F.mono m) hc,r_,Xf];rfl
 case inr.inr.inr.inr.inr.inr.inr.inr.inr.inr.inr.inr.inl=>
  simp only[aV,cD,cS,c5,c6,ju,cO,cg,cl,fT,eD,UF _ _ (o.X.mono m).lb hc.lb];rfl
 case inr.inr.inr.inr.inr.inr.inr.inr.inr.inr.inr.inr.inr.inr.inr.inr.inr.inl=>
  simp only[aV,cD,cS,c5,c6,ju,cO,cg,cl,fT,eD];have U:io (J,w2,M,w4,w5,w6) h ⟨th,18,ob,I⟩ c=if 0<=I/\I<h.N.length then {h with T:=h.T.set th c,N:=h.N.set I.toNat c,W:=h.W.set I.toNat (-1)} else {h with T:=h.T.set th c}:=rfl
  rw[U];by_cases h0:0<=I
  .by_cases h1:I<h.N.length
   .rw[qV h0];simp only[c5,ju];rw[uO (show I<aP h.N.length from h1)];obtain⟨v,rfl⟩:∃v:Nat,I=(v:Int):=⟨I.toNat,by omega⟩
    have v1:v<h.N.length:=by omega
    have v2:v<h.W.length:=by rw[o.lW,<-o.lN];exact v1
    have:=XG {h with T:=h.T.set th c} v c v1 v2 hc;simp only[]at this;simp only[c5,this,cO,tu,cg,Xg rfl,iW,ju];rw[aD ⟨h0,h1⟩];rfl
   .rw[qV h0];simp only[c5,ju];rw[vQ (show aP h.N.length<=I from CX.1 h1)];simp only[c6,ju];rw[aA (λq=>h1 q.2)]
  .rw[NL (by omega)];simp only[c6,ju];rw[aA (λq=>h0 q.1)]
 case inr.inr.inr.inr.inr.inr.inr.inr.inr.inr.inr.inr.inr.inr.inr.inr.inr.inr.inl=>
  obtain rfl:=q3 (by decide);simp only[aV,cD,cS,c5,c6,ju,cO,cg,cl,fT,eD];rw[Fk (r:=bO (h.X,h.T.set th c,h.S,h.L,h.R,h.C,h.F,L9 (λu=>decide (h.W.getD u 0=(ob:Int))) c h.W.length h.N,L9 (λu=>decide (h.W.getD u 0=(ob:Int))) (-1) h.W.length h.W,c)) h.W.length (by have:=o.lW;have:=o.lT;omega)
   (λi=>((i:Int),h.X,h.T.set th c,h.S,h.L,h.R,h.C,h.F,L9 (λu=>decide (h.W.getD u 0=(ob:Int))) c i h.N,L9 (λu=>decide (h.W.getD u 0=(ob:Int))) (-1) i h.W,c,(th:Int),(19:Int),(ob:Int),I,x5,x6,x7)) ?_ ?_ ?_]
  .simp only[ju];rw[Rg _ _ _ h.W (bV _),Rg _ _ _ h.N (by rw[o.lN,o.lW];exact bV _)];rfl
  .simp only[abn];rfl
  .intro i hi;simp only[];have hN:i<(L9 (λu=>decide (h.W.getD u 0=(ob:Int))) c i h.N).length:=by rw[I0,o.lN,<-o.lW];exact hi
   have hW:i<(L9 (λu=>decide (h.W.getD u 0=(ob:Int))) (-1) i h.W).length:=by rw[I0];exact hi
   rw[uO (by simp;omega),c5,cg (cY hW),cg (cY hW),akv,akb];have ws:=qd hi (show h.W.length<=1099511627776 by have:=o.lW;have:=o.lT;omega);by_cases hp:h.W.getD i 0=(ob:Int)
   .rw[aQ hp,c5];have:=XG {h with T:=h.T.set th c,N:=L9 (λu=>decide (h.W.getD u 0=(ob:Int))) c i h.N,W:=L9 (λu=>decide (h.W.getD u 0=(ob:Int))) (-1) i h.W} i c hN hW hc;simp only[]at this;rw[this,cO,cg (by simp only[tu,Xg rfl,iW]),ju,ws,XA _ _ _ _ (aQ hp),XA _ _ _ _ (aQ hp)]
   .rw[bw hp,c6,ju,ws,<-Rf _ _ _ _ (bw hp),<-Rf _ _ _ _ (bw hp)]
  .simp only[];rw[vQ (by simp),c6]
 all_goals
  simp only[aV,cD,cS,c5,c6,ju,cO,cg,cl,fT,eD];rfl
theorem Ke (l:List η) (c:η) (i:Nat) (hi:i<l.length):(l.take (i+1)).foldl jl c=jl ((l.take i).foldl jl c) (l.getD i []):=by
 rw[List.take_add_one,dV,aB hi,ay,aB hi];rfl
theorem Gj (w:vh) (h:HS) (e:EV):(qw w h e).length<=3:=by
 unfold qw;repeat' split
 all_goals simp
theorem ae3 {n:Int} {w:vh} {h:HS} (o:Q4 n h) (e:EV) (i:Nat):0<=((qw w h e).foldl jl (h.T.getD e.th [])).getD i 0/\((qw w h e).foldl jl (h.T.getD e.th [])).getD i 0<9223372036854775807:=by
 have:=(yk _ _ (o.T e.th) (O1 (w:=w) o e)).2 i;have:=o.n1;omega
theorem vX (w:vh) (h:HS) (e:EV) (c:η):(io w h e c).T.length=h.T.length/\(io w h e c).S.length=h.S.length/\(io w h e c).L.length=h.L.length/\(io w h e c).R.length=h.R.length/\(io w h e c).C.length=h.C.length/\(io w h e c).F.length=h.F.length/\(io w h e c).N.length=h.N.length/\(io w h e c).W.length=h.W.length:=by
 unfold io;simp only[];repeat' split
 all_goals simp[jat,C5]
theorem ai6 {n:Int} {w:vh} {h:HS} (o:Q4 n h) (hn:n+1<=1000000) {e:EV} (ok:EOK w h e) {x:ETp} (hx:EvT e x):sY (w,h.t,x)=af ((Gi w h e).1.t,(Gi w h e).2):=by
 have s2:=Ux o ok hx;have hce:En (n+1) (uh w h e):=Lr o ok.th4;have en:=S7 o hn ok hx hce;have cp:=Ox h.t o.GH;have sl:=Gj w h e;have sE:=O1 (w:=w) o e;have hlen:=vX w h e (uh w h e);obtain⟨x1,x2,x3,x4,x5,x6,x7⟩:=x;obtain⟨Z,Y,U,M,J,I⟩:=w;have t1:=hx.th;simp only at t1;subst t1;unfold HS.t at cp;simp only[]at cp;have fT:eP (e.th:Int) h.T.length=ai:=cY ok.th;unfold sY DL HS.t xF EM aX bf bu ch dC ja vC xG L4 Prod.q12 cN fg nZ OO ck bA vp bE aZ cK cH;simp only[];rw[cp,cO];simp only[];rw[cg fT,cg fT,s2,cO];simp only[];rw[cg (by simp only[Xg rfl,iW])];refine Fk (qw (Z,Y,U,M,J,I) h e).length (by omega) (λi=>((i:Int),(Z,Y,U,M,J,I),((e.th:Int),x2,x3,x4,x5,x6,x7),h.X,((qw (Z,Y,U,M,J,I) h e).take i).foldl jl (h.T.getD e.th []),h.T,h.S,h.L,h.R,h.C,h.F,h.N,h.W)) ?_ ?_ ?_
 .simp only[l7,L6,List.foldl_nil];rfl
 .intro i hi;simp only[];rw[uO (by simp;omega),c5,cg (cY hi),l7,(yk _ _ (o.T e.th) (λy hy=>sE y (gj hy))).join (sE _ (DN hi)),cO,qd hi (by omega),Ke _ _ _ hi]
 .simp only[];rw[vQ (by simp),c6,fw (bV _)];have hl:=ae3 (w:=(Z,Y,U,M,J,I)) o e e.th;rw[YT _ e.th (yk _ _ (o.T e.th) sE).lb ok.th4 hl.1 hl.2,cO];unfold HS.e at en;unfold uh at en hlen;rw[en,cO];simp only[];rw[cg (by rw[hlen.1,hlen.2.1,hlen.2.2.1,hlen.2.2.2.1,hlen.2.2.2.2.1,hlen.2.2.2.2.2.1,hlen.2.2.2.2.2.2.1,hlen.2.2.2.2.2.2.2];simp only[Xg rfl,iW])];rfl
abbrev wI:Ty:=(.st (.pr (.int .i64) (.sl (.st (.pr (.int .i64) (.pr (.int .i64) (.pr (.int .i64) (.pr (.int .i64) (.pr (.int .i64) (.int .i64))))))))))
abbrev B':Ty:=(.st (.pr (.int .i64) (.pr (.int .i64) (.pr (.int .i64) (.pr (.int .i64) (.pr (.int .i64) (.int .i64)))))))
abbrev vn:Ty:=(.st (.pr (.int .i64) (.pr (.sl (.int .i64)) (.pr (.sl (.sl (.int .i64))) (.int .i64)))))
abbrev zD:Ty:=(.st (.pr .str (.pr (.int .i64) (.pr (.sl .str) (.sl .sm)))))
abbrev tDc:Ty:=(.st (.pr (.int .i64) (.pr (.int .i64) (.pr .str (.pr (.int .i64) (.pr (.int .i64) .str))))))
abbrev tE:Ty:=(.st (.pr (.int .i64) (.pr (.int .i64) (.pr (.int .i64) (.pr (.int .i64) (.pr (.int .i64) (.pr (.sl (.int .i64)) (.sl (.int .i64)))))))))
abbrev U8:Ty:=(.st (.pr .str .bool))
abbrev Q6:Ty:=(.st (.pr .str (.pr (.int .i64) (.pr (.int .i64) (.pr .bool (.int .i64))))))
abbrev yI:Ty:=(.st (.pr (.int .i64) (.pr (.int .i64) (.int .i64))))
abbrev UX:Ty:=(.st (.pr .str (.int .i64)))
abbrev Bb:Ty:=(.st (.pr (.int .i64) (.sl (.int .i64))))
abbrev jJ:Ty:=(.st (.pr (.int .i64) (.pr (.int .i64) .bool)))
def Ok {R:Type} (o:Option R) (Q:R->Prop):Prop:=∃y,o=af y/\Q y
theorem Ok.mono {R:Type} {o:Option R} {Q Q':R->Prop} (h:Ok o Q) (hq:∀y,Q y->Q' y):Ok o Q':=by obtain⟨y,h1,h2⟩:=h;exact⟨y,h1,hq y h2⟩
theorem ar {R:Type} {y:R} {Q:R->Prop} (h:Q y):Ok (af y) Q:=⟨y,rfl,h⟩
theorem ajb {R:Type} {o:Option R} {y:R} {Q:R->Prop} (e:o=af y) (h:Q y):Ok o Q:=⟨y,e,h⟩
theorem bh {R:Type} {b:Bool} {k:Option R} {Q:R->Prop} (h:b=ai) (hk:Ok k Q):Ok (chk b λ_=>k) Q:=by subst h;exact hk
theorem aO {R:Type} {b:Bool} {t f:Option R} {Q:R->Prop} (ht:b=ai->Ok t Q) (hf:b=aj->Ok f Q):Ok (bcase b t f) Q:=by
 cases b with
 |true=>exact ht rfl
 |false=>exact hf rfl
theorem fO {R:Type} {b:Bool} {t f:Option R} {Q:R->Prop} (h:b=ai) (ht:Ok t Q):Ok (bcase b t f) Q:=by subst h;exact ht
theorem fP {R:Type} {b:Bool} {t f:Option R} {Q:R->Prop} (h:b=aj) (hf:Ok f Q):Ok (bcase b t f) Q:=by subst h;exact hf
theorem ax {α R:Type} {o:Option α} {k:α->Option R} {P:α->Prop} {Q:R->Prop} (h:Ok o P) (hk:∀x,P x->Ok (k x) Q):Ok (obind o k) Q:=by
 obtain⟨x,rfl,I⟩:=h;exact hk x I
theorem aU {α R:Type} {o:Option α} {k:α->Option R} {x:α} {Q:R->Prop} (h:o=af x) (hk:Ok (k x) Q):Ok (obind o k) Q:=by subst h;exact hk
theorem aR {α R:Type} {x:α} {k:α->Option R} {Q:R->Prop} (h:Ok (k x) Q):Ok (lt x k) Q:=h
theorem aY {α R:Type} {o:Option (R⊕α)} {k:α->Option R} {Q:R->Prop} (P:α->Prop) (h:Ok o λr=>match r with|.inl r=>Q r|.inr x=>P x) (hk:∀x,P x->Ok (k x) Q):Ok (jn o k) Q:=by
 obtain⟨r,rfl,hr⟩:=h;cases r with
 |inl r=>exact⟨r,rfl,hr⟩
 |inr x=>exact hk x hr
theorem gF {α R:Type} {o:Option (R⊕α)} {k:α->Option R} {Q:R->Prop} (h:Ok o λr=>match r with|.inl r=>Q r|.inr x=>Ok (k x) Q):Ok (jn o k) Q:=aY (λx=>Ok (k x) Q) h λ_ h=>h
theorem agd {α R:Type} {a b:α} {r:Option R} {Q:R->Prop} (e:a=b) (h:Ok r Q):Ok (same a b r) Q:=by unfold same;rw[aD e];exact h
theorem qF {σ R:Type} {f:σ->Option (σ⊕R)} {Q:R->Prop} (μ:σ->Nat) (I:σ->Prop) (h:∀x,I x->Ok (f x) λr=>match r with|.inl y=>I y/\μ y<μ x|.inr r=>Q r) {x:σ} (J:I x):Ok (iter f x) Q:=by
 have key:∀n x,μ x<n->I x->∃m r,iterN f m x=af r/\Q r:=by
  intro n;induction n with
  |zero=>intro x hm;omega
  |succ n M=>
   intro x hm J;obtain⟨r,h1,h2⟩:=h x J;cases r with
   |inl y=>
    obtain⟨m,r,Y,U⟩:=M y (by have:=h2.2;omega) h2.1;exact⟨m+1,r,by rw[iterN,h1];exact Y,U⟩
   |inr r=>exact⟨1,r,by rw[iterN,h1],h2⟩
 obtain⟨m,r,h1,h2⟩:=key (μ x+1) x (rx _) J;exact⟨r,zR h1,h2⟩
theorem b8 {σ R:Type} {f:σ->Option (σ⊕R)} {Q:R->Prop} (n:Nat) (I:Nat->σ->Prop) (h0:∀i x,i<n->I i x->Ok (f x) λr=>match r with|.inl y=>I (i+1) y|.inr r=>Q r) (h1:∀x,I n x->Ok (f x) λr=>match r with|.inl _=>False|.inr r=>Q r) {x:σ} (U:I 0 x):Ok (iter f x) Q:=by
 have key:∀m i x,i+m=n->I i x->∃k r,iterN f k x=af r/\Q r:=by
  intro m;induction m with
  |zero=>
   intro i x hi U;have:i=n:=by omega
   subst this;obtain⟨r,M,J⟩:=h1 x U;cases r with
   |inl y=>exact J.elim
   |inr r=>exact⟨1,r,by rw[iterN,M],J⟩
  |succ m Y=>
   intro i x hi U;obtain⟨r,M,J⟩:=h0 i x (by omega) U;cases r with
   |inl y=>
    obtain⟨k,r,g3,Z⟩:=Y (i+1) y (by omega) J;exact⟨k+1,r,by rw[iterN,M];exact g3,Z⟩
   |inr r=>exact⟨1,r,by rw[iterN,M],J⟩
 obtain⟨m,r,M,J⟩:=key n 0 x (by omega) U;exact⟨r,zR M,J⟩
def itQ {σ R:Type} (f:σ->Option (σ⊕R)) (Q:R->Prop):σ⊕R->Prop
 |.inl y=>Ok (iter f y) Q
 |.inr r=>Q r
def jnQ {α R:Type} (k:α->Option R) (Q:R->Prop):R⊕α->Prop
 |.inl r=>Q r
 |.inr x=>Ok (k x) Q
theorem agc {σ R:Type} {f:σ->Option (σ⊕R)} {x:σ} {Q:R->Prop} (h:Ok (f x) (itQ f Q)):Ok (iter f x) Q:=by
 obtain⟨r,h1,h2⟩:=h;cases r with
 |inr r=>exact⟨r,zR (n:=1) (by rw[iterN,h1]),h2⟩
 |inl y=>
  obtain⟨z,I,J⟩:=h2;unfold iter at I;split at I
  .exact⟨z,zR (n:=_+1) (by rw[iterN,h1];exact I),J⟩
  .cases I
theorem X4 {σ R:Type} {f:σ->Option (σ⊕R)} {y:σ} {Q:R->Prop} (h:Ok (iter f y) Q):Ok (af (.inl y)) (itQ f Q):=⟨_,rfl,h⟩
theorem X3 {σ R:Type} {f:σ->Option (σ⊕R)} {r:R} {Q:R->Prop} (h:Ok (af r) Q):Ok (af (.inr r)) (itQ f Q):=by
 obtain⟨_,h1,h2⟩:=h;cases h1;exact⟨_,rfl,h2⟩
theorem RM {α R:Type} {o:Option (R⊕α)} {k:α->Option R} {Q:R->Prop} (h:Ok o (jnQ k Q)):Ok (jn o k) Q:=by
 obtain⟨r,rfl,hr⟩:=h;cases r with
 |inl r=>exact⟨r,rfl,hr⟩
 |inr x=>exact hr
theorem X2 {α R:Type} {r:R} {k:α->Option R} {Q:R->Prop} (h:Ok (af r) Q):Ok (af (.inl r)) (jnQ k Q):=by
 obtain⟨_,h1,h2⟩:=h;cases h1;exact⟨_,rfl,h2⟩
theorem X1 {α R:Type} {x:α} {k:α->Option R} {Q:R->Prop} (h:Ok (k x) Q):Ok (af (.inr x)) (jnQ k Q):=⟨_,rfl,h⟩
def oQ {α R:Type} (k:α->Option R) (Q:R->Prop) (x:α):Prop:=Ok (k x) Q
theorem RL {α R:Type} {o:Option α} {k:α->Option R} {Q:R->Prop} (h:Ok o (oQ k Q)):Ok (obind o k) Q:=ax h λ_ h=>h
theorem RK {α R:Type} {x:α} {k:α->Option R} {Q:R->Prop} (h:Ok (k x) Q):Ok (af x) (oQ k Q):=⟨_,rfl,h⟩
theorem agt {j:Int} {n:Nat}:eP j n=ai↔0<=j/\j<n:=by simp[eP,c_,gf]
theorem Pt {a b:Int}:c_ a b=ai↔a<=b:=by simp[c_]
theorem ud {a b:Int}:gf a b=ai↔a<b:=by simp[gf]
theorem gx {a b:Int}:gf a b=aj↔b<=a:=by simp[gf]
theorem ml {a b:Int}:c_ a b=aj↔b<a:=by simp[c_]
theorem Y8 {n b:Nat}:a8 n b=ai↔n<=1099511627776/\n*b<=1099511627776:=by simp[a8]
theorem ct {R:Type} {o:Option R} {v:R} (h:Ok o (·=v)):o=af v:=by obtain⟨y,h1,h2⟩:=h;rw[h1,h2]
section steps
variable {R:Type} {k t f:Option R} {Q:R->Prop}
theorem aS {j:Int} {n:Nat} (h0:0<=j) (h1:j<n) (hk:Ok k Q):Ok (chk (eP j n) λ_=>k) Q:=bh (agt.2 ⟨h0,h1⟩) hk
theorem bg {n b:Nat} (h0:n<=1073741824) (h1:b<=1024) (hk:Ok k Q):Ok (chk (a8 n b) λ_=>k) Q:=
 bh (Y8.2 ⟨by omega,du (Nat.mul_le_mul h0 h1) (by omega)⟩) hk
theorem dc {a b:Bool} (h:Ok (chk a λ_=>chk b λ_=>k) Q):Ok (chk (a&&b) λ_=>k) Q:=by
 cases a with
 |true=>exact h
 |false=>obtain⟨y,h,_⟩:=h;cases h
theorem dN {a b:Int} (h:a<=b) (hk:Ok k Q):Ok (chk (c_ a b) λ_=>k) Q:=bh (Pt.2 h) hk
theorem AL {a b:Int} (h:a<b) (hk:Ok k Q):Ok (chk (gf a b) λ_=>k) Q:=bh (ud.2 h) hk
theorem X5 {p:Prop} {i:Decidable p} (h:p) (hk:Ok k Q):Ok (chk (decide p) λ_=>k) Q:=bh (aQ h) hk
theorem zJ {p:Prop} {i:Decidable p} (h:¬p) (hk:Ok k Q):Ok (chk (!decide p) λ_=>k) Q:=bh (by simp[h]) hk
theorem lO {a b:Nat} (h:a=b) (hk:Ok k Q):Ok (chk (aC a b) λ_=>k) Q:=bh (by subst h;exact sx a) hk
theorem Bv (hk:Ok k Q):Ok (chk ai λ_=>k) Q:=hk
theorem bJ {a b:Int} (ht:a<b->Ok t Q) (hf:b<=a->Ok f Q):Ok (bcase (gf a b) t f) Q:=aO (λh=>ht (ud.1 h)) (λh=>hf (gx.1 h))
theorem e_ {a b:Int} (ht:a<=b->Ok t Q) (hf:b<a->Ok f Q):Ok (bcase (c_ a b) t f) Q:=aO (λh=>ht (Pt.1 h)) (λh=>hf (ml.1 h))
theorem aJ {p:Prop} {i:Decidable p} (ht:p->Ok t Q) (hf:¬p->Ok f Q):Ok (bcase (decide p) t f) Q:=aO (λh=>ht (bi h)) (λh=>hf (U1 h))
theorem b_ {p:Prop} {i:Decidable p} (ht:¬p->Ok t Q) (hf:p->Ok f Q):Ok (bcase (!decide p) t f) Q:=aO (λh=>ht (by simpa using h)) (λh=>hf (by simpa using h))
theorem dW {b:Bool} (ht:b=aj->Ok t Q) (hf:b=ai->Ok f Q):Ok (bcase (!b) t f) Q:=aO (λh=>ht (by simpa using h)) (λh=>hf (by simpa using h))
theorem RN (ht:Ok t Q):Ok (bcase ai t f) Q:=ht
theorem gw (hf:Ok f Q):Ok (bcase aj t f) Q:=hf
theorem bZ {j:Int} {n:Nat} (hk:Ok k Q) (h0:0<=j:=by first|omega|(dsimp only;omega)) (h1:j<n:=by first|omega|(dsimp only;omega)):Ok (chk (eP j n) λ_=>k) Q:=aS h0 h1 hk
theorem di {a b:Int} (ht:Ok t Q) (h:a<b:=by first|omega|(dsimp only[au];omega)):Ok (bcase (gf a b) t f) Q:=bJ (λ_=>ht) λg=>cX h (CX.2 g)
theorem dj {a b:Int} (hf:Ok f Q) (h:b<=a:=by first|omega|(dsimp only[au];omega)):Ok (bcase (gf a b) t f) Q:=bJ (λg=>cX g (CX.2 h)) λ_=>hf
end steps
theorem rD:(∀(p:Prop) [Decidable p],(decide p=ai)=p)/\(∀p:Prop,(True\/p)=True)/\(∀p:Prop,(p\/True)=True)/\(∀p:Prop,(True->p)=p)/\(∀p:Prop,(True/\p)=p)/\∀p:Prop,(p/\True)=p:=⟨λ_=>be,true_or,or_true,λ_=>true_implies _,B8,and_true⟩
theorem tO:(∀i:Decidable True,@decide True i=ai)/\(∀i:Decidable False,@decide False i=aj)/\(∀{R:Type} (t f:Option R),bcase ai t f=t)/\(∀{R:Type} (t f:Option R),bcase aj t f=f)/\(∀{α R:Type} (x:α) (k:α->Option R),jn (af (.inr x)) k=k x)/\(∀{α R:Type} (r:R) (k:α->Option R),jn (af (.inl r)) k=af r)/\(∀{α R:Type} (x:α) (k:α->Option R),obind (af x) k=k x)/\(∀{α R:Type} (x:α) (k:α->Option R),lt x k=k x)/\(!ai)=aj/\(!aj)=ai:=⟨cS,cD,λ_ _=>rfl,λ_ _=>rfl,λ_ _=>rfl,λ_ _=>rfl,λ_ _=>rfl,λ_ _=>rfl,rfl,rfl⟩
structure IM (p q:Prop):Prop where
 h:p->q
inductive OS {R:Type}:Option R->(R->Prop)->Prop where
 |cand {a b:Bool} {k:Option R} {Q:R->Prop} (h:Ok (chk a λ_=>chk b λ_=>k) Q):OS (chk (a&&b) λ_=>k) Q
 |eP {j:Int} {n:Nat} {k:Option R} {Q:R->Prop} (h0:0<=j) (h1:j<n) (hk:Ok k Q):OS (chk (eP j n) λ_=>k) Q
 |room {n b:Nat} {k:Option R} {Q:R->Prop} (h0:n<=1073741824) (h1:b<=1024) (hk:Ok k Q):OS (chk (a8 n b) λ_=>k) Q
 |cile {a b:Int} {k:Option R} {Q:R->Prop} (h:a<=b) (hk:Ok k Q):OS (chk (c_ a b) λ_=>k) Q
 |cilt {a b:Int} {k:Option R} {Q:R->Prop} (h:a<b) (hk:Ok k Q):OS (chk (gf a b) λ_=>k) Q
 |cdec {p:Prop} {i:Decidable p} {k:Option R} {Q:R->Prop} (h:p) (hk:Ok k Q):OS (chk (decide p) λ_=>k) Q
 |cndec {p:Prop} {i:Decidable p} {k:Option R} {Q:R->Prop} (h:¬p) (hk:Ok k Q):OS (chk (!decide p) λ_=>k) Q
 |cbeq {a b:Nat} {k:Option R} {Q:R->Prop} (h:a=b) (hk:Ok k Q):OS (chk (aC a b) λ_=>k) Q
 |cT {k:Option R} {Q:R->Prop} (hk:Ok k Q):OS (chk ai λ_=>k) Q
 |lt {α:Type} {x:α} {k:α->Option R} {Q:R->Prop} (h:Ok (k x) Q):OS (lt x k) Q
 |b1 {t f:Option R} {Q:R->Prop} (h:Ok t Q):OS (bcase ai t f) Q
 |b0 {t f:Option R} {Q:R->Prop} (h:Ok f Q):OS (bcase aj t f) Q
 |gf {a b:Int} {t f:Option R} {Q:R->Prop} (ht:IM (a<b) (Ok t Q)) (hf:IM (b<=a) (Ok f Q)):OS (bcase (gf a b) t f) Q
 |c_ {a b:Int} {t f:Option R} {Q:R->Prop} (ht:IM (a<=b) (Ok t Q)) (hf:IM (b<a) (Ok f Q)):OS (bcase (c_ a b) t f) Q
 |dec {p:Prop} {i:Decidable p} {t f:Option R} {Q:R->Prop} (ht:IM p (Ok t Q)) (hf:IM (¬p) (Ok f Q)):OS (bcase (decide p) t f) Q
 |ndec {p:Prop} {i:Decidable p} {t f:Option R} {Q:R->Prop} (ht:IM (¬p) (Ok t Q)) (hf:IM p (Ok f Q)):OS (bcase (!decide p) t f) Q
 |not {b:Bool} {t f:Option R} {Q:R->Prop} (ht:IM (b=aj) (Ok t Q)) (hf:IM (b=ai) (Ok f Q)):OS (bcase (!b) t f) Q
 |bcase {b:Bool} {t f:Option R} {Q:R->Prop} (ht:IM (b=ai) (Ok t Q)) (hf:IM (b=aj) (Ok f Q)):OS (bcase b t f) Q
 |jc {α:Type} {o:Option (R⊕α)} {k:α->Option R} {Q:R->Prop} (h:Ok o λr=>match r with|.inl r=>Q r|.inr x=>Ok (k x) Q):OS (jn o k) Q
 |some {y:R} {Q:R->Prop} (h:Q y):OS (af y) Q
theorem OS.ok {R:Type} {o:Option R} {Q:R->Prop} (h:OS o Q):Ok o Q:=by
 cases h with
 |cand h=>exact dc h
 |eP a b h=>exact aS a b h
 |room a b h=>exact bg a b h
 |cile a h=>exact dN a h
 |cilt a h=>exact AL a h
 |cdec a h=>exact X5 a h
 |cndec a h=>exact zJ a h
 |cbeq a h=>exact lO a h
 |cT h=>exact h
 |lt h=>exact h
 |b1 h=>exact h
 |b0 h=>exact h
 |gf a b=>exact bJ a.h b.h
 |c_ a b=>exact e_ a.h b.h
 |dec a b=>exact aJ a.h b.h
 |ndec a b=>exact b_ a.h b.h
 |not a b=>exact dW a.h b.h
 |bcase a b=>exact aO a.h b.h
 |jc h=>
  obtain⟨r,e,h⟩:=h;exact gF ⟨r,e,by cases r<;>exact h⟩
 |some h=>exact ar h
theorem bcT {R:Type} (t f:Option R):bcase ai t f=t:=rfl
theorem bcF {R:Type} (t f:Option R):bcase aj t f=f:=rfl
theorem jnr {α R:Type} (x:α) (k:α->Option R):jn (af (.inr x)) k=k x:=rfl
theorem X6 {α R:Type} (x:α) (k:α->Option R):obind (af x) k=k x:=rfl
theorem JD {k:Int}:k=1\/k=2\/k=3\/k=4\/k=5\/k=6\/k=7\/k=8\/k=9\/k=10\/k=11\/k=12\/k=13\/k=14\/k=15\/k=16\/k=17\/k=18\/k=19\/k=20\/k=21\/k=22\/k=23\/((∀j:Int,1<=j->j<=23->(k=j)=False)/\(k<1\/23<k)):=by
 by_cases h:1<=k/\k<=23
 .omega
 .have:(∀j:Int,1<=j->j<=23->(k=j)=False)/\(k<1\/23<k):=⟨λj h1 h2=>eq_false (by omega),by omega⟩
  repeat (first|exact this|refine Or.inr ?_)
theorem hP {n:Int} (h0: -9223372036854775808<=n) (h1:n<=9223372036854775807):bk .i64 n=n:=by
 rw[Ip];unfold No;simp[c_,h0,h1]
theorem gE {i:Nat} (h:i<9223372036854775807):bk .i64 ((i:Int)+1)=((i+1:Nat):Int):=by rw[hP (by omega) (by omega)];omega
theorem xd {T:Ty} (xs:List T.den) (i:Nat):aK xs (i:Int)=xs.getD i T.zero:=by unfold aK;simp
theorem PY (xs:η) (i:Nat):aK (T:=.int .i64) xs (i:Int)=xs.getD i 0:=xd (T:=.int .i64) xs i
theorem bL {T:Ty} {xs:List T.den} {j:Int} (h0:0<=j) (h1:j<xs.length):aK xs j∈xs:=by
 unfold aK;rw[ay,aB (by omega)];exact vH _
theorem bW {α:Type} (xs:List α) (j:Int) (x:α):(cz xs j x).length=xs.length:=by unfold cz;simp
theorem C' {α:Type} {xs:List α} {j:Int} {x y:α} (h:y∈cz xs j x):y∈xs\/y=x:=List.mem_or_eq_of_mem_set h
abbrev WT:Type:=List (ζ×Int×Int×Bool×Int)×List (ζ×Bool)×List (ζ×Int)×List ζ×List ζ×List ν
abbrev SY:Type:=List (Int×η)×Int×θ×List (Int×Int×Bool)
theorem ad6 (a b:Int):qP (a,b)=af (decide (0<=a/\a<b)):=by
 refine ct ?_;unfold qP iY aF;with_reducible repeat' first|(refine OS.ok ?_;constructor)|refine IM.mk λ_=>?_
 .by_cases h:a<b<;>simp[*,gf]
 .simp;omega
theorem Xx (l:η) (n:Int) (hl:l.length<=1000000):qQ (l,n)=af (l.contains n):=by
 refine ct ?_;unfold qQ bd bA bD aZ cK aF cH;refine b8 l.length (λi x=>x=(i:Int)/\∀k,k<i->l.getD k 0≠n) ?_ ?_ ⟨rfl,λk hk=>by omega⟩
 .rintro i x hi ⟨rfl,I⟩;with_reducible repeat' first|(refine OS.ok ?_;constructor)|refine IM.mk λ_=>?_
  all_goals try simp only[au,rD] at*
  .omega
  .omega
  .rename_i h;rw[PY]at h;show ai=_
   symm
   rw[tL,<-h,ay,aB hi];exact vH _
  .rename_i h;rw[PY]at h;refine ⟨gE (by omega),λk hk=>?_⟩;rcases ci k i with h1|h1
   .exact I k h1
   .rw[show k=i by omega];exact h
  .omega
 .rintro x ⟨rfl,I⟩;with_reducible repeat' first|(refine OS.ok ?_;constructor)|refine IM.mk λ_=>?_
  all_goals try simp only[au,rD] at*
  .omega
  .omega
  .omega
  .omega
  .symm
   rw[Bool.eq_false_iff];intro hc;rw[tL]at hc;obtain⟨k,hk,he⟩:=List.getElem_of_mem hc;exact I k hk (by rw[ay,aB hk];exact he)
theorem iD {T:Ty} {xs:List T.den} {p:T.den->Prop} (h:∀k:Nat,k<al xs->p (aK xs (k:Int))):∀c∈xs,p c:=λc hc=>by
 obtain⟨k,hk,he⟩:=List.getElem_of_mem hc;have:=h k hk;rw[xd,ay,aB hk,vD,he]at this;exact this
theorem Q5 (w:WT) (s:SY) (hw:w.2.2.1.length<=1000000):Ok (rS (w,s)) λb=>b=ai->(∀c∈w.2.2.1,0<=c.2/\c.2<w.2.1.length)/\s.1.length=w.2.1.length/\s.2.2.1.length=w.2.2.2.1.length/\s.2.2.2.length=w.2.2.2.2.1.length:=by
 unfold rS aX bf bu cN bd bA bD aZ cK aF cH;refine b8 w.2.2.1.length (λi x=>x.1=(i:Int)/\x.2=(w,s)/\∀k:Nat,k<i->0<=(aK (T:=UX) w.2.2.1 (k:Int)).2/\(aK (T:=UX) w.2.2.1 (k:Int)).2<w.2.1.length) ?_ ?_ ⟨rfl,rfl,λk hk=>by omega⟩
 .rintro i ⟨Y,U⟩ hi ⟨J,I,M⟩;dsimp only at J I;subst J;subst I;with_reducible repeat' first|(refine OS.ok ?_;constructor)|refine IM.mk λ_=>?_
  all_goals try simp only[au,rD] at*
  all_goals first|omega|skip
  .intro h;cases h
  .intro h;cases h
  .refine ⟨gE (by omega),λk hk=>?_⟩;rcases ci k i with h1|h1
   .exact M k h1
   .rename_i h2 Z;rw[show k=i by omega];exact⟨h2,Z⟩
 .rintro⟨Y,U⟩ ⟨J,I,M⟩;dsimp only at J I;subst J;subst I;with_reducible repeat' first|(refine OS.ok ?_;constructor)|refine IM.mk λ_=>?_
  all_goals try simp only[au,rD] at*
  all_goals first|omega|skip
  refine ax (P:=λb=>b=ai->s.1.length=w.2.1.length/\s.2.2.1.length=w.2.2.2.1.length/\s.2.2.2.length=w.2.2.2.2.1.length) ?_ ?_
  .with_reducible repeat' first|(refine OS.ok ?_;constructor)|refine IM.mk λ_=>?_
   all_goals try simp only[au,rD] at*
   .intro h;omega
   .intro h;cases h
   .intro h;cases h
  .intro b hb;with_reducible repeat' first|(refine OS.ok ?_;constructor)|refine IM.mk λ_=>?_
   exact λh=>⟨iD (T:=UX) M,hb h⟩
structure NM (w:WT) (k o:Int):Prop where
 k1:1<=k
 k2:k<=23
 ce:k=3\/k=4->0<=o/\o<w.1.length
 lk:6<=k/\k<=11->0<=o/\o<w.2.1.length
 cd:16<=k/\k<=19->0<=o/\o<w.2.2.1.length
 th:k=20\/k=21->0<=o/\o<w.2.2.2.2.1.length
 fu:k=22\/k=23->0<=o/\o<w.2.2.2.1.length
 no:k=1\/k=2\/k=5\/(12<=k/\k<=15)->o= -1
 mu:k=6\/k=7->(aK (T:=U8) w.2.1 o).2=aj
 rw:8<=k/\k<=11->(aK (T:=U8) w.2.1 o).2=ai
theorem acq (w:WT) (k o:Int):Ok (uJ (w,k,o)) λb=>b=ai->NM w k o:=by
 unfold uJ aX bf bu ch bd bD aZ aF;rcases @JD k with rfl|rfl|rfl|rfl|rfl|rfl|rfl|rfl|rfl|rfl|rfl|rfl|rfl|rfl|rfl|rfl|rfl|rfl|rfl|rfl|rfl|rfl|rfl|⟨hk,I⟩
 case inr.inr.inr.inr.inr.inr.inr.inr.inr.inr.inr.inr.inr.inr.inr.inr.inr.inr.inr.inr.inr.inr.inr=>
  simp only[hk 1 (by decide) (by decide),hk 2 (by decide) (by decide),hk 3 (by decide) (by decide),hk 4 (by decide) (by decide),hk 5 (by decide) (by decide),hk 6 (by decide) (by decide),hk 7 (by decide) (by decide),hk 8 (by decide) (by decide),hk 9 (by decide) (by decide),hk 10 (by decide) (by decide),hk 11 (by decide) (by decide),hk 12 (by decide) (by decide),hk 13 (by decide) (by decide),hk 14 (by decide) (by decide),hk 15 (by decide) (by decide),hk 16 (by decide) (by decide),hk 17 (by decide) (by decide),hk 18 (by decide) (by decide),hk 19 (by decide) (by decide),hk 20 (by decide) (by decide),hk 21 (by decide) (by decide),hk 22 (by decide) (by decide),hk 23 (by decide) (by decide),aV,bt,tO];exact ar λh=>by cases h
 all_goals simp only[aV,bt,tO,ad6]
 all_goals with_reducible repeat' first|(refine OS.ok ?_;constructor)|refine IM.mk λ_=>?_
 all_goals try simp only[au,rD] at*
 all_goals first|omega|(intro h;cases h;done)|(intro h;constructor<;>first|omega|(intro h2;first|omega|(simpa using h)))
structure SB (n:Nat) (s:SY):Prop where
 n1:n<=100000
 lk:s.1.length<=1000
 rd:∀l∈s.1,l.2.length<=n
 dn:s.2.2.1.length<=1000
 th:s.2.2.2.length<=1000
structure EN (w:WT) (s:SY) (t k o:Int):Prop where
 nm:NM w k o
 t0:0<=t
 t1:t<w.2.2.2.2.1.length
 cd:∀c∈w.2.2.1,0<=c.2/\c.2<w.2.1.length
 e1:s.1.length=w.2.1.length
 e2:s.2.2.1.length=w.2.2.2.1.length
 e3:s.2.2.2.length=w.2.2.2.2.1.length
structure Xs (w:WT) (s:SY) (t k o:Int):Prop where
 b:k=1->(aK (T:=jJ) s.2.2.2 t).1=1
 wk:k=17->(aK (T:=jJ) s.2.2.2 t).1=4/\(aK (T:=jJ) s.2.2.2 t).2.1=o/\(aK (T:=Bb) s.1 (aK (T:=UX) w.2.2.1 o).2).1= -1
 r:k≠1->k≠17->(aK (T:=jJ) s.2.2.2 t).1=2
 aq:k=6\/k=8\/k=10->(aK (T:=Bb) s.1 o).1= -1
 wr:k=10->(aK (T:=Bb) s.1 o).2.length=0
 ra:k=8->(aK (T:=Bb) s.1 o).2.contains t=aj
 rl:k=7\/k=11->(aK (T:=Bb) s.1 o).1=t
 rr:k=9->(aK (T:=Bb) s.1 o).2.contains t=ai
 xb:k=12->s.2.1= -1
 xe:k=13->s.2.1=t
 ab:k=14->(aK (T:=jJ) s.2.2.2 t).2.2=aj
 ae:k=15->(aK (T:=jJ) s.2.2.2 t).2.2=ai
 nt:k=16\/k=18\/k=19->(aK (T:=Bb) s.1 (aK (T:=UX) w.2.2.1 o).2).1=t
 sp:k=20->¬o=t/\(aK (T:=jJ) s.2.2.2 o).1=0
 jo:k=21->¬o=t/\(aK (T:=jJ) s.2.2.2 o).1=5
 se:k=22->aK (T:=.bool) s.2.2.1 o=aj
 ge:k=23->aK (T:=.bool) s.2.2.1 o=ai
theorem LY {n:Nat} (w:WT) (s:SY) (hs:SB n s) (hw:w.2.2.1.length<=1000) (t k o:Int):Ok (ku (w,s,t,k,o)) λb=>b=ai->EN w s t k o/\Xs w s t k o:=by
 unfold ku aX bf bu bK dx cN bd iO bD aZ aF;refine aY (λx=>x.2=(w,s)/\(x.1=aj->EN w s t k o)) ?_ ?_
 .refine ax (Q5 w s (by omega)) λb hb=>?_
  with_reducible repeat' first|(refine OS.ok ?_;constructor)|refine IM.mk λ_=>?_
  .exact⟨rfl,λh=>by cases h⟩
  .simp only[ad6,X6];with_reducible repeat' first|(refine OS.ok ?_;constructor)|refine IM.mk λ_=>?_
   .exact⟨rfl,λh=>by cases h⟩
   .refine ax (acq w k o) λc hc=>?_
    with_reducible repeat' first|(refine OS.ok ?_;constructor)|refine IM.mk λ_=>?_
    all_goals try simp only[au,rD] at*
    rename_i h1 h2;obtain⟨f1,Z,Y,f4⟩:=hb h1;exact λh=>⟨hc (by simpa using h),by omega,by omega,f1,Z,Y,f4⟩
 .rintro⟨x1,x2⟩ ⟨I,J⟩;dsimp only at I J;subst I;refine aO (λh=>ar λh=>by cases h) (λh=>?_);have he:=J h;obtain⟨nm,t0,t1,cd,e1,e2,e3⟩:=id he;obtain⟨_,_,ce,lk,cn,th,fu⟩:=nm;have hm:16<=k/\k<=19->0<=(aK (T:=UX) w.2.2.1 o).2/\(aK (T:=UX) w.2.2.1 o).2<w.2.1.length:=λh=>cd _ (bL (cn h).1 (cn h).2)
  have U:6<=k/\k<=11->qQ ((aK (T:=Bb) s.1 o).2,t)=af ((aK (T:=Bb) s.1 o).2.contains t):=λh=>Xx _ _ (by
   have:=hs.rd _ (bL (T:=Bb) (lk h).1 (by have:=(lk h).2;omega));have:=hs.n1;omega)
  rcases @JD k with rfl|rfl|rfl|rfl|rfl|rfl|rfl|rfl|rfl|rfl|rfl|rfl|rfl|rfl|rfl|rfl|rfl|rfl|rfl|rfl|rfl|rfl|rfl|⟨hk,M⟩
  case inr.inr.inr.inr.inr.inr.inr.inr.inr.inr.inr.inr.inr.inr.inr.inr.inr.inr.inr.inr.inr.inr.inr=>omega
  all_goals simp only[aV,bt,tO]
  all_goals with_reducible repeat' first|(refine OS.ok ?_;constructor)|refine IM.mk λ_=>?_
  all_goals try simp only[U (by omega),X6]
  all_goals with_reducible repeat' first|(refine OS.ok ?_;constructor)|refine IM.mk λ_=>?_
  all_goals try simp only[au,rD] at*
  all_goals first|omega|(intro h;cases h;done)|exact (hm ⟨by decide,by decide⟩).1|(rw [e1];exact (hm ⟨by decide,by decide⟩).2)|(intro h;refine ⟨he,?_⟩;constructor<;>first|omega|(intros;first|omega|assumption|(simpa using h)|exact⟨by assumption,by first|assumption|exact⟨by assumption,by assumption⟩⟩))|(refine ⟨he,?_⟩;constructor<;>first|omega|(intros;first|omega|assumption))
def mf:η->Int->η
 |[],n=>[n]
 |x::r,n=>if x<n then x::mf r n else if x=n then x::r else n::x::r
theorem E5 (n:Int):∀(i:Nat) (l:η),i<=l.length->(∀k,k<i->l.getD k 0<n)->mf l n=l.take i++mf (l.drop i) n
 |0,l,_,_=>by simp
 |i+1,[],h,_=>by simp at h
 |i+1,x::r,h,hk=>by
  have h0:=hk 0 (by omega);simp at h0;have:=E5 n i r (by simpa using h) (λk I=>by have:=hk (k+1) (by omega);simpa using this);rw[mf,aD h0,this,wG,wH,gC]
theorem Gm (n:Int):∀l:η,(mf l n).length<=l.length+1
 |[]=>by simp[mf]
 |x::r=>by
  have:=Gm n r;rw[mf];split
  .simp;omega
  .split<;>simp
theorem Je {n y:Int}:∀{l:η},y∈mf l n↔y=n\/y∈l
 |[]=>by simp[mf]
 |x::r=>by
  have:=Je (n:=n) (y:=y) (l:=r);rw[mf];split
  .simp[this];constructor
   .rintro (h|h|h)<;>simp[h]
   .rintro (h|h|h)<;>simp[h]
  .split
   .rename_i h;subst h;simp
   .simp
def Ik:η->Prop
 |[]=>True
 |x::r=>(∀y∈r,x<y)/\Ik r
theorem RF {n:Int}:∀{l:η},Ik l->Ik (mf l n)
 |[],_=>by simp[mf,Ik]
 |x::r,h=>by
  rw[mf];split
  .rename_i J;refine ⟨λy I=>?_,RF h.2⟩;rcases Je.1 I with rfl|I
   .exact J
   .exact h.1 y I
  .split
   .exact h
   .rename_i h1 h2;refine ⟨λy I=>?_,h⟩;rcases bp.1 I with rfl|I
    .omega
    .have:=h.1 y I;omega
theorem aez (l:η) (n:Int) (hl:l.length<=1000000):wW (l,n)=af (mf l n):=by
 refine ct ?_;unfold wW bA bE bD aZ cK aF cH;have fin:∀i:Nat,i<=l.length->(∀k,k<i->l.getD k 0<n)->(i<l.length->¬l.getD i 0<n/\l.getD i 0≠n)->l.take i++[n]++l.drop i=mf l n:=λi hi hk hn=>by
  rw[E5 n i l hi hk];cases hd:l.drop i with
  |nil=>simp[mf]
  |cons y r=>
   have hlt:i<l.length:=by
    rcases ci i l.length with h|h
    .exact h
    .rw[List.drop_eq_nil_of_le h]at hd;cases hd
   have J:l.getD i 0=y:=by
    rw[ay,<-List.head?_drop,hd];rfl
   obtain⟨h1,h2⟩:=hn hlt;rw[J]at h1 h2;rw[mf,aA h1,aA h2];simp
 refine b8 l.length (λi x=>x=(i:Int)/\∀k,k<i->l.getD k 0<n) ?_ ?_ ⟨rfl,λk hk=>by omega⟩
 .rintro i x hi ⟨rfl,I⟩;by_cases hlt:l.getD i 0<n
  .with_reducible repeat' first|(refine OS.ok ?_;constructor)|refine IM.mk λ_=>?_
   all_goals try simp only[au,rD] at*
   all_goals first|omega|skip
   .refine ⟨gE (by omega),λk hk=>?_⟩;rcases ci k i with h1|h1
    .exact I k h1
    .rw[show k=i by omega];exact hlt
   .rename_i h;exact cX hlt (CX.2 h)
  .have key:l.getD i 0=n->mf l n=l:=λhe=>by
    rw[E5 n i l (by omega) I];cases hd:l.drop i with
    |nil=>have:=gX al hd;simp at this;omega
    |cons y r=>
     have J:l.getD i 0=y:=by rw[ay,<-List.head?_drop,hd];rfl
     rw[J]at he;rw[mf,aA (by omega),aD he,<-hd,B6]
   with_reducible repeat' first|(refine OS.ok ?_;constructor)|refine IM.mk λ_=>?_
   all_goals try simp only[au,rD] at*
   all_goals first|omega|skip
   .rename_i h;exact cX h hlt
   .refine ax (P:=λr=>r=mf l n) ?_ λr hr=>ar hr
    with_reducible repeat' first|(refine OS.ok ?_;constructor)|refine IM.mk λ_=>?_
    all_goals try simp only[au,rD] at*
    all_goals first|omega|skip
    .rename_i h;exact (key h).symm
    .simp;omega
    .simp;omega
    .simp;omega
    .rename_i h;simpa using fin i (by omega) I (λ_=>⟨hlt,h⟩)
 .rintro x ⟨rfl,I⟩;with_reducible repeat' first|(refine OS.ok ?_;constructor)|refine IM.mk λ_=>?_
  all_goals try simp only[au,rD] at*
  all_goals first|omega|skip
  refine ax (P:=λr=>r=mf l n) ?_ λr hr=>ar hr
  with_reducible repeat' first|(refine OS.ok ?_;constructor)|refine IM.mk λ_=>?_
  all_goals try simp only[au,rD] at*
  all_goals first|omega|skip
  .simp;omega
  .simp;omega
  .simp;omega
  .simpa using fin l.length (by omega) I (λh=>by omega)
def xM (a b:η):η:=b.foldl mf (a.foldl mf [])
theorem xf:∀(b acc:η),(b.foldl mf acc).length<=acc.length+b.length
 |[],acc=>by simp
 |x::r,acc=>by
  have:=xf r (mf acc x);have:=Gm x acc;rw[xK,cf];omega
theorem Kg:∀{b acc:η},Ik acc->Ik (b.foldl mf acc)
 |[],_,h=>h
 |x::r,acc,h=>by rw[xK];exact Kg (RF h)
theorem Kf {y:Int}:∀{b acc:η},y∈b.foldl mf acc↔y∈acc\/y∈b
 |[],acc=>by simp
 |x::r,acc=>by
  rw[xK,Kf,Je];simp;constructor
  .rintro ((h|h)|h)<;>simp[h]
  .rintro (h|h|h)<;>simp[h]
theorem Ri (a b:η):Ik (xM a b):=Kg (Kg trivial)
theorem I2 {a b:η} {y:Int}:y∈xM a b↔y∈a\/y∈b:=by unfold xM;rw[Kf,Kf];simp
theorem abs (a b:η):(xM a b).length<=a.length+b.length:=by
 have:=xf b (a.foldl mf []);have:=xf a [];unfold xM;simp at *;omega
theorem NX {b acc:η} {i:Nat} (hi:i<b.length):(b.take (i+1)).foldl mf acc=mf ((b.take i).foldl mf acc) (b.getD i 0):=by
 rw[pm hi,dV,ay,aB hi];rfl
theorem Uw (a b:η) (M:a.length<=400000) (hb:b.length<=400000):rT (a,b)=af (xM a b):=by
 refine ct ?_;unfold rT bA bD aZ cK aF cH;refine b8 a.length (λi x=>x.2=(i:Int)/\x.1=(a.take i).foldl mf []) ?_ ?_ ⟨rfl,rfl⟩
 .rintro i ⟨J,I⟩ hi ⟨h1,h2⟩;dsimp only at h1 h2;subst h1;subst h2;have hl:((a.take i).foldl mf []).length<=1000000:=by have:=xf (a.take i) [];have:=qC i a;simp at *;omega
  with_reducible repeat' first|(refine OS.ok ?_;constructor)|refine IM.mk λ_=>?_
  all_goals try simp only[au,rD] at*
  all_goals first|omega|skip
  refine aU (aez _ _ hl) (ar ?_);dsimp only;refine ⟨gE (by omega),?_⟩;rw[PY,NX hi]
 .rintro⟨J,I⟩ ⟨h1,h2⟩;dsimp only at h1 h2;subst h1;subst h2;rw[cW];have hla:=xf a [];with_reducible repeat' first|(refine OS.ok ?_;constructor)|refine IM.mk λ_=>?_
  all_goals try simp only[au,rD] at*
  all_goals first|omega|skip
  refine ax (P:=λr=>r=xM a b) ?_ λr hr=>ar hr
  refine b8 b.length (λi x=>x.2=(i:Int)/\x.1=(b.take i).foldl mf (a.foldl mf [])) ?_ ?_ ⟨rfl,rfl⟩
  .rintro i ⟨J,I⟩ hi ⟨h1,h2⟩;dsimp only at h1 h2;subst h1;subst h2;have hl:((b.take i).foldl mf (a.foldl mf [])).length<=1000000:=by have:=xf (b.take i) (a.foldl mf []);have:=qC i b;simp at *;omega
   with_reducible repeat' first|(refine OS.ok ?_;constructor)|refine IM.mk λ_=>?_
   all_goals try simp only[au,rD] at*
   all_goals first|omega|skip
   refine aU (aez _ _ hl) (ar ?_);dsimp only;refine ⟨gE (by omega),?_⟩;rw[PY,NX hi]
  .rintro⟨J,I⟩ ⟨h1,h2⟩;dsimp only at h1 h2;subst h1;subst h2;rw[cW];with_reducible repeat' first|(refine OS.ok ?_;constructor)|refine IM.mk λ_=>?_
   all_goals try simp only[au,rD] at*
   all_goals first|omega|rfl
def IX (c:Int) (x:Int×Int×Bool):Bool:=decide (x.1=3)&&decide (x.2.1=c)
def wl (th:List (Int×Int×Bool)) (c:Int):Nat->η
 |0=>[]
 |i+1=>if IX c (aK (T:=jJ) th (i:Int)) then wl th c i++[(i:Int)] else wl th c i
theorem wj (th:List (Int×Int×Bool)) (c:Int):∀i,(wl th c i).length<=i
 |0=>bV _
 |i+1=>by have:=wj th c i;rw[wl];split<;>simp<;>omega
theorem rK {th:List (Int×Int×Bool)} {c u:Int}:∀{i:Nat},u∈wl th c i↔0<=u/\u<i/\IX c (aK (T:=jJ) th u)=ai
 |0=>by simp[wl];omega
 |i+1=>by
  have I:= @rK th c u i;rw[wl];by_cases hu:u=(i:Int)
  .subst hu;split
   .rename_i h;simp[h];omega
   .rename_i h;rw[I];simp[h]
  .split
   .rw[bY,I,aL];constructor
    .rintro (h|h)
     .exact⟨h.1,by omega,h.2.2⟩
     .exact cX h hu
    .intro h;exact .inl ⟨h.1,by omega,h.2.2⟩
   .rw[I];constructor
    .intro h;exact⟨h.1,by omega,h.2.2⟩
    .intro h;exact⟨h.1,by omega,h.2.2⟩
theorem ans {th:List (Int×Int×Bool)} {c:Int} {i:Nat} (h1:(aK (T:=jJ) th (i:Int)).1=3) (h2:(aK (T:=jJ) th (i:Int)).2.1=c):wl th c (i+1)=wl th c i++[(i:Int)]:=by
 rw[wl,aD];unfold IX;rw[h1,h2];simp
theorem aiz {th:List (Int×Int×Bool)} {c:Int} {i:Nat} (h1:¬(aK (T:=jJ) th (i:Int)).1=3):wl th c (i+1)=wl th c i:=by
 rw[wl,aA];unfold IX;rw[bw h1];simp
theorem aiy {th:List (Int×Int×Bool)} {c:Int} {i:Nat} (h1:¬(aK (T:=jJ) th (i:Int)).2.1=c):wl th c (i+1)=wl th c i:=by
 rw[wl,aA];unfold IX;rw[bw h1];simp
theorem Xl (s:SY) (c:Int) (hs:s.2.2.2.length<=1000):oh (s,c)=af (wl s.2.2.2 c s.2.2.2.length):=by
 refine ct ?_;unfold oh bK bd bA bE bD aZ cK aF cH;refine b8 s.2.2.2.length (λi x=>x=((i:Int),s,wl s.2.2.2 c i)) ?_ ?_ rfl
 .rintro i x hi rfl;have hl:=wj s.2.2.2 c i;with_reducible repeat' first|(refine OS.ok ?_;constructor)|refine IM.mk λ_=>?_
  all_goals try simp only[au,rD] at*
  all_goals first|omega|skip
  all_goals first|(simp;omega)|skip
  .rename_i h1 h2;rw[ans h1 h2,gE (by omega)]
  .rename_i h1 h2;rw[aiy h2,gE (by omega)]
  .rename_i h1;rw[aiz h1,gE (by omega)]
 .rintro x rfl;with_reducible repeat' first|(refine OS.ok ?_;constructor)|refine IM.mk λ_=>?_
  all_goals try simp only[au,rD] at*
  all_goals first|omega|rfl
def wo (l:η) (n:Int):η:=l.filter λx=> !decide (x=n)
theorem U2 (l:η) (n:Int) (hl:l.length<=1000000):qO (l,n)=af (wo l n):=by
 refine ct ?_;unfold qO bA iO bE bD aZ cK aF cH;refine b8 l.length (λi x=>x=((i:Int),wo (l.take i) n)) ?_ ?_ rfl
 .rintro i x hi rfl;have hq:(wo (l.take i) n).length<=i:=du (B7 ..) (qC ..);have ht:wo (l.take (i+1)) n=if aK (T:=.int .i64) l (i:Int)=n then wo (l.take i) n else wo (l.take i) n++[aK (T:=.int .i64) l (i:Int)]:=by
   unfold wo;rw[pm hi,yH,PY,ay,aB hi];by_cases h:l[i]=n<;>simp[h]
  with_reducible repeat' first|(refine OS.ok ?_;constructor)|refine IM.mk λ_=>?_
  all_goals try simp only[au,rD] at*
  all_goals first|omega|skip
  .simp;omega
  .rename_i h;rw[ht,aA h,gE (by omega)]
  .rename_i h;rw[ht,aD h,gE (by omega)]
 .rintro x rfl;with_reducible repeat' first|(refine OS.ok ?_;constructor)|refine IM.mk λ_=>?_
  all_goals try simp only[au,rD] at*
  all_goals first|omega|(rw [cW])
theorem mX {T:Ty} {xs:List T.den} {i:Nat} (hi:i<al xs):dI (i+1) xs=dI i xs++[aK xs (i:Int)]:=by
 rw[pm hi,xd,ay,aB hi];rfl
theorem rq {n:Nat} (s:SY) (hs:SB n s):iy s=af (s.2.1,s.1,s.2.2.1,s.2.2.2):=by
 refine ct ?_;obtain⟨s1,s2,J,I⟩:=s;have hn:=hs.n1;have Y:=hs.lk;have U:=hs.dn;have M:=hs.th;dsimp only at Y U M;unfold iy aX bf bu bK cN bA bE bD aZ cK aF cH;with_reducible repeat' first|(refine OS.ok ?_;constructor)|refine IM.mk λ_=>?_
 all_goals try simp only[au,rD] at*
 .simp;omega
 .omega
 .simp;omega
 .omega
 refine b8 s1.length (λi x=>x=((i:Int),(s1,s2,J,I),0,s2,s1.take i,J,I)) ?_ ?_ ?_
 .rintro i x hi rfl;have hg:=hs.rd _ (bL (T:=Bb) (xs:=s1) (j:=(i:Int)) (by omega) (by omega));with_reducible repeat' first|(refine OS.ok ?_;constructor)|refine IM.mk λ_=>?_
  all_goals try simp only[au,rD] at*
  all_goals first|omega|skip
  .simp;omega
  .simp;omega
  .rw[gE (by omega),mX (T:=Bb) hi];rfl
 .rintro x rfl;with_reducible repeat' first|(refine OS.ok ?_;constructor)|refine IM.mk λ_=>?_
  all_goals try simp only[au,rD] at*
  all_goals first|omega|skip
  simp
 .simp
theorem HA (s:SY) (c:Int) (hs:s.2.2.2.length<=1000):jL ((s.2.1,c),s.1,s.2.2.1,s.2.2.2)=af (wl s.2.2.2 c s.2.2.2.length):=by
 refine ct ?_;unfold jL;refine ax (P:=λy=>y=(wl s.2.2.2 c s.2.2.2.length,s.1,s.2.2.1,s.2.2.2)) ?_ λy I=>by subst I;exact agd rfl (ar rfl)
 unfold mB aX bf bu bK cN bd bA bE kl aZ cK aF cH;refine b8 s.2.2.2.length (λi x=>x=((i:Int),s.1,s.2.2.1,s.2.2.2,s.2.1,wl s.2.2.2 c i)) ?_ ?_ rfl
 .rintro i x hi rfl;have hl:=wj s.2.2.2 c i;with_reducible repeat' first|(refine OS.ok ?_;constructor)|refine IM.mk λ_=>?_
  all_goals try simp only[au,rD] at*
  all_goals first|omega|skip
  all_goals first|(simp;omega)|skip
  .rename_i h1 h2;rw[ans h1 h2,gE (by omega)]
  .rename_i h1 h2;rw[aiy h2,gE (by omega)]
  .rename_i h1;rw[aiz h1,gE (by omega)]
 .rintro x rfl;with_reducible repeat' first|(refine OS.ok ?_;constructor)|refine IM.mk λ_=>?_
  all_goals try simp only[au,rD] at*
  all_goals first|omega|rfl
structure AP (n:Nat) (s y:SY):Prop where
 a1:y.1.length=s.1.length
 a2:y.2.2.1.length=s.2.2.1.length
 a3:y.2.2.2.length=s.2.2.2.length
 rd:∀l∈y.1,l.2.length<=n+1
theorem AP.toSB {n:Nat} {s y:SY} (h:AP n s y) (hs:SB n s) (hn:n+1<=100000):SB (n+1) y:=
 ⟨hn,by rw[h.a1];exact hs.lk,h.rd,by rw[h.a2];exact hs.dn,by rw[h.a3];exact hs.th⟩
theorem AP.same {n:Nat} {s:SY} (hs:SB n s) (x:Int) (d:θ) (t:List (Int×Int×Bool)) (hd:d.length=s.2.2.1.length) (ht:t.length=s.2.2.2.length):AP n s (s.1,x,d,t):=
 ⟨rfl,hd,ht,λl hl=>iH (hs.rd l hl)⟩
theorem AP.set {n:Nat} {s:SY} (hs:SB n s) (j a:Int) (r:η) (hr:r.length<=n+1) (x:Int) (d:θ) (t:List (Int×Int×Bool)) (hd:d.length=s.2.2.1.length) (ht:t.length=s.2.2.2.length):AP n s (cz s.1 j (a,r),x,d,t):=
 ⟨bW _ _ _,hd,ht,λl hl=>by
   rcases C' hl with h|rfl
   .exact iH (hs.rd l h)
   .exact hr⟩
def yJ (th:List (Int×Int×Bool)) (t st:Int):List (Int×Int×Bool):=cz th t (st,(aK (T:=jJ) th t).2)
def owP (lk:List (Int×η)) (o t:Int):List (Int×η):=cz lk o (t,(aK (T:=Bb) lk o).2)
def rdP (lk:List (Int×η)) (o:Int) (l:η):List (Int×η):=cz lk o ((aK (T:=Bb) lk o).1,l)
def cdP (th:List (Int×Int×Bool)) (t c:Int):List (Int×Int×Bool):=cz th t ((aK (T:=jJ) th t).1,c,(aK (T:=jJ) th t).2.2)
def atP (th:List (Int×Int×Bool)) (t:Int) (b:Bool):List (Int×Int×Bool):=cz th t ((aK (T:=jJ) th t).1,(aK (T:=jJ) th t).2.1,b)
def Dn (th:List (Int×Int×Bool)) (l:η):List (Int×Int×Bool):=l.foldl (λx u=>yJ x u 4) th
def BZ (l:η) (u:Int):Int:=if l.length=0 then -1 else if l.contains u then u else aK (T:=.int .i64) l 0
def muP (w:WT) (o:Int):Int:=(aK (T:=UX) w.2.2.1 o).2
def rG (w:WT) (s:SY) (t k o u:Int):SY×Int:=
 if k=1 then ((s.1,s.2.1,s.2.2.1,yJ s.2.2.2 t 2),0)
 else if k=2 then ((s.1,s.2.1,s.2.2.1,yJ s.2.2.2 t 5),0)
 else if k=6\/k=10 then ((owP s.1 o t,s.2),0)
 else if k=7\/k=11 then ((owP s.1 o (-1),s.2),0)
 else if k=8 then ((rdP s.1 o (xM (aK (T:=Bb) s.1 o).2 [t]),s.2),0)
 else if k=9 then ((rdP s.1 o (wo (aK (T:=Bb) s.1 o).2 t),s.2),0)
 else if k=12 then ((s.1,t,s.2.2),0)
 else if k=13 then ((s.1,-1,s.2.2),0)
 else if k=14 then ((s.1,s.2.1,s.2.2.1,atP s.2.2.2 t ai),0)
 else if k=15 then ((s.1,s.2.1,s.2.2.1,atP s.2.2.2 t aj),0)
 else if k=16 then ((owP s.1 (muP w o) (-1),s.2.1,s.2.2.1,cdP (yJ s.2.2.2 t 3) t o),0)
 else if k=17 then ((owP s.1 (muP w o) t,s.2.1,s.2.2.1,cdP (yJ s.2.2.2 t 2) t 0),0)
 else if k=18 then (if (wl s.2.2.2 o s.2.2.2.length).length=0 then (s,-1) else ((s.1,s.2.1,s.2.2.1,yJ s.2.2.2 (BZ (wl s.2.2.2 o s.2.2.2.length) u) 4),BZ (wl s.2.2.2 o s.2.2.2.length) u))
 else if k=19 then ((s.1,s.2.1,s.2.2.1,Dn s.2.2.2 (wl s.2.2.2 o s.2.2.2.length)),((wl s.2.2.2 o s.2.2.2.length).length:Int))
 else if k=20 then ((s.1,s.2.1,s.2.2.1,yJ s.2.2.2 o 1),0)
 else if k=22 then ((s.1,s.2.1,cz s.2.2.1 o ai,s.2.2.2),0)
 else (s,0)
theorem Iy (l:η):∀th,(Dn th l).length=th.length:=by
 induction l with
 |nil=>intro th;rfl
 |cons x r I=>intro th;unfold Dn;rw[xK];exact (I _).trans (bW ..)
theorem acr {th:List (Int×Int×Bool)} {l:η} {i:Nat} (hi:i<l.length):Dn th (l.take (i+1))=yJ (Dn th (l.take i)) (aK (T:=.int .i64) l (i:Int)) 4:=by
 unfold Dn;rw[pm hi,dV,PY,ay,aB hi];rfl
theorem UV {n:Nat} (w:WT) (s:SY) (hs:SB n s) (U:w.2.2.1.length<=1000) (t k o u:Int):Ok (pM (w,s,t,k,o,u)) λy=>(y.2.2=ai->EN w s t k o/\Xs w s t k o/\AP n s y.1/\(y.1,y.2.1)=rG w s t k o u)/\(y.2.2=aj->y.1=([],0,[],[]))/\(ku (w,s,t,k,o)=af ai->y.2.2=ai):=by
 unfold pM aX bf bu ch bK dx cN fg ck bd bA bD kl aZ cK aF cH;obtain⟨b,J,hb⟩:=LY w s hs U t k o;refine aU J ?_;refine dW (λh=>ar ⟨λh=>(by cases h),λ_=>rfl,λh2=>(by rw[J,h]at h2;cases h2)⟩) (λh=>?_);obtain⟨he,hry⟩:=hb h;refine aU (rq s hs) ?_;suffices hmain:Ok _ _ from aY (λx=>AP n s (x.2.2.2.1,x.2.1,x.2.2.2.2)/\((x.2.2.2.1,x.2.1,x.2.2.2.2),x.1)=rG w s t k o u) hmain λx M=>ar ⟨λ_=>⟨he,hry,M⟩,λh=>(by cases h),λ_=>rfl⟩
 obtain⟨nm,t0,t1,cd,e1,e2,e3⟩:=id he;obtain⟨_,_,ce,lk,cn,th,fu⟩:=nm;have hn:=hs.n1;have hlk:=hs.lk;have hm:16<=k/\k<=19->0<=(aK (T:=UX) w.2.2.1 o).2/\(aK (T:=UX) w.2.2.1 o).2<w.2.1.length:=λh=>cd _ (bL (cn h).1 (cn h).2)
 have hr:∀j:Int,0<=j->j<s.1.length->(aK (T:=Bb) s.1 j).2.length<=n:=λj h0 h1=>hs.rd _ (bL (T:=Bb) h0 h1)
 rcases @JD k with rfl|rfl|rfl|rfl|rfl|rfl|rfl|rfl|rfl|rfl|rfl|rfl|rfl|rfl|rfl|rfl|rfl|rfl|rfl|rfl|rfl|rfl|rfl|⟨hk,Y⟩
 case inr.inr.inr.inr.inr.inr.inr.inr.inr.inr.inr.inr.inr.inr.inr.inr.inr.inr.inr.inr.inr.inr.inr=>omega
 all_goals simp only[aV,bt,tO]
 all_goals with_reducible repeat' first|(refine OS.ok ?_;constructor)|refine IM.mk λ_=>?_
 all_goals try simp only[au,rD] at*
 all_goals try rw[bW]
 all_goals first|omega|exact (hm ⟨by decide,by decide⟩).1|exact e1▸(hm ⟨by decide,by decide⟩).2|exact⟨AP.same hs _ _ _ rfl rfl,rfl⟩|exact⟨AP.same hs _ _ _ rfl (bW _ _ _),rfl⟩|exact⟨AP.same hs _ _ _ (bW _ _ _) rfl,rfl⟩|skip
 all_goals try exact⟨AP.set hs _ _ _ (iH (hr o (by omega) (by omega))) _ _ _ rfl rfl,rfl⟩
 .have:=hr o (by omega) (by omega);refine aU (Uw _ _ (du this (by have:=hs.n1;omega)) (by simp)) ?_;with_reducible repeat' first|(refine OS.ok ?_;constructor)|refine IM.mk λ_=>?_
  all_goals try simp only[au,rD] at*
  all_goals first|omega|skip
  exact⟨AP.set hs _ _ _ (by have:=abs (aK (T:=Bb) s.1 o).2 [t];simp at this;omega) _ _ _ rfl rfl,rfl⟩
 .have:=hr o (by omega) (by omega);have hl:(wo (aK (T:=Bb) s.1 o).2 t).length<=(aK (T:=Bb) s.1 o).2.length:=B7 ..;refine aU (U2 _ _ (by omega)) ?_;with_reducible repeat' first|(refine OS.ok ?_;constructor)|refine IM.mk λ_=>?_
  all_goals try simp only[au,rD] at*
  all_goals first|omega|skip
  exact⟨AP.set hs _ _ _ (du hl (by omega)) _ _ _ rfl rfl,rfl⟩
 .exact⟨AP.set hs _ _ _ (iH (hr _ (hm ⟨by decide,by decide⟩).1 (by rw[e1];exact (hm ⟨by decide,by decide⟩).2))) _ _ _ rfl (by rw[bW,bW]),rfl⟩
 .exact⟨AP.set hs _ _ _ (iH (hr _ (hm ⟨by decide,by decide⟩).1 (by rw[e1];exact (hm ⟨by decide,by decide⟩).2))) _ _ _ rfl (by rw[bW,bW]),rfl⟩
 .refine aU (HA s o hs.th) ?_;have hth:=hs.th;have hll:=wj s.2.2.2 o s.2.2.2.length;have hml:∀u∈wl s.2.2.2 o s.2.2.2.length,0<=u/\u<s.2.2.2.length:=λu hu=>⟨(rK.1 hu).1,(rK.1 hu).2.1⟩
  have hap:rG w s t 18 o u=if (wl s.2.2.2 o s.2.2.2.length).length=0 then (s,-1) else ((s.1,s.2.1,s.2.2.1,yJ s.2.2.2 (BZ (wl s.2.2.2 o s.2.2.2.length) u) 4),BZ (wl s.2.2.2 o s.2.2.2.length) u):=rfl
  unfold BZ at hap;revert hll hml hap;generalize wl s.2.2.2 o s.2.2.2.length=l;intro hll hml hap;with_reducible repeat' first|(refine OS.ok ?_;constructor)|refine IM.mk λ_=>?_
  all_goals try simp only[au,rD] at*
  all_goals first|omega|skip
  .have I:=hml _ (bL (T:=.int .i64) (xs:=l) (j:=0) (by omega) (by omega));rw[aA (by omega),aA (by omega)]at hap;simp only[Xx l u (by omega),X6];refine aO (λhc=>?_) λhc=>?_
   .have hu:=hml u (tL.1 hc);rw[hc,aD rfl]at hap;refine ar (aS hu.1 hu.2 (aS hu.1 hu.2 (ar ⟨AP.same hs _ _ _ rfl (bW ..),?_⟩)));rw[hap];rfl
   .rw[hc,aA (by decide)]at hap;refine ar (aS I.1 I.2 (aS I.1 I.2 (ar ⟨AP.same hs _ _ _ rfl (bW ..),?_⟩)));rw[hap];rfl
  .rw[aD (by omega)]at hap;exact⟨AP.same hs _ _ _ rfl rfl,hap.symm⟩
 .refine aU (HA s o hs.th) ?_;have hth:=hs.th;have hll:=wj s.2.2.2 o s.2.2.2.length;have hml:∀u∈wl s.2.2.2 o s.2.2.2.length,0<=u/\u<s.2.2.2.length:=λu hu=>⟨(rK.1 hu).1,(rK.1 hu).2.1⟩
  have hap:rG w s t 19 o u=((s.1,s.2.1,s.2.2.1,Dn s.2.2.2 (wl s.2.2.2 o s.2.2.2.length)),((wl s.2.2.2 o s.2.2.2.length).length:Int)):=rfl;rw[hap];clear hap;generalize wl s.2.2.2 o s.2.2.2.length=l at hll hml ⊢;refine b8 l.length (λi x=>x=((i:Int),s.2.1,0,s.1,s.2.2.1,Dn s.2.2.2 (l.take i))) ?_ ?_ rfl
  .rintro i x hi rfl;have I:=hml _ (bL (T:=.int .i64) (xs:=l) (j:=(i:Int)) (by omega) (by omega));have hq:=Iy (l.take i) s.2.2.2;with_reducible repeat' first|(refine OS.ok ?_;constructor)|refine IM.mk λ_=>?_
   all_goals try simp only[au,rD] at*
   all_goals first|omega|skip
   rw[gE (by omega),acr hi];rfl
  .rintro x rfl;rw[cW];with_reducible repeat' first|(refine OS.ok ?_;constructor)|refine IM.mk λ_=>?_
   all_goals try simp only[au,rD] at*
   all_goals first|omega|skip
   exact AP.same hs _ _ _ rfl (Iy ..)
abbrev SN:Type:=SY×η×η×η
abbrev ET:Type:=Int×Int×Int×Int×Int×η×η
theorem ao8 (a b:Int):Dp (a,b)=af (decide (0<=a/\a<b)):=ad6 a b
structure NB (n:Nat) (s:SN):Prop where
 sb:SB n s.1
 c:s.2.1.length<=1000
 f:s.2.2.1.length<=1000
 k:s.2.2.2.length<=1000
structure SP (n:Nat) (s y:SN):Prop where
 ap:AP n s.1 y.1
 c:y.2.1.length=s.2.1.length
 f:y.2.2.1.length=s.2.2.1.length
 k:y.2.2.2.length=s.2.2.2.length
theorem SP.NB {n:Nat} {s y:SN} (h:SP n s y) (hs:NB n s) (hn:n+1<=100000):NB (n+1) y:=
 ⟨h.ap.toSB hs.sb hn,by rw[h.c];exact hs.c,by rw[h.f];exact hs.f,by rw[h.k];exact hs.k⟩
def sn0:SN:=(([],0,[],[]),[],[],[])
structure F16 (w:WT) (s:SN):Prop where
 c:s.2.1.length=w.1.length
 f:s.2.2.1.length=w.2.2.2.1.length
 k:s.2.2.2.length=w.2.2.2.2.1.length
theorem aay (w:WT) (s:SN) (I:w.2.2.1.length<=1000):Ok (wR (w,s)) λb=>b=ai->F16 w s:=by
 unfold wR aX bf bu dx bd aZ aF;refine gF (ax (Q5 w s.1 (by omega)) λb hb=>?_);with_reducible repeat' first|(refine OS.ok ?_;constructor)|refine IM.mk λ_=>?_
 all_goals try simp only[au,rD] at*
 all_goals first|(intro h;constructor<;>omega)|(intro h;cases h;done)
theorem YL:∀(l:η),(∀k:Nat,k+1<l.length->l.getD k 0<l.getD (k+1) 0)->Ik l
 |[],_=>trivial
 |[x],_=>⟨λy M=>(by cases M),trivial⟩
 |x::y::r,h=>by
  have J:=YL (y::r) λk hk=>by have:=h (k+1) (by simpa using hk);simpa using this
  have h0:=h 0 (by simp);simp at h0;refine ⟨λz I=>?_,J⟩;rcases bp.1 I with rfl|I
  .exact h0
  .have:=J.1 z I;omega
structure AN (c:Int) (l:η):Prop where
 a:Ik l
 m:∀x:Int,x∈l->1<=x/\x<c
theorem Jo (l:η) (c:Int) (hl:l.length<=1000000000):Ok (oe (l,c)) λb=>b=ai->AN c l:=by
 unfold oe bA iY bD aZ cK aF cH;refine b8 l.length (λi x=>x=(i:Int)/\(∀k:Nat,k<i->1<=aK (T:=.int .i64) l (k:Int)/\aK (T:=.int .i64) l (k:Int)<c)/\∀k:Nat,k+1<i->l.getD k 0<l.getD (k+1) 0) ?_ ?_ ⟨rfl,λk hk=>by omega,λk hk=>by omega⟩
 .rintro i x hi ⟨rfl,I,J⟩;have M:0<(i:Int)->bk .i64 ((i:Int)-1)=((i-1:Nat):Int):=λh=>by rw[hP (by omega) (by omega)];omega
  have hq:(0<i->l.getD (i-1) 0<l.getD i 0)->1<=aK (T:=.int .i64) l (i:Int)/\aK (T:=.int .i64) l (i:Int)<c->bk .i64 ((i:Int)+1)=((i+1:Nat):Int)/\(∀k:Nat,k<i+1->1<=aK (T:=.int .i64) l (k:Int)/\aK (T:=.int .i64) l (k:Int)<c)/\∀k:Nat,k+1<i+1->l.getD k 0<l.getD (k+1) 0:=λg1 Z=>by
   refine ⟨gE (by omega),λk hk=>?_,λk hk=>?_⟩
   .rcases ci k i with h1|h1
    .exact I k h1
    .rw[show k=i by omega];exact Z
   .rcases ci (k+1) i with h1|h1
    .exact J k h1
    .have:=g1 (by omega);rw[show k=i-1 by omega,show i-1+1=i by omega];exact this
  with_reducible repeat' first|(refine OS.ok ?_;constructor)|refine IM.mk λ_=>?_
  all_goals try simp only[au,rD] at*
  all_goals first|omega|(intro h;cases h;done)|(rw [M (by omega)];omega)|skip
  .rename_i h1 h2 Y U;rw[M Y,PY,PY]at U;exact hq (λ_=>U) ⟨by omega,by omega⟩
  .exact hq (λh=>by omega) ⟨by omega,by omega⟩
 .rintro x ⟨rfl,I,J⟩;with_reducible repeat' first|(refine OS.ok ?_;constructor)|refine IM.mk λ_=>?_
  all_goals try simp only[au,rD] at*
  all_goals first|omega|skip
  exact⟨YL l λk hk=>J k hk,iD (T:=.int .i64) I⟩
structure VA (w:WT) (sy:SY) (ce fu:η) (t k o v:Int):Prop where
 ld:k=3->v=aK (T:=.int .i64) ce o
 gt:k=23->v=aK (T:=.int .i64) fu o
 br:k=5->v=0\/v=1
 el:¬k=3->¬k=23->¬k=5->¬k=4->¬k=22->v=(rG w sy t k o v).2
theorem ite2 {c:Prop} [Decidable c] {a b:SY×Int} (I:a.2=0) (hb:b.2=0):(if c then a else b).2=0:=by by_cases h:c<;>simp[h,I,hb]
theorem ajr (w:WT) (sy:SY) (t k o u:Int) (h1:¬k=18) (h2:¬k=19):(rG w sy t k o u).2=0:=by
 unfold rG;rw[aA h1,aA h2];repeat (first|exact rfl|refine ite2 rfl ?_)
theorem YP (w:WT) (sy:SY) (t k o u I:Int) (h1:¬k=18):rG w sy t k o u=rG w sy t k o I:=by
 unfold rG;rw[aA h1,aA h1]
theorem F8 (w:WT) (sy:SY) (t o u:Int):rG w sy t 18 o u=if (wl sy.2.2.2 o sy.2.2.2.length).length=0 then (sy,-1) else ((sy.1,sy.2.1,sy.2.2.1,yJ sy.2.2.2 (BZ (wl sy.2.2.2 o sy.2.2.2.length) u) 4),BZ (wl sy.2.2.2 o sy.2.2.2.length) u):=rfl
theorem ald (w:WT) (sy:SY) (t o u:Int):(rG w sy t 19 o u).2=((wl sy.2.2.2 o sy.2.2.2.length).length:Int):=rfl
theorem abr {n:Nat} (w:WT) (s:SN) (hs:NB n s) (hf:F16 w s) (e:ET) (he:EN w s.1 e.1 e.2.1 e.2.2.1):Ok (uG (s,e)) λb=>b=ai->VA w s.1 s.2.1 s.2.2.1 e.1 e.2.1 e.2.2.1 e.2.2.2.1:=by
 obtain⟨t,k,o,v,si,de,fr⟩:=e;obtain⟨s1,s2,s3,s4⟩:=s;obtain⟨nm,t0,t1,cd,e1,e2,e3⟩:=he;obtain⟨_,_,ce,lk,cn,th,fu,_,_,_⟩:=nm;obtain⟨f1,f2,f3⟩:=hf;have hth:=hs.sb.th;dsimp only at*
 unfold uG aX bf bu ch bK bd bA iY bD aZ aF;have hW:=Xl s1 o hth;have hWl:=wj s1.2.2.2 o s1.2.2.2.length;refine aJ (λh=>?_) λn3=>?_
 .have h:k=3:=h;obtain⟨Z,Y⟩:=ce (.inl h);exact aS Z (by rw[f1];exact Y) (aR (ar λh2=>⟨λ_=>bi h2,λI=>by omega,λI=>by omega,λI=>(I h).elim⟩))
 refine aJ (λh=>?_) λJ=>?_
 .have h:k=23:=h;obtain⟨Z,Y⟩:=fu (.inr h);exact aS Z (by rw[f2];exact Y) (aR (ar λh2=>⟨λI=>by omega,λ_=>bi h2,λI=>by omega,λ_ I=>(I h).elim⟩))
 refine aJ (λh=>?_) λn5=>?_
 .have h:k=5:=h;exact gF (aJ (λh2=>ar (ar λ_=>⟨λI=>by omega,λI=>by omega,λ_=>.inl h2,λ_ _ I=>(I h).elim⟩)) λ_=>ar (ar λh2=>⟨λI=>by omega,λI=>by omega,λ_=>.inr (bi h2),λ_ _ I=>(I h).elim⟩))
 refine aY (λx=>x.2=((s1,s2,s3,s4),t,k,o,v,si,de,fr)/\(x.1=ai->k=4\/k=22)) (aJ (λh=>ar ⟨rfl,λ_=>.inl h⟩) λ_=>ar ⟨rfl,λh=>.inr (bi h)⟩) ?_;rintro⟨b,x⟩ ⟨e,hb⟩;dsimp only at e hb;subst e;refine aO (λh=>ar λ_=>⟨λI=>(n3 I).elim,λI=>(J I).elim,λI=>(n5 I).elim,λ_ _ _ h4 h5=>(hb h).elim (λh=>(h4 h).elim) λh=>(h5 h).elim⟩) λ_=>?_
 have fin:v=(rG w s1 t k o v).2->VA w s1 s2 s3 t k o v:=λh=>⟨λI=>(n3 I).elim,λI=>(J I).elim,λI=>(n5 I).elim,λ_ _ _ _ _=>h⟩
 refine aJ (λh=>?_) λU=>?_
 .have h:k=18:=h;subst h;rw[F8]at fin;refine aU hW ?_;revert fin hWl;generalize wl s1.2.2.2 o s1.2.2.2.length=l;intro hWl fin;refine aJ (λh=>ar λh2=>fin ?_) λh=>?_
  .dsimp only[au]at h;rw[aD (by omega)];exact bi h2
  .dsimp only[au]at h;have hne:¬l.length=0:=by omega
   refine gF (e_ (λ_=>bJ (λ_=>?_) λ_=>ar (ar λh=>(by cases h))) λ_=>ar (ar λh=>(by cases h)));refine aU (Xx _ _ (by omega)) (ar (ar λh2=>fin ?_));rw[aA hne];unfold BZ;rw[aA hne,aD h2]
 refine aJ (λh=>?_) λM=>?_
 .have h:k=19:=h;subst h;exact aU hW (ar λh2=>fin (bi h2))
 exact ar λh2=>fin (by rw[ajr _ _ _ _ _ _ U M];exact bi h2)
structure S16 (w:WT) (s:SN) (e:ET):Prop where
 rd:Xs w s.1 e.1 e.2.1 e.2.2.1
 s1:e.2.1=1\/e.2.1=2->e.2.2.2.2.1= -1
 s2:¬(e.2.1=1\/e.2.1=2)->0<=e.2.2.2.2.1/\e.2.2.2.2.1<w.2.2.2.2.2.length/\(aK (T:=yI) w.2.2.2.2.2 e.2.2.2.2.1).1=e.1
 de:0<e.2.2.2.2.2.1.length->e.2.1=5\/(e.2.1=3\/e.2.1=4)/\¬(aK (T:=Q6) w.1 e.2.2.1).2.2.1=0
 fr:0<e.2.2.2.2.2.2.length->e.2.1=4\/e.2.1=22
 nd:AN (aK (T:=.int .i64) s.2.2.2 e.1) e.2.2.2.2.2.1
 nf:AN (aK (T:=.int .i64) s.2.2.2 e.1) e.2.2.2.2.2.2
 va:VA w s.1 s.2.1 s.2.2.1 e.1 e.2.1 e.2.2.1 e.2.2.2.1
def ceP (ce:η) (e:ET):η:=if e.2.1=4 then cz ce e.2.2.1 e.2.2.2.1 else ce
def fuP (fu:η) (e:ET):η:=if e.2.1=22 then cz fu e.2.2.1 e.2.2.2.1 else fu
def nxP (w:WT) (s:SN) (e:ET):SN:=((rG w s.1 e.1 e.2.1 e.2.2.1 e.2.2.2.1).1,ceP s.2.1 e,fuP s.2.2.1 e,cz s.2.2.2 e.1 (bk .i64 (aK (T:=.int .i64) s.2.2.2 e.1+1)))
theorem F' {n:Nat} (w:WT) (s:SN) (hs:NB n s) (hw:w.2.2.1.length<=1000) (e:ET) (hd:e.2.2.2.2.2.1.length<=1000000000) (hf:e.2.2.2.2.2.2.length<=1000000000):Ok (rQ (w,s,e)) λy=>(y.2=ai->EN w s.1 e.1 e.2.1 e.2.2.1/\SP n s y.1/\S16 w s e/\y.1=nxP w s e)/\(y.2=aj->y.1=sn0):=by
 have Z:∀{Q:SN×Bool->Prop},Q (sn0,aj)->Ok (af (sn0,aj)) Q:=λh=>ar h
 have z0:((sn0,aj).2=ai->EN w s.1 e.1 e.2.1 e.2.2.1/\SP n s (sn0,aj).1/\S16 w s e/\(sn0,aj).1=nxP w s e)/\((sn0,aj).2=aj->(sn0,aj).1=sn0):=⟨λh=>(by cases h),λ_=>rfl⟩
 unfold rQ aX bf bu ch dC bK dx cN fg kP ck bd bA iO bE bD kl aZ cK aF cH;refine aY (λx=>x.2=(w,s,e,0)/\(x.1=aj->F16 w s/\(EN w s.1 e.1 e.2.1 e.2.2.1/\Xs w s.1 e.1 e.2.1 e.2.2.1)/\ku (w,s.1,e.1,e.2.1,e.2.2.1)=af ai)) ?_ ?_
 .refine ax (aay w s hw) λb hb=>?_
  with_reducible repeat' first|(refine OS.ok ?_;constructor)|refine IM.mk λ_=>?_
  .exact⟨rfl,λh=>(by cases h)⟩
  simp only[ao8,X6];with_reducible repeat' first|(refine OS.ok ?_;constructor)|refine IM.mk λ_=>?_
  .exact⟨rfl,λh=>(by cases h)⟩
  .exact⟨rfl,λh=>(by cases h)⟩
  .exact⟨rfl,λh=>(by cases h)⟩
  obtain⟨c,hc0,hc⟩:=LY w s.1 hs.sb hw e.1 e.2.1 e.2.2.1;refine aU hc0 (ar ⟨rfl,λh=>?_⟩);have h:c=ai:=by simpa using h
  exact⟨hb (by assumption),hc h,h▸hc0⟩
 rintro⟨J,M⟩ ⟨I,hx⟩;dsimp only at I hx;subst I;refine aO (λ_=>Z z0) λh1=>?_
 obtain⟨hF,⟨hE,hR⟩,hEn⟩:=hx h1;clear hx h1;refine aY (λx=>x=(w,s,e,0)/\(e.2.1=1\/e.2.1=2->e.2.2.2.2.1= -1)/\(¬(e.2.1=1\/e.2.1=2)->0<=e.2.2.2.2.1/\e.2.2.2.2.1<w.2.2.2.2.2.length/\(aK (T:=yI) w.2.2.2.2.2 e.2.2.2.2.1).1=e.1)) ?_ ?_
 .refine aY (λx=>x.2=(w,s,e,0)/\(x.1=ai->e.2.1=1\/e.2.1=2)/\(x.1=aj->¬(e.2.1=1\/e.2.1=2))) ?_ ?_
  .refine aJ (λh=>ar ⟨rfl,λ_=>.inl h,λh=>(by cases h)⟩) λh=>ar ⟨rfl,λh2=>.inr (bi h2),λh2=>?_⟩
   have:=U1 h2;exact λY=>Y.elim h this
  rintro⟨J,M⟩ ⟨I,hy1,hy2⟩;dsimp only at I hy1 hy2;subst I;refine aO (λhk=>?_) λhk=>?_
  .exact b_ (λ_=>ar z0) λh=>ar ⟨rfl,λ_=>h,λY=>(Y (hy1 hk)).elim⟩
  .refine aY (λx=>x.2=(w,s,e,0)/\(x.1=aj->0<=e.2.2.2.2.1/\e.2.2.2.2.1<w.2.2.2.2.2.length/\(aK (T:=yI) w.2.2.2.2.2 e.2.2.2.2.1).1=e.1)) ?_ ?_
   .simp only[ao8,X6];refine b_ (λ_=>ar ⟨rfl,λh=>(by cases h)⟩) λh=>aS h.1 h.2 (aR (ar ⟨rfl,λh2=>⟨h.1,h.2,?_⟩⟩))
    simpa using h2
   rintro⟨J,M⟩ ⟨I,Z⟩;dsimp only at I Z;subst I;exact aO (λ_=>ar z0) λh=>ar ⟨rfl,λY=>((hy2 hk) Y).elim,λ_=>Z h⟩
 rintro x ⟨rfl,hS1,hS2⟩;obtain⟨nm,t0,t1,cd,e1,e2,e3⟩:=id hE;obtain⟨_,_,ce,lk,cn,th,fu,_,_,_⟩:=nm;obtain⟨f1,f2,f3⟩:=id hF;refine aY (λx=>x.2=(w,s,e,0)/\(x.1=ai->e.2.1=3\/e.2.1=4)) ?_ ?_
 .with_reducible repeat' first|(refine OS.ok ?_;constructor)|refine IM.mk λ_=>?_
  .exact⟨rfl,λ_=>.inl (by assumption)⟩
  .exact⟨rfl,λh=>.inr (bi h)⟩
 rintro⟨J,M⟩ ⟨I,U⟩;dsimp only at I U;subst I;refine aY (λx=>x.2=(w,s,e,0)/\(x.1=aj->0<e.2.2.2.2.2.1.length->e.2.1=5\/(e.2.1=3\/e.2.1=4)/\¬(aK (T:=Q6) w.1 e.2.2.1).2.2.1=0)) ?_ ?_
 .refine bJ (λ_=>b_ (λ_=>aO (λh=>?_) λ_=>ar ⟨rfl,λh=>(by cases h)⟩) λh5=>ar ⟨rfl,λ_ _=>.inl h5⟩) λh=>ar ⟨rfl,λ_ h2=>?_⟩
  .refine aS (ce (U h)).1 (ce (U h)).2 (aR (ar ⟨rfl,λh2 _=>.inr ⟨U h,?_⟩⟩));simpa using h2
  .dsimp only[au]at h;omega
 rintro⟨J,M⟩ ⟨I,hDe⟩;dsimp only at I hDe;subst I;refine aO (λ_=>Z z0) λhde=>?_
 refine aY (λx=>x.2=(w,s,e,0)/\(x.1=aj->0<e.2.2.2.2.2.2.length->e.2.1=4\/e.2.1=22)) ?_ ?_
 .refine bJ (λ_=>b_ (λ_=>ar ⟨rfl,λh _=>.inr (by simpa using h)⟩) λh4=>ar ⟨rfl,λ_ _=>.inl h4⟩) λh=>ar ⟨rfl,λ_ h2=>?_⟩
  dsimp only[au]at h;omega
 rintro⟨J,M⟩ ⟨I,hFr⟩;dsimp only at I hFr;subst I;refine aO (λ_=>Z z0) λhfr=>?_
 have hk:=hs.k;have hc:=hs.c;have hfu:=hs.f;refine aY (λx=>x.2=(w,s,e,0)/\(x.1=aj->AN (aK (T:=.int .i64) s.2.2.2 e.1) e.2.2.2.2.2.1/\AN (aK (T:=.int .i64) s.2.2.2 e.1) e.2.2.2.2.2.2/\VA w s.1 s.2.1 s.2.2.1 e.1 e.2.1 e.2.2.1 e.2.2.2.1)) ?_ ?_
 .have hv:=abr w s hs hF e hE;refine aS t0 (by rw[f3];exact t1) (aR (ax (Jo _ _ hd) λb hb=>?_));refine dW (λ_=>ar ⟨rfl,λh=>(by cases h)⟩) λb1=>?_
  refine aS t0 (by rw[f3];exact t1) (aR (ax (Jo _ _ hf) λb hb2=>?_));refine dW (λ_=>ar ⟨rfl,λh=>(by cases h)⟩) λb2=>?_
  exact ax hv λb hb3=>ar ⟨rfl,λh=>⟨hb b1,hb2 b2,hb3 (by simpa using h)⟩⟩
 rintro⟨J,M⟩ ⟨I,hNum⟩;dsimp only at I hNum;subst I;refine aO (λ_=>Z z0) λhnu=>?_
 obtain⟨hN1,hN2,hVA⟩:=hNum hnu;have hS:S16 w s e:=⟨hR,hS1,hS2,hDe hde,hFr hfr,hN1,hN2,hVA⟩
 refine bg (by simp;omega) (by omega) (bg (by simp;omega) (by omega) (bg (by simp;omega) (by omega) ?_));refine aY (λx=>x.2=(w,s,e,0,0,s.2.1,s.2.2.1,s.2.2.2)/\rG w s.1 e.1 e.2.1 e.2.2.1 x.1=rG w s.1 e.1 e.2.1 e.2.2.1 e.2.2.2.1) ?_ ?_
 .exact aJ (λ_=>ar ⟨rfl,rfl⟩) λh=>ar ⟨rfl,YP _ _ _ _ _ _ _ h⟩
 rintro⟨J,M⟩ ⟨I,hxu⟩;dsimp only at I hxu;subst I;refine ax (UV w s.1 hs.sb hw e.1 e.2.1 e.2.2.1 J) λy hy=>?_
 obtain⟨_,_,hap,hyq⟩:=hy.1 (hy.2.2 hEn);rw[hxu]at hyq;refine aY (λx=>x.1=e/\x.2.2.1=y.1/\x.2.2.2.1=ceP s.2.1 e/\x.2.2.2.2=(s.2.2.1,s.2.2.2)) ?_ ?_
 .unfold ceP;refine aJ (λh=>?_) λh=>ar ⟨rfl,rfl,(aA h).symm,rfl⟩
  have hc4:=ce (.inr h);with_reducible repeat' first|(refine OS.ok ?_;constructor)|refine IM.mk λ_=>?_
  all_goals try simp only[au,rD] at*
  all_goals first|omega|exact (aD h).symm
 rintro⟨J,M,x3,x4,x5,x6⟩ ⟨h1,h2,Y,h4⟩;simp only[aE]at h1 h2 Y h4;obtain⟨rfl,rfl⟩:=h4;subst h1;subst h2;subst Y;refine aY (λx=>x.1=J/\x.2.2.1=y.1/\x.2.2.2.1=ceP s.2.1 J/\x.2.2.2.2.1=fuP s.2.2.1 J/\x.2.2.2.2.2=s.2.2.2) ?_ ?_
 .unfold fuP;refine aJ (λh=>?_) λh=>ar ⟨rfl,rfl,rfl,(aA h).symm,rfl⟩
  have hc4:=fu (.inl h);with_reducible repeat' first|(refine OS.ok ?_;constructor)|refine IM.mk λ_=>?_
  all_goals try simp only[au,rD] at*
  all_goals first|omega|exact (aD h).symm
 rintro⟨J,M,x3,x4,x5,x6⟩ ⟨h1,h2,h4,h5,h6⟩;simp only at h1 h2 h4 h5 h6;subst h1;subst h2;subst h4;subst h5;subst h6;have l1:(ceP s.2.1 J).length=s.2.1.length:=by unfold ceP;split<;>simp[bW]
 have l2:(fuP s.2.2.1 J).length=s.2.2.1.length:=by unfold fuP;split<;>simp[bW]
 with_reducible repeat' first|(refine OS.ok ?_;constructor)|refine IM.mk λ_=>?_
 all_goals try simp only[au,rD] at*
 all_goals first|omega|skip
 exact⟨⟨hE,⟨hap,l1,l2,by rw[bW]⟩,hS,by unfold nxP;rw[<- hyq]⟩,λh=>(by cases h)⟩
theorem UE:Ok (kF ()) λl=>l.length=22:=by
 unfold kF;with_reducible repeat' first|(refine OS.ok ?_;constructor)|refine IM.mk λ_=>?_
 all_goals rfl
theorem Q3 (s:ζ):Ok (jO s) λ_=>True:=by
 unfold jO bA bD aZ cK aF cH;refine ax UE λl hl=>?_
 refine b8 l.length (λi x=>x=(i:Int)) ?_ ?_ rfl
 .rintro i x hi rfl;with_reducible repeat' first|(refine OS.ok ?_;constructor)|refine IM.mk λ_=>?_
  all_goals try simp only[au,rD] at*
  all_goals first|omega|exact gE (by omega)
 .rintro x rfl;with_reducible repeat' first|(refine OS.ok ?_;constructor)|refine IM.mk λ_=>?_
  all_goals try simp only[au,rD] at*
  all_goals omega
theorem OF (c:Int):Ok (lJ c) λ_=>True:=by
 unfold lJ iY aF;with_reducible repeat' first|(refine OS.ok ?_;constructor)|refine IM.mk λ_=>?_
 all_goals exact trivial
theorem ad4 (c:Int):Ok (pQ c) λ_=>True:=by
 unfold pQ rW iY aF;refine gF (ax (OF c) λ_ _=>?_);with_reducible repeat' first|(refine OS.ok ?_;constructor)|refine IM.mk λ_=>?_
 all_goals try exact trivial
 refine ax (P:=λ_=>True) ?_ λ_ _=>?_
 .with_reducible repeat' first|(refine OS.ok ?_;constructor)|refine IM.mk λ_=>?_
  all_goals exact trivial
 .with_reducible repeat' first|(refine OS.ok ?_;constructor)|refine IM.mk λ_=>?_
  all_goals exact trivial
theorem iF (s:ζ):Ok (fA s) λ_=>True:=by
 unfold fA bA vp aZ cK aF cH;refine aY (λb=>b=aj->s.length<=12) ?_ ?_
 .with_reducible repeat' first|(refine OS.ok ?_;constructor)|refine IM.mk λ_=>?_
  .exact λh=>(by cases h)
  .exact λh=>(by cases h)
  .omega
  .simp only[au]at *;omega
  refine ax (OF _) λ_ _=>?_
  with_reducible repeat' first|(refine OS.ok ?_;constructor)|refine IM.mk λ_=>?_
  .exact λh=>(by cases h)
  refine ax (Q3 _) λ_ _=>ar λ_=>?_
  simp only[au]at *;omega
 .rintro b hb;refine aO (λ_=>ar trivial) λh=>?_
  have hb:=hb h;refine b8 s.length (λi x=>x=(i:Int)) ?_ ?_ rfl
  .rintro i x hi rfl;with_reducible repeat' first|(refine OS.ok ?_;constructor)|refine IM.mk λ_=>?_
   all_goals try simp only[au,rD] at*
   all_goals first|omega|skip
   refine ax (ad4 _) λ_ _=>?_
   with_reducible repeat' first|(refine OS.ok ?_;constructor)|refine IM.mk λ_=>?_
   .exact trivial
   .exact gE (by omega)
  .rintro x rfl;with_reducible repeat' first|(refine OS.ok ?_;constructor)|refine IM.mk λ_=>?_
   all_goals try simp only[au,rD] at*
   all_goals first|omega|exact trivial
theorem zk (l:List ζ) (s:ζ) (hl:l.length<=1000000000):Ok (ji (l,s)) λr=> -1<=r/\r<l.length/\(0<=r->aK (T:=.str) l r=s)/\(r<0->s∉l):=by
 unfold ji bA bD aZ cK aF cH;refine b8 l.length (λi x=>x=(i:Int)/\∀k:Nat,k<i->aK (T:=.str) l (k:Int)≠s) ?_ ?_ ⟨rfl,λk hk=>by omega⟩
 .rintro i x hi ⟨rfl,I⟩;with_reducible repeat' first|(refine OS.ok ?_;constructor)|refine IM.mk λ_=>?_
  all_goals try simp only[au,rD] at*
  all_goals first|omega|skip
  .exact⟨by omega,by omega,λ_=>by assumption,λh=>by omega⟩
  .refine ⟨gE (by omega),λk hk=>?_⟩;rcases ci k i with h1|h1
   .exact I k h1
   .rw[show k=i by omega];assumption
 .rintro x ⟨rfl,I⟩;with_reducible repeat' first|(refine OS.ok ?_;constructor)|refine IM.mk λ_=>?_
  all_goals try simp only[au,rD] at*
  all_goals first|omega|skip
  exact⟨by omega,by omega,λh=>by omega,λ_ h=>iD (T:=.str) (p:=λc=>c≠s) I s h rfl⟩
structure VL (w:WT):Prop where
 c:w.1.length<=12
 l:w.2.1.length<=4
 d:w.2.2.1.length<=2
 f:w.2.2.2.1.length<=2
 t0:1<=w.2.2.2.2.1.length
 t:w.2.2.2.2.1.length<=4
 s:w.2.2.2.2.2.length<=60
theorem aco (w:WT) (h:VL w):Ok (pN w) λy=>y.1.length<=100:=by
 obtain⟨I,U,M,w4,Z,Y⟩:=w;obtain⟨h1,h2,h3,h4,_,h5,h6⟩:=h;dsimp only at*
 unfold pN aX bf bu ch dx kP bd bA iO bE bD aZ cK aF cH;refine qF (λx=>((I.length:Int)-x.1).toNat) (λx=>x.2.1=(I,U,M,w4,Z,Y)/\0<=x.1/\x.1<=(I.length:Int)/\(x.2.2.length:Int)<=x.1) ?_ ⟨rfl,by simp,by simp,by simp⟩;rintro⟨x1,x2,x3⟩ ⟨e,g1,g2,g3⟩;dsimp only at e g1 g2 g3;subst e;refine bJ (λg4=>?_) λg4=>?_
 .dsimp only[au]at g4;refine aY (λx=>x.2.1=(I,U,M,w4,Z,Y)/\x1<x.1/\x.1<=(I.length:Int)/\(x.2.2.length:Int)<=x.1) ?_ ?_
  .refine bZ (aR (bg (by simp;omega) (by omega) ?_));refine aJ (λ_=>?_) λ_=>?_
   .with_reducible repeat' first|(refine OS.ok ?_;constructor)|refine IM.mk λ_=>?_
    .exact j7 _
    .rw[hP (by omega) (by omega)];exact⟨rfl,by dsimp only;omega,by dsimp only;omega,by simp;omega⟩
   .generalize hz:aK _ x1=z;obtain⟨z1,(z2:Int),(J:Int),z4,z5⟩:=z;dsimp only;refine aY (λx=>x.2=((I,U,M,w4,Z,Y),x3++[z1],z1,z2,J,z4,z5)/\(x.1=aj->1<=J/\J<=4/\x1+J<=I.length)) ?_ ?_
    .with_reducible repeat' first|(refine OS.ok ?_;constructor)|refine IM.mk λ_=>?_
     .exact⟨rfl,λh=>(by cases h)⟩
     .exact⟨rfl,λh=>(by cases h)⟩
     .refine ⟨rfl,λh=>?_⟩;dsimp only[au] at*
      rw[hP (by omega) (by omega),gx]at h;omega
    .rintro⟨b,y⟩ ⟨e,hb⟩;dsimp only at e hb;subst e;refine aO (λ_=>ar (j7 _)) λh=>?_
     obtain⟨q1,q2,q3⟩:=hb h;refine qF (λx=>(J-x.1).toNat) (λx=>x.2=((I,U,M,w4,Z,Y),x3++[z1],z1,z2,J,z4,z5)/\0<=x.1/\x.1<=J) ?_ ⟨rfl,by simp,by dsimp only;omega⟩;rintro⟨k,y⟩ ⟨e,k0,k1⟩;dsimp only at e k0 k1;subst e;refine bJ (λk2=>?_) λk2=>?_
     .dsimp only at k2;have e1:bk .i64 (x1+k)=x1+k:=hP (by omega) (by omega);refine aS (by dsimp only;rw[e1];omega) (by dsimp only;rw[e1];omega) (aR ?_);refine aY (λx=>x.2=((I,U,M,w4,Z,Y),x3++[z1],z1,z2,J,z4,z5)) ?_ ?_
      .with_reducible repeat' first|(refine OS.ok ?_;constructor)|refine IM.mk λ_=>?_
       all_goals rfl
      .rintro⟨b,y⟩ e;dsimp only at e;subst e;refine aO (λ_=>ar (j7 _)) λ_=>ar ?_
       dsimp only;rw[hP (by omega) (by omega)];exact⟨⟨rfl,by omega,by omega⟩,by omega⟩
     .dsimp only at k2;refine ar ?_;dsimp only;rw[hP (by omega) (by omega)];exact⟨rfl,by omega,by omega,by simp;omega⟩
  .rintro⟨y1,y2,y3⟩ ⟨e,g5,g6,g7⟩;dsimp only at e g5 g6 g7;subst e;refine ar ⟨⟨rfl,by dsimp only;omega,g6,g7⟩,?_⟩;dsimp only;omega
 .dsimp only[au]at g4;refine ax (P:=λy=>y.1.length<=100) ?_ λy hy=>ar hy
  refine b8 U.length (λi x=>x.1=(i:Int)/\x.2.1=(I,U,M,w4,Z,Y)/\x.2.2.length<=12+i) ?_ ?_ ⟨rfl,rfl,by dsimp only;omega⟩
  .rintro i ⟨a,b,c⟩ hi ⟨e1,e2,e3⟩;dsimp only at e1 e2 e3;subst e1;subst e2;with_reducible repeat' first|(refine OS.ok ?_;constructor)|refine IM.mk λ_=>?_
   all_goals try simp only[au,rD] at*
   all_goals first|omega|(simp;omega)|skip
   exact⟨gE (by omega),by simp;omega⟩
  .rintro⟨a,b,c⟩ ⟨e1,e2,e3⟩;dsimp only at e1 e2 e3;subst e1;subst e2;refine bJ (λg4=>(by dsimp only[au]at g4;omega)) λ_=>?_
   refine ax (P:=λy=>y.1.length<=100) ?_ λy hy=>ar hy
   refine b8 M.length (λi x=>x.1=(i:Int)/\x.2.1=(I,U,M,w4,Z,Y)/\x.2.2.length<=16+i) ?_ ?_ ⟨rfl,rfl,by dsimp only;omega⟩
   .rintro i ⟨a,b,c⟩ hi ⟨e1,e2,e3⟩;dsimp only at e1 e2 e3;subst e1;subst e2;with_reducible repeat' first|(refine OS.ok ?_;constructor)|refine IM.mk λ_=>?_
    all_goals try simp only[au,rD] at*
    all_goals first|omega|(simp;omega)|skip
    exact⟨gE (by omega),by simp;omega⟩
   .rintro⟨a,b,c⟩ ⟨e1,e2,e3⟩;dsimp only at e1 e2 e3;subst e1;subst e2;refine bJ (λg4=>(by dsimp only[au]at g4;omega)) λ_=>?_
    refine ax (P:=λy=>y.1.length<=100) ?_ λy hy=>ar hy
    with_reducible repeat' first|(refine OS.ok ?_;constructor)|refine IM.mk λ_=>?_
    all_goals try simp only[au,rD] at*
    all_goals first|omega|(simp;omega)
def UY (T:Int) (o:Option Γ) (s:ν):Option Γ:=
 match o with
 |none=>ah
 |some (t,n)=>if s.1=t/\s.2.1=n then af (t,n+1) else if t<s.1/\s.1<T/\s.2.1=0 then af (s.1,1) else ah
def Ma (T:Int) (l:List ν):Option Γ:=l.foldl (UY T) (af (0,0))
def SV0 (w:WT):Prop:=Ma w.2.2.2.2.1.length w.2.2.2.2.2≠ah
theorem I7 {T:Int} {l:List ν} {i:Nat} (hi:i<l.length):Ma T (l.take (i+1))=UY T (Ma T (l.take i)) (aK (T:=yI) l (i:Int)):=by
 rw[mX (T:=yI) hi];unfold Ma;rw[dV];rfl
theorem B1 (w:WT):Ok (ii w) λb=>b=ai->VL w/\SV0 w:=by
 unfold ii aX bf bu ch cN fg bd bA iY iO bE bD aZ cK aF cH;refine aY (λx=>x.2=w/\(x.1=aj->VL w)) ?_ ?_
 .with_reducible repeat' first|(refine OS.ok ?_;constructor)|refine IM.mk λ_=>?_
  all_goals first|exact⟨rfl,λh=>(by cases h)⟩|skip
  dsimp only[au] at*
  refine ⟨rfl,λh=>?_⟩;rw[gx]at h;constructor<;>omega
 rintro⟨b,x⟩ ⟨e,hb⟩;dsimp only at e hb;subst e;refine aO (λ_=>ar λh=>(by cases h)) λh=>?_
 have hv:=hb h;refine ax (aco _ hv) λy hy=>?_
 refine dW (λ_=>ar λh=>(by cases h)) λ_=>?_
 obtain⟨w1,w2,U,Z,J,I⟩:=x;have h6:=hv.s;have h3:=hv.d;dsimp only at h6 h3;refine b8 y.1.length (λi x=>x.1=(i:Int)/\x.2=(w1,w2,U,Z,J,I)) ?_ ?_ ⟨rfl,rfl⟩
 .rintro i ⟨a,b⟩ hi ⟨e1,e2⟩;dsimp only at e1 e2;subst e1;subst e2;refine bJ (λY=>?_) λY=>(by dsimp only[au]at Y;omega)
  refine aY (λx=>x.2=(w1,w2,U,Z,J,I)) ?_ ?_
  .refine bZ (aR (ax (iF _) λ_ _=>?_));refine dW (λ_=>ar rfl) λ_=>?_
   with_reducible repeat' first|(refine OS.ok ?_;constructor)|refine IM.mk λ_=>?_
   all_goals try simp only[au,rD] at*
   all_goals first|omega|skip
   refine ax (zk _ _ (by simp;omega)) λ_ _=>ar rfl
  .rintro⟨a,b⟩ e;dsimp only at e;subst e;with_reducible repeat' first|(refine OS.ok ?_;constructor)|refine IM.mk λ_=>?_
   .exact λh=>(by cases h)
   .dsimp only;exact⟨gE (by omega),rfl⟩
 rintro⟨a,b⟩ ⟨e1,e2⟩;dsimp only at e1 e2;subst e1;subst e2;refine bJ (λY=>(by dsimp only[au]at Y;omega)) λ_=>?_
 refine ax (P:=λb=>b=ai->VL (w1,w2,U,Z,J,I)/\SV0 (w1,w2,U,Z,J,I)) ?_ λy hy=>ar hy
 refine b8 U.length (λi x=>x.1=(i:Int)/\x.2=(w1,w2,U,Z,J,I)) ?_ ?_ ⟨rfl,rfl⟩
 .rintro i ⟨a,b⟩ hi ⟨e1,e2⟩;dsimp only at e1 e2;subst e1;subst e2;refine bJ (λY=>?_) λY=>(by dsimp only[au]at Y;omega)
  refine bZ (aR ?_);refine aY (λx=>x.2=(w1,w2,U,Z,J,I)) ?_ ?_
  .with_reducible repeat' first|(refine OS.ok ?_;constructor)|refine IM.mk λ_=>?_
   all_goals try simp only[au,rD] at*
   all_goals first|omega|rfl
  .rintro⟨a,b⟩ e;dsimp only at e;subst e;with_reducible repeat' first|(refine OS.ok ?_;constructor)|refine IM.mk λ_=>?_
   .exact λh=>(by cases h)
   .dsimp only;exact⟨gE (by omega),rfl⟩
 rintro⟨a,b⟩ ⟨e1,e2⟩;dsimp only at e1 e2;subst e1;subst e2;refine bJ (λY=>(by dsimp only[au]at Y;omega)) λ_=>?_
 refine ax (P:=λb=>b=ai->VL (w1,w2,U,Z,J,I)/\SV0 (w1,w2,U,Z,J,I)) ?_ λy hy=>ar hy
 refine b8 I.length (λi x=>x.1=(i:Int)/\x.2=(w1,w2,U,Z,J,I)/\Ma J.length (I.take i)=af (if i=0 then (0,0) else ((aK (T:=yI) I ((i-1:Nat):Int)).1,(aK (T:=yI) I ((i-1:Nat):Int)).2.1+1))/\(¬i=0->(0:Int)<=(aK (T:=yI) I ((i-1:Nat):Int)).2.1/\(i:Int)>(aK (T:=yI) I ((i-1:Nat):Int)).2.1)) ?_ ?_ ⟨rfl,rfl,rfl,λh=>(h rfl).elim⟩
 .rintro i ⟨a,b⟩ hi ⟨e1,e2,e3,hpb⟩;dsimp only at e1 e2;subst e1;subst e2;have hw:¬(i:Int)=0->bk .i64 ((i:Int)-1)=((i-1:Nat):Int):=λh=>by rw[hP (by omega) (by omega)];omega
  have hnx:=I7 (T:=J.length) hi;rw[e3]at hnx;clear e3;refine bJ (λY=>?_) λY=>(by dsimp only[au]at Y;omega)
  refine aY (λx=>x=(w1,w2,U,Z,J,I)/\Ma J.length (I.take (i+1))=af (((aK (T:=yI) I (i:Int)).1,(aK (T:=yI) I (i:Int)).2.1+1))/\(0:Int)<=(aK (T:=yI) I (i:Int)).2.1/\((i+1:Nat):Int)>(aK (T:=yI) I (i:Int)).2.1) ?_ ?_
  .refine bZ (aR ?_);rw[hnx];generalize hz:aK (T:=yI) I (i:Int)=z;obtain⟨(z1:Int),(z2:Int),(z3:Int)⟩:=z;dsimp only;refine aY (λx=>x.2=((w1,w2,U,Z,J,I),z1,z2,z3)/\(x.1=aj->0<=z1/\z1<J.length)) ?_ ?_
   .refine bJ (λ_=>ar ⟨rfl,λh=>(by cases h)⟩) λg=>ar ⟨rfl,λh=>⟨g,?_⟩⟩
    rw[ml]at h;exact h
   rintro⟨c,y⟩ ⟨e,hzr⟩;dsimp only at e hzr;subst e;refine aO (λ_=>ar λh=>(by cases h)) λhzb=>?_
   obtain⟨z0,zT⟩:=hzr hzb;refine aY (λx=>x.2=((w1,w2,U,Z,J,I),z1,z2,z3)/\(x.1=ai->i=0\/¬(aK (T:=yI) I ((i-1:Nat):Int)).1=z1)/\(x.1=aj->¬(i:Int)=0/\(aK (T:=yI) I ((i-1:Nat):Int)).1=z1)) ?_ ?_
   .refine aJ (λh=>ar ⟨rfl,λ_=>.inl (by have h:((i:Nat):Int)=0:=h;omega),λh=>(by cases h)⟩) λh=>?_
    rw[hw h];refine bZ (aR (ar ⟨rfl,λh2=>.inr (by simpa using h2),λh2=>⟨h,by simpa using h2⟩⟩))
   rintro⟨c,y⟩ ⟨e,hc1,hc⟩;dsimp only at e hc1 hc;subst e;refine aO (λhct=>?_) λhcf=>?_
   .refine aY (λx=>x.2=(w1,w2,U,Z,J,I)/\(x.1=aj->z2=0/\(¬i=0->((aK (T:=yI) I ((i-1:Nat):Int)).1:Int)<z1))) ?_ ?_
    .refine b_ (λ_=>ar ⟨rfl,λh=>(by cases h)⟩) λhz2=>?_
     refine bJ (λh=>?_) λM=>ar ⟨rfl,λ_=>⟨hz2,λh=>by have M:((i:Nat):Int)<=0:=M;omega⟩⟩
     have h:(0:Int)<((i:Nat):Int):=h;rw[hw (by omega)];refine bZ (aR (ar ⟨rfl,λh2=>⟨hz2,λh3=>?_⟩⟩));rw[gx]at h2;have h4:=(hc1 hct).resolve_left h3;have h2:(aK (T:=yI) I ((i-1:Nat):Int)).1<=z1:=h2;exact Int.lt_iff_le_and_ne.2 ⟨h2,h4⟩
    rintro⟨c,y⟩ ⟨e,hy⟩;dsimp only at e hy;subst e;refine aO (λ_=>ar λh=>(by cases h)) λh=>ar ⟨rfl,?_⟩
    obtain⟨q1,q2⟩:=hy h;have q1:z2=0:=q1;subst q1;refine ⟨?_,eE 0,by show _>(0:Int);omega⟩;unfold UY;by_cases M:i=0
    .subst M;rw[aD rfl];dsimp only;by_cases hz1:z1=0
     .subst hz1;rfl
     .rw[aA (λh=>hz1 h.1),aD ⟨by omega,zT,rfl⟩];rfl
    .have:=q2 M;rw[aA M];dsimp only;rw[aA (λh=>by omega),aD ⟨this,zT,rfl⟩];rfl
   .obtain⟨M,hpr⟩:=hc hcf;rw[hw M];refine bZ (aR ?_);refine b_ (λ_=>ar λh=>(by cases h)) λh=>ar ⟨rfl,?_⟩
    obtain⟨b0,b1⟩:=hpb (by omega);have h:z2=bk .i64 ((aK (T:=yI) I ((i-1:Nat):Int)).2.1+1):=h;rw[hP (by omega) (by omega)]at h;refine ⟨?_,by omega,by omega⟩;rw[aA (by omega)];unfold UY;dsimp only;rw[aD ⟨hpr.symm,h⟩,hpr,h]
  .rintro x ⟨rfl,hx,hx2⟩;refine ar ?_;dsimp only;refine ⟨gE (by omega),rfl,?_,λ_=>hx2⟩;rw[aA (by omega)];exact hx
 .rintro⟨a,b⟩ ⟨e1,e2,e3,_⟩;dsimp only at e1 e2;subst e1;subst e2;refine bJ (λY=>(by dsimp only[au]at Y;omega)) λ_=>?_
  rw[cW]at e3;exact ar λ_=>⟨hv,by unfold SV0;dsimp only;rw[e3];simp⟩
def tZ (e:ET):Bool:=decide (e.2.1=3)||decide (e.2.1=23)
def fl (l:List ET) (t:Int):θ:=(l.filter λe=>decide (e.1=t)).map tZ
def LW (l:List ET) (t y:Int):Prop:=0<=y/\(fl l t).getD y.toNat aj=ai
theorem uY (l m:List ET) (t:Int):fl (l++m) t=fl l t++fl m t:=by unfold fl;rw[yH,cE]
theorem Ab {e:ET} {t:Int} (h:e.1=t):fl [e] t=[tZ e]:=by unfold fl;simp[h]
theorem xg {e:ET} {t:Int} (h:¬e.1=t):fl [e] t=[]:=by unfold fl;simp[h]
theorem LW.app {l:List ET} {t y:Int} (h:LW l t y) (m:List ET):LW (l++m) t y:=by
 obtain⟨h0,h1⟩:=h;refine ⟨h0,?_⟩;rw[uY];rw[ay]at h1 ⊢;rcases ci y.toNat (fl l t).length with g|g
 .rw[bM g];exact h1
 .rw[bT g]at h1;cases h1
theorem LW.lt {l:List ET} {t y:Int} (h:LW l t y):y<(fl l t).length:=by
 obtain⟨h0,h1⟩:=h;rcases ci y.toNat (fl l t).length with g|g
 .omega
 .rw[ay,bT g]at h1;cases h1
theorem LW.last {l:List ET} {e:ET} {y:Int} (h:tZ e=ai) (I:y=(fl l e.1).length):LW (l++[e]) e.1 y:=by
 subst I;refine ⟨by omega,?_⟩;rw[uY,Ab rfl,ay,b7 (by simp),h];simp
theorem Yk (l:List ET) (t:Int):(fl l t).length<=l.length:=by unfold fl;rw[bS];exact B7 ..
structure SCx (w:WT) (l:List ET) (sy:SY) (ce fu:η) (e:ET):Prop where
 en:EN w sy e.1 e.2.1 e.2.2.1
 rd:Xs w sy e.1 e.2.1 e.2.2.1
 s1:e.2.1=1\/e.2.1=2->e.2.2.2.2.1= -1
 s2:¬(e.2.1=1\/e.2.1=2)->0<=e.2.2.2.2.1/\e.2.2.2.2.1<w.2.2.2.2.2.length/\(aK (T:=yI) w.2.2.2.2.2 e.2.2.2.2.1).1=e.1
 de:0<e.2.2.2.2.2.1.length->e.2.1=5\/(e.2.1=3\/e.2.1=4)/\¬(aK (T:=Q6) w.1 e.2.2.1).2.2.1=0
 fr:0<e.2.2.2.2.2.2.length->e.2.1=4\/e.2.1=22
 nd:AN (fl l e.1).length e.2.2.2.2.2.1
 nf:AN (fl l e.1).length e.2.2.2.2.2.2
 rd1:∀y∈e.2.2.2.2.2.1,LW l e.1 y
 rd2:∀y∈e.2.2.2.2.2.2,LW l e.1 y
 va:VA w sy ce fu e.1 e.2.1 e.2.2.1 e.2.2.2.1
def Y2:Nat->List (Int×Int×Bool)
 |0=>[]
 |n+1=>(1,0,aj)::aG n (0,0,aj)
def Q9 (w:WT):SY:=(aG w.2.1.length (-1,[]),-1,aG w.2.2.2.1.length aj,Y2 w.2.2.2.2.1.length)
def ce0 (w:WT):η:=w.1.map λc=>c.2.2.2.2
def fu0 (w:WT):η:=aG w.2.2.2.1.length 0
inductive Acw (w:WT):List ET->SY->η->η->Prop
 |nil:Acw w [] (Q9 w) (ce0 w) (fu0 w)
 |snoc {l:List ET} {sy:SY} {ce fu:η} {e:ET} (h:Acw w l sy ce fu) (hs:SCx w l sy ce fu e):Acw w (l++[e]) (rG w sy e.1 e.2.1 e.2.2.1 e.2.2.2.1).1 (ceP ce e) (fuP fu e)
theorem abw (i:Nat):Y2 (i+2)=Y2 (i+1)++[(0,0,aj)]:=by
 show (1,0,aj)::aG (i+1) (0,0,aj)=(1,0,aj)::aG i (0,0,aj)++[(0,0,aj)]
 rw[vk,gC]
theorem Ir:∀n,(Y2 n).length=n
 |0=>rfl
 |n+1=>by simp[Y2]
theorem LL (w:WT) (h:VL w):rR w=af (Q9 w):=by
 obtain⟨w1,I,Z,J,U,Y⟩:=w;obtain⟨h1,h2,h3,h4,_,h5,h6⟩:=h;dsimp only at*
 refine ct ?_;unfold rR aX bf bu ch dx cN fg bd bA bE aZ cK aF cH;refine b8 I.length (λi x=>x.1=(i:Int)/\x.2.1=(w1,I,Z,J,U,Y)/\x.2.2.2=(-1,aG i (-1,[]))) ?_ ?_ ⟨rfl,rfl,rfl⟩
 .rintro i ⟨a,b,c,d,e⟩ hi ⟨e1,e2,e3⟩;simp only[aE]at e1 e2 e3;obtain⟨rfl,rfl⟩:=e3;subst e1;subst e2;with_reducible repeat' first|(refine OS.ok ?_;constructor)|refine IM.mk λ_=>?_
  all_goals try simp only[au,rD] at*
  all_goals first|omega|(simp;omega)|skip
  exact⟨gE (by omega),by rw[vk]⟩
 rintro⟨a,b,c,d,e⟩ ⟨e1,e2,e3⟩;simp only[aE]at e1 e2 e3;obtain⟨rfl,rfl⟩:=e3;subst e1;subst e2;refine bJ (λM=>(by dsimp only[au]at M;omega)) λ_=>?_
 refine ax (P:=λs=>s=Q9 (w1,I,Z,J,U,Y)) ?_ λy hy=>ar hy
 refine b8 J.length (λi x=>x.1=(i:Int)/\x.2.1=(w1,I,Z,J,U,Y)/\x.2.2.2=(-1,aG I.length (-1,[]),aG i aj)) ?_ ?_ ⟨rfl,rfl,rfl⟩
 .rintro i ⟨a,b,c,d,e',f⟩ hi ⟨e1,e2,e3⟩;simp only[aE]at e1 e2 e3;obtain⟨rfl,rfl,rfl⟩:=e3;subst e1;subst e2;with_reducible repeat' first|(refine OS.ok ?_;constructor)|refine IM.mk λ_=>?_
  all_goals try simp only[au,rD] at*
  all_goals first|omega|(simp;omega)|skip
  exact⟨gE (by omega),by rw[vk]⟩
 rintro⟨a,b,c,d,e',f⟩ ⟨e1,e2,e3⟩;simp only[aE]at e1 e2 e3;obtain⟨rfl,rfl,rfl⟩:=e3;subst e1;subst e2;refine bJ (λM=>(by dsimp only[au]at M;omega)) λ_=>?_
 refine ax (P:=λs=>s=Q9 (w1,I,Z,J,U,Y)) ?_ λy hy=>ar hy
 refine b8 U.length (λi x=>x.1=(i:Int)/\x.2.1=(w1,I,Z,J,U,Y)/\x.2.2.2=(-1,aG I.length (-1,[]),aG J.length aj,Y2 i)) ?_ ?_ ⟨rfl,rfl,rfl⟩
 .rintro i ⟨a,b,c,d,e'',f',g⟩ hi ⟨e1,e2,e3⟩;simp only[aE]at e1 e2 e3;obtain⟨rfl,rfl,rfl,rfl⟩:=e3;subst e1;subst e2;have hl:=Ir i;refine bJ (λ_=>?_) λM=>(by dsimp only[au]at M;omega)
  refine gF (aJ (λh0=>ar ?_) λh0=>ar ?_)
  .have h0:((i:Nat):Int)=0:=h0;have h0:i=0:=by omega
   subst h0;exact bg (by simp[Y2]) (by omega) (ar ⟨rfl,rfl,rfl⟩)
  .have h0:¬((i:Nat):Int)=0:=h0;obtain⟨j,rfl⟩:∃j,i=j+1:=⟨i-1,by omega⟩
   refine bg (by dsimp only;rw[hl];simp;omega) (by omega) (ar ⟨gE (by omega),rfl,?_⟩);dsimp only;rw[abw]
 rintro⟨a,b,c,d,e'',f',g⟩ ⟨e1,e2,e3⟩;simp only[aE]at e1 e2 e3;obtain⟨rfl,rfl,rfl,rfl⟩:=e3;subst e1;subst e2;refine bJ (λM=>(by dsimp only[au]at M;omega)) λ_=>ar rfl
theorem Ve {w:WT} (h:VL w):SB 0 (Q9 w):=by
 obtain⟨h1,h2,U,M,_,J,I⟩:=h;refine ⟨by omega,by simp[Q9];omega,λl hl=>?_,by simp[Q9];omega,by simp[Q9,Ir];omega⟩;rw[qb hl];simp
theorem LK (w:WT) (h:VL w):nh w=af (Q9 w,ce0 w,fu0 w,aG w.2.2.2.2.1.length 0):=by
 have hs:=LL w h;have hd:(Q9 w)=Q9 w:=rfl;obtain⟨I,Z,Y,M,J,U⟩:=w;obtain⟨h1,h2,h3,h4,_,h5,h6⟩:=h;dsimp only at*
 refine ct ?_;unfold nh aX bf bu bK cN bA bE bD aZ cK aF cH;refine aU hs ?_;with_reducible repeat' first|(refine OS.ok ?_;constructor)|refine IM.mk λ_=>?_
 all_goals try simp only[au,rD] at*
 all_goals first|omega|skip
 refine b8 I.length (λi x=>x.1=(i:Int)/\x.2.1=(I,Z,Y,M,J,U)/\x.2.2.2=(Q9 (I,Z,Y,M,J,U),(I.take i).map (λc=>c.2.2.2.2),aG M.length 0,aG J.length 0)) ?_ ?_ ⟨rfl,rfl,rfl⟩
 .rintro i ⟨a,b,c,d,e,f,g⟩ hi ⟨e1,e2,e3⟩;simp only[aE]at e1 e2 e3;obtain⟨rfl,rfl,rfl,rfl⟩:=e3;subst e1;subst e2;with_reducible repeat' first|(refine OS.ok ?_;constructor)|refine IM.mk λ_=>?_
  all_goals try simp only[au,rD] at*
  all_goals first|omega|(simp;omega)|skip
  exact⟨gE (by omega),by rw[mX (T:=Q6) hi,cE];rfl⟩
 rintro⟨a,b,c,d,e,f,g⟩ ⟨e1,e2,e3⟩;simp only[aE]at e1 e2 e3;obtain⟨rfl,rfl,rfl,rfl⟩:=e3;subst e1;subst e2;refine bJ (λg4=>(by dsimp only[au]at g4;omega)) λ_=>ar ?_
 rw[cW];rfl
theorem Xo (w:WT) (h:VL w):Ok (nh w) λs=>NB 0 s/\s.2.1.length=w.1.length/\s.2.2.1.length=w.2.2.2.1.length/\s.2.2.2.length=w.2.2.2.2.1.length:=
 ajb (LK w h) ⟨⟨Ve h,by have:=h.c;simp[ce0];omega,by have:=h.f;simp[fu0];omega,by have:=h.t;simp;omega⟩,by simp[ce0],by simp[fu0],by simp⟩
theorem RB (l:List ET) (i t:Int) (I:η) (hl:l.length<=1000000000) (hi:0<=i/\i<=l.length) (hn:I.length<=1000000000):Ok (rP (l,i,t,I)) λb=>b=ai->∀y∈I,LW (l.take i.toNat) t y:=by
 unfold rP aX bK bd bA iO bD aZ cK aF cH;refine b8 I.length (λk x=>x=(k:Int)/\∀j:Nat,j<k->LW (l.take i.toNat) t (aK (T:=.int .i64) I (j:Int))) ?_ ?_ ⟨rfl,λj hj=>(by omega)⟩
 .rintro k x hk ⟨rfl,Y⟩;refine bJ (λM=>?_) λM=>(by dsimp only[au]at M;omega)
  refine qF (λx=>(i-x.2.2).toNat) (λx=>0<=x.2.2/\x.2.2<=i/\x.1=((fl (l.take x.2.2.toNat) t).length:Int)/\(x.2.1=ai->LW (l.take x.2.2.toNat) t (aK (T:=.int .i64) I (k:Int)))) ?_ ⟨by simp,hi.1,by simp[fl],λh=>(by cases h)⟩;rintro⟨a,b,(c:Int)⟩ ⟨U,c1,Z,hb⟩;dsimp only at U c1 Z hb;subst Z;obtain⟨c,rfl⟩:∃n:Nat,c=(n:Int):=⟨c.toNat,by omega⟩
  rw[cZ]at hb;dsimp only;rw[cZ];have hfl:=Yk (l.take c) t;have htl:=qC c l;refine bJ (λJ=>?_) λJ=>?_
  .have J:(c:Int)<i:=J;have htk:l.take (c+1)=l.take c++[aK (T:=tE) l (c:Int)]:=mX (T:=tE) (by omega);refine aY (λy=>y.1=((fl (l.take (c+1)) t).length:Int)/\(y.2=ai->LW (l.take (c+1)) t (aK (T:=.int .i64) I (k:Int)))) ?_ ?_
   .rw[htk,uY];refine aS U (by first|omega|(dsimp only;omega)) (aR ?_);refine b_ (λhne=>ar ⟨by rw[xg hne];simp,λh=>(hb h).app _⟩) λhe=>?_
    have he:(aK (T:=tE) l (c:Int)).1=t:=he;refine aY (λy=>y=ai->LW (l.take c++[aK (T:=tE) l (c:Int)]) t (aK (T:=.int .i64) I (k:Int))) ?_ λy hy=>ar ⟨?_,hy⟩
    .refine aO (λh=>ar λ_=>(hb h).app _) λ_=>?_
     refine aS (by omega) (by first|omega|(dsimp only;omega)) (aR ?_);refine aJ (λhn=>?_) λ_=>ar λh=>(by cases h)
     have hq:tZ (aK (T:=tE) l (c:Int))=ai->LW (l.take c++[aK (T:=tE) l (c:Int)]) t (aK (T:=.int .i64) I (k:Int)):=λh=>by
      rw[<- he]at hn ⊢;exact LW.last h hn.symm
     refine aS U (by first|omega|(dsimp only;omega)) (aR ?_);refine aJ (λh=>ar λ_=>hq (by unfold tZ;rw[aQ h];rfl)) λ_=>?_
     exact aS U (by first|omega|(dsimp only;omega)) (aR (ar λh=>hq (by unfold tZ;rw[h];simp)))
    .dsimp only;rw[Ab he,gE (by omega)];simp
   .rintro⟨p,q⟩ ⟨hp,hq⟩;refine ar ?_;dsimp only at hp hq ⊢;rw[gE (by omega),cZ];exact⟨⟨by omega,by omega,hp,hq⟩,by omega⟩
  .refine ax (P:=λr=>match r with|.inl y=>y=((k+1:Nat):Int)/\∀j:Nat,j<k+1->LW (l.take i.toNat) t (aK (T:=.int .i64) I (j:Int))|.inr r=>r=ai->∀y∈I,LW (l.take i.toNat) t y) ?_ λr hr=>ar ?_
   .refine dW (λ_=>ar λh=>(by cases h)) λh=>ar ⟨gE (by omega),λj hj=>?_⟩
    rcases ci j k with h1|h1
    .exact Y j h1
    .have:=hb h;have hci:c=i.toNat:=by have J:i<=(c:Int):=J;omega
     rw[show j=k by omega,<-hci];exact this
   .cases r with
    |inl y=>exact hr
    |inr r=>exact hr
 .rintro x ⟨rfl,Y⟩;refine bJ (λM=>(by dsimp only[au]at M;omega)) λ_=>ar λ_=>iD (T:=.int .i64) Y
def CN (l:List ET) (c:η):Prop:=∀t:Int,0<=t->t<c.length->aK (T:=.int .i64) c t=((fl l t).length:Int)
theorem sg {T:Ty} (xs:List T.den) (j k:Int) (x:T.den) (hj:0<=j) (I:j<xs.length) (hk:0<=k):aK (cz xs j x) k=if k=j then x else aK xs k:=by
 unfold aK cz;rw[ay,ay,pn];by_cases h:k=j
 .subst h;rw[aD rfl,aD rfl,aD (by omega)];rfl
 .rw[aA (by omega),aA h]
theorem CN.next {l:List ET} {c:η} (h:CN l c) (e:ET) (h0:0<=e.1) (h1:e.1<c.length) (hl:l.length<1000000):CN (l++[e]) (cz c e.1 (bk .i64 (aK (T:=.int .i64) c e.1+1))):=λt t0 t1=>by
 rw[bW]at t1;have:=Yk l e.1;rw[sg (T:=.int .i64) _ _ _ _ h0 h1 t0,uY];split
 .rename_i h2;subst h2;rw[Ab rfl,h _ h0 h1,gE (by omega)];simp
 .rename_i h2;rw[xg λI=>h2 I.symm,h _ t0 t1];simp
structure EvF (w:WT) (e:ET):Prop where
 nm:NM w e.2.1 e.2.2.1
 t0:0<=e.1
 t1:e.1<w.2.2.2.2.1.length
 cd:∀c∈w.2.2.1,0<=c.2/\c.2<w.2.1.length
theorem aff (w:WT) (l:List ET) (hd:∀e∈l,e.2.2.2.2.2.1.length<=1000000000/\e.2.2.2.2.2.2.length<=1000000000):Ok (uH (w,l)) λy=>y.2=0->(VL w/\SV0 w)/\(∀e∈l,EvF w e)/\∃sy ce fu,Acw w l sy ce fu:=by
 unfold uH ch bK fg bA bD aZ cK aF cH;refine bJ (λ_=>ar λh=>(by cases h)) λhl=>?_
 dsimp only[au]at hl;refine ax (B1 w) λb hb=>?_
 refine dW (λ_=>ar λh=>(by cases h)) λh=>?_
 obtain⟨hv,hsv⟩:=hb h;refine aU (LK w hv) ?_;have hs:NB 0 (Q9 w,ce0 w,fu0 w,aG w.2.2.2.2.1.length 0):=⟨Ve hv,by have:=hv.c;simp[ce0];omega,by have:=hv.f;simp[fu0];omega,by have:=hv.t;simp;omega⟩
 have hw:w.2.2.1.length<=1000:=by have:=hv.d;omega
 refine b8 l.length (λi x=>x.1=(i:Int)/\x.2.1=(w,l)/\NB i x.2.2/\(∀k:Nat,k<i->EvF w (aK (T:=tE) l (k:Int)))/\Acw w (l.take i) x.2.2.1 x.2.2.2.1 x.2.2.2.2.1/\CN (l.take i) x.2.2.2.2.2/\x.2.2.2.2.2.length=w.2.2.2.2.1.length) ?_ ?_ ⟨rfl,rfl,hs,λk hk=>(by omega),.nil,λt t0 t1=>?_,by simp⟩
 .rintro i ⟨a,b,s⟩ hi ⟨e1,e2,e3,Y,U,e6,Z⟩;dsimp only at e1 e2 e3 Y U e6 Z;subst e1;subst e2;refine bJ (λI=>?_) λI=>(by dsimp only[au]at I;omega)
  refine bZ (aR ?_);have hmem:=bL (T:=tE) (xs:=l) (j:=(i:Int)) (by omega) (by omega);obtain⟨d1,d2⟩:=hd _ hmem;refine ax (F' w s e3 hw _ d1 d2) λy hy=>?_
  refine aY (λx=>x.2.1=(w,l)/\x.2.2.2=y.1/\(x.1=aj->y.2=ai/\(∀z∈(aK (T:=tE) l (i:Int)).2.2.2.2.2.1,LW (l.take i) (aK (T:=tE) l (i:Int)).1 z)/\∀z∈(aK (T:=tE) l (i:Int)).2.2.2.2.2.2,LW (l.take i) (aK (T:=tE) l (i:Int)).1 z)) ?_ ?_
  .refine dW (λ_=>ar ⟨rfl,rfl,λh=>(by cases h)⟩) λh=>?_
   refine ax (RB l _ _ _ (by omega) ⟨by dsimp only;omega,by dsimp only;omega⟩ d1) λb1 hr1=>?_
   refine dW (λ_=>ar ⟨rfl,rfl,λh=>(by cases h)⟩) λhb1=>?_
   refine ax (RB l _ _ _ (by omega) ⟨by dsimp only;omega,by dsimp only;omega⟩ d2) λb2 hr2=>ar ⟨rfl,rfl,λhb2=>⟨h,hr1 hb1,hr2 (by simpa using hb2)⟩⟩
  .rintro⟨c,p,q,r⟩ ⟨f1,f2,f3⟩;dsimp only at f1 f2 f3;subst f1;subst f2;refine aO (λ_=>ar λh=>(by cases h)) λh=>?_
   obtain⟨f4,r1,r2⟩:=f3 h;obtain⟨J,g2,M,I⟩:=hy.1 f4;refine ar ?_;dsimp only;have htk:l.take (i+1)=l.take i++[aK (T:=tE) l (i:Int)]:=mX (T:=tE) hi;have hc:=e6 _ J.t0 (by rw[Z];exact J.t1);have hnx:=gX Prod.fst I;have hac:=U.snoc (e:=aK (T:=tE) l (i:Int)) ⟨J,M.rd,M.s1,M.s2,M.de,M.fr,by rw[<- hc];exact M.nd,by rw[<- hc];exact M.nf,r1,r2,M.va⟩;refine ⟨gE (by omega),rfl,g2.NB e3 (by omega),λk hk=>?_,by rw[htk,I];exact hac,by rw[htk,I];exact e6.next _ J.t0 (by rw[Z];exact J.t1) (by rw[bC];omega),by rw[I];unfold nxP;rw[bW];exact Z⟩;rcases ci k i with h1|h1
   .exact Y k h1
   .rw[show k=i by omega];exact⟨J.nm,J.t0,J.t1,J.cd⟩
 .rintro⟨a,b,s⟩ ⟨e1,e2,e3,Y,U,_⟩;dsimp only at e1 e2 e3 Y U;subst e1;subst e2;rw[cW]at U;refine bJ (λI=>(by dsimp only[au]at I;omega)) λ_=>ar λ_=>⟨⟨hv,hsv⟩,iD (T:=tE) Y,_,_,_,U⟩
 .rw[eV]at t1;obtain⟨t,rfl⟩:∃n:Nat,t=(n:Int):=⟨t.toNat,by omega⟩
  rw[PY,ay,lK];split<;>simp[fl]
structure TP (t:η×Int):Prop where
 l0:t.1.length<=9223372036854775807
 by_:∀x∈t.1,0<=x/\x<=255
 a0:0<=t.2
 a1:t.2<=t.1.length
structure vz (t t':η×Int):Prop where
 e:t'.1=t.1
 m:t.2<=t'.2
 p:TP t'
theorem vz.refl {t:η×Int} (h:TP t):vz t t:=⟨rfl,eE _,h⟩
theorem vz.trans {a b c:η×Int} (h:vz a b) (g:vz b c):vz a c:=⟨g.e.trans h.e,Int.le_trans h.m g.m,g.p⟩
theorem gA (n:Int) (t:η×Int) (h:TP t):Ok (bB (n,t)) λy=>vz t y.2/\0<=y.1/\(1<=n->y.1<n)/\(t.2<t.1.length->1<=n->t.2<y.2.2):=by
 obtain⟨L,a⟩:=t;have U:=h;obtain⟨l0,hb,a0,a1⟩:=h;dsimp only at l0 hb a0 a1;unfold bB iY bE bD aZ aF cH;refine aY (λx=>x.2=(L,a)/\(x.1=ai->a=L.length\/n<1)/\(x.1=aj->a<L.length/\1<=n)) ?_ ?_
 .refine e_ (λh=>ar ⟨rfl,λ_=>?_,λh=>(by cases h)⟩) λh=>ar ⟨rfl,λh2=>?_,λh2=>?_⟩
  .dsimp only[au]at h;omega
  .rw[ud]at h2;exact .inr h2
  .rw[gx]at h2;dsimp only[au]at h h2;omega
 rintro⟨b,x⟩ ⟨e,h1,h2⟩;dsimp only at e h1 h2;subst e;refine aO (λh=>ar ⟨vz.refl U,eE _,λM=>(by dsimp only;omega),λM Z=>?_⟩) λh=>?_
 .have:=h1 h;dsimp only at M;omega
 obtain⟨J,Y⟩:=h2 h;refine aR ?_;have e1:bk .i64 (a+1)=a+1:=hP (by omega) (by omega);dsimp only;rw[e1,hP (n:=a+1-1) (by omega) (by omega),show a+1-1=a by omega];have I:=hb _ (bL (T:=.int .u8) (xs:=L) (j:=a) a0 J);refine aS a0 J (aR ?_);generalize (aK _ a)=z at I;have I:0<=z/\z<=255:=I;rw[hP (n:=z) (by omega) (by omega)];refine zJ (by omega) (ar ?_);dsimp only;refine ⟨⟨rfl,by dsimp only;omega,⟨l0,hb,by dsimp only;omega,by dsimp only;omega⟩⟩,Int.tmod_nonneg _ I.1,λ_=>?_,λ_ _=>by omega⟩;exact Int.tmod_lt_of_pos _ (by omega)
theorem U4 (s:SY) (hs:s.2.2.2.length<=1000) (y:η×η×η):Ok (lm (s,y)) λl=>l.length<=s.2.2.2.length:=by
 unfold lm bK bd bA bE bD aZ cK aF cH;refine b8 s.2.2.2.length (λi x=>x.1=(i:Int)/\x.2.length<=i) ?_ ?_ ⟨rfl,by simp⟩
 .rintro i ⟨a,b⟩ hi ⟨e1,e2⟩;dsimp only at e1 e2;subst e1;with_reducible repeat' first|(refine OS.ok ?_;constructor)|refine IM.mk λ_=>?_
  all_goals try simp only[au,rD] at*
  all_goals first|omega|(simp;omega)|skip
  .exact⟨gE (by omega),by simp;omega⟩
  .exact⟨gE (by omega),by omega⟩
 .rintro⟨a,b⟩ ⟨e1,e2⟩;dsimp only at e1 e2;subst e1;refine bJ (λI=>(by dsimp only[au]at I;omega)) λ_=>ar e2
theorem Zf (k u:Int) (t:η×Int) (h:TP t):Ok (o8 ((k,u),t)) λy=>vz t y.2/\(k=3\/k=4->0<=y.1/\y.1<5):=by
 unfold o8 bd kl aF cH;rcases @JD k with rfl|rfl|rfl|rfl|rfl|rfl|rfl|rfl|rfl|rfl|rfl|rfl|rfl|rfl|rfl|rfl|rfl|rfl|rfl|rfl|rfl|rfl|rfl|⟨hk,J⟩
 case inr.inr.inr.inr.inr.inr.inr.inr.inr.inr.inr.inr.inr.inr.inr.inr.inr.inr.inr.inr.inr.inr.inr=>
  simp only[hk 1 (by decide) (by decide),hk 2 (by decide) (by decide),hk 3 (by decide) (by decide),hk 4 (by decide) (by decide),hk 5 (by decide) (by decide),hk 6 (by decide) (by decide),hk 7 (by decide) (by decide),hk 8 (by decide) (by decide),hk 9 (by decide) (by decide),hk 10 (by decide) (by decide),hk 11 (by decide) (by decide),hk 12 (by decide) (by decide),hk 13 (by decide) (by decide),hk 14 (by decide) (by decide),hk 15 (by decide) (by decide),hk 16 (by decide) (by decide),hk 17 (by decide) (by decide),hk 18 (by decide) (by decide),hk 19 (by decide) (by decide),hk 20 (by decide) (by decide),hk 21 (by decide) (by decide),hk 22 (by decide) (by decide),hk 23 (by decide) (by decide),aV,bt,tO];exact ar ⟨vz.refl h,λh=>(by first|omega|(simp at h;done)|(rcases h with h|h<;>cases h;done))⟩
 all_goals simp only[aV,bt,tO]
 all_goals first
  |exact ar ⟨vz.refl h,λh=>(by first|omega|(simp at h;done)|(rcases h with h|h<;>cases h;done))⟩
  |exact ax (gA 2 t h) λy I=>ar ⟨I.1,λh=>(by first|omega|(simp at h;done)|(rcases h with h|h<;>cases h;done))⟩
  |exact ax (gA 3 t h) λy I=>ar ⟨I.1,λh=>(by first|omega|(simp at h;done)|(rcases h with h|h<;>cases h;done))⟩
  |skip
 all_goals
  refine ax (gA 8 t h) λy I=>?_
  have h1:=I.2.1;have h2:=I.2.2.1 (by omega);refine aS h1 (by simp;omega) (aS h1 (by simp;omega) (aR (ar ⟨I.1,λ_=>?_⟩)));have:∀z:Int,z∈([0,0,0,1,1,2,3,4]:η)->0<=z/\z<5:=by decide
  exact this _ (bL (T:=.int .i64) h1 (by simp;omega))
structure SZ (n:Nat) (s:SN):Prop where
 nb:NB n s
 c:s.2.1.length=5
 f:s.2.2.1.length=1
 k:s.2.2.2.length=4
theorem SZ.step {n:Nat} {s y:SN} (h:SZ n s) (hp:SP n s y) (hn:n+1<=100000):SZ (n+1) y:=
 ⟨hp.NB h.nb hn,by rw[hp.c];exact h.c,by rw[hp.f];exact h.f,by rw[hp.k];exact h.k⟩
theorem Y4 {n:Nat} (s:SN) (hs:SZ n s) (k o:Int) (M:k=3->0<=o/\o<5) (t:η×Int) (h:TP t):Ok (qK ((s,k,o),t)) λy=>vz t y.2:=by
 obtain⟨s1,s2,Y,U⟩:=s;have hc:=hs.c;have hf:=hs.f;have hth:=hs.nb.sb.th;dsimp only at hc hf hth;have J:=U4 s1 hth (s2,Y,U);unfold qK aX bd bA bD aZ aF;rcases @JD k with rfl|rfl|rfl|rfl|rfl|rfl|rfl|rfl|rfl|rfl|rfl|rfl|rfl|rfl|rfl|rfl|rfl|rfl|rfl|rfl|rfl|rfl|rfl|⟨hk,Z⟩
 case inr.inr.inr.inr.inr.inr.inr.inr.inr.inr.inr.inr.inr.inr.inr.inr.inr.inr.inr.inr.inr.inr.inr=>
  simp only[hk 1 (by decide) (by decide),hk 2 (by decide) (by decide),hk 3 (by decide) (by decide),hk 4 (by decide) (by decide),hk 5 (by decide) (by decide),hk 6 (by decide) (by decide),hk 7 (by decide) (by decide),hk 8 (by decide) (by decide),hk 9 (by decide) (by decide),hk 10 (by decide) (by decide),hk 11 (by decide) (by decide),hk 12 (by decide) (by decide),hk 13 (by decide) (by decide),hk 14 (by decide) (by decide),hk 15 (by decide) (by decide),hk 16 (by decide) (by decide),hk 17 (by decide) (by decide),hk 18 (by decide) (by decide),hk 19 (by decide) (by decide),hk 20 (by decide) (by decide),hk 21 (by decide) (by decide),hk 22 (by decide) (by decide),hk 23 (by decide) (by decide),aV,bt,tO];exact ar (vz.refl h)
 all_goals simp only[aV,bt,tO]
 all_goals first
  |exact ar (vz.refl h)
  |exact ax (gA 2 t h) λy I=>ar I.1
  |exact ax (gA 3 t h) λy I=>ar I.1
  |exact ax J λy I=>ar (vz.refl h)
  |exact aS (by decide) (by omega) (aR (ar (vz.refl h)))
  |exact aS (M rfl).1 (by have:=(M rfl).2;omega) (aR (ar (vz.refl h)))
  |skip
 refine ax J λl hl=>?_
 refine bJ (λh1=>?_) λ_=>ar (vz.refl h)
 refine ax (gA _ t h) λy I=>?_
 dsimp only[au]at h1;have h2:=I.2.2.1 (by dsimp only[au];omega);exact aS I.2.1 h2 (aR (ar I.1))
theorem ag1 (t:η×Int) (h:TP t) (r:η) (hr:r.length<=1000000):Ok (gK (t,r)) λy=>y.1.length<=r.length/\vz t y.2.1/\y.2.2=r:=by
 unfold gK aX bK bA iY bE kl aZ cK aF cH;refine b8 r.length (λi x=>x.1=(i:Int)/\vz t x.2.1/\x.2.2.1=r/\x.2.2.2.length<=i) ?_ ?_ ⟨rfl,vz.refl h,rfl,by simp⟩
 .rintro i ⟨a,b,c,d⟩ hi ⟨e1,e2,e3,U⟩;dsimp only at e1 e2 e3 U;subst e1;subst e3;refine bJ (λM=>?_) λM=>(by dsimp only[au]at M;omega)
  refine aY (λx=>vz t x.1/\x.2.1=c/\x.2.2.length<=i+1) ?_ ?_
  .refine bZ (bZ (aR ?_));refine aY (λx=>vz t x.2.1/\x.2.2=(c,d)) ?_ ?_
   .refine aO (λ_=>?_) λ_=>ar ⟨e2,rfl⟩
    exact ax (gA 2 b e2.p) λy Z=>ar ⟨e2.trans Z.1,rfl⟩
   .rintro⟨p,q,u⟩ ⟨I,J⟩;dsimp only at I J;subst J;refine aO (λ_=>?_) λ_=>ar ⟨I,rfl,by dsimp only;omega⟩
    exact bg (by simp;omega) (by omega) (ar ⟨I,rfl,by simp;omega⟩)
  .rintro⟨p,q,u⟩ ⟨I,J,Y⟩;dsimp only at I J Y;subst J;refine ar ?_;dsimp only;exact⟨gE (by omega),I,rfl,Y⟩
 .rintro⟨a,b,c,d⟩ ⟨e1,e2,e3,U⟩;dsimp only at e1 e2 e3 U;subst e1;subst e3;refine bJ (λM=>(by dsimp only[au]at M;omega)) λ_=>ar ⟨U,e2,rfl⟩
theorem acz:t8 ()=af [3,3,3,3,3,4,4,4,4,4,5,5,5,6,6,6,7,7,7,8,9,10,11,12,13,14,14,15,16,16,17,17,18,18,19,20,1,1,2,21,22,23,23]:=rfl
abbrev RR:Type:=η×η×η×η
structure RB4 (m:Nat) (r:RR):Prop where
 r0:r.1.length<=m
 r1:r.2.1.length<=m
 r2:r.2.2.1.length<=m
 r3:r.2.2.2.length<=m
theorem adt {n:Nat} (s:SN) (hs:SZ n s) (w:WT) (hw:w.1.length=5) (t:η×Int) (h:TP t) (r:RR) (hr:RB4 1000000 r):Ok (qL ((s,w),t,r)) λy=>vz t y.2.1/\y.2.2=r/\(t.2<t.1.length->t.2<y.2.1.2)/\y.1.2.2.2.2.2.1.length<=1000000/\y.1.2.2.2.2.2.2.length<=1000000:=by
 obtain⟨r0,r1,r2,r3⟩:=r;obtain⟨h0,h1,h2,h3⟩:=hr;dsimp only at h0 h1 h2 h3;unfold qL xF EM Prod.p12 aX bf bu ch dC ja vC xG L4 Prod.q12 cN fg bd bE bD aZ aF;refine ax (gA 4 t h) λy hy=>?_
 refine aU acz ?_;refine ax (gA _ y.2 hy.1.p) λz hz=>?_
 obtain⟨y1,yt⟩:=y;obtain⟨z1,zt⟩:=z;obtain⟨ty,yy0,yy1,yy2⟩:=hy;obtain⟨tz,zz0,zz1,_⟩:=hz;dsimp only at ty yy0 yy1 yy2 tz zz0 zz1;have yy1:=yy1 (by decide);have hzl:=zz1 (by decide);refine aS zz0 hzl (aR ?_);generalize (aK _ z1)=k;refine ax (gA 6 zt tz.p) λv hv=>?_
 obtain⟨v1,vt⟩:=v;have tv:=hv.1;dsimp only at tv;have tt:=(ty.trans tz).trans tv;have hadv:t.2<t.1.length->t.2<vt.2:=λh=>by
  have:=yy2 h (by decide);have:=tz.m;have:=tv.m;omega
 refine aY (λx=>x.1=vt/\x.2.1=r0/\x.2.2.1=r1/\x.2.2.2.1=r2/\x.2.2.2.2.1=r3/\x.2.2.2.2.2.1=s/\x.2.2.2.2.2.2.1=w) ?_ ?_
 .refine aY (λx=>x.2.1=vt/\x.2.2.1=r0/\x.2.2.2.1=r1/\x.2.2.2.2.1=r2/\x.2.2.2.2.2.1=r3/\x.2.2.2.2.2.2.1=s/\x.2.2.2.2.2.2.2.1=w) ?_ ?_
  .with_reducible repeat' first|(refine OS.ok ?_;constructor)|refine IM.mk λ_=>?_
   all_goals exact⟨rfl,rfl,rfl,rfl,rfl,rfl,rfl⟩
  .rintro⟨p,q⟩ hq;dsimp only at hq;with_reducible repeat' first|(refine OS.ok ?_;constructor)|refine IM.mk λ_=>?_
   all_goals exact hq
 rintro⟨x1,x2,x3,x4,x5,x6,x7,x8,x9,x10⟩ ⟨J,Y,f3,f4,f5,f6,U⟩;dsimp only at J Y f3 f4 f5 f6 U;subst J;subst Y;subst f3;subst f4;subst f5;subst f6;subst U;refine ax (Zf _ _ _ tv.p) λo Z=>?_
 obtain⟨o1,ot⟩:=o;obtain⟨to,Z⟩:=Z;dsimp only at to Z;refine ax (Y4 _ hs _ _ (λhk=>Z (.inl hk)) _ to.p) λq hq=>?_
 obtain⟨q1,qt⟩:=q;dsimp only at hq;have M:=(tt.trans to).trans hq;have hadv2:t.2<t.1.length->t.2<qt.2:=λh=>by have:=hadv h;have:=to.m;have:=hq.m;omega
 have row:∀(T:η×Int) (c:η) {R:Type} (k:η×((η×Int)×η)->Option R) (Q:R->Prop),vz t T->c.length<=1000000->(∀v T',vz T T'->v.length<=1000000->Ok (k (v,T',c)) Q)->Ok (obind (gK (T,c)) k) Q:=λT c R k Q I hc hk=>by
  refine ax (ag1 T I.p c hc) λy hy=>?_
  obtain⟨a,b,d⟩:=y;obtain⟨g1,g2,g3⟩:=hy;dsimp only at g1 g2 g3;subst g3;exact hk a b g2 (by omega)
 refine aY (λx=>vz t x.1/\(t.2<t.1.length->t.2<x.1.2)/\x.2.1=x2/\x.2.2.1=x3/\x.2.2.2.1=x4/\x.2.2.2.2.1=x5/\x.2.2.2.2.2.2.2.2.2.2.2.length<=1000000) ?_ ?_
 .refine aY (λx=>x.2.1=qt/\x.2.2.1=x2/\x.2.2.2.1=x3/\x.2.2.2.2.1=x4/\x.2.2.2.2.2.1=x5) ?_ ?_
  .refine aJ (λ_=>ar ⟨rfl,rfl,rfl,rfl,rfl⟩) λ_=>?_
   refine aJ (λhk=>?_) λ_=>aJ (λhk=>?_) λ_=>ar ⟨rfl,rfl,rfl,rfl,rfl⟩
   .exact aS (Z (.inl hk)).1 (by dsimp only;rw[hw];exact (Z (.inl hk)).2) (aR (ar ⟨rfl,rfl,rfl,rfl,rfl⟩))
   .exact aS (Z (.inr hk)).1 (by dsimp only;rw[hw];exact (Z (.inr hk)).2) (aR (ar ⟨rfl,rfl,rfl,rfl,rfl⟩))
  .rintro⟨b,p1,p2,p3,p4,p5,p6⟩ ⟨J,Y,f3,f4,f5⟩;dsimp only at J Y f3 f4 f5;subst J;subst Y;subst f3;subst f4;subst f5;refine aO (λ_=>?_) λ_=>ar ⟨M,hadv2,rfl,rfl,rfl,rfl,by simp⟩
   have adv3:∀T',vz p1 T'->t.2<t.1.length->t.2<T'.2:=λT' I h=>by have:=hadv2 h;have:=I.m;omega
   refine aJ (λ_=>?_) λ_=>aJ (λ_=>?_) λ_=>aJ (λ_=>?_) λ_=>aJ (λ_=>?_) λ_=>?_
   .refine row p1 p2 _ _ M h0 λv T' I hv=>?_
    refine dc (lO rfl (Bv ?_));exact ar ⟨M.trans I,adv3 T' I,rfl,rfl,rfl,rfl,hv⟩
   .refine row p1 p3 _ _ M h1 λv T' I hv=>?_
    refine dc (lO rfl (Bv ?_));exact ar ⟨M.trans I,adv3 T' I,rfl,rfl,rfl,rfl,hv⟩
   .refine row p1 p4 _ _ M h2 λv T' I hv=>?_
    refine dc (lO rfl (Bv ?_));exact ar ⟨M.trans I,adv3 T' I,rfl,rfl,rfl,rfl,hv⟩
   .refine row p1 p5 _ _ M h3 λv T' I hv=>?_
    refine dc (lO rfl (Bv ?_));exact ar ⟨M.trans I,adv3 T' I,rfl,rfl,rfl,rfl,hv⟩
   .omega
 rintro⟨u1,u2,u3,u4,u5,u6,u7,u8,u9,u10,u11,u12⟩ ⟨J,Y,f3,f4,f5,f6,U⟩;dsimp only at J Y f3 f4 f5 f6 U;subst f3;subst f4;subst f5;subst f6;refine aY (λx=>vz t x.1/\(t.2<t.1.length->t.2<x.1.2)/\x.2.1=u2/\x.2.2.1=u3/\x.2.2.2.1=u4/\x.2.2.2.2.1=u5/\x.2.2.2.2.2.2.2.2.2.2.2.1.length<=1000000/\x.2.2.2.2.2.2.2.2.2.2.2.2.length<=1000000) ?_ ?_
 .refine aY (λx=>x.2=(u1,u2,u3,u4,u5,u6,u7,u8,u9,u10,u11,u12)) ?_ ?_
  .with_reducible repeat' first|(refine OS.ok ?_;constructor)|refine IM.mk λ_=>?_
   all_goals rfl
  .rintro⟨b,x⟩ e;dsimp only at e;subst e;refine aO (λ_=>?_) λ_=>ar ⟨J,Y,rfl,rfl,rfl,rfl,U,by simp⟩
   have adv3:∀T',vz u1 T'->t.2<t.1.length->t.2<T'.2:=λT' I h=>by have:=Y h;have:=I.m;omega
   refine aJ (λ_=>?_) λ_=>aJ (λ_=>?_) λ_=>aJ (λ_=>?_) λ_=>aJ (λ_=>?_) λ_=>?_
   .refine row u1 u2 _ _ J h0 λv T' I hv=>?_
    refine dc (lO rfl (Bv ?_));exact ar ⟨J.trans I,adv3 T' I,rfl,rfl,rfl,rfl,U,hv⟩
   .refine row u1 u3 _ _ J h1 λv T' I hv=>?_
    refine dc (lO rfl (Bv ?_));exact ar ⟨J.trans I,adv3 T' I,rfl,rfl,rfl,rfl,U,hv⟩
   .refine row u1 u4 _ _ J h2 λv T' I hv=>?_
    refine dc (lO rfl (Bv ?_));exact ar ⟨J.trans I,adv3 T' I,rfl,rfl,rfl,rfl,U,hv⟩
   .refine row u1 u5 _ _ J h3 λv T' I hv=>?_
    refine dc (lO rfl (Bv ?_));exact ar ⟨J.trans I,adv3 T' I,rfl,rfl,rfl,rfl,U,hv⟩
   .omega
 rintro⟨a1,a2,a3,a4,a5,a6,a7⟩ ⟨g1,g2,g3,g4,g5,g6,g7,g8⟩;dsimp only at g1 g2 g3 g4 g5 g6 g7 g8;subst g3;subst g4;subst g5;subst g6;exact ar ⟨g1,rfl,g2,g7,g8⟩
def EvS (e:ET):Prop:=e.2.2.2.2.2.1.length<=1000000/\e.2.2.2.2.2.2.length<=1000000
theorem ag9 {m:Nat} (hm:m<=1000) (s:SN) (hs:SZ m s) (w:WT) (hw:w.1.length=5) (hwt:w.2.2.2.2.1.length=4) (hwc:w.2.2.1.length<=1000) (n:Int) (hn:n<=60) (t:η×Int) (h:TP t):Ok (sS ((s,w,n,aj),t)) λy=>(∀e∈y.1,EvS e)/\y.1.length<=60:=by
 unfold sS aX bf bu ch dC ja vC xG Prod.q10 bK cN fg kP nZ OO bd bA bE bD aZ cK aF;refine dc (dc (dc (dN (by dsimp only[au];omega) (dN (eE _) (bg (by dsimp only[au];omega) (by omega) (X5 (by dsimp only[au];omega) ?_))))));refine aY (λx=>x=(t,s,w,[],[],[],[])) ⟨_,rfl,rfl⟩ ?_;rintro x rfl;refine qF (λx=>((t.1.length:Int)-x.1.2).toNat) (λx=>vz t x.1/\x.2.2.1=w/\SZ (m+x.2.2.2.1.length) x.2.1/\x.2.2.2.1.length<=60/\(∀e∈x.2.2.2.1,EvS e)/\RB4 x.2.2.2.1.length x.2.2.2.2) ?_ ⟨vz.refl h,rfl,(by simpa using hs),by simp,λe he=>(by cases he),⟨by simp,by simp,by simp,by simp⟩⟩;rintro⟨I,s,w',out,r⟩ ⟨i1,i2,U,i4,i5,i6⟩;dsimp only at i1 i2 U i4 i5 i6;subst i2;refine aY (λx=>x.2=(I,s,w',out,r)/\(x.1=ai->out.length<60/\I.2<I.1.length)) ?_ ?_
 .refine bJ (λh1=>ar ⟨rfl,λh2=>?_⟩) λ_=>ar ⟨rfl,λh=>(by cases h)⟩
  rw[ud]at h2;dsimp only[au]at h1 h2;exact⟨by omega,h2⟩
 rintro⟨b,x⟩ ⟨e,hb⟩;dsimp only at e hb;subst e;refine aO (λh1=>?_) λ_=>ar ⟨i5,i4⟩
 obtain⟨ho,ht⟩:=hb h1;obtain⟨q0,q1,q2,q3⟩:=id i6;refine aY (λx=>vz I x.1/\I.2<x.1.2/\x.2.2.1=w'/\SZ (m+x.2.2.2.1.length) x.2.1/\x.2.2.2.1.length<=60/\(∀e∈x.2.2.2.1,EvS e)/\RB4 x.2.2.2.1.length x.2.2.2.2) ?_ ?_
 .refine ax (adt s U w' hw I i1.p r ⟨by omega,by omega,by omega,by omega⟩) λy hy=>?_
  obtain⟨ev,tp',r'⟩:=y;obtain⟨j1,j2,j3,M,J⟩:=hy;dsimp only at j1 j2 j3 M J;subst j2;have j3:=j3 ht;refine dc (lO rfl (dc (lO rfl (dc (lO rfl (dc (lO rfl (Bv ?_))))))));refine ax (F' w' s U.nb hwc ev (by omega) (by omega)) λz hz=>?_
  refine dW (λ_=>ar ⟨j1,j3,rfl,U,i4,i5,i6⟩) λh2=>?_
  obtain⟨z1,z2⟩:=z;obtain⟨hE,hS,_⟩:=hz.1 h2;have hS2:=U.step hS (by omega);refine aY (λx=>x.1=tp'/\x.2.2.1=w'/\x.2.2.2.1=out/\EvS x.2.2.2.2.1/\x.2.2.2.2.2.1=z1/\RB4 (out.length+1) x.2.2.2.2.2.2) ?_ ?_
  .refine aY (λx=>x.2=(tp',s,w',out,ev,z1,r')) ?_ ?_
   .refine aJ (λ_=>ar rfl) λ_=>ar rfl
   .rintro⟨b,x⟩ e;dsimp only at e;subst e;have hk:=U.k;obtain⟨ev1,ev2⟩:=ev;have t0:=hE.t0;have t1:=hE.t1;rw[hwt]at t1;dsimp only at t0 t1;refine aO (λ_=>?_) λ_=>ar ⟨rfl,rfl,rfl,⟨M,J⟩,rfl,⟨by dsimp only;omega,by dsimp only;omega,by dsimp only;omega,by dsimp only;omega⟩⟩
    refine aJ (λ_=>?_) λ_=>aJ (λ_=>?_) λ_=>aJ (λ_=>?_) λ_=>aJ (λ_=>?_) λ_=>?_
    .exact aS (by decide) (by dsimp only;omega) (aR (bg (by simp;omega) (by omega) (ar ⟨rfl,rfl,rfl,⟨M,J⟩,rfl,⟨by simp;omega,by dsimp only;omega,by dsimp only;omega,by dsimp only;omega⟩⟩)))
    .exact aS (by decide) (by dsimp only;omega) (aR (bg (by simp;omega) (by omega) (ar ⟨rfl,rfl,rfl,⟨M,J⟩,rfl,⟨by dsimp only;omega,by simp;omega,by dsimp only;omega,by dsimp only;omega⟩⟩)))
    .exact aS (by decide) (by dsimp only;omega) (aR (bg (by simp;omega) (by omega) (ar ⟨rfl,rfl,rfl,⟨M,J⟩,rfl,⟨by dsimp only;omega,by dsimp only;omega,by simp;omega,by dsimp only;omega⟩⟩)))
    .exact aS (by decide) (by dsimp only;omega) (aR (bg (by simp;omega) (by omega) (ar ⟨rfl,rfl,rfl,⟨M,J⟩,rfl,⟨by dsimp only;omega,by dsimp only;omega,by dsimp only;omega,by simp;omega⟩⟩)))
    .dsimp only at *;omega
  .rintro⟨x1,x2,x3,x4,x5,x6,x7⟩ ⟨k1,k2,k3,k4,Z,Y⟩;dsimp only at k1 k2 k3 k4 Z Y;subst k1;subst k2;subst k3;subst Z;refine bg (by simp;omega) (by omega) (ar ⟨j1,j3,rfl,?_,by simp;omega,λe he=>?_,?_⟩)
   .dsimp only;rw[bm,c9,<-qa];exact hS2
   .rcases bY.1 he with he|he
    .exact i5 e he
    .rw[aL]at he;subst he;exact k4
   .dsimp only;rw[bm,c9];exact Y
 rintro⟨tp',s',w'',out',r'⟩ ⟨k1,k2,k3,k4,Z,Y,k7⟩;dsimp only at k1 k2 k3 k4 Z Y k7;have e1:=i1.e;have a1:=k1.p.a1;have e2:=k1.e;refine ar ⟨⟨i1.trans k1,k3,k4,Z,Y,k7⟩,?_⟩;dsimp only;rw[e2,e1]at a1;omega
def C0:List (ζ×Int×Int×Bool×Int):=[([120],0,0,aj,0),([121],0,0,aj,1),([118],0,0,ai,0),([113],0,2,aj,0),([113],1,2,aj,0)]
def HE:List (ζ×Bool):=[([109],aj),([110],aj),([114],ai)]
def Nn:List (ζ×Int):=[([99],0)]
def UI:List ζ:=[[102]]
def wK:List ζ:=[[109,97,105,110],[116,49],[116,50],[116,51]]
structure WX (w:WT):Prop where
 c:w.1=C0
 l:w.2.1=HE
 d:w.2.2.1=Nn
 f:w.2.2.2.1=UI
 t:∃n,1<=n/\n<=4/\w.2.2.2.2.1=wK.take n
 s:w.2.2.2.2.2.length<=60
 v:SV0 w
structure W0 (w:WT):Prop where
 c:w.1.length=5
 l:w.2.1.length=3
 d:w.2.2.1.length=1
 f:w.2.2.2.1.length=1
 t:w.2.2.2.2.1.length=4
 s:w.2.2.2.2.2.length<=24
 x:WX w
theorem W0.vl {w:WT} (h:W0 w):VL w:=⟨by rw[h.c];decide,by rw[h.l];decide,by rw[h.d];decide,by rw[h.f];decide,by rw[h.t];decide,by rw[h.t];decide,by have:=h.s;omega⟩
def nxS (i j:Nat):Γ:=if j=0 then (if i=0 then (0,0) else ((i:Int)-1,6)) else (i,j)
theorem XO {T:Int} {l:List ν} {s:ν}:Ma T (l++[s])=UY T (Ma T l) s:=by unfold Ma;rw[dV];rfl
theorem Ut:Ok (oc ()) W0:=by
 unfold oc aX bf bu ch fg bA bE cK aF cH;refine b8 4 (λi x=>x.1=(i:Int)/\x.2.1=C0/\x.2.2.1=HE/\x.2.2.2.1=Nn/\x.2.2.2.2.1=UI/\x.2.2.2.2.2.1=wK/\x.2.2.2.2.2.2.length<=6*i/\Ma 4 x.2.2.2.2.2.2=af (nxS i 0)) ?_ ?_ ⟨rfl,rfl,rfl,rfl,rfl,rfl,by simp,rfl⟩
 .rintro i ⟨a,w1,w2,w3,w4,w5,w6⟩ hi ⟨e1,e2,e3,Z,Y,I,e7,U⟩;dsimp only at e1 e2 e3 Z Y I e7 U;subst e1;have hl5:w5.length=4:=by rw[I];rfl
  refine bJ (λ_=>?_) λg=>(by dsimp only[au]at g;simp at g;omega)
  refine b8 6 (λj x=>x.1=(j:Int)/\x.2.1=w1/\x.2.2.1=w2/\x.2.2.2.1=w3/\x.2.2.2.2.1=w4/\x.2.2.2.2.2.1=w5/\x.2.2.2.2.2.2.length<=6*i+j/\Ma 4 x.2.2.2.2.2.2=af (nxS i j)) ?_ ?_ ⟨rfl,rfl,rfl,rfl,rfl,rfl,by dsimp only;omega,U⟩
  .rintro j ⟨b,v1,v2,v3,v4,v5,v6⟩ hj ⟨d1,d2,d3,d4,d5,d6,d7,d8⟩;dsimp only at d1 d2 d3 d4 d5 d6 d7 d8;subst d1;refine di ?_;refine bg (by simp;omega) (by omega) (ar ?_);dsimp only;refine ⟨gE (by omega),d2,d3,d4,d5,d6,by simp;omega,?_⟩;rw[XO,d8];by_cases J:j=0
   .subst J;by_cases M:i=0
    .subst M;rfl
    .rw[show nxS i 0=((i:Int)-1,6) by unfold nxS;simp[M],show nxS i (0+1)=((i:Int),1) by unfold nxS;simp];unfold UY;dsimp only;rw[aA (λh=>by have:=h.1;omega),aD ⟨by omega,by omega,rfl⟩]
   .rw[show nxS i j=((i:Int),(j:Int)) by unfold nxS;simp[J],show nxS i (j+1)=((i:Int),(j:Int)+1) by unfold nxS;simp];unfold UY;dsimp only;rw[aD ⟨rfl,rfl⟩]
  .rintro⟨b,v1,v2,v3,v4,v5,v6⟩ ⟨d1,d2,d3,d4,d5,d6,d7,d8⟩;dsimp only at d1 d2 d3 d4 d5 d6 d7 d8;subst d1;subst d2;subst d3;subst d4;subst d5;subst d6;refine dj (ar ?_);dsimp only;refine ⟨gE (by omega),e2,e3,Z,Y,I,by omega,?_⟩;rw[d8];unfold nxS;simp
 .rintro⟨a,w1,w2,w3,w4,w5,w6⟩ ⟨e1,e2,e3,Z,Y,I,e7,U⟩;dsimp only at e1 e2 e3 Z Y I e7 U;subst e1;subst e2;subst e3;subst Z;subst Y;subst I;refine bJ (λg=>(by dsimp only[au]at g;simp[wK]at g)) λ_=>ar ?_
  refine ⟨rfl,rfl,rfl,rfl,rfl,by dsimp only;omega,rfl,rfl,rfl,rfl,⟨4,by decide,by decide,rfl⟩,by dsimp only;omega,?_⟩;unfold SV0;show Ma 4 w6≠ah;rw[U];simp
theorem SZ.mono {n m:Nat} {s:SN} (h:SZ n s) (hnm:n<=m) (hm:m<=100000):SZ m s:=
 ⟨⟨⟨hm,h.nb.sb.lk,λl hl=>du (h.nb.sb.rd l hl) hnm,h.nb.sb.dn,h.nb.sb.th⟩,h.nb.c,h.nb.f,h.nb.k⟩,h.c,h.f,h.k⟩
theorem Xn (w:WT) (I:W0 w):Ok (nh w) λs=>SZ 0 s:=by
 refine (Xo w I.vl).mono λs hs=>⟨hs.1,?_,?_,?_⟩
 .rw[hs.2.1,I.c]
 .rw[hs.2.2.1,I.f]
 .rw[hs.2.2.2,I.t]
structure WB (w:WT):Prop where
 c:w.1.length<=12
 l:w.2.1.length<=4
 d:w.2.2.1.length<=2
 f:w.2.2.2.1.length<=2
 t:w.2.2.2.2.1.length<=4
 s:w.2.2.2.2.2.length<=60
theorem VL.wb {w:WT} (h:VL w):WB w:=⟨h.c,h.l,h.d,h.f,h.t,h.s⟩
structure TR (y:WT×List ET):Prop where
 wb:WB y.1
 vl:VL y.1
 ev:∀e∈y.2,EvF y.1 e
 len:y.2.length<=400
 ls:∀e∈y.2,EvS e
 wx:WX y.1
 ac:∃sy ce fu,Acw y.1 y.2 sy ce fu
theorem I8 (L:η) (n:Int) (hl:L.length<=9223372036854775807) (hb:∀x∈L,0<=x/\x<=255):Ok (qM (L,n)) TR:=by
 unfold qM aX bf bu dx cN bA iY iO bE kl aZ cK aF cH;refine aY (λx=>x.length<=600/\∀z∈x,0<=z/\z<=255) ?_ ?_
 .refine bJ (λg=>?_) λg=>?_
  .dsimp only[au]at g;refine dc (dN (by omega) (dN (by dsimp only;omega) (ar ⟨by dsimp only;rw[bC];simp;omega,λz I=>hb z (gj I)⟩)))
  .dsimp only[au]at g;exact ar ⟨by dsimp only;omega,hb⟩
 rintro L' ⟨hL,hB⟩;refine ax Ut λw J=>?_
 have hvl:=J.vl;refine ax (Xn w J) λs hs=>?_
 refine ax (gA 3 (L',0) ⟨by dsimp only;omega,hB,by dsimp only;omega,by dsimp only;omega⟩) λy hy=>?_
 obtain⟨y1,yt⟩:=y;obtain⟨ty,yy0,yy1,_⟩:=hy;have yy1:=yy1 (by decide);dsimp only at ty yy0 yy1;have ew:bk .i64 (1+y1)=1+y1:=hP (by omega) (by omega);refine qF (λx=>(1+y1+1-x.1).toNat) (λx=>1<=x.1/\x.1<=2+y1/\x.2.1=yt/\x.2.2.1=w/\x.2.2.2.1=s/\((x.2.2.2.2.length:Nat):Int)<=2*x.1/\∀e∈x.2.2.2.2,EvS e) ?_ ⟨by dsimp only;omega,by dsimp only;omega,rfl,rfl,rfl,by simp,λe he=>?_⟩
 .rintro⟨a,t,w',s',es⟩ ⟨e1,e2,e3,e4,e5,e6,e7⟩;dsimp only at e1 e2 e3 e4 e5 e6 e7;subst e3;subst e4;subst e5;refine e_ (λg=>?_) λg=>?_
  .dsimp only at g;rw[ew]at g;refine bg (by simp;omega) (by omega) (ar ?_);dsimp only;rw[hP (n:=a+1) (by omega) (by omega)];refine ⟨⟨by omega,by omega,rfl,rfl,rfl,by simp;omega,λe he=>?_⟩,by omega⟩;rcases bY.1 he with he|he
   .exact e7 e he
   .simp only[bp,cF,gu]at he;rcases he with he|he<;>subst he<;>exact⟨by simp,by simp⟩
  .refine ax (P:=TR) ?_ λr hr=>ar hr
   refine b8 es.length (λi x=>x.1=(i:Int)/\TP x.2.1/\x.2.2.1=w'/\SZ i x.2.2.2.1/\x.2.2.2.2.1=es/\x.2.2.2.2.2.length<=i/\∀e∈x.2.2.2.2.2,EvS e) ?_ ?_ ⟨rfl,ty.p,rfl,hs,rfl,by simp,λe he=>(by cases he)⟩
   .rintro i ⟨b,t,w',s',es',out⟩ hi ⟨d1,U,Z,M,Y,d6,d7⟩;dsimp only at d1 U Z M Y d6 d7;subst d1;subst Z;subst Y;refine di ?_;refine aY (λx=>TP x.1/\x.2.1=w'/\SZ (i+1) x.2.2.1/\x.2.2.2.1=es'/\x.2.2.2.2.length<=i+1/\∀e∈x.2.2.2.2,EvS e) ?_ ?_
    .refine bZ (bZ (aR ?_));have I:=e7 _ (bL (T:=.st (.pr (.int .i64) (.pr (.int .i64) (.pr (.int .i64) (.pr (.int .i64) (.pr (.int .i64) (.pr (.sl (.int .i64)) (.sl (.int .i64))))))))) (xs:=es') (j:=(i:Int)) (by omega) (by omega));revert I;generalize (aK _ _)=z;intro I;refine ax (F' w' s' M.nb (by rw[J.d];decide) z (by have:=I.1;omega) (by have:=I.2;omega)) λv hv=>?_
     refine aO (λh=>?_) λh=>ar ⟨U,rfl,M.mono (by omega) (by omega),rfl,by dsimp only;omega,d7⟩
     refine bg (by simp;omega) (by omega) (ar ⟨U,rfl,M.step (hv.1 h).2.1 (by omega),rfl,by simp;omega,λe he=>?_⟩);rcases bY.1 he with he|he
     .exact d7 e he
     .rw[aL]at he;subst he;exact I
    .rintro⟨t,w'',s'',es'',out'⟩ ⟨f1,f2,f3,f4,f5,f6⟩;dsimp only at f1 f2 f3 f4 f5 f6;refine ar ?_;dsimp only;exact⟨gE (by omega),f1,f2,f3,f4,f5,f6⟩
   .rintro⟨b,t,w',s',es',out⟩ ⟨d1,U,Z,M,Y,d6,d7⟩;dsimp only at d1 U Z M Y d6 d7;subst d1;subst Z;subst Y;refine dj ?_;refine ax (P:=TR) ?_ λr hr=>ar hr
    have hmin:HQ (iK n 0) 60<=60:=by
     unfold HQ;split
     .omega
     .rename_i h;simp[gf]at h;exact h
    refine ax (ag9 (by omega) s' M w' J.c J.t (by rw[J.d];decide) _ hmin t U) λv hv=>?_
    refine bg (by have:=hv.2;dsimp only;omega) (by omega) ?_;have hall:∀e∈out++v.1,EvS e:=λe he=>by
     rcases bY.1 he with he|he
     .exact d7 e he
     .exact hv.1 e he
    refine ax (aff w' (out++v.1) λe he=>by have:=hall e he;exact⟨by have:=this.1;omega,by have:=this.2;omega⟩) λc hc=>?_
    refine b_ (λ_=>?_) λh=>?_
    .exact ax Ut λu hu=>ar ⟨hu.vl.wb,hu.vl,λe he=>(by cases he),by simp,λe he=>(by cases he),hu.x,_,_,_,.nil⟩
    .exact ar ⟨(hc h).1.1.wb,(hc h).1.1,(hc h).2.1,by have:=hv.2;simp;omega,hall,J.x,(hc h).2.2⟩
 .rw[aL]at he;subst he;exact⟨by simp,by simp⟩
abbrev IT:Type:=ω
abbrev CT:Type:=WT×List (Int×List IT)
theorem sG (a b:Int):jx (a,b)=af (decide (0<=a/\a<b)):=by
 refine ct ?_;unfold jx iY aF;with_reducible repeat' first|(refine OS.ok ?_;constructor)|refine IM.mk λ_=>?_
 .by_cases h:a<b<;>simp[*,gf]
 .simp;omega
theorem Ga (k:Int):qf k=af (decide (1<=k/\k<=5)):=by
 refine ct ?_;unfold qf iY aF;with_reducible repeat' first|(refine OS.ok ?_;constructor)|refine IM.mk λ_=>?_
 .by_cases h:k<=5<;>simp[*,c_]
 .simp;omega
def iX (i:IT):η:=
 if i.1=1\/i.1=6\/i.1=10\/i.1=27 then [i.2.1]
 else if i.1=2\/i.1=3 then [i.2.1,i.2.2.1]
 else if i.1=4 then [i.2.1,i.2.2.1,i.2.2.2.1]
 else if i.1=7 then [i.2.1,i.2.2.2.1]
 else if i.1=8\/i.1=26 then [i.2.2.1]
 else if i.1=9 then [i.2.2.1,i.2.2.2.1]
 else []
theorem ui (i:IT):jN i=af (iX i):=by
 obtain⟨I,i2⟩:=i;unfold jN iX aX bf bu bd aF;by_cases h1:I=1
 .subst h1;rfl
 by_cases h2:I=6
 .subst h2;rfl
 by_cases h3:I=10
 .subst h3;rfl
 by_cases h4:I=27
 .subst h4;rfl
 by_cases h5:I=2
 .subst h5;rfl
 by_cases h6:I=3
 .subst h6;rfl
 by_cases Z:I=4
 .subst Z;rfl
 by_cases Y:I=7
 .subst Y;rfl
 by_cases U:I=8
 .subst U;rfl
 by_cases M:I=26
 .subst M;rfl
 by_cases J:I=9
 .subst J;rfl
 simp only[h1,h2,h3,h4,h5,h6,Z,Y,U,M,J,cD,bcF,jnr,gu,ey]
theorem Dg (z:IT):(iX z).length<=3:=by
 unfold iX
 (repeat' split)<;>simp
theorem acy (l:List IT) (a:Int) (hl:l.length<=1000000):Ok (pO (l,a)) λ_=>True:=by
 unfold pO bd bA iY bD aZ cK aF cH;refine qF (λx=>((l.length:Int)+1-x.2).toNat) (λx=>0<=x.2/\x.2<=(l.length:Int)+1) ?_ ⟨by dsimp only;omega,by dsimp only;omega⟩;rintro⟨(a:Int),(n:Int)⟩ ⟨h0,h1⟩;dsimp only at h0 h1;refine e_ (λg=>?_) λ_=>ar trivial
 dsimp only[au]at g;refine aY (λ_=>True) ?_ λb _=>ar ?_
 .refine aY (λb=>b=aj->0<=a/\a<(l.length:Int)) ?_ ?_
  .refine bJ (λ_=>ar λh=>(by cases h)) λI=>ar λh=>?_
   rw[ml]at h;dsimp only[au]at h I;exact⟨I,h⟩
  .intro b hb;refine aO (λ_=>ar trivial) λh=>?_
   obtain⟨q0,J⟩:=hb h;refine aS q0 (by dsimp only;omega) (aR ?_);refine aU (Ga _) ?_;refine dW (λ_=>ar trivial) λ_=>?_
   refine aS q0 (by dsimp only;omega) (aR ?_);refine aJ (λ_=>?_) λ_=>ar trivial
   exact aS q0 (by dsimp only;omega) (aR (ar trivial))
 .dsimp only;rw[hP (by omega) (by omega)];exact⟨⟨by omega,by omega⟩,by omega⟩
structure AR (w:WT) (b n:Int):Prop where
 b0:0<=b
 b1:b<w.1.length
 ix:(aK (T:=Q6) w.1 b).2.1=0
 sz:¬(aK (T:=Q6) w.1 b).2.2.1=0
 sn:(aK (T:=Q6) w.1 b).2.2.1=n
theorem Ul (w:WT) (b n:Int):Ok (nI (w,b,n)) λr=>r=ai->AR w b n:=by
 unfold nI bd iO bD aZ aF;refine gF ?_;refine aU (sG _ _) ?_;refine aJ (λh=>?_) λ_=>ar (ar λh=>(by cases h))
 refine aS h.1 h.2 (aR (aJ (λh1=>?_) λ_=>ar (ar λh=>(by cases h))));refine aS h.1 h.2 (aR (b_ (λh2=>?_) λ_=>ar (ar λh=>(by cases h))));exact aS h.1 h.2 (aR (ar (ar λI=>⟨h.1,h.2,h1,h2,bi I⟩)))
theorem Vq (w:WT) (i:IT):Ok (lU (w,i)) λb=>b=ai->(i.1=7->AR w i.2.2.1 i.2.2.2.2.1)/\(i.1=9->AR w i.2.1 i.2.2.2.2.1):=by
 have tr:∀{b:Bool},¬i.1=7->¬i.1=9->b=ai->(i.1=7->AR w i.2.2.1 i.2.2.2.2.1)/\(i.1=9->AR w i.2.1 i.2.2.2.2.1):=λh1 h2 _=>⟨λh=>(h1 h).elim,λh=>(h2 h).elim⟩
 unfold lU aX bf bu ch dC bd iY bD aZ aF;simp only[sG,X6];refine aJ (λM=>?_) λ_=>?_
 .refine aY (λ_=>True) ?_ λ_ _=>ar (tr (by have M:i.1=6:=M;omega) (by have M:i.1=6:=M;omega))
  refine aJ (λh=>?_) λ_=>ar trivial
  exact aS h.1 h.2 (aR (ar trivial))
 refine aJ (λI=>?_) λ_=>?_
 .refine aY (λ_=>True) ?_ λ_ _=>ar (tr (by have I:i.1=8:=I;omega) (by have I:i.1=8:=I;omega))
  refine aJ (λh=>?_) λ_=>ar trivial
  exact aS h.1 h.2 (aR (ar trivial))
 refine aJ (λJ=>?_) λU=>?_
 .exact ax (Ul _ _ _) λ_ h=>ar λh2=>⟨λ_=>h h2,λZ=>by have J:i.1=7:=J;omega⟩
 refine aJ (λZ=>?_) λY=>?_
 .exact ax (Ul _ _ _) λ_ h=>ar λh2=>⟨λJ=>(U J).elim,λ_=>h h2⟩
 have tr:∀{b:Bool},b=ai->(i.1=7->AR w i.2.2.1 i.2.2.2.2.1)/\(i.1=9->AR w i.2.1 i.2.2.2.2.1):=tr U Y;refine aY (λx=>x.2=(w,i)) (aJ (λ_=>ar rfl) λ_=>ar rfl) ?_;rintro⟨b,x⟩ e;dsimp only at e;subst e;refine aO (λ_=>?_) λ_=>?_
 .refine aY (λ_=>True) ?_ λ_ _=>ar tr
  refine aJ (λh=>?_) λ_=>ar trivial
  exact aS h.1 h.2 (aR (ar trivial))
 refine aY (λx=>x.2=(w,i)) (aJ (λ_=>ar rfl) λ_=>aJ (λ_=>ar rfl) λ_=>aJ (λ_=>ar rfl) λ_=>ar rfl) ?_;rintro⟨b,x⟩ e;dsimp only at e;subst e;refine aO (λ_=>?_) λ_=>?_
 .refine aY (λ_=>True) ?_ λ_ _=>ar tr
  refine aJ (λh=>?_) λ_=>ar trivial
  exact aS h.1 h.2 (aR (ar trivial))
 refine aY (λx=>x.2=(w,i)) (aJ (λ_=>ar rfl) λ_=>aJ (λ_=>ar rfl) λ_=>ar rfl) ?_;rintro⟨b,x⟩ e;dsimp only at e;subst e;refine aO (λ_=>ar tr) λ_=>?_
 refine aY (λx=>x.2=(w,i)) (aJ (λ_=>ar rfl) λ_=>ar rfl) ?_;rintro⟨b,x⟩ e;dsimp only at e;subst e;with_reducible repeat' first|(refine OS.ok ?_;constructor)|refine IM.mk λ_=>?_
 all_goals exact tr
structure VI (n:Int) (i:IT):Prop where
 o1:1<=i.1
 o2:i.1<=28
 r:∀j∈iX i,0<=j/\j<n
structure VT (t:Int×List IT):Prop where
 r0:0<=t.1
 r1:t.1<=32
 i:∀i∈t.2,VI t.1 i
structure VJ (w:WT) (k:Int) (i:IT):Prop where
 a7:i.1=7->AR w i.2.2.1 i.2.2.2.2.1
 a9:i.1=9->AR w i.2.1 i.2.2.2.2.1
 se:i.1=28->i.2.2.2.2.2= -1
 si:¬i.1=28->0<=i.2.2.2.2.2/\i.2.2.2.2.2<w.2.2.2.2.2.length/\(aK (T:=yI) w.2.2.2.2.2 i.2.2.2.2.2).1=k
theorem I1 (w:WT) (k:Int) (c:Int×List IT) (hc:c.2.length<=1000000):Ok (iz (w,k,c)) λb=>b=ai->VT c/\∀i∈c.2,VJ w k i:=by
 unfold iz aX bf bu ch bK cN nZ bd bA iO bD aZ cK aF cH;refine aY (λx=>x.2=(w,c)/\(x.1=aj->0<=c.1/\c.1<=32)) ?_ ?_
 .refine bJ (λ_=>ar ⟨rfl,λh=>(by cases h)⟩) λh0=>bJ (λ_=>ar ⟨rfl,λh=>(by cases h)⟩) λh1=>ar ⟨rfl,λ_=>⟨h0,h1⟩⟩
 rintro⟨b,x⟩ ⟨e,hb⟩;dsimp only at e hb;subst e;refine aO (λ_=>ar λh=>(by cases h)) λh=>?_
 obtain⟨r0,r1⟩:=hb h;refine b8 c.2.length (λi x=>x.1=(i:Int)/\x.2=(w,c)/\∀q:Nat,q<i->VI c.1 (aK (T:=B') c.2 (q:Int))/\VJ w k (aK (T:=B') c.2 (q:Int))) ?_ ?_ ⟨rfl,rfl,λk hk=>by omega⟩
 .rintro i ⟨a,x⟩ hi ⟨e1,e2,e3⟩;dsimp only at e1 e2 e3;subst e1;subst e2;refine di ?_;refine bZ (aR ?_);generalize Y:(aK _ _)=z;refine aY (λx=>x.2=(w,c,z)/\(x.1=aj->(1<=z.1/\z.1<=28)/\(z.1=7->AR w z.2.2.1 z.2.2.2.2.1)/\(z.1=9->AR w z.2.1 z.2.2.2.2.1))) ?_ ?_
  .refine bJ (λ_=>ar ⟨rfl,λh=>(by cases h)⟩) λh0=>bJ (λ_=>ar ⟨rfl,λh=>(by cases h)⟩) λh1=>?_
   refine aO (λ_=>ar ⟨rfl,λh=>(by cases h)⟩) λ_=>?_
   refine ax (Vq w z) λy Z=>?_
   refine dW (λ_=>ar ⟨rfl,λh=>(by cases h)⟩) λhyt=>?_
   exact ax (acy c.2 _ hc) λy _=>ar ⟨rfl,λ_=>⟨⟨h0,h1⟩,Z hyt⟩⟩
  rintro⟨b,x⟩ ⟨e,hb⟩;dsimp only at e hb;subst e;refine aO (λ_=>ar λh=>(by cases h)) λh=>?_
  obtain⟨⟨o1,o2⟩,a7,a9⟩:=hb h;refine aY (λx=>x.2=(w,c,z)/\(x.1=aj->(z.1=28->z.2.2.2.2.2= -1)/\(¬z.1=28->0<=z.2.2.2.2.2/\z.2.2.2.2.2<w.2.2.2.2.2.length/\(aK (T:=yI) w.2.2.2.2.2 z.2.2.2.2.2).1=k))) ?_ ?_
  .simp only[sG,X6];refine aJ (λI=>?_) λI=>?_
   .refine b_ (λ_=>ar ⟨rfl,λh=>(by cases h)⟩) λhm=>?_
    exact b_ (λh=>(h I).elim) λ_=>ar ⟨rfl,λ_=>⟨λ_=>hm,λh=>(h I).elim⟩⟩
   .refine b_ (λ_=>?_) λh=>(I h).elim
    refine b_ (λ_=>ar ⟨rfl,λh=>(by cases h)⟩) λh=>?_
    exact aS h.1 h.2 (aR (ar ⟨rfl,λh2=>⟨λh3=>(I h3).elim,λ_=>⟨h.1,h.2,by simpa using h2⟩⟩⟩))
  rintro⟨b,x⟩ ⟨e,hsi⟩;dsimp only at e hsi;subst e;refine aO (λ_=>ar λh=>(by cases h)) λhbs=>?_
  obtain⟨se,si⟩:=hsi hbs;refine aY (λx=>x.2=(w,c,z)) ?_ ?_
  .simp only[sG,X6];with_reducible repeat' first|(refine OS.ok ?_;constructor)|refine IM.mk λ_=>?_
   all_goals rfl
  rintro⟨b,x⟩ e;dsimp only at e;subst e;refine aO (λ_=>ar λh=>(by cases h)) λ_=>?_
  refine aU (ui z) ?_;refine b8 (iX z).length (λj x=>x.1=(j:Int)/\x.2=(w,c)/\∀k:Nat,k<j->0<=aK (T:=.int .i64) (iX z) (k:Int)/\aK (T:=.int .i64) (iX z) (k:Int)<c.1) ?_ ?_ ⟨rfl,rfl,λk hk=>by omega⟩
  .rintro j ⟨a,x⟩ hj ⟨U,M,J⟩;dsimp only at U M J;subst U;subst M;refine di ?_;refine bZ (aR ?_);refine aU (sG _ _) ?_;refine b_ (λ_=>ar λh=>(by cases h)) λh=>ar ?_
   dsimp only at h ⊢;have hj32:(iX z).length<=3:=Dg z;refine ⟨gE (by omega),rfl,λk hk=>?_⟩;rcases ci k j with h1|h1
   .exact J k h1
   .rw[show k=j by omega];exact h
  .rintro⟨a,x⟩ ⟨U,M,J⟩;dsimp only at U M J;subst U;subst M;refine dj (ar ?_);dsimp only;refine ⟨gE (by omega),rfl,λk hk=>?_⟩;rcases ci k i with h1|h1
   .exact e3 k h1
   .rw[show k=i by omega,Y];exact⟨⟨o1,o2,iD (T:=.int .i64) J⟩,⟨a7,a9,se,si⟩⟩
 .rintro⟨a,x⟩ ⟨e1,e2,e3⟩;dsimp only at e1 e2 e3;subst e1;subst e2;refine dj (ar λ_=>⟨⟨r0,r1,iD (T:=B') (p:=VI c.1) λq hq=>(e3 q hq).1⟩,iD (T:=B') (p:=VJ w k) λq hq=>(e3 q hq).2⟩)
structure VC (c:CT):Prop where
 vl:VL c.1
 tl:c.2.length=c.1.2.2.2.2.1.length
 t:∀t∈c.2,VT t
 sv:SV0 c.1
 j:∀k:Nat,k<c.2.length->∀i∈(aK (T:=wI) c.2 (k:Int)).2,VJ c.1 (k:Int) i
structure CB (c:CT):Prop where
 th:c.2.length<=1000000
 ins:∀t∈c.2,t.2.length<=1000000
 rg:∀t∈c.2,1<=t.1
 wx:WX c.1
 ok:jM c=af ai
theorem Uv (c:CT) (h1:c.2.length<=1000000) (h2:∀t∈c.2,t.2.length<=1000000):Ok (jM c) λb=>b=ai->VC c:=by
 obtain⟨w,l⟩:=c;dsimp only at h1 h2;unfold jM bu bA bD aZ cK aF cH;refine aY (λx=>x.2=(w,l)/\(x.1=aj->(VL w/\SV0 w)/\l.length=w.2.2.2.2.1.length)) ?_ ?_
 .refine ax (B1 w) λb hb=>?_
  refine dW (λ_=>ar ⟨rfl,λh=>(by cases h)⟩) λh=>ar ⟨rfl,λM=>⟨hb h,?_⟩⟩
  simp at M;omega
 rintro⟨b,x⟩ ⟨e,I⟩;dsimp only at e I;subst e;refine aO (λ_=>ar λh=>(by cases h)) λh=>?_
 obtain⟨⟨hv,hsv⟩,hl⟩:=I h;refine b8 l.length (λi x=>x.1=(i:Int)/\x.2=(w,l)/\∀k:Nat,k<i->VT (aK (T:=wI) l (k:Int))/\∀q∈(aK (T:=wI) l (k:Int)).2,VJ w (k:Int) q) ?_ ?_ ⟨rfl,rfl,λk hk=>by omega⟩
 .rintro i ⟨a,x⟩ hi ⟨e1,e2,e3⟩;dsimp only at e1 e2 e3;subst e1;subst e2;refine di ?_;refine bZ (aR ?_);have hm:=bL (T:=wI) (xs:=l) (j:=(i:Int)) (by omega) (by omega);revert hm;generalize J:(aK (T:=wI) l (i:Int))=z;intro hm;refine ax (I1 w _ z (h2 z hm)) λb hb=>?_
  refine dW (λ_=>ar λh=>(by cases h)) λh=>ar ?_
  dsimp only;refine ⟨gE (by omega),rfl,λk hk=>?_⟩;rcases ci k i with h1|h1
  .exact e3 k h1
  .rw[show k=i by omega,J];exact hb h
 .rintro⟨a,x⟩ ⟨e1,e2,e3⟩;dsimp only at e1 e2 e3;subst e1;subst e2;refine dj (ar λ_=>⟨hv,hl,iD (T:=wI) (p:=VT) λk hk=>(e3 k hk).1,hsv,λk hk=>(e3 k hk).2⟩)
abbrev TT:Type:=Int×η×List η×Int
structure TL (F:Int->Prop) (E:Nat) (l:η):Prop where
 a:Ik l
 m:∀y∈l,0<=y/\y<(E:Int)
 f:∀y∈l,F y
theorem QO:∀(l:η) (lo hi:Int),Ik l->(∀y∈l,lo<=y/\y<hi)->(l.length:Int)<=max 0 (hi-lo)
 |[],lo,hi,_,_=>by simp;omega
 |x::r,lo,hi,h,hm=>by
  have h1:=hm x (dw ..);have h2:=QO r (x+1) hi h.2 λy I=>⟨by have:=h.1 y I;omega,(hm y (cM _ I)).2⟩
  rw[cf];omega
variable {F:Int->Prop}
theorem TL.len {E:Nat} {l:η} (h:TL F E l):l.length<=E:=by
 have:=QO l 0 E h.a h.m;omega
theorem TL.nil (E:Nat):TL F E []:=⟨trivial,λy I=>(by cases I),λy I=>(by cases I)⟩
theorem TL.uni {E:Nat} {a b:η} (J:TL F E a) (hb:TL F E b):TL F E (xM a b):=
 ⟨Ri a b,λy I=>by
   rcases I2.1 I with h|h
   .exact J.m y h
   .exact hb.m y h,λy I=>(I2.1 I).elim (J.f y) (hb.f y)⟩
theorem TL.mono {E M:Nat} {J:Int->Prop} {l:η} (h:TL F E l) (hf:E<=M) (U:∀y,F y->J y):TL J M l:=⟨h.a,λy I=>⟨(h.m y I).1,by have:=(h.m y I).2;omega⟩,λy I=>U y (h.f y I)⟩
structure TH (F:Int->Prop) (E:Nat) (s:TT):Prop where
 r:s.2.1.length<=32
 t:s.2.2.1.length<=32
 l:∀l∈s.2.2.1,TL F E l
 e0:0<=s.2.2.2
 e1:s.2.2.2<=(E:Int)
theorem TH.zero (E:Nat):TH F E (0,[],[],0):=⟨by simp,by simp,λl hl=>(by cases hl),by simp,by simp⟩
theorem TH.mono {E J:Nat} {I:Int->Prop} {s:TT} (h:TH F E s) (hf:E<=J) (M:∀y,F y->I y):TH I J s:=⟨h.r,h.t,λl hl=>(h.l l hl).mono hf M,h.e0,by have:=h.e1;omega⟩
theorem dl (s:TT) (E:Nat) (Y:E<=100000) (h:TH F E s):cw s=af ((s.1,s.2.2.2),s.2.1,s.2.2.1):=by
 obtain⟨h1,h2,U,h4,Z⟩:=h;refine ct ?_;unfold cw aX bf bu bK cN bA bE bD aZ cK aF cH;refine bg (by simp;omega) (by omega) ?_;refine b8 s.2.2.1.length (λi x=>x.1=(i:Int)/\x.2.1=s/\x.2.2.2.1=(s.1,s.2.2.2)/\x.2.2.2.2.1=s.2.1/\x.2.2.2.2.2=s.2.2.1.take i) ?_ ?_ ⟨rfl,rfl,rfl,rfl,rfl⟩
 .rintro i ⟨a,b,c,d,e,f⟩ hi ⟨e1,e2,e3,J,I⟩;dsimp only at e1 e2 e3 J I;subst e1;subst e2;subst I;refine di ?_;refine bZ (aR ?_);have M:=(U _ (bL (T:=.sl (.int .i64)) (xs:=b.2.2.1) (j:=(i:Int)) (by omega) (by omega))).len;refine bg (by simp only[j8,bR];exact du M (by omega)) (by omega) ?_;refine bg (by simp;omega) (by omega) (ar ?_);dsimp only;refine ⟨gE (by omega),rfl,e3,J,?_⟩;rw[mX (T:=.sl (.int .i64)) hi];rfl
 .rintro⟨a,b,c,d,e,f⟩ ⟨e1,e2,e3,J,I⟩;dsimp only at e1 e2 e3 J I;subst e1;subst e2;subst I;refine dj (ar ?_);show (d,e,_)=_;rw[e3,J,cW]
theorem wL (b:Bool):Ok (gk b) λ_=>True:=by
 unfold gk;with_reducible repeat' first|(refine OS.ok ?_;constructor)|refine IM.mk λ_=>?_
 all_goals trivial
theorem Gq (n:Int):Ok (mC n) λ_=>True:=by
 unfold mC bA aF;with_reducible repeat' first|(refine OS.ok ?_;constructor)|refine IM.mk λ_=>?_
 all_goals trivial
theorem aer (x:Γ):Ok (uM x) λ_=>True:=by
 unfold uM bd;refine aJ (λ_=>ar trivial) λ_=>aJ (λ_=>?_) λ_=>ar trivial
 exact ax (wL _) λ_ _=>ar trivial
theorem abd (x:ν):Ok (sV x) λ_=>True:=by
 unfold sV bd iO bE aF;have t1:∀b,Ok (obind (gk b) λy=>af (y,ai)) λ_=>True:=λb=>ax (wL _) λ_ _=>ar trivial
 refine aJ (λ_=>ar trivial) λ_=>aJ (λ_=>ar trivial) λ_=>aJ (λ_=>ar trivial) λ_=>?_
 refine aJ (λ_=>aJ (λ_=>ar trivial) λh=>zJ h (ar trivial)) λ_=>?_
 refine aJ (λ_=>aJ (λ_=>ar trivial) λh=>zJ h (ar trivial)) λ_=>?_
 refine aJ (λ_=>t1 _) λ_=>aJ (λ_=>t1 _) λ_=>aJ (λ_=>t1 _) λ_=>aJ (λ_=>t1 _) λ_=>aJ (λ_=>t1 _) λ_=>aJ (λ_=>t1 _) λ_=>?_
 refine aJ (λ_=>aY (λ_=>True) (b_ (λ_=>ax (wL _) λ_ _=>ar trivial) λ_=>ax (wL _) λ_ _=>ar trivial) λ_ _=>ar trivial) λ_=>?_
 exact aJ (λ_=>aY (λ_=>True) (b_ (λ_=>ax (wL _) λ_ _=>ar trivial) λ_=>ax (wL _) λ_ _=>ar trivial) λ_ _=>ar trivial) λ_=>ar trivial
theorem Y6 (E:Nat) (hE:E<=100000) (i:IT) (p:Γ) (R:η) (T:List η) (hr:∀j∈iX i,0<=j/\j<(R.length:Int)) (o1:1<=i.1) (o2:i.1<=5) (hR:R.length<=32) (I:T.length=R.length) (hl:∀l∈T,TL F E l):Ok (wV ((i,p),R,T)) λy=>y.1.1.2=p.2/\y.2.1.length=R.length/\y.2.2.length=T.length/\∀l∈y.2.2,TL F E l:=by
 unfold wV aX bf bu ck bd bA bE bD kl aZ cK aF cH;refine aU (ui i) ?_;have h3:=Dg i;refine b8 (iX i).length (λj x=>x.1=(j:Int)/\x.2.1=R/\x.2.2.1=T/\x.2.2.2.1=i/\x.2.2.2.2.1=p) ?_ ?_ ⟨rfl,rfl,rfl,rfl,rfl⟩
 .rintro j ⟨a,b,c,d,e⟩ hj ⟨e1,e2,e3,Z,M⟩;dsimp only at e1 e2 e3 Z M;subst e1;subst e2;subst e3;subst Z;refine di ?_;have hz:=hr _ (bL (T:=.int .i64) (xs:=iX d) (j:=(j:Int)) (by omega) (by omega));refine aY (λx=>x.2=(b,c,d,e)/\x.1=aj) ?_ ?_
  .refine bZ (aR ?_);refine bJ (λg=>?_) λ_=>?_
   .dsimp only at g;omega
   refine bZ (aR (ar ⟨rfl,?_⟩));dsimp only;rw[ml];exact hz.2
  rintro⟨b',x⟩ ⟨Y,U⟩;dsimp only at Y U;subst Y;subst U;refine aO (λh=>(by cases h)) λ_=>ar ?_
  dsimp only;exact⟨gE (by omega),rfl,rfl,rfl,M⟩
 .rintro⟨a,b,c,d,e⟩ ⟨e1,e2,e3,Z,M⟩;dsimp only at e1 e2 e3 Z M;subst e1;subst e2;subst e3;subst Z;refine dj ?_;obtain⟨e,e'⟩:=e;dsimp only at M;subst M;refine ax (P:=λy=>y.1.1.2=e.2/\y.2.1.length=b.length/\y.2.2.length=c.length/\∀l∈y.2.2,TL F E l) ?_ λr hr=>ar hr
  have hA:d.1≠5->0<=d.2.1/\d.2.1<(b.length:Int):=λh5=>hr _ (by
   unfold iX;(repeat' split)<;>simp<;>omega)
  have hB:2<=d.1->d.1≠5->0<=d.2.2.1/\d.2.2.1<(b.length:Int):=λh2 h5=>hr _ (by
   unfold iX;(repeat' split)<;>simp<;>omega)
  have hC:d.1=4->0<=d.2.2.2.1/\d.2.2.2.1<(b.length:Int):=λh5=>hr _ (by
   unfold iX;(repeat' split)<;>simp<;>omega)
  have hg:∀{j:Int},0<=j->j<(b.length:Int)->TL F E (aK (T:=.sl (.int .i64)) c j):=λh0 h1=>hl _ (bL (T:=.sl (.int .i64)) (xs:=c) h0 (by rw[I];exact h1))
  refine aY (λx=>x.2.1=b/\x.2.2.1=c/\x.2.2.2.1=d/\x.2.2.2.2.1=e/\TL F E x.1.2.2/\d.1≠5) ?_ ?_
  .refine aJ (λ_=>ar ⟨rfl,rfl,rfl,hl⟩) λJ=>?_
   refine aJ (λ_=>ar ⟨rfl,rfl,rfl,rfl,TL.nil E,J⟩) λn1=>?_
   dsimp only at n1 J;obtain⟨b0,b1⟩:=hB (by omega) J;refine aJ (λ_=>?_) λn2=>?_
   .refine aS b0 b1 (aS b0 b1 (aR ?_));refine aS b0 (by dsimp only;rw[I];exact b1) (aS b0 (by dsimp only;rw[I];exact b1) (aR ?_));exact ar ⟨rfl,rfl,rfl,rfl,hg b0 b1,J⟩
   refine aJ (λ_=>?_) λn3=>?_
   .refine ax (Gq _) λy _=>?_
    refine aS b0 b1 (aS b0 b1 (aR ?_));refine ax (aer _) λy _=>?_
    refine aS b0 (by dsimp only;rw[I];exact b1) (aS b0 (by dsimp only;rw[I];exact b1) (aR ?_));exact ar ⟨rfl,rfl,rfl,rfl,hg b0 b1,J⟩
   dsimp only at n2 n3;obtain⟨c0,c1⟩:=hC (by omega);refine ax (Gq _) λy _=>?_
   refine aS b0 b1 (aS b0 b1 (aR ?_));refine aS c0 c1 (aS c0 c1 (aR ?_));refine ax (abd _) λy _=>?_
   refine aS b0 (by dsimp only;rw[I];exact b1) (aS b0 (by dsimp only;rw[I];exact b1) (aR ?_));refine aS c0 (by dsimp only;rw[I];exact c1) (aS c0 (by dsimp only;rw[I];exact c1) (aR ?_));have g1:=hg b0 b1;have g2:=hg c0 c1;refine aU (Uw _ _ (du g1.len (by omega)) (du g2.len (by omega))) ?_;exact ar ⟨rfl,rfl,rfl,rfl,g1.uni g2,J⟩
  rintro⟨⟨v,ok,tn⟩,b',c',d',e',e''⟩ ⟨Y,U,f3,f4,f5,f6⟩;dsimp only at Y U f3 f4 f5 f6;subst Y;subst U;subst f3;subst f4;obtain⟨a0,a1⟩:=hA f6;have ht:=f5.len;refine bg (by simp;omega) (by omega) ?_;refine aS a0 a1 (aS a0 a1 (aS a0 (by dsimp only;rw[I];exact a1) (aS a0 (by dsimp only;rw[I];exact a1) (ar ?_))));refine ⟨rfl,bW ..,bW ..,λl hm=>?_⟩;rcases C' hm with h|h
  .exact hl l h
  .rw[h];exact f5
theorem aal (E:Nat) (Z:E<=100000) (c:Int×List IT) (hc:c.2.length<=1000000) (hv:VT c) (s:TT) (h:TH F E s):Ok (nG (c,s)) λy=>TH F E y.1/\(y.1.2.1.length=0\/y.1.2.2.2=s.2.2.2):=by
 unfold nG aX bf bu bK dx cN bd bA iY iO bE bD aZ cK aF cH;have J:=h;obtain⟨h1,h2,h3,h4,h5⟩:=h;refine aY (λx=>x.2.1=c/\x.2.2.1=s/\(x.1=aj->(s.2.1.length:Int)=c.1/\(s.2.2.1.length:Int)=c.1)) ?_ ?_
 .refine b_ (λ_=>ar ⟨rfl,rfl,λh=>(by cases h)⟩) λg=>ar ⟨rfl,rfl,λh=>?_⟩
  simp at h;exact⟨g,h⟩
 rintro⟨b,c',s',z⟩ ⟨e1,e2,e3⟩;dsimp only at e1 e2 e3;subst e1;subst e2;refine aO (λ_=>ar ⟨TH.zero E,.inl rfl⟩) λhb=>?_
 obtain⟨q1,q2⟩:=e3 hb;refine aU (dl s' E Z J) ?_;refine qF (λx=>((c'.2.length:Int)+1-x.1).toNat) (λx=>0<=x.1/\x.1<=(c'.2.length:Int)+1/\x.2.1=c'/\x.2.2.1.2=s'.2.2.2/\x.2.2.2.2.1.length=s'.2.1.length/\x.2.2.2.2.2.length=s'.2.2.1.length/\∀l∈x.2.2.2.2.2,TL F E l) ?_ ⟨by dsimp only;omega,by dsimp only;omega,rfl,rfl,rfl,rfl,h3⟩;rintro⟨(n:Int),c,⟨(I:Int),ev⟩,z',R,T⟩ ⟨n0,n1,e1,e2,e3,e4,M⟩;dsimp only at n0 n1 e1 e2 e3 e4 M;subst e1;subst e2;refine e_ (λg=>?_) λ_=>ar ⟨TH.zero E,.inl rfl⟩
 dsimp only[au]at g;refine aY (λx=>x.2=(c,(I,s'.2.2.2),z',R,T)/\(x.1=aj->0<=I/\I<(c.2.length:Int))) ?_ ?_
 .refine bJ (λ_=>ar ⟨rfl,λh=>(by cases h)⟩) λg1=>ar ⟨rfl,λh=>?_⟩
  dsimp only at g1 h;rw[ml]at h;exact⟨g1,h⟩
 rintro⟨b',x⟩ ⟨f1,f2⟩;dsimp only at f1 f2;subst f1;refine aO (λ_=>ar ⟨TH.zero E,.inl rfl⟩) λhb=>?_
 obtain⟨p0,p1⟩:=f2 hb;refine aS p0 p1 (aR ?_);have hi:=hv.i _ (bL (T:=B') (xs:=c.2) (j:=I) p0 p1);revert hi;generalize (aK (T:=B') _ _)=i;intro hi;refine aU (Ga _) ?_;refine b_ (λ_=>ar ⟨⟨by dsimp only;omega,by dsimp only;omega,M,h4,h5⟩,.inr rfl⟩) λhsil=>?_
 refine aJ (λ_=>ar ⟨TH.zero E,.inl rfl⟩) λhn=>?_
 dsimp only[au]at hn;refine ax (Y6 E Z i (I,s'.2.2.2) R T (λj hj=>by have:=hi.r j hj;omega) hsil.1 hsil.2 (by omega) (by omega) M) λy hy=>?_
 obtain⟨⟨⟨pc',ev'⟩,ok⟩,R',T'⟩:=y;obtain⟨k1,k2,Y,U⟩:=hy;dsimp only at k1 k2 Y U;refine dc (lO Y.symm (dc (lO k2.symm (Bv ?_))));refine dW (λ_=>ar ⟨TH.zero E,.inl rfl⟩) λ_=>ar ?_
 dsimp only;rw[hP (by omega) (by omega)];exact⟨⟨by omega,by omega,rfl,k1,by omega,by omega,U⟩,by omega⟩
abbrev ST:Type:=SY×η×η×List TT
structure TF (c:Int×List IT) (t:TT):Prop where
 p0:0<=t.1
 p1:t.1<(c.2.length:Int)
 r:(t.2.1.length:Int)=c.1
 t:(t.2.2.1.length:Int)=c.1
structure FSx (c:CT) (s:ST):Prop where
 vc:VC c
 cd:∀d∈c.1.2.2.1,0<=d.2/\d.2<(c.1.2.1.length:Int)
 e3:s.1.2.2.2.length=c.1.2.2.2.2.1.length
 ce:s.2.1.length=c.1.1.length
 fu:s.2.2.1.length=c.1.2.2.2.1.length
 th:s.2.2.2.length=c.2.length
 t:∀k:Nat,k<c.2.length->TF (aK (T:=wI) c.2 (k:Int)) (aK (T:=vn) s.2.2.2 (k:Int))
def FQ (L:List ET) (k:Int) (y:Int):Prop:=1<=y/\LW L k y
structure SV (n:Nat) (L:List ET) (s:ST):Prop where
 sb:SB n s.1
 ln:L.length=n
 t:∀k:Nat,k<s.2.2.2.length->TH (FQ L k) n (aK (T:=vn) s.2.2.2 (k:Int))
theorem SV.ti {n:Nat} {L:List ET} {s:ST} (h:SV n L s) {k:Int} (h0:0<=k) (h1:k<(s.2.2.2.length:Int)):TH (FQ L k) n (aK (T:=vn) s.2.2.2 k):=by
 have:=h.t k.toNat (by omega);rw[show ((k.toNat:Nat):Int)=k by omega]at this;exact this
structure TG (c:CT) (L:List ET) (sy:SY) (k:Int) (t:TT):Prop where
 ev:t.2.2.2=((fl L k).length:Int)
 wi:(aK (T:=jJ) sy.2.2.2 k).1=3\/(aK (T:=jJ) sy.2.2.2 k).1=4->(aK (T:=B') (aK (T:=wI) c.2 k).2 t.1).1=21
 nw:(fl L k).length=0->(aK (T:=jJ) sy.2.2.2 k).1=0\/(aK (T:=jJ) sy.2.2.2 k).1=1
structure Mc (c:CT) (L:List ET) (s:ST):Prop where
 ac:Acw c.1 L s.1 s.2.1 s.2.2.1
 t:∀k:Nat,k<s.2.2.2.length->(aK (T:=vn) s.2.2.2 (k:Int)).2.1.length=0\/TG c L s.1 (k:Int) (aK (T:=vn) s.2.2.2 (k:Int))
theorem ah7 (c:CT) (s:ST) (hc:CB c):Ok (wU (c,s)) λb=>b=ai->FSx c s:=by
 unfold wU aX bf dx cN bA iY iO bD aZ cK aF cH;refine aY (λx=>x.2=(c,s)/\(x.1=aj->VC c/\(∀d∈c.1.2.2.1,0<=d.2/\d.2<(c.1.2.1.length:Int))/\s.1.2.2.2.length=c.1.2.2.2.2.1.length/\s.2.1.length=c.1.1.length/\s.2.2.1.length=c.1.2.2.2.1.length/\s.2.2.2.length=c.2.length)) ?_ ?_
 .refine ax (Uv c hc.th hc.ins) λb hb=>?_
  refine dW (λ_=>ar ⟨rfl,λh=>(by cases h)⟩) λh=>?_
  have hv:=hb h;refine ax (Q5 c.1 s.1 (by have:=hv.vl.d;omega)) λb2 I=>?_
  refine dW (λ_=>ar ⟨rfl,λh=>(by cases h)⟩) λh2=>?_
  obtain⟨J,_,_,Z⟩:=I h2;refine b_ (λ_=>ar ⟨rfl,λh=>(by cases h)⟩) λk1=>?_
  refine b_ (λ_=>ar ⟨rfl,λh=>(by cases h)⟩) λk2=>ar ⟨rfl,λU=>⟨hv,J,Z,?_,?_,?_⟩⟩
  .dsimp only[au]at k1;omega
  .dsimp only[au]at k2;omega
  .simp at U;omega
 rintro⟨b,x⟩ ⟨e,hb⟩;dsimp only at e hb;subst e;refine aO (λ_=>ar λh=>(by cases h)) λh=>?_
 obtain⟨hv,hcd,Y,hce,hfu,hth⟩:=hb h;have hcl:=hc.th;refine b8 c.2.length (λi x=>x.1=(i:Int)/\x.2=(c,s)/\∀k:Nat,k<i->TF (aK (T:=wI) c.2 (k:Int)) (aK (T:=vn) s.2.2.2 (k:Int))) ?_ ?_ ⟨rfl,rfl,λk hk=>by omega⟩
 .rintro i ⟨a,x⟩ hi ⟨e1,e2,e3⟩;dsimp only at e1 e2 e3;subst e1;subst e2;refine di ?_;have hin:((i:Nat):Int)<(c.2.length:Int):=by omega
  refine bZ (aR ?_);refine aY (λx=>x.2=(c,s)/\(x.1=aj->TF (aK (T:=wI) c.2 (i:Int)) (aK (T:=vn) s.2.2.2 (i:Int)))) ?_ ?_
  .refine bJ (λ_=>ar ⟨rfl,λh=>(by cases h)⟩) λg0=>?_
   refine aS (by dsimp only;omega) hin (aR ?_);refine e_ (λ_=>ar ⟨rfl,λh=>(by cases h)⟩) λJ=>?_
   refine aS (by dsimp only;omega) hin (aR ?_);refine b_ (λ_=>ar ⟨rfl,λh=>(by cases h)⟩) λg2=>?_
   refine aS (by dsimp only;omega) hin (aR (ar ⟨rfl,λM=>⟨g0,J,g2,?_⟩⟩));simp at M;exact M
  rintro⟨b,x⟩ ⟨e,hb⟩;dsimp only at e hb;subst e;refine aO (λ_=>ar λh=>(by cases h)) λh=>ar ?_
  dsimp only;refine ⟨gE (by omega),rfl,λk hk=>?_⟩;rcases ci k i with h1|h1
  .exact e3 k h1
  .rw[show k=i by omega];exact hb h
 .rintro⟨a,x⟩ ⟨e1,e2,e3⟩;dsimp only at e1 e2 e3;subst e1;subst e2;refine dj (ar λ_=>⟨hv,hcd,Y,hce,hfu,hth,e3⟩)
theorem aj9 {i:IT} (h:i.1=6\/i.1=7\/i.1=27\/i.1=10):i.2.1∈iX i:=by
 unfold iX;(repeat' split)<;>simp<;>omega
theorem aj8 {i:IT} (h:i.1=8\/i.1=9\/i.1=26):i.2.2.1∈iX i:=by
 unfold iX;(repeat' split)<;>simp<;>omega
theorem anx {i:IT} (h:i.1=7\/i.1=9):i.2.2.2.1∈iX i:=by
 unfold iX;(repeat' split)<;>simp<;>omega
structure KD (op k:Int):Prop where
 ld:k=3->op=6\/op=7
 st:k=4->op=8\/op=9
 br:k=5->op=10
 se:k=22->op=26
 ge:k=23->op=27
 e1:k=2->op=28
 n1:¬k=1
 n17:¬k=17
 wt:k=16->op=21
 e2:¬k=0->op=28->k=2
 d7:¬k=0->op=7->k=3
 d8:¬k=0->op=8->k=4
 d9:¬k=0->op=9->k=4
 d10:¬k=0->op=10->k=5
 d26:¬k=0->op=26->k=22
theorem ago (op:Int):Ok (wS op) λk=>KD op k:=by
 unfold wS bA kl aF;refine aY (λx=>x.2=[3,3,4,4,5,6,7,8,9,10,11,12,13,14,15,16,18,19,20,21,22,23,2]/\(x.1=aj->6<=op/\op<=28)) ?_ ?_
 .refine bJ (λ_=>ar ⟨rfl,λh=>(by cases h)⟩) λg=>ar ⟨rfl,λh=>?_⟩
  dsimp only at h;rw[gx]at h;exact⟨g,h⟩
 rintro⟨b,x⟩ ⟨e,hb⟩;dsimp only at e hb;subst e;refine aO (λ_=>ar (by constructor<;>first|decide|(intro h;first|(exact (h rfl).elim)|(cases h;done)))) λh=>?_
 obtain⟨h1,h2⟩:=hb h;dsimp only;rw[hP (n:=op-6) (by omega) (by omega)];refine aS (by omega) (by simp;omega) (aS (by omega) (by simp;omega) (aR (ar ?_)));have:op=6\/op=7\/op=8\/op=9\/op=10\/op=11\/op=12\/op=13\/op=14\/op=15\/op=16\/op=17\/op=18\/op=19\/op=20\/op=21\/op=22\/op=23\/op=24\/op=25\/op=26\/op=27\/op=28:=by omega
 rcases this with rfl|rfl|rfl|rfl|rfl|rfl|rfl|rfl|rfl|rfl|rfl|rfl|rfl|rfl|rfl|rfl|rfl|rfl|rfl|rfl|rfl|rfl|rfl;all_goals (constructor<;>decide)
theorem UH (a n:Int):Ok (rU (a,n)) λr=>n=2->r=0\/r=1:=by
 unfold rU bA bE aF;refine bJ (λ_=>ar λh=>(by dsimp only at *;omega)) λh=>?_
 dsimp only at h;refine zJ (by dsimp only;omega) ?_;have t1:=Int.tmod_lt_of_pos a (b:=n) (by omega);have I:=Int.lt_tmod_of_pos a (b:=n) (by omega);refine aY (λr=>n=2->r=0\/r=1) (bJ (λg=>ar λh2=>?_) λg=>ar λh2=>?_) λ_ h=>ar h
 .dsimp only at g ⊢;rw[hP (by omega) (by omega)];omega
 .dsimp only at g ⊢;omega
theorem RQ (i:IT) (t:TT) (hr:∀j∈iX i,0<=j/\j<(t.2.1.length:Int)):Ok (sU (i,t)) λo=>(i.1=7->i.2.2.1=3->i.2.2.2.2.1=2->o=3\/o=4)/\(i.1=9->i.2.1=3->i.2.2.2.2.1=2->o=3\/o=4):=by
 unfold sU aX bf bu bd bD aF;have J:i.1=7\/i.1=9->0<=i.2.2.2.1/\i.2.2.2.1<(t.2.1.length:Int):=λh=>hr _ (by
  unfold iX;(repeat' split)<;>simp<;>omega)
 have tr:∀{o:Int},¬i.1=7->¬i.1=9->(i.1=7->i.2.2.1=3->i.2.2.2.2.1=2->o=3\/o=4)/\(i.1=9->i.2.1=3->i.2.2.2.2.1=2->o=3\/o=4):=λh1 h2=>⟨λh=>(h1 h).elim,λh=>(h2 h).elim⟩
 have wk:∀{b r n:Int},b=3->n=2->(n=2->r=0\/r=1)->bk .i64 (b+r)=3\/bk .i64 (b+r)=4:=λh1 h2 I=>by
  have:=I h2;rw[hP (by omega) (by omega)];omega
 refine aY (λx=>x.2=(i,t)/\(x.1=ai->i.1=6\/i.1=27)) (aJ (λh=>ar ⟨rfl,λ_=>.inl h⟩) λ_=>ar ⟨rfl,λh=>.inr (bi h)⟩) ?_;rintro⟨b,x⟩ ⟨e,hb⟩;dsimp only at e hb;subst e;refine aO (λh=>ar (tr (by have:=hb h;omega) (by have:=hb h;omega))) λ_=>?_
 refine aJ (λh=>?_) λM=>?_
 .exact aS (J (.inl h)).1 (J (.inl h)).2 (aR (ax (UH _ _) λy U=>ar ⟨λ_ I Y=>wk I Y U,λh9=>by dsimp only at h;omega⟩))
 refine aJ (λh=>?_) λZ=>?_
 .exact aS (J (.inr h)).1 (J (.inr h)).2 (aR (ax (UH _ _) λy U=>ar ⟨λh7=>(M h7).elim,λ_ I Y=>wk I Y U⟩))
 refine aY (λ_=>True) ?_ λx _=>aO (λ_=>ar (tr M Z)) λ_=>ar (tr M Z)
 with_reducible repeat' first|(refine OS.ok ?_;constructor)|refine IM.mk λ_=>?_
 all_goals trivial
theorem ajq {w:WT} (I:w.1=C0) {b n:Int} (h:AR w b n):b=3/\n=2:=by
 obtain⟨b0,b1,ix,sz,sn⟩:=h;rw[I]at b1 ix sz sn;have b1:b<5:=b1;rcases (by omega:b=0\/b=1\/b=2\/b=3\/b=4) with rfl|rfl|rfl|rfl|rfl
 .exact (sz rfl).elim
 .exact (sz rfl).elim
 .exact (sz rfl).elim
 .exact⟨rfl,sn.symm⟩
 .exact cX ix (by decide)
theorem aj1 {w:WT} (I:w.1=C0) {o:Int} (h:o=3\/o=4):¬(aK (T:=Q6) w.1 o).2.2.1=0:=by
 rw[I];rcases h with rfl|rfl<;>decide
structure PE (n:Nat) (c:CT) (s:ST) (t:Int) (e:ET):Prop where
 fs:FSx c s
 t0:0<=t
 t1:t<(c.2.length:Int)
 et:e.1=t
 d:e.2.2.2.2.2.1.length<=n
 f:e.2.2.2.2.2.2.length<=n
 a:e.2.1=3\/e.2.1=23\/e.2.1=5->0<=(aK (T:=B') (aK (T:=wI) c.2 t).2 (aK (T:=vn) s.2.2.2 t).1).2.1/\(aK (T:=B') (aK (T:=wI) c.2 t).2 (aK (T:=vn) s.2.2.2 t).1).2.1<((aK (T:=vn) s.2.2.2 t).2.1.length:Int)
 b:e.2.1=4\/e.2.1=22->0<=(aK (T:=B') (aK (T:=wI) c.2 t).2 (aK (T:=vn) s.2.2.2 t).1).2.2.1/\(aK (T:=B') (aK (T:=wI) c.2 t).2 (aK (T:=vn) s.2.2.2 t).1).2.2.1<((aK (T:=vn) s.2.2.2 t).2.1.length:Int)
structure PS (c:CT) (L:List ET) (s:ST) (t:Int) (e:ET):Prop where
 tg:TG c L s.1 t (aK (T:=vn) s.2.2.2 t)
 s1:e.2.1=1\/e.2.1=2->e.2.2.2.2.1= -1
 s2:¬(e.2.1=1\/e.2.1=2)->0<=e.2.2.2.2.1/\e.2.2.2.2.1<c.1.2.2.2.2.2.length/\(aK (T:=yI) c.1.2.2.2.2.2 e.2.2.2.2.1).1=t
 de:0<e.2.2.2.2.2.1.length->e.2.1=5\/(e.2.1=3\/e.2.1=4)/\¬(aK (T:=Q6) c.1.1 e.2.2.1).2.2.1=0
 fr:0<e.2.2.2.2.2.2.length->e.2.1=4\/e.2.1=22
 da:Ik e.2.2.2.2.2.1
 dq:∀y∈e.2.2.2.2.2.1,FQ L t y
 fa:Ik e.2.2.2.2.2.2
 fq:∀y∈e.2.2.2.2.2.2,FQ L t y
 wt:e.2.1=16->(aK (T:=B') (aK (T:=wI) c.2 t).2 (aK (T:=vn) s.2.2.2 t).1).1=21
theorem Xt (n:Nat) (hn:n<=100000) (c:CT) (L:List ET) (s:ST) (hc:CB c) (hs:SV n L s) (hI:Mc c L s) (t:Int):Ok (og (c,s,t)) λy=>y.2=ai->PE n c s t y.1/\PS c L s t y.1:=by
 unfold og aX bf bu bK dx cN bd bA bE bD aZ aF;refine aY (λx=>x.2.1=c/\x.2.2.1=s/\(x.1=aj->FSx c s/\0<=t/\t<(c.2.length:Int))) ?_ ?_
 .refine ax (ah7 c s hc) λb hb=>?_
  refine dW (λ_=>ar ⟨rfl,rfl,λh=>(by cases h)⟩) λh=>?_
  refine bJ (λ_=>ar ⟨rfl,rfl,λh=>(by cases h)⟩) λg0=>ar ⟨rfl,rfl,λg1=>?_⟩
  dsimp only at g0 g1;rw[ml]at g1;exact⟨hb h,g0,g1⟩
 rintro⟨b,c',s',z⟩ ⟨e1,e2,hb⟩;dsimp only at e1 e2 hb;subst e1;subst e2;refine aO (λ_=>ar λh=>(by cases h)) λh=>?_
 obtain⟨hf,t0,t1⟩:=hb h;have hk:((t.toNat:Nat):Int)=t:=by omega
 have htf:=hf.t t.toNat (by omega);rw[hk]at htf;have hvt:=hf.vc.t _ (bL (T:=wI) (xs:=c'.2) (j:=t) t0 t1);have hth:=hs.ti t0 (by rw[hf.th];exact t1);have key:∀e:ET,e.1=t->e.2.2.2.2.2.1.length<=n->e.2.2.2.2.2.2.length<=n->(e.2.1=1\/e.2.1=17\/KD (aK (T:=B') (aK (T:=wI) c'.2 t).2 (aK (T:=vn) s'.2.2.2 t).1).1 e.2.1)->PE n c' s' t e:=by
  intro e h1 h2 h3 J;have hi:=hvt.i _ (bL (T:=B') (xs:=(aK (T:=wI) c'.2 t).2) (j:=(aK (T:=vn) s'.2.2.2 t).1) htf.p0 htf.p1);refine ⟨hf,t0,t1,h1,h2,h3,λh5=>?_,λh5=>?_⟩
  .rw[htf.r];rcases J with J|J|J
   .omega
   .omega
   .refine hi.r _ ?_;have a1:=J.ld;have a2:=J.ge;have a3:=J.br;revert a1 a2 a3 h5;generalize (aK (T:=B') (aK (T:=wI) c'.2 t).2 (aK (T:=vn) s'.2.2.2 t).1)=i;intro h5 a1 a2 a3;exact aj9 (by omega)
  .rw[htf.r];rcases J with J|J|J
   .omega
   .omega
   .refine hi.r _ ?_;have a1:=J.st;have a2:=J.se;revert a1 a2 h5;generalize (aK (T:=B') (aK (T:=wI) c'.2 t).2 (aK (T:=vn) s'.2.2.2 t).1)=i;intro h5 a1 a2;exact aj8 (by omega)
 have hir:=(hvt.i _ (bL (T:=B') (xs:=(aK (T:=wI) c'.2 t).2) (j:=(aK (T:=vn) s'.2.2.2 t).1) htf.p0 htf.p1)).r;rw[<- htf.r]at hir;have hrg:=hc.rg _ (bL (T:=wI) (xs:=c'.2) (j:=t) t0 t1);have htg:TG c' L s'.1 t (aK (T:=vn) s'.2.2.2 t):=by
  have:=hI.t t.toNat (by rw[hf.th];omega);rw[hk]at this;refine this.resolve_left λh=>?_
  have:=htf.r;omega
 have hvj:=hf.vc.j t.toNat (by omega);rw[hk]at hvj;have hvj:=hvj _ (bL (T:=B') (xs:=(aK (T:=wI) c'.2 t).2) (j:=(aK (T:=vn) s'.2.2.2 t).1) htf.p0 htf.p1);have hC0:=hc.wx.c;refine aS t0 (by dsimp only;rw[hf.th];exact t1) (aR ?_);refine aS t0 t1 (aR ?_);refine aS htf.p0 htf.p1 (aR ?_);have t4:t<(s'.1.2.2.2.length:Int):=by rw[hf.e3,<-hf.vc.tl];exact t1
 have tz:(aK (T:=vn) s'.2.2.2 t).2.2.1.length=(aK (T:=vn) s'.2.2.2 t).2.1.length:=by have:=htf.r;have:=htf.t;omega
 refine aS t0 t4 (aR ?_);refine aJ (λ_=>ar λ_=>⟨key _ rfl (j7 _) (j7 _) (.inl rfl),⟨htg,λ_=>rfl,λh=>(h (.inl rfl)).elim,λh=>(by cases h),λh=>(by cases h),trivial,λy Z=>(by cases Z),trivial,λy Z=>(by cases Z),λh=>(by cases h)⟩⟩) λ_=>?_
 refine aJ (λJ=>aS t0 t4 (aR (ar λ_=>⟨key _ rfl (j7 _) (j7 _) (.inr (.inl rfl)),⟨htg,λh=>(by rcases h with h|h<;>cases h),λ_=>hvj.si (by rw[htg.wi (.inr J)];decide),λh=>(by cases h),λh=>(by cases h),trivial,λy Z=>(by cases Z),trivial,λy Z=>(by cases Z),λh=>(by cases h)⟩⟩))) λ_=>?_
 refine aJ (λ_=>?_) λ_=>ar λh=>(by cases h)
 refine ax (ago _) λk I=>?_
 refine ax (RQ _ _ hir) λo ho=>?_
 refine aJ (λ_=>ar λh=>(by cases h)) λM=>?_
 have fin:∀e:ET,e.1=t->e.2.1=k->e.2.2.1=o->e.2.2.2.2.1=(aK (T:=B') (aK (T:=wI) c'.2 t).2 (aK (T:=vn) s'.2.2.2 t).1).2.2.2.2.2->(0<e.2.2.2.2.2.1.length->(aK (T:=B') (aK (T:=wI) c'.2 t).2 (aK (T:=vn) s'.2.2.2 t).1).1=10\/(aK (T:=B') (aK (T:=wI) c'.2 t).2 (aK (T:=vn) s'.2.2.2 t).1).1=7\/(aK (T:=B') (aK (T:=wI) c'.2 t).2 (aK (T:=vn) s'.2.2.2 t).1).1=9)->(0<e.2.2.2.2.2.2.length->(aK (T:=B') (aK (T:=wI) c'.2 t).2 (aK (T:=vn) s'.2.2.2 t).1).1=8\/(aK (T:=B') (aK (T:=wI) c'.2 t).2 (aK (T:=vn) s'.2.2.2 t).1).1=9\/(aK (T:=B') (aK (T:=wI) c'.2 t).2 (aK (T:=vn) s'.2.2.2 t).1).1=26)->TL (FQ L t) n e.2.2.2.2.2.1->TL (FQ L t) n e.2.2.2.2.2.2->PE n c' s' t e/\PS c' L s' t e:=by
  intro e h1 h2 h3 J h5 h6 h7 h8;refine ⟨key e h1 h7.len h8.len (.inr (.inr (h2▸I))),htg,λh=>?_,λh=>?_,λh=>?_,λh=>?_,h7.a,h7.f,h8.a,h8.f,λh=>I.wt (h2▸h)⟩
  .rw[J];rw[h2]at h;exact hvj.se (I.e1 (h.resolve_left I.n1))
  .rw[J];rw[h2]at h;exact hvj.si λh9=>h (.inr (I.e2 M h9))
  .rw[h2,h3];rcases h5 h with g|g|g
   .exact .inl (I.d10 M g)
   .obtain⟨q1,q2⟩:=ajq hC0 (hvj.a7 g);exact .inr ⟨.inl (I.d7 M g),aj1 hC0 (ho.1 g q1 q2)⟩
   .obtain⟨q1,q2⟩:=ajq hC0 (hvj.a9 g);exact .inr ⟨.inr (I.d9 M g),aj1 hC0 (ho.2 g q1 q2)⟩
  .rw[h2];rcases h6 h with g|g|g
   .exact .inl (I.d8 M g)
   .exact .inl (I.d9 M g)
   .exact .inr (I.d26 M g)
 clear key htg hvj ho hC0 hrg;revert fin htf hvt hth hir tz I;dsimp only;generalize (aK (T:=vn) s'.2.2.2 t)=th;generalize (aK (T:=B') _ th.1)=i;intro htf hvt hth hir tz I fin;have hlen:∀{j:Int},0<=j->j<(th.2.2.1.length:Int)->TL (FQ L t) n (aK (T:=.sl (.int .i64)) th.2.2.1 j):=λh0 h1=>hth.l _ (bL (T:=.sl (.int .i64)) (xs:=th.2.2.1) h0 h1)
 have hA:i.1=10->0<=i.2.1/\i.2.1<(th.2.2.1.length:Int):=λh=>by
  rw[tz];exact hir _ (aj9 (.inr (.inr (.inr h))))
 have hB:i.1=8\/i.1=9\/i.1=26->0<=i.2.2.1/\i.2.2.1<(th.2.2.1.length:Int):=λh=>by
  rw[tz];exact hir _ (aj8 (h))
 have hC:i.1=7\/i.1=9->0<=i.2.2.2.1/\i.2.2.2.1<(th.2.2.1.length:Int):=λh=>by
  rw[tz];exact hir _ (anx (h))
 refine aY (λx=>x.2.1=th/\x.2.2.1=i/\(x.2.2.2.1.1=t/\x.2.2.2.1.2.1=k/\x.2.2.2.1.2.2.1=o/\x.2.2.2.1.2.2.2.2=i.2.2.2.2.2)/\TL (FQ L t) n x.2.2.2.2/\(0<x.2.2.2.2.length->i.1=10\/i.1=7\/i.1=9)) ?_ ?_
 .refine aJ (λh=>?_) λ_=>?_
  .obtain⟨a0,a1⟩:=hA h;refine aS a0 a1 (aR ?_);have:=hlen a0 a1;exact bg (du this.len (by omega)) (by omega) (ar ⟨rfl,rfl,⟨rfl,rfl,rfl,rfl⟩,this,λ_=>.inl h⟩)
  refine aY (λx=>x.2.2.1=th/\x.2.2.2.1=i/\(x.2.2.2.2.1=t/\x.2.2.2.2.2.1=k/\x.2.2.2.2.2.2.1=o/\x.2.2.2.2.2.2.2.2=i.2.2.2.2.2)/\(x.1=ai->i.1=7\/i.1=9)) ?_ ?_
  .refine aJ (λh=>ar ⟨rfl,rfl,⟨rfl,rfl,rfl,rfl⟩,λ_=>.inl h⟩) λ_=>ar ⟨rfl,rfl,⟨rfl,rfl,rfl,rfl⟩,λh=>.inr (bi h)⟩
  rintro⟨b,z0,th',Y,t',k',z1⟩ ⟨e1,e2,e3,U⟩;dsimp only at e1 e2 e3 U;subst e1;subst e2;refine aO (λh=>?_) λ_=>ar ⟨rfl,rfl,e3,TL.nil n,λh=>(by cases h)⟩
  obtain⟨a0,a1⟩:=hC (U h);refine aS a0 a1 (aR ?_);have:=hlen a0 a1;exact bg (du this.len (by omega)) (by omega) (ar ⟨rfl,rfl,e3,this,λ_=>.inr (U h)⟩)
 rintro⟨z0,th',Y,⟨t',k',z1⟩,ds⟩ ⟨e1,e2,e3,hd,hd2⟩;dsimp only at e1 e2 e3 hd hd2;subst e1;subst e2;refine aY (λx=>(x.2.1.1=t/\x.2.1.2.1=k/\x.2.1.2.2.1=o/\x.2.1.2.2.2.2=Y.2.2.2.2.2)/\x.2.2.1=ds/\TL (FQ L t) n x.2.2.2/\(0<x.2.2.2.length->Y.1=8\/Y.1=9\/Y.1=26)) ?_ ?_
 .refine aY (λx=>x.2=(z0,th',Y,(t',k',z1),ds)/\(x.1=ai->Y.1=8\/Y.1=9\/Y.1=26)) ?_ ?_
  .exact aJ (λh=>ar ⟨rfl,λ_=>.inl h⟩) λ_=>aJ (λh=>ar ⟨rfl,λ_=>.inr (.inl h)⟩) λ_=>ar ⟨rfl,λh=>.inr (.inr (bi h))⟩
  rintro⟨b,x⟩ ⟨e,U⟩;dsimp only at e U;subst e;refine aO (λh=>?_) λ_=>ar ⟨e3,rfl,TL.nil n,λh=>(by cases h)⟩
  obtain⟨a0,a1⟩:=hB (U h);refine aS a0 a1 (aR ?_);have:=hlen a0 a1;exact bg (du this.len (by omega)) (by omega) (ar ⟨e3,rfl,this,λ_=>U h⟩)
 rintro⟨z2,⟨t2,k2,o2,z3,si⟩,d2,f2⟩ ⟨e1,e2,h1,h2⟩;dsimp only at e1 e2 h1 h2;subst e2;obtain⟨g1,g2,g3,g4⟩:=e1;exact ar λ_=>fin _ g1 g2 g3 g4 hd2 h2 hd h1
theorem akf {n:Nat} {k:Int} (h0:0<=k) (h1:k<n):(aK (T:=jJ) (Y2 n) k).1=0\/(aK (T:=jJ) (Y2 n) k).1=1:=by
 have hm:=bL (T:=jJ) (xs:=Y2 n) h0 (by rw[Ir];exact h1);revert hm;generalize aK (T:=jJ) (Y2 n) k=z;intro hm;cases n with
 |zero=>cases hm
 |succ n=>
  rcases bp.1 hm with rfl|hm
  .exact .inr rfl
  .rw[qb hm];exact .inl rfl
theorem Xq (c:CT) (hvt:jM c=af ai) (hv:VC c):Ok (uI c) λs=>SV 0 [] s/\Mc c [] s:=by
 unfold uI aX bf bu ch bK dx cN fg bA vp bE bD aZ cK aF cH;refine aU hvt (dW (λh=>(by cases h)) λ_=>?_);obtain⟨vc,vl,vd,Z,_,Y,_⟩:=id hv.vl;have htl:=hv.tl;refine aU (LL c.1 hv.vl) ?_;refine b8 c.1.1.length (λi x=>x.1=(i:Int)/\x.2.1=c/\x.2.2.2.1=Q9 c.1/\x.2.2.2.2=(c.1.1.take i).map λc=>c.2.2.2.2) ?_ ?_ ⟨rfl,rfl,rfl,rfl⟩
 .rintro i ⟨a,c',z,U,l⟩ hi ⟨e1,e2,e3,I⟩;dsimp only at e1 e2 e3 I;subst e1;subst e2;subst e3;subst I;refine di ?_;refine bZ (aR (bg (by simp;omega) (by omega) (ar ?_)));dsimp only;exact⟨gE (by omega),rfl,rfl,by rw[mX (T:=Q6) hi,cE];rfl⟩
 rintro⟨a,c',z,U,l⟩ ⟨e1,e2,e3,I⟩;dsimp only at e1 e2 e3 I;subst e1;subst e2;subst e3;rw[cW]at I;subst I;refine dj ?_;refine ax (P:=λs=>SV 0 [] s/\Mc c' [] s) ?_ λr hr=>ar hr
 refine b8 c'.1.2.2.2.1.length (λi x=>x.1=(i:Int)/\x.2.1=c'/\x.2.2.2.1=Q9 c'.1/\x.2.2.2.2.1=ce0 c'.1/\x.2.2.2.2.2=aG i 0) ?_ ?_ ⟨rfl,rfl,rfl,rfl,rfl⟩
 .rintro i ⟨a,c,z,y,l,f⟩ hi ⟨e1,e2,e3,I,J⟩;dsimp only at e1 e2 e3 I J;subst e1;subst e2;subst e3;subst J;refine di ?_;refine bg (by simp;omega) (by omega) (ar ?_);dsimp only;exact⟨gE (by omega),rfl,rfl,I,by rw[vk]⟩
 rintro⟨a,c,z,y,l,f⟩ ⟨e1,e2,e3,I,J⟩;dsimp only at e1 e2 e3 I J;subst e1;subst e2;subst e3;subst I;subst J;refine dj ?_;refine ax (P:=λs=>SV 0 [] s/\Mc c [] s) ?_ λr hr=>ar hr
 refine b8 c.2.length (λi x=>x.1=(i:Int)/\x.2.1=c/\x.2.2.2.1=Q9 c.1/\x.2.2.2.2.1=ce0 c.1/\x.2.2.2.2.2.1=fu0 c.1/\x.2.2.2.2.2.2.length=i/\∀t∈x.2.2.2.2.2.2,(∀F,TH F 0 t)/\t.2.2.2=0) ?_ ?_ ⟨rfl,rfl,rfl,rfl,rfl,rfl,λt ht=>(by cases ht)⟩
 .rintro i ⟨a,c,z,y,l,f,th⟩ hi ⟨e1,e2,e3,I,e4b,J,M⟩;dsimp only at e1 e2 e3 I e4b J M;subst e1;subst e2;subst e3;refine di ?_;have hin:((i:Nat):Int)<(c.2.length:Int):=by omega
  have hvt:=hv.t _ (bL (T:=wI) (xs:=c.2) (j:=(i:Int)) (by omega) hin);have q0:=hvt.r0;have q1:=hvt.r1;refine aS (by dsimp only;omega) hin (aR ?_);refine dc (dc (dN q0 (dN (eE _) (bg (by dsimp only;omega) (by omega) ?_))));refine aS (by dsimp only;omega) hin (aR ?_);refine dc (dc (dN q0 (dN (eE _) (bg (by dsimp only;omega) (by omega) ?_))));refine bg (by simp;omega) (by omega) (ar ?_);dsimp only;refine ⟨gE (by omega),rfl,rfl,I,e4b,by simp;omega,λt ht=>?_⟩;rcases bY.1 ht with h|h
  .exact M t h
  .rw[aL]at h;subst h;refine ⟨λF=>⟨?_,?_,λl hl=>?_,eE _,eE _⟩,rfl⟩
   .dsimp only;rw[eV];omega
   .dsimp only;rw[eV];omega
   .rw[qb hl];exact TL.nil 0
 .rintro⟨a,c,z,y,l,f,th⟩ ⟨e1,e2,e3,I,e4b,J,M⟩;dsimp only at e1 e2 e3 I e4b J M;subst e1;subst e2;subst e3;subst I;subst e4b;refine dj (ar ?_);have hm:∀k:Nat,k<th.length->_:=λk hk=>M _ (bL (T:=vn) (xs:=th) (j:=(k:Int)) (by omega) (by omega))
  refine ⟨⟨Ve hv.vl,rfl,λk hk=>(hm k hk).1 _⟩,⟨.nil,λk hk=>.inr ?_⟩⟩;dsimp only at hk;have hst:=akf (n:=c.1.2.2.2.2.1.length) (k:=(k:Int)) (by omega) (by omega);exact⟨(hm k hk).2,λh=>(by rcases hst with q|q<;>rcases h with h|h<;>exact cX (q.symm.trans h) (by decide)),λ_=>hst⟩
theorem I5 {th:List (Int×Int×Bool)} {t x j:Int} (h0:0<=t) (h1:t<th.length) (hj:0<=j):(aK (T:=jJ) (yJ th t x) j).1=if j=t then x else (aK (T:=jJ) th j).1:=by
 unfold yJ;rw[sg (T:=jJ) _ _ _ _ h0 h1 hj];split<;>rfl
theorem ajj {th:List (Int×Int×Bool)} {t x j:Int} (h0:0<=t) (h1:t<th.length) (hj:0<=j):(aK (T:=jJ) (cdP th t x) j).1=(aK (T:=jJ) th j).1:=by
 unfold cdP;rw[sg (T:=jJ) _ _ _ _ h0 h1 hj];split
 .rename_i h;rw[h]
 .rfl
theorem ajp {th:List (Int×Int×Bool)} {t j:Int} {x:Bool} (h0:0<=t) (h1:t<th.length) (hj:0<=j):(aK (T:=jJ) (atP th t x) j).1=(aK (T:=jJ) th j).1:=by
 unfold atP;rw[sg (T:=jJ) _ _ _ _ h0 h1 hj];split
 .rename_i h;rw[h]
 .rfl
theorem ajc {j:Int} (hj:0<=j):∀(l:η) (th:List (Int×Int×Bool)),(∀u:Int,u∈l->0<=u/\u<th.length)->(aK (T:=jJ) (Dn th l) j).1=if j∈l then 4 else (aK (T:=jJ) th j).1
 |[],th,_=>by simp[Dn]
 |x::r,th,h=>by
  have I:=h x (dw ..);have J:=ajc hj r (yJ th x 4) λu hu=>by unfold yJ;rw[bW];exact h u (cM _ hu)
  have e:Dn th (x::r)=Dn (yJ th x 4) r:=rfl;rw[e,J,I5 I.1 I.2 hj];by_cases h1:j∈r
  .rw[aD h1,aD (cM _ h1)]
  .rw[aA h1];by_cases h2:j=x
   .rw[aD h2,aD (by rw[h2];exact dw ..)]
   .rw[aA h2,aA λh=>(bp.1 h).elim h2 h1]
theorem IL {l:η} (u:Int) (hl:¬l.length=0):BZ l u∈l:=by
 unfold BZ;rw[aA hl];split
 .rename_i h;exact tL.1 h
 .exact bL (T:=.int .i64) (by omega) (by omega)
theorem Un {w:WT} {s:SY} {t k o u v:Int} {sy:SY} (h:(sy,v)=rG w s t k o u):rG w s t k o v=(sy,v):=by
 by_cases hk:k=18
 .subst hk;rw[F8]at h ⊢;by_cases hl:(wl s.2.2.2 o s.2.2.2.length).length=0
  .rw[aD hl]at h ⊢;exact h.symm
  .rw[aA hl]at h ⊢;have hm:=IL u hl;generalize wl s.2.2.2 o s.2.2.2.length=l at h hl hm ⊢;obtain⟨rfl,rfl⟩:=Prod.mk.inj h;have:BZ l (BZ l u)=BZ l u:=by
    rw[BZ,aA hl,aD (tL.2 hm)]
   rw[this]
 .rw[YP _ _ _ _ _ _ u hk,<-h]
theorem alc {w:WT} {s:SY} {t k o:Int} (u:Int) (he:EN w s t k o) (hr:Xs w s t k o) {j:Int} (h0:0<=j):(¬j=t->(aK (T:=jJ) (rG w s t k o u).1.2.2.2 j).1=(aK (T:=jJ) s.2.2.2 j).1\/((aK (T:=jJ) s.2.2.2 j).1=3/\(aK (T:=jJ) (rG w s t k o u).1.2.2.2 j).1=4)\/((aK (T:=jJ) s.2.2.2 j).1=0/\(aK (T:=jJ) (rG w s t k o u).1.2.2.2 j).1=1))/\(j=t->¬k=16->¬(aK (T:=jJ) (rG w s t k o u).1.2.2.2 j).1=3/\¬(aK (T:=jJ) (rG w s t k o u).1.2.2.2 j).1=4):=by
 have t0:=he.t0;have t1:t<s.2.2.2.length:=by have:=he.t1;have:=he.e3;omega
 have M:=hr.r;have hml:∀u:Int,u∈wl s.2.2.2 o s.2.2.2.length->0<=u/\u<s.2.2.2.length:=λu hu=>⟨(rK.1 hu).1,(rK.1 hu).2.1⟩
 have h3:∀u:Int,u∈wl s.2.2.2 o s.2.2.2.length->(aK (T:=jJ) s.2.2.2 u).1=3:=λu hu=>by
  have:=(rK.1 hu).2.2;unfold IX at this;rw[av]at this;exact bi this.1
 have same:¬k=1->¬k=17->∀th:List (Int×Int×Bool),(aK (T:=jJ) th j).1=(aK (T:=jJ) s.2.2.2 j).1->(¬j=t->(aK (T:=jJ) th j).1=(aK (T:=jJ) s.2.2.2 j).1\/((aK (T:=jJ) s.2.2.2 j).1=3/\(aK (T:=jJ) th j).1=4)\/((aK (T:=jJ) s.2.2.2 j).1=0/\(aK (T:=jJ) th j).1=1))/\(j=t->¬k=16->¬(aK (T:=jJ) th j).1=3/\¬(aK (T:=jJ) th j).1=4):=λa b th h=>⟨λ_=>.inl h,λh2 _=>by rw[h,h2,M a b];decide⟩
 have st:∀x:Int,¬x=3\/k=16->¬x=4->∀th:List (Int×Int×Bool),(aK (T:=jJ) th j).1=(if j=t then x else (aK (T:=jJ) s.2.2.2 j).1)->(¬j=t->(aK (T:=jJ) th j).1=(aK (T:=jJ) s.2.2.2 j).1\/((aK (T:=jJ) s.2.2.2 j).1=3/\(aK (T:=jJ) th j).1=4)\/((aK (T:=jJ) s.2.2.2 j).1=0/\(aK (T:=jJ) th j).1=1))/\(j=t->¬k=16->¬(aK (T:=jJ) th j).1=3/\¬(aK (T:=jJ) th j).1=4):=λx hx hx4 th h=>⟨λhn=>.inl (by rw[h,aA hn]),λh2 h16=>by rw[h,aD h2];exact⟨hx.resolve_right h16,hx4⟩⟩
 have U:∀x:Int,t<(yJ s.2.2.2 t x).length:=λx=>by unfold yJ;rw[bW];exact t1
 by_cases k1:k=1
 .subst k1;exact st 2 (.inl (by decide)) (by decide) _ (I5 t0 t1 h0)
 by_cases k2:k=2
 .subst k2;exact st 5 (.inl (by decide)) (by decide) _ (I5 t0 t1 h0)
 by_cases k16:k=16
 .subst k16;exact st 3 (.inr rfl) (by decide) _ ((ajj t0 (U _) h0).trans (I5 t0 t1 h0))
 by_cases I:k=17
 .subst I;exact st 2 (.inl (by decide)) (by decide) _ ((ajj t0 (U _) h0).trans (I5 t0 t1 h0))
 by_cases k14:k=14
 .subst k14;exact same k1 I _ (ajp t0 t1 h0)
 by_cases k15:k=15
 .subst k15;exact same k1 I _ (ajp t0 t1 h0)
 by_cases k18:k=18
 .subst k18;rw[F8];by_cases hl:(wl s.2.2.2 o s.2.2.2.length).length=0
  .rw[aD hl];exact same k1 I _ rfl
  .rw[aA hl];have hc:=IL u hl;have Y:=hml _ hc;have J:=h3 _ hc;dsimp only;rw[I5 Y.1 Y.2 h0];generalize BZ (wl s.2.2.2 o s.2.2.2.length) u=c at J;by_cases hj:j=c
   .rw[aD hj,hj];exact⟨λ_=>.inr (.inl ⟨J,rfl⟩),λh _=>by rw[h,M k1 I]at J;exact cX J (by decide)⟩
   .rw[aA hj];exact⟨λ_=>.inl rfl,λh _=>by rw[h,M k1 I];decide⟩
 by_cases k19:k=19
 .subst k19;show (_->(aK (T:=jJ) (Dn _ _) j).1=_\/_/\(aK (T:=jJ) (Dn _ _) j).1=_\/_/\(aK (T:=jJ) (Dn _ _) j).1=_)/\(_->_->¬(aK (T:=jJ) (Dn _ _) j).1=_/\¬(aK (T:=jJ) (Dn _ _) j).1=_)
  rw[ajc h0 _ _ hml];by_cases hj:j∈wl s.2.2.2 o s.2.2.2.length
  .rw[aD hj];have J:=h3 _ hj;exact⟨λ_=>.inr (.inl ⟨J,rfl⟩),λh _=>by rw[h,M k1 I]at J;exact cX J (by decide)⟩
  .rw[aA hj];exact⟨λ_=>.inl rfl,λh _=>by rw[h,M k1 I];decide⟩
 by_cases k20:k=20
 .subst k20;obtain⟨o0,o1⟩:=he.nm.th (.inl rfl);obtain⟨hot,ho0⟩:=hr.sp rfl;have Z:o<s.2.2.2.length:=by rw[he.e3];exact o1
  show (_->(aK (T:=jJ) (yJ _ _ _) j).1=_\/_/\(aK (T:=jJ) (yJ _ _ _) j).1=_\/_/\(aK (T:=jJ) (yJ _ _ _) j).1=_)/\(_->_->¬(aK (T:=jJ) (yJ _ _ _) j).1=_/\¬(aK (T:=jJ) (yJ _ _ _) j).1=_)
  rw[I5 o0 Z h0];by_cases hj:j=o
  .rw[aD hj,hj];exact⟨λ_=>.inr (.inr ⟨ho0,rfl⟩),λh _=>(hot h).elim⟩
  .rw[aA hj];exact⟨λ_=>.inl rfl,λh _=>by rw[h,M k1 I];decide⟩
 refine same k1 I _ ?_;unfold rG;rw[aA k1,aA k2];repeat' split
 all_goals first|rfl|omega
theorem ah6 {e e':ET} (h1:e'.1=e.1) (h2:e'.2.1=e.2.1) (t:Int):fl [e'] t=fl [e] t:=by
 by_cases h:e.1=t
 .rw[Ab h,Ab (h1.trans h)];unfold tZ;rw[h2]
 .rw[xg h,xg (λg=>h (h1.symm.trans g))]
theorem air {L:List ET} {e e':ET} (h1:e'.1=e.1) (h2:e'.2.1=e.2.1) {k y:Int} (h:FQ (L++[e]) k y):FQ (L++[e']) k y:=by
 unfold FQ LW at h ⊢;rw[uY,ah6 h1 h2,<-uY];exact h
theorem J8 {T:Ty} (xs:List T.den) (i k:Nat) (x:T.den) (hi:i<xs.length):aK (xs.set i x) (k:Int)=if k=i then x else aK xs (k:Int):=by
 refine (sg xs (i:Int) (k:Int) x (by omega) (by omega) (by omega)).trans ?_;by_cases h:k=i
 .rw[aD h,aD (by omega)]
 .rw[aA h,aA (by omega)]
def SQ (n:Nat) (c:CT) (L:List ET) (y:ST×ET×Bool):Prop:=y.2.2=ai->SV (n+1) (L++[y.2.1]) y.1/\Mc c (L++[y.2.1]) y.1/\EvF c.1 y.2.1/\EvS y.2.1
theorem ai8 {n:Nat} (hn:n+1<=100000) {c:CT} {L:List ET} {s:ST} {i:Nat} {kd o v0 si:Int} {ds fs:η} {sy:SY} (hs:SV n L s) (hI:Mc c L s) (hp:PE n c s (i:Int) ((i:Int),kd,o,v0,si,ds,fs)) (hm:PS c L s (i:Int) ((i:Int),kd,o,v0,si,ds,fs)) (he:EN c.1 s.1 (i:Int) kd o) (hr:Xs c.1 s.1 (i:Int) kd o) (ha:AP n s.1 sy) (I:Int) (ce fu:η) (t':TT) (hap:(rG c.1 s.1 (i:Int) kd o I).1=sy) (hva:VA c.1 s.1 s.2.1 s.2.2.1 (i:Int) kd o I) (hce:ce=ceP s.2.1 ((i:Int),kd,o,I,si,ds,fs)) (hfu:fu=fuP s.2.2.1 ((i:Int),kd,o,I,si,ds,fs)) (ht:TH (FQ (L++[((i:Int),kd,o,v0,si,ds,fs)]) (i:Int)) (n+1) t') (hg:t'.2.1.length=0\/t'.2.2.2=bk .i64 ((aK (T:=vn) s.2.2.2 (i:Int)).2.2.2+1)/\(kd=16->t'.1=(aK (T:=vn) s.2.2.2 (i:Int)).1)):SQ n c L ((sy,ce,fu,s.2.2.2.set i t'),((i:Int),kd,o,I,si,ds,fs),ai):=by
 intro _;have q1:=hp.t1;have q2:=hp.fs.th;have q3:=hp.fs.e3;have q4:=hp.fs.vc.tl;have hil:i<s.2.2.2.length:=by omega
 have hln:=hs.ln;refine ⟨⟨ha.toSB hs.sb hn,by simp[hln],λk hk=>?_⟩,⟨?_,λk hk=>?_⟩,⟨he.nm,he.t0,he.t1,he.cd⟩,⟨du hp.d (by omega),du hp.f (by omega)⟩⟩
 .dsimp only at hk ⊢;rw[tu]at hk;rw[J8 (T:=vn) _ _ _ _ hil];split
  .rename_i h;subst h;exact ht.mono (bV _) λy J=>air (e:=((k:Int),kd,o,v0,si,ds,fs)) (e':=((k:Int),kd,o,I,si,ds,fs)) rfl rfl J
  .exact (hs.t k hk).mono (by omega) λy J=>⟨J.1,J.2.app _⟩
 .rw[<- hap,hce,hfu];exact hI.ac.snoc (e:=((i:Int),kd,o,I,si,ds,fs)) ⟨he,hr,hm.s1,hm.s2,hm.de,hm.fr,⟨hm.da,λx U=>⟨(hm.dq x U).1,(hm.dq x U).2.lt⟩⟩,⟨hm.fa,λx U=>⟨(hm.fq x U).1,(hm.fq x U).2.lt⟩⟩,λy J=>(hm.dq y J).2,λy J=>(hm.fq y J).2,hva⟩
 .dsimp only at hk ⊢;rw[tu]at hk;rw[J8 (T:=vn) _ _ _ _ hil];obtain⟨I6,st2⟩:=alc I he hr (j:=(k:Int)) (by omega);rw[hap]at I6 st2;have hfl:=Yk L (i:Int);split
  .rename_i h;subst h;rcases hg with hg|⟨g1,g2⟩
   .exact .inl hg
   .refine .inr ⟨?_,λZ=>?_,λM=>?_⟩
    .rw[g1,hm.tg.ev,uY,Ab rfl,gE (by omega)];simp
    .have Y:kd=16:=wh λh=>Z.elim (st2 rfl h).1 (st2 rfl h).2
     rw[g2 Y];exact hm.wt Y
    .rw[uY,Ab rfl]at M;simp at M
  .rename_i h;have hki:¬(k:Int)=(i:Int):=by omega
   have hfo:∀e:ET,e.1=(i:Int)->fl (L++[e]) (k:Int)=fl L (k:Int):=λe h=>by
    rw[uY,xg (by rw[h];exact λh=>hki h.symm),fJ]
   have I6:=I6 hki;refine (hI.t k hk).imp id λg=>⟨by rw[hfo _ rfl];exact g.ev,λZ=>g.wi (by
    rcases I6 with h1|⟨h1,_⟩|⟨_,h1⟩
    .rw[<- h1];exact Z
    .exact .inl h1
    .exact Z.elim (λh=>cX (h1.symm.trans h) (by decide)) λh=>cX (h1.symm.trans h) (by decide)),λM=>?_⟩
   rw[hfo _ rfl]at M;have g2:=g.nw M;rcases I6 with h1|⟨h1,_⟩|⟨_,h1⟩
   .rw[h1];exact g2
   .exact (g2.elim (λh=>cX (h1.symm.trans h) (by decide)) λh=>cX (h1.symm.trans h) (by decide))
   .exact .inr h1
theorem kE {α R:Type} (o:Option α):obind o (λ_=>(ah:Option R))=ah:=by cases o<;>rfl
theorem ph {R:Type} (b:Bool):chk b (λ_=>(ah:Option R))=ah:=by cases b<;>rfl
theorem sF {α R:Type} (x:α):lt x (λ_=>(ah:Option R))=ah:=rfl
def Rd {R:Type} (o:Option R) (Q:R->Prop):Prop:=o=ah\/Ok o Q
theorem Rd.or {R:Type} {a b:Option R} {Q:R->Prop} (I:Rd a Q) (hb:Rd b Q):Rd (orE a b) Q:=by
 rcases I with rfl|⟨y,rfl,h⟩
 .exact hb
 .exact .inr ⟨y,rfl,h⟩
theorem Ok.orL {R:Type} {a b:Option R} {Q:R->Prop} (I:Ok a Q):Ok (orE a b) Q:=by
 obtain⟨y,rfl,h⟩:=I;exact⟨y,rfl,h⟩
theorem Rd.orR {R:Type} {a b:Option R} {Q:R->Prop} (I:Rd a Q) (hb:Ok b Q):Ok (orE a b) Q:=by
 rcases I with rfl|⟨y,rfl,h⟩
 .exact hb
 .exact⟨y,rfl,h⟩
theorem I4 {n:Nat} (hn:n+1<=100000) {c:CT} {L:List ET} {s:ST} {t u:Int} (hc:CB c) (hs:SV n L s) (U:Mc c L s) (G:Option (ST×ET×Bool)->Prop) (Y:∀y,SQ n c L y->G (af y)) (k:ET×Bool->SY×Int×Bool->Option (ST×ET×Bool))
 (hk:∀e v sy,PE n c s t e->PS c L s t e->EN c.1 s.1 t e.2.1 e.2.2.1->Xs c.1 s.1 t e.2.1 e.2.2.1->AP n s.1 sy->(sy,v)=rG c.1 s.1 t e.2.1 e.2.2.1 u->G (k (e,ai) (sy,v,ai))):
 G (obind (og (c,s,t)) λI=>bcase (!I.2) (af ((([],0,[],[]),[],[],[]),(0,0,0,0,0,[],[]),aj)) (obind (pM (c.1,s.1,t,I.1.2.1,I.1.2.2.1,u)) λJ=>bcase (!J.2.2) (af ((([],0,[],[]),[],[],[]),(0,0,0,0,0,[],[]),aj)) (k I J))):=by
 have M:=Y ((([],0,[],[]),[],[],[]),(0,0,0,0,0,[],[]),aj) λh=>(by cases h)
 obtain⟨⟨e,b⟩,h1,h2⟩:=Xt n (by omega) c L s hc hs U t;rw[h1,X6];cases b with
 |false=>exact M
 |true=>
  obtain⟨hp,hm⟩:=h2 rfl;have hcd:c.1.2.2.1.length<=1000:=by have:=hp.fs.vc.vl.d;omega
  obtain⟨⟨sy,v,b⟩,h3,Z,_,_⟩:=UV c.1 s.1 hs.sb hcd t e.2.1 e.2.2.1 u;have e0:∀{R:Type} (a b:Option R),bcase (!ai) a b=b:=λ_ _=>rfl
  rw[e0,h3,X6];cases b with
  |false=>exact M
  |true=>
   obtain⟨g1,g2,g3,g4⟩:=Z rfl;exact hk e v sy hp hm g1 g2 g3 g4
theorem aba {E:Nat} {L:List ET} (sy:SY) (ce fu:η) (a:TT) (h:SV E L (sy,ce,fu,[a])) (hce:ce.length<=1000) (hfu:fu.length<=1000):nF (sy,ce,fu,[a])=af ((sy.2.1,sy.1,sy.2.2.1,sy.2.2.2).1,(sy.2.1,sy.1,sy.2.2.1,sy.2.2.2).2.1,(sy.2.1,sy.1,sy.2.2.1,sy.2.2.2).2.2.1,(sy.2.1,sy.1,sy.2.2.1,sy.2.2.2).2.2.2,(([]:η)++ce),(([]:η)++fu),((a.1,a.2.2.2),a.2.1,a.2.2.1)):=by
 have J:=h.sb.n1;have I:TH (FQ L 0) E a:=h.t 0 (by simp);refine ct ?_;unfold nF aX bK bA bE bD aZ;refine aU (rq sy h.sb) ?_;refine bg (by simp;omega) (by omega) (bg (by simp;omega) (by omega) ?_);refine fO rfl (bh rfl (aR (aU (dl a E J I) ?_)));exact fP rfl (ar rfl)
theorem US (sy:SY) (ce fu:η) (l:List TT) (h0:l.length<=4) (h:l.length≠1):nF (sy,ce,fu,l)=ah:=by
 unfold nF aX bK bA bE bD aZ;rcases l with _|⟨a,_|⟨b,_|⟨c,_|⟨d,_|⟨e,l⟩⟩⟩⟩⟩;all_goals first|(simp at h;done)|(exfalso;simp only[cf]at h0;omega)|simp[gf,kE,ph,sF,bcT,bcF]
theorem ab9 {E:Nat} {L:List ET} (sy:SY) (ce fu:η) (a b:TT) (h:SV E L (sy,ce,fu,[a,b])) (hce:ce.length<=1000) (hfu:fu.length<=1000):nE (sy,ce,fu,[a,b])=af ((sy.2.1,sy.1,sy.2.2.1,sy.2.2.2).1,(sy.2.1,sy.1,sy.2.2.1,sy.2.2.2).2.1,(sy.2.1,sy.1,sy.2.2.1,sy.2.2.2).2.2.1,(sy.2.1,sy.1,sy.2.2.1,sy.2.2.2).2.2.2,(([]:η)++ce),(([]:η)++fu),(((a.1,a.2.2.2),a.2.1,a.2.2.1).1.1,((a.1,a.2.2.2),a.2.1,a.2.2.1).1.2,((b.1,b.2.2.2),b.2.1,b.2.2.1).1.1,((b.1,b.2.2.2),b.2.1,b.2.2.1).2.1,((b.1,b.2.2.2),b.2.1,b.2.2.1).2.2,((b.1,b.2.2.2),b.2.1,b.2.2.1).1.2),((a.1,a.2.2.2),a.2.1,a.2.2.1).2):=by
 have I:=h.sb.n1;have J:TH (FQ L 0) E a:=h.t 0 (by simp);have hb:TH (FQ L 1) E b:=h.t 1 (by simp);refine ct ?_;unfold nE aX bK bA bE bD aZ;refine aU (rq sy h.sb) ?_;refine bg (by simp;omega) (by omega) (bg (by simp;omega) (by omega) ?_);refine fO rfl (bh rfl (aR (aU (dl a E I J) ?_)));refine fO rfl (bh rfl (aR (aU (dl b E I hb) ?_)));exact fP rfl (ar rfl)
theorem UR (sy:SY) (ce fu:η) (l:List TT) (h0:l.length<=4) (h:l.length≠2):nE (sy,ce,fu,l)=ah:=by
 unfold nE aX bK bA bE bD aZ;rcases l with _|⟨a,_|⟨b,_|⟨c,_|⟨d,_|⟨e,l⟩⟩⟩⟩⟩;all_goals first|(simp at h;done)|(exfalso;simp only[cf]at h0;omega)|simp[gf,kE,ph,sF,bcT,bcF]
theorem ab8 {E:Nat} {L:List ET} (sy:SY) (ce fu:η) (a b:TT) (h:SV E L (sy,ce,fu,[a,b])) (hce:ce.length<=1000) (hfu:fu.length<=1000):nD (sy,ce,fu,[a,b])=af ((sy.2.1,sy.1,sy.2.2.1,sy.2.2.2).1,(sy.2.1,sy.1,sy.2.2.1,sy.2.2.2).2.1,(sy.2.1,sy.1,sy.2.2.1,sy.2.2.2).2.2.1,(sy.2.1,sy.1,sy.2.2.1,sy.2.2.2).2.2.2,(([]:η)++ce),(([]:η)++fu),((((a.1,a.2.2.2),a.2.1,a.2.2.1).1.1,((a.1,a.2.2.2),a.2.1,a.2.2.1).2.1,((a.1,a.2.2.2),a.2.1,a.2.2.1).2.2,((a.1,a.2.2.2),a.2.1,a.2.2.1).1.2),((b.1,b.2.2.2),b.2.1,b.2.2.1).1),((b.1,b.2.2.2),b.2.1,b.2.2.1).2):=by
 have I:=h.sb.n1;have J:TH (FQ L 0) E a:=h.t 0 (by simp);have hb:TH (FQ L 1) E b:=h.t 1 (by simp);refine ct ?_;unfold nD aX bK bA bE bD aZ;refine aU (rq sy h.sb) ?_;refine bg (by simp;omega) (by omega) (bg (by simp;omega) (by omega) ?_);refine fO rfl (bh rfl (aR (aU (dl a E I J) ?_)));refine fO rfl (bh rfl (aR (aU (dl b E I hb) ?_)));exact fP rfl (ar rfl)
theorem UQ (sy:SY) (ce fu:η) (l:List TT) (h0:l.length<=4) (h:l.length≠2):nD (sy,ce,fu,l)=ah:=by
 unfold nD aX bK bA bE bD aZ;rcases l with _|⟨a,_|⟨b,_|⟨c,_|⟨d,_|⟨e,l⟩⟩⟩⟩⟩;all_goals first|(simp at h;done)|(exfalso;simp only[cf]at h0;omega)|simp[gf,kE,ph,sF,bcT,bcF]
theorem ab7 {E:Nat} {L:List ET} (sy:SY) (ce fu:η) (a b c:TT) (h:SV E L (sy,ce,fu,[a,b,c])) (hce:ce.length<=1000) (hfu:fu.length<=1000):nC (sy,ce,fu,[a,b,c])=af ((sy.2.1,sy.1,sy.2.2.1,sy.2.2.2).1,(sy.2.1,sy.1,sy.2.2.1,sy.2.2.2).2.1,(sy.2.1,sy.1,sy.2.2.1,sy.2.2.2).2.2.1,(sy.2.1,sy.1,sy.2.2.1,sy.2.2.2).2.2.2,(([]:η)++ce),(([]:η)++fu),(((a.1,a.2.2.2),a.2.1,a.2.2.1).1.1,((a.1,a.2.2.2),a.2.1,a.2.2.1).1.2,(((b.1,b.2.2.2),b.2.1,b.2.2.1).1.1,((b.1,b.2.2.2),b.2.1,b.2.2.1).2.1,((b.1,b.2.2.2),b.2.1,b.2.2.1).2.2,((b.1,b.2.2.2),b.2.1,b.2.2.1).1.2),((c.1,c.2.2.2),c.2.1,c.2.2.1).1.1,((c.1,c.2.2.2),c.2.1,c.2.2.1).2.1,((c.1,c.2.2.2),c.2.1,c.2.2.1).2.2,((c.1,c.2.2.2),c.2.1,c.2.2.1).1.2),((a.1,a.2.2.2),a.2.1,a.2.2.1).2):=by
 have I:=h.sb.n1;have J:TH (FQ L 0) E a:=h.t 0 (by simp);have hb:TH (FQ L 1) E b:=h.t 1 (by simp);have hc:TH (FQ L 2) E c:=h.t 2 (by simp);refine ct ?_;unfold nC aX bK bA bE bD aZ;refine aU (rq sy h.sb) ?_;refine bg (by simp;omega) (by omega) (bg (by simp;omega) (by omega) ?_);refine fO rfl (bh rfl (aR (aU (dl a E I J) ?_)));refine fO rfl (bh rfl (aR (aU (dl b E I hb) ?_)));refine fO rfl (bh rfl (aR (aU (dl c E I hc) ?_)));exact fP rfl (ar rfl)
theorem UP (sy:SY) (ce fu:η) (l:List TT) (h0:l.length<=4) (h:l.length≠3):nC (sy,ce,fu,l)=ah:=by
 unfold nC aX bK bA bE bD aZ;rcases l with _|⟨a,_|⟨b,_|⟨c,_|⟨d,_|⟨e,l⟩⟩⟩⟩⟩;all_goals first|(simp at h;done)|(exfalso;simp only[cf]at h0;omega)|simp[gf,kE,ph,sF,bcT,bcF]
theorem ab6 {E:Nat} {L:List ET} (sy:SY) (ce fu:η) (a b c:TT) (h:SV E L (sy,ce,fu,[a,b,c])) (hce:ce.length<=1000) (hfu:fu.length<=1000):nB (sy,ce,fu,[a,b,c])=af ((sy.2.1,sy.1,sy.2.2.1,sy.2.2.2).1,(sy.2.1,sy.1,sy.2.2.1,sy.2.2.2).2.1,(sy.2.1,sy.1,sy.2.2.1,sy.2.2.2).2.2.1,(sy.2.1,sy.1,sy.2.2.1,sy.2.2.2).2.2.2,(([]:η)++ce),(([]:η)++fu),((((a.1,a.2.2.2),a.2.1,a.2.2.1).1.1,((a.1,a.2.2.2),a.2.1,a.2.2.1).2.1,((a.1,a.2.2.2),a.2.1,a.2.2.1).2.2,((a.1,a.2.2.2),a.2.1,a.2.2.1).1.2),((b.1,b.2.2.2),b.2.1,b.2.2.1).1.1,((b.1,b.2.2.2),b.2.1,b.2.2.1).1.2,((c.1,c.2.2.2),c.2.1,c.2.2.1).1.1,((c.1,c.2.2.2),c.2.1,c.2.2.1).2.1,((c.1,c.2.2.2),c.2.1,c.2.2.1).2.2,((c.1,c.2.2.2),c.2.1,c.2.2.1).1.2),((b.1,b.2.2.2),b.2.1,b.2.2.1).2):=by
 have I:=h.sb.n1;have J:TH (FQ L 0) E a:=h.t 0 (by simp);have hb:TH (FQ L 1) E b:=h.t 1 (by simp);have hc:TH (FQ L 2) E c:=h.t 2 (by simp);refine ct ?_;unfold nB aX bK bA bE bD aZ;refine aU (rq sy h.sb) ?_;refine bg (by simp;omega) (by omega) (bg (by simp;omega) (by omega) ?_);refine fO rfl (bh rfl (aR (aU (dl a E I J) ?_)));refine fO rfl (bh rfl (aR (aU (dl b E I hb) ?_)));refine fO rfl (bh rfl (aR (aU (dl c E I hc) ?_)));exact fP rfl (ar rfl)
theorem UO (sy:SY) (ce fu:η) (l:List TT) (h0:l.length<=4) (h:l.length≠3):nB (sy,ce,fu,l)=ah:=by
 unfold nB aX bK bA bE bD aZ;rcases l with _|⟨a,_|⟨b,_|⟨c,_|⟨d,_|⟨e,l⟩⟩⟩⟩⟩;all_goals first|(simp at h;done)|(exfalso;simp only[cf]at h0;omega)|simp[gf,kE,ph,sF,bcT,bcF]
theorem ab5 {E:Nat} {L:List ET} (sy:SY) (ce fu:η) (a b c:TT) (h:SV E L (sy,ce,fu,[a,b,c])) (hce:ce.length<=1000) (hfu:fu.length<=1000):nA (sy,ce,fu,[a,b,c])=af ((sy.2.1,sy.1,sy.2.2.1,sy.2.2.2).1,(sy.2.1,sy.1,sy.2.2.1,sy.2.2.2).2.1,(sy.2.1,sy.1,sy.2.2.1,sy.2.2.2).2.2.1,(sy.2.1,sy.1,sy.2.2.1,sy.2.2.2).2.2.2,(([]:η)++ce),(([]:η)++fu),((((a.1,a.2.2.2),a.2.1,a.2.2.1).1.1,((a.1,a.2.2.2),a.2.1,a.2.2.1).2.1,((a.1,a.2.2.2),a.2.1,a.2.2.1).2.2,((a.1,a.2.2.2),a.2.1,a.2.2.1).1.2),(((b.1,b.2.2.2),b.2.1,b.2.2.1).1.1,((b.1,b.2.2.2),b.2.1,b.2.2.1).2.1,((b.1,b.2.2.2),b.2.1,b.2.2.1).2.2,((b.1,b.2.2.2),b.2.1,b.2.2.1).1.2),((c.1,c.2.2.2),c.2.1,c.2.2.1).1),((c.1,c.2.2.2),c.2.1,c.2.2.1).2):=by
 have I:=h.sb.n1;have J:TH (FQ L 0) E a:=h.t 0 (by simp);have hb:TH (FQ L 1) E b:=h.t 1 (by simp);have hc:TH (FQ L 2) E c:=h.t 2 (by simp);refine ct ?_;unfold nA aX bK bA bE bD aZ;refine aU (rq sy h.sb) ?_;refine bg (by simp;omega) (by omega) (bg (by simp;omega) (by omega) ?_);refine fO rfl (bh rfl (aR (aU (dl a E I J) ?_)));refine fO rfl (bh rfl (aR (aU (dl b E I hb) ?_)));refine fO rfl (bh rfl (aR (aU (dl c E I hc) ?_)));exact fP rfl (ar rfl)
theorem UN (sy:SY) (ce fu:η) (l:List TT) (h0:l.length<=4) (h:l.length≠3):nA (sy,ce,fu,l)=ah:=by
 unfold nA aX bK bA bE bD aZ;rcases l with _|⟨a,_|⟨b,_|⟨c,_|⟨d,_|⟨e,l⟩⟩⟩⟩⟩;all_goals first|(simp at h;done)|(exfalso;simp only[cf]at h0;omega)|simp[gf,kE,ph,sF,bcT,bcF]
theorem ab4 {E:Nat} {L:List ET} (sy:SY) (ce fu:η) (a b c d:TT) (h:SV E L (sy,ce,fu,[a,b,c,d])) (hce:ce.length<=1000) (hfu:fu.length<=1000):nz (sy,ce,fu,[a,b,c,d])=af ((sy.2.1,sy.1,sy.2.2.1,sy.2.2.2).1,(sy.2.1,sy.1,sy.2.2.1,sy.2.2.2).2.1,(sy.2.1,sy.1,sy.2.2.1,sy.2.2.2).2.2.1,(sy.2.1,sy.1,sy.2.2.1,sy.2.2.2).2.2.2,(([]:η)++ce),(([]:η)++fu),(((a.1,a.2.2.2),a.2.1,a.2.2.1).1.1,((a.1,a.2.2.2),a.2.1,a.2.2.1).1.2,(((b.1,b.2.2.2),b.2.1,b.2.2.1).1.1,((b.1,b.2.2.2),b.2.1,b.2.2.1).2.1,((b.1,b.2.2.2),b.2.1,b.2.2.1).2.2,((b.1,b.2.2.2),b.2.1,b.2.2.1).1.2),(((c.1,c.2.2.2),c.2.1,c.2.2.1).1.1,((c.1,c.2.2.2),c.2.1,c.2.2.1).2.1,((c.1,c.2.2.2),c.2.1,c.2.2.1).2.2,((c.1,c.2.2.2),c.2.1,c.2.2.1).1.2),((d.1,d.2.2.2),d.2.1,d.2.2.1).1.1,((d.1,d.2.2.2),d.2.1,d.2.2.1).2.1,((d.1,d.2.2.2),d.2.1,d.2.2.1).2.2,((d.1,d.2.2.2),d.2.1,d.2.2.1).1.2),((a.1,a.2.2.2),a.2.1,a.2.2.1).2):=by
 have I:=h.sb.n1;have J:TH (FQ L 0) E a:=h.t 0 (by simp);have hb:TH (FQ L 1) E b:=h.t 1 (by simp);have hc:TH (FQ L 2) E c:=h.t 2 (by simp);have hd:TH (FQ L 3) E d:=h.t 3 (by simp);refine ct ?_;unfold nz aX bK bA bE bD aZ;refine aU (rq sy h.sb) ?_;refine bg (by simp;omega) (by omega) (bg (by simp;omega) (by omega) ?_);refine fO rfl (bh rfl (aR (aU (dl a E I J) ?_)));refine fO rfl (bh rfl (aR (aU (dl b E I hb) ?_)));refine fO rfl (bh rfl (aR (aU (dl c E I hc) ?_)));refine fO rfl (bh rfl (aR (aU (dl d E I hd) ?_)));exact fP rfl (ar rfl)
theorem UM (sy:SY) (ce fu:η) (l:List TT) (h0:l.length<=4) (h:l.length≠4):nz (sy,ce,fu,l)=ah:=by
 unfold nz aX bK bA bE bD aZ;rcases l with _|⟨a,_|⟨b,_|⟨c,_|⟨d,_|⟨e,l⟩⟩⟩⟩⟩;all_goals first|(simp at h;done)|(exfalso;simp only[cf]at h0;omega)|simp[gf,kE,ph,sF,bcT,bcF]
theorem ab3 {E:Nat} {L:List ET} (sy:SY) (ce fu:η) (a b c d:TT) (h:SV E L (sy,ce,fu,[a,b,c,d])) (hce:ce.length<=1000) (hfu:fu.length<=1000):ny (sy,ce,fu,[a,b,c,d])=af ((sy.2.1,sy.1,sy.2.2.1,sy.2.2.2).1,(sy.2.1,sy.1,sy.2.2.1,sy.2.2.2).2.1,(sy.2.1,sy.1,sy.2.2.1,sy.2.2.2).2.2.1,(sy.2.1,sy.1,sy.2.2.1,sy.2.2.2).2.2.2,(([]:η)++ce),(([]:η)++fu),((((a.1,a.2.2.2),a.2.1,a.2.2.1).1.1,((a.1,a.2.2.2),a.2.1,a.2.2.1).2.1,((a.1,a.2.2.2),a.2.1,a.2.2.1).2.2,((a.1,a.2.2.2),a.2.1,a.2.2.1).1.2),((b.1,b.2.2.2),b.2.1,b.2.2.1).1.1,((b.1,b.2.2.2),b.2.1,b.2.2.1).1.2,(((c.1,c.2.2.2),c.2.1,c.2.2.1).1.1,((c.1,c.2.2.2),c.2.1,c.2.2.1).2.1,((c.1,c.2.2.2),c.2.1,c.2.2.1).2.2,((c.1,c.2.2.2),c.2.1,c.2.2.1).1.2),((d.1,d.2.2.2),d.2.1,d.2.2.1).1.1,((d.1,d.2.2.2),d.2.1,d.2.2.1).2.1,((d.1,d.2.2.2),d.2.1,d.2.2.1).2.2,((d.1,d.2.2.2),d.2.1,d.2.2.1).1.2),((b.1,b.2.2.2),b.2.1,b.2.2.1).2):=by
 have I:=h.sb.n1;have J:TH (FQ L 0) E a:=h.t 0 (by simp);have hb:TH (FQ L 1) E b:=h.t 1 (by simp);have hc:TH (FQ L 2) E c:=h.t 2 (by simp);have hd:TH (FQ L 3) E d:=h.t 3 (by simp);refine ct ?_;unfold ny aX bK bA bE bD aZ;refine aU (rq sy h.sb) ?_;refine bg (by simp;omega) (by omega) (bg (by simp;omega) (by omega) ?_);refine fO rfl (bh rfl (aR (aU (dl a E I J) ?_)));refine fO rfl (bh rfl (aR (aU (dl b E I hb) ?_)));refine fO rfl (bh rfl (aR (aU (dl c E I hc) ?_)));refine fO rfl (bh rfl (aR (aU (dl d E I hd) ?_)));exact fP rfl (ar rfl)
theorem UL (sy:SY) (ce fu:η) (l:List TT) (h0:l.length<=4) (h:l.length≠4):ny (sy,ce,fu,l)=ah:=by
 unfold ny aX bK bA bE bD aZ;rcases l with _|⟨a,_|⟨b,_|⟨c,_|⟨d,_|⟨e,l⟩⟩⟩⟩⟩;all_goals first|(simp at h;done)|(exfalso;simp only[cf]at h0;omega)|simp[gf,kE,ph,sF,bcT,bcF]
theorem ab2 {E:Nat} {L:List ET} (sy:SY) (ce fu:η) (a b c d:TT) (h:SV E L (sy,ce,fu,[a,b,c,d])) (hce:ce.length<=1000) (hfu:fu.length<=1000):nu (sy,ce,fu,[a,b,c,d])=af ((sy.2.1,sy.1,sy.2.2.1,sy.2.2.2).1,(sy.2.1,sy.1,sy.2.2.1,sy.2.2.2).2.1,(sy.2.1,sy.1,sy.2.2.1,sy.2.2.2).2.2.1,(sy.2.1,sy.1,sy.2.2.1,sy.2.2.2).2.2.2,(([]:η)++ce),(([]:η)++fu),((((a.1,a.2.2.2),a.2.1,a.2.2.1).1.1,((a.1,a.2.2.2),a.2.1,a.2.2.1).2.1,((a.1,a.2.2.2),a.2.1,a.2.2.1).2.2,((a.1,a.2.2.2),a.2.1,a.2.2.1).1.2),(((b.1,b.2.2.2),b.2.1,b.2.2.1).1.1,((b.1,b.2.2.2),b.2.1,b.2.2.1).2.1,((b.1,b.2.2.2),b.2.1,b.2.2.1).2.2,((b.1,b.2.2.2),b.2.1,b.2.2.1).1.2),((c.1,c.2.2.2),c.2.1,c.2.2.1).1.1,((c.1,c.2.2.2),c.2.1,c.2.2.1).1.2,((d.1,d.2.2.2),d.2.1,d.2.2.1).1.1,((d.1,d.2.2.2),d.2.1,d.2.2.1).2.1,((d.1,d.2.2.2),d.2.1,d.2.2.1).2.2,((d.1,d.2.2.2),d.2.1,d.2.2.1).1.2),((c.1,c.2.2.2),c.2.1,c.2.2.1).2):=by
 have I:=h.sb.n1;have J:TH (FQ L 0) E a:=h.t 0 (by simp);have hb:TH (FQ L 1) E b:=h.t 1 (by simp);have hc:TH (FQ L 2) E c:=h.t 2 (by simp);have hd:TH (FQ L 3) E d:=h.t 3 (by simp);refine ct ?_;unfold nu aX bK bA bE bD aZ;refine aU (rq sy h.sb) ?_;refine bg (by simp;omega) (by omega) (bg (by simp;omega) (by omega) ?_);refine fO rfl (bh rfl (aR (aU (dl a E I J) ?_)));refine fO rfl (bh rfl (aR (aU (dl b E I hb) ?_)));refine fO rfl (bh rfl (aR (aU (dl c E I hc) ?_)));refine fO rfl (bh rfl (aR (aU (dl d E I hd) ?_)));exact fP rfl (ar rfl)
theorem UK (sy:SY) (ce fu:η) (l:List TT) (h0:l.length<=4) (h:l.length≠4):nu (sy,ce,fu,l)=ah:=by
 unfold nu aX bK bA bE bD aZ;rcases l with _|⟨a,_|⟨b,_|⟨c,_|⟨d,_|⟨e,l⟩⟩⟩⟩⟩;all_goals first|(simp at h;done)|(exfalso;simp only[cf]at h0;omega)|simp[gf,kE,ph,sF,bcT,bcF]
theorem ab1 {E:Nat} {L:List ET} (sy:SY) (ce fu:η) (a b c d:TT) (h:SV E L (sy,ce,fu,[a,b,c,d])) (hce:ce.length<=1000) (hfu:fu.length<=1000):nl (sy,ce,fu,[a,b,c,d])=af ((sy.2.1,sy.1,sy.2.2.1,sy.2.2.2).1,(sy.2.1,sy.1,sy.2.2.1,sy.2.2.2).2.1,(sy.2.1,sy.1,sy.2.2.1,sy.2.2.2).2.2.1,(sy.2.1,sy.1,sy.2.2.1,sy.2.2.2).2.2.2,(([]:η)++ce),(([]:η)++fu),((((a.1,a.2.2.2),a.2.1,a.2.2.1).1.1,((a.1,a.2.2.2),a.2.1,a.2.2.1).2.1,((a.1,a.2.2.2),a.2.1,a.2.2.1).2.2,((a.1,a.2.2.2),a.2.1,a.2.2.1).1.2),(((b.1,b.2.2.2),b.2.1,b.2.2.1).1.1,((b.1,b.2.2.2),b.2.1,b.2.2.1).2.1,((b.1,b.2.2.2),b.2.1,b.2.2.1).2.2,((b.1,b.2.2.2),b.2.1,b.2.2.1).1.2),(((c.1,c.2.2.2),c.2.1,c.2.2.1).1.1,((c.1,c.2.2.2),c.2.1,c.2.2.1).2.1,((c.1,c.2.2.2),c.2.1,c.2.2.1).2.2,((c.1,c.2.2.2),c.2.1,c.2.2.1).1.2),((d.1,d.2.2.2),d.2.1,d.2.2.1).1),((d.1,d.2.2.2),d.2.1,d.2.2.1).2):=by
 have I:=h.sb.n1;have J:TH (FQ L 0) E a:=h.t 0 (by simp);have hb:TH (FQ L 1) E b:=h.t 1 (by simp);have hc:TH (FQ L 2) E c:=h.t 2 (by simp);have hd:TH (FQ L 3) E d:=h.t 3 (by simp);refine ct ?_;unfold nl aX bK bA bE bD aZ;refine aU (rq sy h.sb) ?_;refine bg (by simp;omega) (by omega) (bg (by simp;omega) (by omega) ?_);refine fO rfl (bh rfl (aR (aU (dl a E I J) ?_)));refine fO rfl (bh rfl (aR (aU (dl b E I hb) ?_)));refine fO rfl (bh rfl (aR (aU (dl c E I hc) ?_)));refine fO rfl (bh rfl (aR (aU (dl d E I hd) ?_)));exact fP rfl (ar rfl)
theorem UJ (sy:SY) (ce fu:η) (l:List TT) (h0:l.length<=4) (h:l.length≠4):nl (sy,ce,fu,l)=ah:=by
 unfold nl aX bK bA bE bD aZ;rcases l with _|⟨a,_|⟨b,_|⟨c,_|⟨d,_|⟨e,l⟩⟩⟩⟩⟩;all_goals first|(simp at h;done)|(exfalso;simp only[cf]at h0;omega)|simp[gf,kE,ph,sF,bcT,bcF]
theorem kdx (k:Int):k=1\/k=16\/k=2\/k=3\/k=23\/k=4\/k=22\/k=5\/((k=1)=False/\(k=16)=False/\(k=2)=False/\(k=3)=False/\(k=23)=False/\(k=4)=False/\(k=22)=False/\(k=5)=False):=by
 by_cases h:k=1\/k=16\/k=2\/k=3\/k=23\/k=4\/k=22\/k=5
 .omega
 .repeat (first|exact⟨eq_false (by omega),eq_false (by omega),eq_false (by omega),eq_false (by omega),eq_false (by omega),eq_false (by omega),eq_false (by omega),eq_false (by omega)⟩|refine Or.inr ?_)
def KR {Z:Type} (n:Nat) (I:CT) (L:List ET) (i:Nat) (u:Int) (l:List TT) (z:Z) (k:Int->(CT×SY×(Γ)×Int×(υ)×ET×(Γ)×η×η×Z×η×List η)->Option (ST×ET×Bool)):Prop:=
 ∀(F:Int->Prop) (p:Int) (sy:SY) (kd o v si:Int) (ds fs ce fu R:η) (T:List η) (ev:Int),
  (kd≠16->kd≠2->Ok (nG (aK (T:=wI) I.2 (i:Int),(p,R,T,bk .i64 (ev+1)))) λy=>TH F (n+1) y.1/\(y.1.2.1.length=0\/y.1.2.2.2=bk .i64 (ev+1)))->
  (kd=16\/kd=2->TH F (n+1) (p,R,T,bk .i64 (ev+1)))->
  (∀t',TH F (n+1) t'->(t'.2.1.length=0\/t'.2.2.2=bk .i64 (ev+1)/\(kd=16->t'.1=p))->SQ n I L ((sy,ce,fu,l.set i t'),((i:Int),kd,o,v,si,ds,fs),ai))->(i:Int)<(I.2.length:Int)->
  ∀J,Ok (k p (I,sy,((i:Int),u),0,(0,0,0,0,0),((i:Int),kd,o,v,si,ds,fs),(J,ev),ce,fu,z,R,T)) (SQ n I L)
theorem B2 {Z:Type} (N i:Nat) {M:SY×η×η×List TT->Option (Int×(List (Int×η))×θ×(List (Int×Int×Bool))×η×η×Z×η×List η)} {pc ev:Z->Int} {k:Int->(CT×SY×(Γ)×Int×(υ)×ET×(Γ)×η×η×Z×η×List η)->Option (ST×ET×Bool)} {n:Nat} (hn:n+1<=100000) (I:CT) (L:List ET) (s:ST) (t u:Int) (hc:CB I) (hs:SV n L s) (hI:Mc I L s)
 (h0:∀sy ce fu (l:List TT),l.length<=4->l.length≠N->M (sy,ce,fu,l)=ah)
 (h1:∀sy ce fu (l:List TT),SV n L (sy,ce,fu,l)->ce.length<=1000->fu.length<=1000->l.length=N->i<N/\∃y,M (sy,ce,fu,l)=af y/\y.2.2.2.2.1=ce/\y.2.2.2.2.2.1=fu/\y.2.2.2.2.2.2.2.1=(aK (T:=vn) l (i:Int)).2.1/\y.2.2.2.2.2.2.2.2=(aK (T:=vn) l (i:Int)).2.2.1/\pc y.2.2.2.2.2.2.1=(aK (T:=vn) l (i:Int)).1/\ev y.2.2.2.2.2.2.1=(aK (T:=vn) l (i:Int)).2.2.2/\KR n I L i u l y.2.2.2.2.2.2.1 k):
 Rd (SG (i:Int) M pc ev k (I,s,t,u)) (SQ n I L)/\(s.2.2.2.length=N->t=(i:Int)->Ok (SG (i:Int) M pc ev k (I,s,t,u)) (SQ n I L)):=by
 by_cases hz:s.2.2.2.length=N/\t=(i:Int)
 .obtain⟨U,rfl⟩:=hz;suffices h:Ok (SG (i:Int) M pc ev k (I,s,(i:Int),u)) (SQ n I L) from ⟨.inr h,λ_ _=>h⟩
  unfold SG xF EM Prod.p12 aX bf bu ch dC ja vC xG Prod.q10 L4 Prod.q13 bK dx kP OO ck bd bD kl aF;refine I4 hn hc hs hI (λo=>Ok o (SQ n I L)) (λy h=>ar h) _ λe v sy hp hm he hr ha hq=>?_
  obtain⟨sy0,ce,fu,l⟩:=s;obtain⟨e1,kd,o,e4,site,ds,fs⟩:=e;have het:=hp.et;dsimp only at U he hr ha hq het;subst het;have vl:=hp.fs.vc.vl;have hce:=hp.fs.ce;have hfu:=hp.fs.fu;dsimp only at hce hfu;obtain⟨hiN,⟨q1,q2,q3,q4,ce',fu',z,R0,T0⟩,hcp,g1,g2,g3,g4,hpc,hve,hk⟩:=h1 sy0 ce fu l hs (by have:=vl.c;omega) (by have:=vl.f;omega) U;dsimp only at g1 g2 g3 g4 hpc hve hk;rw[g1,g2,g3,g4]at hcp;obtain⟨_,_,nmce,_,_,_,nmfu,_,_,_⟩:=id he.nm;have t1:(i:Int)<(I.2.length:Int):=hp.t1;have htf:TF (aK (T:=wI) I.2 (i:Int)) (aK (T:=vn) l (i:Int)):=hp.fs.t i (by omega);have hA:=hp.a;have Y:=hp.b;dsimp only at hA Y;have hvt:=hp.fs.vc.t _ (bL (T:=wI) (xs:=I.2) (j:=(i:Int)) (by omega) t1);have hci:=hc.ins _ (bL (T:=wI) (xs:=I.2) (j:=(i:Int)) (by omega) t1);have hth:TH (FQ L (i:Int)) n (aK (T:=vn) l (i:Int)):=hs.t i (by dsimp only;omega);have done:=ai8 hn hs hI hp hm he hr ha;have htg:=hm.tg;have hrun:=hr.r;dsimp only at done htg;have hgv:kd=3\/kd=23->FQ (L++[((i:Int),kd,o,e4,site,ds,fs)]) (i:Int) (aK (T:=vn) l (i:Int)).2.2.2:=λh3=>by
   have h2:=hrun (by omega) (by omega);have hn0:¬(fl L (i:Int)).length=0:=λh=>(htg.nw h).elim (λg=>cX (h2.symm.trans g) (by decide)) λg=>cX (h2.symm.trans g) (by decide)
   refine ⟨by rw[htg.ev];omega,LW.last (e:=((i:Int),kd,o,e4,site,ds,fs)) ?_ htg.ev⟩;unfold tZ;rcases h3 with h|h
   .rw[aQ h];rfl
   .simp[h]
  have vaA:¬kd=3->¬kd=23->¬kd=5->VA I.1 sy0 ce fu (i:Int) kd o v:=λa b c=>⟨λh=>(a h).elim,λh=>(b h).elim,λh=>(c h).elim,λ_ _ _ _ _=>by rw[Un hq]⟩
  have apA:(rG I.1 sy0 (i:Int) kd o v).1=sy:=by rw[Un hq]
  have apB:¬kd=18->∀v',(rG I.1 sy0 (i:Int) kd o v').1=sy:=λh v'=>by rw[YP _ _ _ _ _ _ u h,<-hq]
  have keep:∀x∈(aK (T:=vn) l (i:Int)).2.2.1,TL (FQ (L++[((i:Int),kd,o,e4,site,ds,fs)]) (i:Int)) (n+1) x:=λx hx=>(hth.l x hx).mono (by omega) λy J=>⟨J.1,J.2.app _⟩
  clear g3 g4 hm hI hrun htg;revert done hgv keep;generalize FQ (L++[((i:Int),kd,o,e4,site,ds,fs)]) (i:Int)=F;generalize aK (T:=vn) l (i:Int)=th at hcp hpc hve htf hA Y hth ⊢;intro done hgv keep;refine aU hcp ?_;dsimp only;rw[hpc,hve];refine fO (aQ rfl) ?_;refine aS (by omega) t1 (aR (aS htf.p0 htf.p1 (aR ?_)));have htz:th.2.2.1.length=th.2.1.length:=by have:=htf.r;have:=htf.t;omega
  have fin:∀(p:Int) (R:η) (T:List η),R.length=th.2.1.length->T.length=th.2.2.1.length->(∀x∈T,TL F (n+1) x)->Ok (nG (aK (T:=wI) I.2 (i:Int),(p,R,T,bk .i64 (th.2.2.2+1)))) λy=>TH F (n+1) y.1/\(y.1.2.1.length=0\/y.1.2.2.2=bk .i64 (th.2.2.2+1)):=λp R T h1 h2 h3=>by
   have a1:=hth.e0;have a2:=hth.e1;have a3:=hth.r;have a4:=hth.t;rw[hP (n:=th.2.2.2+1) (by omega) (by omega)];exact aal (n+1) hn _ hci hvt _ ⟨by dsimp only;omega,by dsimp only;omega,h3,by dsimp only;omega,by dsimp only;omega⟩
  have mark:kd=3\/kd=23->∀j:Int,∀x∈cz th.2.2.1 j [th.2.2.2],TL F (n+1) x:=λh3 j x hx=>by
   rcases C' hx with h|h
   .exact keep x h
   .rw[h];exact⟨⟨λy J=>(by cases J),trivial⟩,λy J=>by rw[aL]at J;have:=hth.e0;have:=hth.e1;rw[J];exact⟨by omega,by omega⟩,λy J=>by rw[aL]at J;rw[J];exact hgv h3⟩
  have nopark:TH F (n+1) (th.1,th.2.1,th.2.2.1,bk .i64 (th.2.2.2+1)):=by
   have a1:=hth.e0;have a2:=hth.e1;rw[hP (n:=th.2.2.2+1) (by omega) (by omega)];exact⟨hth.r,hth.t,keep,by dsimp only;omega,by dsimp only;omega⟩
  clear hp hs hc h0 h1 hcp g1 g2 hr ha hq he;generalize (aK (T:=B') (aK (T:=wI) I.2 (i:Int)).2 th.1)=ins at hA Y ⊢;rcases kdx kd with rfl|rfl|rfl|rfl|rfl|rfl|rfl|rfl|⟨k1,k2,k3,k4,k5,k6,k7,k8⟩
  case inr.inr.inr.inr.inr.inr.inr.inr=>
   simp only[k1,k2,k3,k4,k5,k6,k7,k8,aV,bt,tO];refine hk F _ _ _ _ _ _ _ _ _ _ _ _ _ (λ_ _=>fin _ _ _ rfl rfl keep) (λh=>by rw[k2,k3]at h;exact (h.elim id id).elim) (λt' h g=>?_) t1 _;exact done v ce fu t' apA (vaA (of_eq_false k4) (of_eq_false k5) (of_eq_false k8)) (aA (of_eq_false k6)).symm (aA (of_eq_false k7)).symm h (g.imp id λh=>⟨h.1,λh2=>(of_eq_false k2 h2).elim⟩)
  all_goals simp only[aV,bt,tO]
  .refine hk F _ _ _ _ _ _ _ _ _ _ _ _ _ (λ_ _=>fin _ _ _ rfl rfl keep) (λh=>by omega) (λt' h g=>?_) t1 _;exact done v ce fu t' apA (vaA (by decide) (by decide) (by decide)) rfl rfl h (g.imp id λh=>⟨h.1,λh2=>(by cases h2)⟩)
  .refine hk F _ _ _ _ _ _ _ _ _ _ _ _ _ (λh _=>(h rfl).elim) (λ_=>nopark) (λt' h g=>?_) t1 _;exact done v ce fu t' apA (vaA (by decide) (by decide) (by decide)) rfl rfl h g
  .refine hk F _ _ _ _ _ _ _ _ _ _ _ _ _ (λ_ h=>(h rfl).elim) (λ_=>nopark) (λt' h g=>?_) t1 _;exact done v ce fu t' apA (vaA (by decide) (by decide) (by decide)) rfl rfl h (g.imp id λh=>⟨h.1,λh2=>(by cases h2)⟩)
  .obtain⟨o0,o1⟩:=nmce (.inl rfl);rw[<- hce]at o1;obtain⟨a0,a1⟩:=hA (.inl rfl);have a2:ins.2.1<(th.2.2.1.length:Int):=by rw[htz];exact a1
   refine gF (aS o0 o1 (aS o0 o1 (ar ?_)));simp only[aV,bt,tO];refine gF (aS a0 a1 (aS a0 a1 (aS a0 a2 (aS a0 a2 (ar ?_)))));refine hk F _ _ _ _ _ _ _ _ _ _ _ _ _ (λ_ _=>fin _ _ _ (bW ..) (bW ..) (mark (.inl rfl) _)) (λh=>by omega) (λt' h g=>?_) t1 _;exact done _ ce fu t' (apB (by decide) _) ⟨λ_=>rfl,λh=>(by cases h),λh=>(by cases h),λh=>(h rfl).elim⟩ rfl rfl h (g.imp id λh=>⟨h.1,λh2=>(by cases h2)⟩)
  .obtain⟨o0,o1⟩:=nmfu (.inr rfl);rw[<- hfu]at o1;obtain⟨a0,a1⟩:=hA (.inr (.inl rfl));have a2:ins.2.1<(th.2.2.1.length:Int):=by rw[htz];exact a1
   refine gF (aS o0 o1 (aS o0 o1 (ar ?_)));simp only[aV,bt,tO];refine gF (aS a0 a1 (aS a0 a1 (aS a0 a2 (aS a0 a2 (ar ?_)))));refine hk F _ _ _ _ _ _ _ _ _ _ _ _ _ (λ_ _=>fin _ _ _ (bW ..) (bW ..) (mark (.inr rfl) _)) (λh=>by omega) (λt' h g=>?_) t1 _;exact done _ ce fu t' (apB (by decide) _) ⟨λh=>(by cases h),λ_=>rfl,λh=>(by cases h),λ_ h=>(h rfl).elim⟩ rfl rfl h (g.imp id λh=>⟨h.1,λh2=>(by cases h2)⟩)
  .obtain⟨o0,o1⟩:=nmce (.inr rfl);rw[<- hce]at o1;obtain⟨a0,a1⟩:=Y (.inl rfl);refine gF (aS a0 a1 (aS a0 a1 (aS o0 o1 (aS o0 o1 (ar ?_)))));simp only[aV,bt,tO];refine hk F _ _ _ _ _ _ _ _ _ _ _ _ _ (λ_ _=>fin _ _ _ rfl rfl keep) (λh=>by omega) (λt' h g=>?_) t1 _;exact done _ _ fu t' (apB (by decide) _) ⟨λh=>(by cases h),λh=>(by cases h),λh=>(by cases h),λ_ _ _ h=>(h rfl).elim⟩ rfl rfl h (g.imp id λh=>⟨h.1,λh2=>(by cases h2)⟩)
  .obtain⟨o0,o1⟩:=nmfu (.inl rfl);rw[<- hfu]at o1;obtain⟨a0,a1⟩:=Y (.inr rfl);refine gF (aS a0 a1 (aS a0 a1 (aS o0 o1 (aS o0 o1 (ar ?_)))));simp only[aV,bt,tO];refine hk F _ _ _ _ _ _ _ _ _ _ _ _ _ (λ_ _=>fin _ _ _ rfl rfl keep) (λh=>by omega) (λt' h g=>?_) t1 _;exact done _ ce _ t' (apB (by decide) _) ⟨λh=>(by cases h),λh=>(by cases h),λh=>(by cases h),λ_ _ _ _ h=>(h rfl).elim⟩ rfl rfl h (g.imp id λh=>⟨h.1,λh2=>(by cases h2)⟩)
  .obtain⟨a0,a1⟩:=hA (.inr (.inr rfl));refine gF (aS a0 a1 (aS a0 a1 (aJ (λ_=>ar ?_) λ_=>ar ?_)));all_goals
    simp only[aV,bt,tO];refine hk F _ _ _ _ _ _ _ _ _ _ _ _ _ (λ_ _=>fin _ _ _ rfl rfl keep) (λh=>by omega) (λt' h g=>?_) t1 _;exact done _ ce fu t' (apB (by decide) _) ⟨λh=>(by cases h),λh=>(by cases h),λ_=>(by decide),λ_ _ h=>(h rfl).elim⟩ rfl rfl h (g.imp id λh=>⟨h.1,λh2=>(by cases h2)⟩)
 .refine ⟨?_,λh1 h2=>(hz ⟨h1,h2⟩).elim⟩;unfold SG xF EM Prod.p12 aX bf bu ch dC ja vC xG Prod.q10 L4 Prod.q13 bK dx kP OO ck bd bD kl aF;refine I4 hn hc hs hI (λo=>Rd o (SQ n I L)) (λy h=>.inr (ar h)) _ λe v sy hp _ _ _ _ _=>.inl ?_
  obtain⟨sy0,ce,fu,l⟩:=s;have vl:=hp.fs.vc.vl;by_cases hl:l.length=N
  .have ht:¬t=(i:Int):=λh=>hz ⟨hl,h⟩
   dsimp only;cases M (sy0,ce,fu,l) with
   |none=>rfl
   |some y=>rw[X6,bw ht];rfl
  .show obind (M (sy0,ce,fu,l)) _=ah;rw[h0 sy0 ce fu l (by have h1:l.length=I.2.length:=hp.fs.th;have:=hp.fs.vc.tl;have:=vl.t;omega) hl];rfl
theorem B3 {Z W V:Type} {n:Nat} {U:CT} {L:List ET} {i:Nat} {u:Int} {l:List TT} {z:Z} {t1:Z->η->List η->W} {J:W->V} {I:V->TT->List TT} (Y:∀R T t',I (J (t1 z R T)) t'=l.set i t'):KR n U L i u l z (KG (i:Int) t1 J I):=by
 intro F p sy kd o v si ds fs ce fu R T ev fin park done ht pc;unfold KG xF aX bf bu ch dC ja vC xG Prod.q10 L4 nZ bd iO bD aF cH;dsimp only;have done:∀t',TH F (n+1) t'->(t'.2.1.length=0\/t'.2.2.2=bk .i64 (ev+1)/\(kd=16->t'.1=p))->SQ n U L ((sy,ce,fu,I (J (t1 z R T)) t'),((i:Int),kd,o,v,si,ds,fs),ai):=λt' h g=>by rw[Y];exact done t' h g
 by_cases h1:kd=16
 .subst h1;exact gF (gF (fP rfl (ar (fP rfl (ar (fO (aQ rfl) (ar (done _ (park (.inl rfl)) (.inr ⟨rfl,λ_=>rfl⟩)))))))))
 by_cases h2:kd=2
 .subst h2;exact gF (gF (fO rfl (ar (fP rfl (ar (fO (aQ rfl) (ar (done _ (park (.inr rfl)) (.inr ⟨rfl,λh=>(by cases h)⟩)))))))))
 rw[bw h1,bw h2];exact gF (gF (fO rfl (ar (fO rfl (aS (dX i) ht (aR (ax (fin h1 h2) λy M=>ar (fO (aQ rfl) (ar (done _ M.1 (M.2.imp id λh=>⟨h,λh2=>(h1 h2).elim⟩)))))))))))
theorem aac {n:Nat} (hn:n+1<=100000) (I:CT) (L:List ET) (s:ST) (t u:Int) (hc:CB I) (hs:SV n L s) (J:Mc I L s):Rd (nk (I,s,t,u)) (SQ n I L)/\(s.2.2.2.length=4->t=0->Ok (nk (I,s,t,u)) (SQ n I L)):=by
 refine B2 4 0 hn I L s t u hc hs J UM λsy ce fu l hs hce hfu hl=>⟨by decide,?_⟩
 obtain⟨a,b,c,d,rfl⟩:∃a b c d,l=[a,b,c,d]:=by
  rcases l with _|⟨a,_|⟨b,_|⟨c,_|⟨d,_|⟨e,l⟩⟩⟩⟩⟩;all_goals first|exact⟨_,_,_,_,rfl⟩|(simp at hl;done)|(exfalso;simp only[cf]at hl;omega)
 refine ⟨_,ab4 sy ce fu a b c d hs hce hfu,rfl,rfl,rfl,rfl,rfl,rfl,B3 λR T t'=>rfl⟩
theorem aab {n:Nat} (hn:n+1<=100000) (I:CT) (L:List ET) (s:ST) (t u:Int) (hc:CB I) (hs:SV n L s) (J:Mc I L s):Rd (nj (I,s,t,u)) (SQ n I L)/\(s.2.2.2.length=4->t=1->Ok (nj (I,s,t,u)) (SQ n I L)):=by
 refine B2 4 1 hn I L s t u hc hs J UL λsy ce fu l hs hce hfu hl=>⟨by decide,?_⟩
 obtain⟨a,b,c,d,rfl⟩:∃a b c d,l=[a,b,c,d]:=by
  rcases l with _|⟨a,_|⟨b,_|⟨c,_|⟨d,_|⟨e,l⟩⟩⟩⟩⟩;all_goals first|exact⟨_,_,_,_,rfl⟩|(simp at hl;done)|(exfalso;simp only[cf]at hl;omega)
 refine ⟨_,ab3 sy ce fu a b c d hs hce hfu,rfl,rfl,rfl,rfl,rfl,rfl,B3 λR T t'=>rfl⟩
theorem aaa {n:Nat} (hn:n+1<=100000) (I:CT) (L:List ET) (s:ST) (t u:Int) (hc:CB I) (hs:SV n L s) (J:Mc I L s):Rd (lH (I,s,t,u)) (SQ n I L)/\(s.2.2.2.length=4->t=2->Ok (lH (I,s,t,u)) (SQ n I L)):=by
 refine B2 4 2 hn I L s t u hc hs J UK λsy ce fu l hs hce hfu hl=>⟨by decide,?_⟩
 obtain⟨a,b,c,d,rfl⟩:∃a b c d,l=[a,b,c,d]:=by
  rcases l with _|⟨a,_|⟨b,_|⟨c,_|⟨d,_|⟨e,l⟩⟩⟩⟩⟩;all_goals first|exact⟨_,_,_,_,rfl⟩|(simp at hl;done)|(exfalso;simp only[cf]at hl;omega)
 refine ⟨_,ab2 sy ce fu a b c d hs hce hfu,rfl,rfl,rfl,rfl,rfl,rfl,B3 λR T t'=>rfl⟩
theorem aa9 {n:Nat} (hn:n+1<=100000) (I:CT) (L:List ET) (s:ST) (t u:Int) (hc:CB I) (hs:SV n L s) (J:Mc I L s):Rd (kr (I,s,t,u)) (SQ n I L)/\(s.2.2.2.length=4->t=3->Ok (kr (I,s,t,u)) (SQ n I L)):=by
 refine B2 4 3 hn I L s t u hc hs J UJ λsy ce fu l hs hce hfu hl=>⟨by decide,?_⟩
 obtain⟨a,b,c,d,rfl⟩:∃a b c d,l=[a,b,c,d]:=by
  rcases l with _|⟨a,_|⟨b,_|⟨c,_|⟨d,_|⟨e,l⟩⟩⟩⟩⟩;all_goals first|exact⟨_,_,_,_,rfl⟩|(simp at hl;done)|(exfalso;simp only[cf]at hl;omega)
 refine ⟨_,ab1 sy ce fu a b c d hs hce hfu,rfl,rfl,rfl,rfl,rfl,rfl,B3 λR T t'=>rfl⟩
theorem aaf {n:Nat} (hn:n+1<=100000) (I:CT) (L:List ET) (s:ST) (t u:Int) (hc:CB I) (hs:SV n L s) (J:Mc I L s):Rd (jA (I,s,t,u)) (SQ n I L)/\(s.2.2.2.length=3->t=0->Ok (jA (I,s,t,u)) (SQ n I L)):=by
 refine B2 3 0 hn I L s t u hc hs J UP λsy ce fu l hs hce hfu hl=>⟨by decide,?_⟩
 obtain⟨a,b,c,rfl⟩:∃a b c,l=[a,b,c]:=by
  rcases l with _|⟨a,_|⟨b,_|⟨c,_|⟨d,_|⟨e,l⟩⟩⟩⟩⟩;all_goals first|exact⟨_,_,_,rfl⟩|(simp at hl;done)|(exfalso;simp only[cf]at hl;omega)
 refine ⟨_,ab7 sy ce fu a b c hs hce hfu,rfl,rfl,rfl,rfl,rfl,rfl,B3 λR T t'=>rfl⟩
theorem aae {n:Nat} (hn:n+1<=100000) (I:CT) (L:List ET) (s:ST) (t u:Int) (hc:CB I) (hs:SV n L s) (J:Mc I L s):Rd (iP (I,s,t,u)) (SQ n I L)/\(s.2.2.2.length=3->t=1->Ok (iP (I,s,t,u)) (SQ n I L)):=by
 refine B2 3 1 hn I L s t u hc hs J UO λsy ce fu l hs hce hfu hl=>⟨by decide,?_⟩
 obtain⟨a,b,c,rfl⟩:∃a b c,l=[a,b,c]:=by
  rcases l with _|⟨a,_|⟨b,_|⟨c,_|⟨d,_|⟨e,l⟩⟩⟩⟩⟩;all_goals first|exact⟨_,_,_,rfl⟩|(simp at hl;done)|(exfalso;simp only[cf]at hl;omega)
 refine ⟨_,ab6 sy ce fu a b c hs hce hfu,rfl,rfl,rfl,rfl,rfl,rfl,B3 λR T t'=>rfl⟩
theorem aad {n:Nat} (hn:n+1<=100000) (I:CT) (L:List ET) (s:ST) (t u:Int) (hc:CB I) (hs:SV n L s) (J:Mc I L s):Rd (ig (I,s,t,u)) (SQ n I L)/\(s.2.2.2.length=3->t=2->Ok (ig (I,s,t,u)) (SQ n I L)):=by
 refine B2 3 2 hn I L s t u hc hs J UN λsy ce fu l hs hce hfu hl=>⟨by decide,?_⟩
 obtain⟨a,b,c,rfl⟩:∃a b c,l=[a,b,c]:=by
  rcases l with _|⟨a,_|⟨b,_|⟨c,_|⟨d,_|⟨e,l⟩⟩⟩⟩⟩;all_goals first|exact⟨_,_,_,rfl⟩|(simp at hl;done)|(exfalso;simp only[cf]at hl;omega)
 refine ⟨_,ab5 sy ce fu a b c hs hce hfu,rfl,rfl,rfl,rfl,rfl,rfl,B3 λR T t'=>rfl⟩
theorem aah {n:Nat} (hn:n+1<=100000) (I:CT) (L:List ET) (s:ST) (t u:Int) (hc:CB I) (hs:SV n L s) (J:Mc I L s):Rd (gL (I,s,t,u)) (SQ n I L)/\(s.2.2.2.length=2->t=0->Ok (gL (I,s,t,u)) (SQ n I L)):=by
 refine B2 2 0 hn I L s t u hc hs J UR λsy ce fu l hs hce hfu hl=>⟨by decide,?_⟩
 obtain⟨a,b,rfl⟩:∃a b,l=[a,b]:=by
  rcases l with _|⟨a,_|⟨b,_|⟨c,_|⟨d,_|⟨e,l⟩⟩⟩⟩⟩;all_goals first|exact⟨_,_,rfl⟩|(simp at hl;done)|(exfalso;simp only[cf]at hl;omega)
 refine ⟨_,ab9 sy ce fu a b hs hce hfu,rfl,rfl,rfl,rfl,rfl,rfl,B3 λR T t'=>rfl⟩
theorem aag {n:Nat} (hn:n+1<=100000) (I:CT) (L:List ET) (s:ST) (t u:Int) (hc:CB I) (hs:SV n L s) (J:Mc I L s):Rd (gp (I,s,t,u)) (SQ n I L)/\(s.2.2.2.length=2->t=1->Ok (gp (I,s,t,u)) (SQ n I L)):=by
 refine B2 2 1 hn I L s t u hc hs J UQ λsy ce fu l hs hce hfu hl=>⟨by decide,?_⟩
 obtain⟨a,b,rfl⟩:∃a b,l=[a,b]:=by
  rcases l with _|⟨a,_|⟨b,_|⟨c,_|⟨d,_|⟨e,l⟩⟩⟩⟩⟩;all_goals first|exact⟨_,_,rfl⟩|(simp at hl;done)|(exfalso;simp only[cf]at hl;omega)
 refine ⟨_,ab8 sy ce fu a b hs hce hfu,rfl,rfl,rfl,rfl,rfl,rfl,B3 λR T t'=>rfl⟩
theorem aai {n:Nat} (hn:n+1<=100000) (I:CT) (L:List ET) (s:ST) (t u:Int) (hc:CB I) (hs:SV n L s) (J:Mc I L s):Rd (gq (I,s,t,u)) (SQ n I L)/\(s.2.2.2.length=1->t=0->Ok (gq (I,s,t,u)) (SQ n I L)):=by
 refine B2 1 0 hn I L s t u hc hs J US λsy ce fu l hs hce hfu hl=>⟨by decide,?_⟩
 obtain⟨a,rfl⟩:∃a,l=[a]:=by
  rcases l with _|⟨a,_|⟨b,_|⟨c,_|⟨d,_|⟨e,l⟩⟩⟩⟩⟩;all_goals first|exact⟨_,rfl⟩|(simp at hl;done)|(exfalso;simp only[cf]at hl;omega)
 refine ⟨_,aba sy ce fu a hs hce hfu,rfl,rfl,rfl,rfl,rfl,rfl,B3 λR T t'=>rfl⟩
theorem aaj {n:Nat} (hn:n+1<=100000) (c:CT) (L:List ET) (s:ST) (t u:Int) (hc:CB c) (hs:SV n L s) (Z:Mc c L s):Ok (AM (c,s,t,u)) (SQ n c L):=by
 unfold AM;have I:=aac hn c L s t u hc hs Z;have J:=aab hn c L s t u hc hs Z;have M:=aaa hn c L s t u hc hs Z;have U:=aa9 hn c L s t u hc hs Z;have Y:=aaf hn c L s t u hc hs Z;have a31:=aae hn c L s t u hc hs Z;have a32:=aad hn c L s t u hc hs Z;have a20:=aah hn c L s t u hc hs Z;have a21:=aag hn c L s t u hc hs Z;have a10:=aai hn c L s t u hc hs Z;by_cases hz:s.2.2.2.length<=4/\0<=t/\t<(s.2.2.2.length:Int)
 .obtain⟨h1,h2,h3⟩:=hz;have:(s.2.2.2.length=4/\t=0)\/(s.2.2.2.length=4/\t=1)\/(s.2.2.2.length=4/\t=2)\/(s.2.2.2.length=4/\t=3)\/(s.2.2.2.length=3/\t=0)\/(s.2.2.2.length=3/\t=1)\/(s.2.2.2.length=3/\t=2)\/(s.2.2.2.length=2/\t=0)\/(s.2.2.2.length=2/\t=1)\/(s.2.2.2.length=1/\t=0):=by omega
  rcases this with h|h|h|h|h|h|h|h|h|h
  .exact (I.2 h.1 h.2).orL
  .exact I.1.orR (J.2 h.1 h.2).orL
  .exact I.1.orR (J.1.orR (M.2 h.1 h.2).orL)
  .exact I.1.orR (J.1.orR (M.1.orR (U.2 h.1 h.2).orL))
  .exact I.1.orR (J.1.orR (M.1.orR (U.1.orR (Y.2 h.1 h.2).orL)))
  .exact I.1.orR (J.1.orR (M.1.orR (U.1.orR (Y.1.orR (a31.2 h.1 h.2).orL))))
  .exact I.1.orR (J.1.orR (M.1.orR (U.1.orR (Y.1.orR (a31.1.orR (a32.2 h.1 h.2).orL)))))
  .exact I.1.orR (J.1.orR (M.1.orR (U.1.orR (Y.1.orR (a31.1.orR (a32.1.orR (a20.2 h.1 h.2).orL))))))
  .exact I.1.orR (J.1.orR (M.1.orR (U.1.orR (Y.1.orR (a31.1.orR (a32.1.orR (a20.1.orR (a21.2 h.1 h.2).orL)))))))
  .exact I.1.orR (J.1.orR (M.1.orR (U.1.orR (Y.1.orR (a31.1.orR (a32.1.orR (a20.1.orR (a21.1.orR (a10.2 h.1 h.2)))))))))
 .refine Ok.orL ?_;unfold nk aX bf dx;refine I4 hn hc hs Z (λo=>Ok o (SQ n c L)) (λy h=>ar h) _ λe v sy hp _ _ _ _ _=>(hz ?_).elim
  have h1:s.2.2.2.length=c.2.length:=hp.fs.th;have h2:c.2.length=c.1.2.2.2.2.1.length:=hp.fs.vc.tl;have h3:c.1.2.2.2.2.1.length<=4:=hp.fs.vc.vl.t;have h4:0<=t:=hp.t0;have h5:t<(c.2.length:Int):=hp.t1;exact⟨by omega,h4,by omega⟩
theorem ah5 (c:CT) (s:ST) (l:List Γ) (hc:CB c) (hs:SV 0 [] s) (hI:Mc c [] s) (hl:l.length<=9223372036854775806):Ok (wT (c,s,l)) λy=>y.1.length<=400/\(∀e∈y.1,EvF c.1 e/\EvS e)/\∃sy ce fu,Acw c.1 y.1 sy ce fu:=by
 unfold wT aX bf dx bA bE bD aZ cK aF cH;refine qF (λx=>((l.length:Int)-x.1).toNat) (λx=>0<=x.1/\x.2.2.1=c/\SV x.2.1.length x.2.1 x.2.2.2.1/\Mc c x.2.1 x.2.2.2.1/\x.2.1.length<=400/\∀e∈x.2.1,EvF c.1 e/\EvS e) ?_ ⟨eE _,rfl,hs,hI,by simp,λe he=>(by cases he)⟩;rintro⟨(i:Int),es,c',s',z⟩ ⟨U,e1,e2,eI,e3,I⟩;dsimp only at U e1 e2 eI e3 I;subst e1;refine aY (λx=>x.2=(es,c',s',z)/\(x.1=ai->i<(l.length:Int)/\es.length<400)) ?_ ?_
 .refine bJ (λg=>ar ⟨rfl,λh=>⟨g,?_⟩⟩) λ_=>ar ⟨rfl,λh=>(by cases h)⟩
  dsimp only at h;rw[ud]at h;dsimp only[au]at h;omega
 rintro⟨b,x⟩ ⟨Z,Y⟩;dsimp only at Z Y;subst Z;refine aO (λh=>?_) λ_=>ar ⟨e3,I,_,_,_,eI.ac⟩
 obtain⟨g1,g2⟩:=Y h;refine aY (λx=>x.2.1=c'/\SV x.1.length x.1 x.2.2.1/\Mc c' x.1 x.2.2.1/\x.1.length<=400/\∀e∈x.1,EvF c'.1 e/\EvS e) ?_ ?_
 .refine aS U g1 (aR ?_);refine ax (aaj (n:=es.length) (by omega) c' es s' _ _ hc e2 eI) λy hy=>?_
  refine aO (λh=>?_) λ_=>ar ⟨rfl,e2,eI,e3,I⟩
  obtain⟨h1,hJ,h2,h3⟩:=hy h;refine bg (by simp;omega) (by omega) (ar ⟨rfl,?_,hJ,by simp;omega,λe he=>?_⟩)
  .dsimp only;rw[bm,c9];exact h1
  .rcases bY.1 he with he|he
   .exact I e he
   .rw[aL]at he;subst he;exact⟨h2,h3⟩
 rintro⟨es',c2,s2,z2⟩ ⟨k1,k2,kI,M,J⟩;dsimp only at k1 k2 kI M J;subst k1;refine ar ?_;dsimp only;rw[hP (n:=i+1) (by omega) (by omega)];exact⟨⟨by omega,rfl,k2,kI,M,J⟩,by omega⟩
theorem CB.vc {c:CT} (hc:CB c):VC c:=by
 obtain⟨b,h1,h2⟩:=Uv c hc.th hc.ins;rw[hc.ok]at h1;cases h1;exact h2 rfl
theorem alw (c:CT) (l:List Γ) (hc:CB c) (hl:l.length<=9223372036854775806):Ok (zN (c,l)) λy=>TR y.1:=by
 unfold zN;refine aU hc.ok (dW (λh=>(by cases h)) λ_=>?_);have hv:=hc.vc;refine ax (Xq c hc.ok hv) λs hs=>?_
 refine ax (ah5 c s l hc hs.1 hs.2 hl) λy I=>ar ?_
 exact⟨hv.vl.wb,hv.vl,λe he=>(I.2.1 e he).1,by have:=I.1;dsimp only;omega,λe he=>(I.2.1 e he).2,hc.wx,I.2.2⟩
theorem Xz (l:η) (hl:l.length<=1000000):Ok (pg l) λy=>y.length=l.length:=by
 unfold pg bA bE bD aZ cK aF cH;refine b8 l.length (λi x=>x.1=(i:Int)/\x.2.length=i) ?_ ?_ ⟨rfl,rfl⟩
 .rintro i ⟨a,b⟩ hi ⟨e1,e2⟩;dsimp only at e1 e2;subst e1;refine di ?_;refine bZ (aR (bZ (aR (bg (by simp;omega) (by omega) (ar ?_)))));dsimp only;exact⟨gE (by omega),by simp;omega⟩
 .rintro⟨a,b⟩ ⟨e1,e2⟩;dsimp only at e1 e2;subst e1;exact dj (ar e2)
theorem fB (e:Xp):em (Xp.op e,Xp.n e,Xp.name e,Xp.l e)=e:=by cases e;rfl
theorem zF (s:Sx):oq (Sx.op s,Sx.line s,Sx.name s,Sx.arg s,Sx.index s,Sx.expr s,Sx.body s,Sx.els s)=s:=by cases s;rfl
abbrev NV:List ζ:=[[97],[98],[120],[121],[118]]
def GE:Nat->Xp->Prop
 |0,_=>False
 |d+1,e=>(e.op=3->e.name=[113])/\(e.op≠1->e.op≠2->1<=e.l.length)/\e.l.length<=2/\(∀x∈e.l,GE d x)/\(e.op=2->e.name∈NV)/\(e.op≠1->e.op≠2->e.op≠3->2<=e.l.length/\6<=e.op/\e.op<=18)
theorem GE.mono:∀{d:Nat} {e:Xp},GE d e->GE (d+1) e
 |0,_,h=>h.elim
 |_+1,_,h=>⟨h.1,h.2.1,h.2.2.1,λx I=>(h.2.2.2.1 x I).mono,h.2.2.2.2⟩
theorem GE.le {d k:Nat} {e:Xp} (h:GE d e) (hk:d<=k):GE k e:=by
 induction hk with
 |refl=>exact h
 |step _ I=>exact I.mono
theorem Pe (n:Int):rY n=af (.mk 1 n [] []):=rfl
theorem Ix (s:ζ):pR s=af (.mk 2 0 s []):=rfl
theorem F6 (o:Int) (a b:Xp):oo (o,a,b)=af (.mk o 0 [] [a,b]):=by
 cases a;cases b;rfl
theorem uv (s:ζ) (e:Xp):jy (s,e)=af (.mk 1 0 s [] [] e [] []):=by
 cases e;rfl
abbrev MK:Type:=Int×Int×Bool×Bool×Bool×Bool
abbrev QV:Type:=η×Int
abbrev HD:Type:=Bool×List ζ
theorem GE.num (n:Int) (d:Nat):GE (d+1) (.mk 1 n [] []):=⟨λh=>(by cases h),λh=>(h rfl).elim,by simp[Xp.l],λx I=>(by cases I),λh=>(by cases h),λh=>(h rfl).elim⟩
theorem GE.nm {s:ζ} (hs:s∈NV) (d:Nat):GE (d+1) (.mk 2 0 s []):=⟨λh=>(by cases h),λ_ h=>(h rfl).elim,by simp[Xp.l],λx I=>(by cases I),λ_=>hs,λ_ h=>(h rfl).elim⟩
theorem GE.bin {o:Int} {a b:Xp} {d:Nat} (J:6<=o/\o<=18) (M:GE d a) (hb:GE d b):GE (d+1) (.mk o 0 [] [a,b]):=
 ⟨λh=>(by have h:o=3:=h;omega),λ_ _=>by simp[Xp.l],by simp[Xp.l],λx I=>by
   simp only[Xp.l,bp,cF,gu]at I;rcases I with rfl|rfl
   .exact M
   .exact hb,λh=>(by have h:o=2:=h;omega),λ_ _ _=>⟨by simp[Xp.l],J⟩⟩
theorem GE.ix {a:Xp} {d:Nat} (J:GE d a):GE (d+1) (.mk 3 0 [113] [a]):=
 ⟨λ_=>rfl,λ_ _=>by simp[Xp.l],by simp[Xp.l],λx I=>by
   simp only[Xp.l,bp,cF,gu]at I;rw[I];exact J,λh=>(by cases h),λ_ _ h=>(h rfl).elim⟩
theorem DQ:∀(n d:Nat),d<n->d<=10->∀(m:MK) (t:QV) (h:HD),TP t->Ok (iC n ((d:Int),m,t,h)) λy=>GE (d+1) y.1/\y.2.1=m/\vz t y.2.2.1/\y.2.2.2=h
 |0,d,hd,_,_,_,_,_=>by omega
 |n+1,d,hd,h10,m,t,h,ht=>by
  rw[zu];unfold oC aX bf bK dx cN bd bA bE kl aZ aF;refine ax (gA 10 t ht) λy I=>?_
  obtain⟨k,t1⟩:=y;obtain⟨s1,k0,k1,_⟩:=I;have k1:=k1 (by decide);dsimp only at s1 k0 k1;refine aY (λx=>x.2=(m,t1,h,(0,0,[]),[[97],[98],[120],[121],[118],[120],[121]])/\(x.1=aj->2<=k/\(d=0->k<7))) ?_ ?_
  .refine bJ (λ_=>ar ⟨rfl,λh=>(by cases h)⟩) λg=>aJ (λg2=>ar ⟨rfl,λg3=>⟨g,λ_=>?_⟩⟩) λg2=>ar ⟨rfl,λ_=>⟨g,λh=>(g2 (by dsimp only;omega)).elim⟩⟩
   dsimp only at g3;rw[ml]at g3;exact g3
  rintro⟨b,x⟩ ⟨e,hb⟩;dsimp only at e hb;subst e;refine aO (λ_=>?_) λg=>?_
  .refine ax (gA 4 t1 s1.p) λy I=>?_
   refine aU (Pe _) (ar ?_);exact⟨GE.num _ _,rfl,s1.trans I.1,rfl⟩
  obtain⟨q0,q1⟩:=hb g;refine bJ (λg=>?_) λg=>?_
  .refine ax (gA _ t1 s1.p) λy I=>?_
   obtain⟨u1,M,J,_⟩:=I;have J:=J (show (1:Int)<=7 by decide);refine aS M J (aS M J (aR ?_));refine aU (Ix _) (ar ?_);have hnv:∀z∈([[97],[98],[120],[121],[118],[120],[121]]:List ζ),z∈NV:=by decide
   exact⟨GE.nm (hnv _ (bL (T:=.str) M J)) _,rfl,s1.trans u1,rfl⟩
  dsimp only at g;have hd0:d≠0:=λh=>by have:=q1 h;omega
  obtain⟨d,rfl⟩:∃k,d=k+1:=⟨d-1,by omega⟩
  refine aJ (λg=>?_) λg=>?_
  .refine ax (DQ n 0 (by omega) (by omega) m t1 h s1.p) λy I=>?_
   obtain⟨e,m',t',h'⟩:=y;obtain⟨v1,Z,U,Y⟩:=I;dsimp only at v1 Z U Y;subst Z;subst Y;refine bh (by simp) (ar ?_);dsimp only;rw[fB];exact⟨(GE.ix (v1.le (by omega):GE (d+1) e)),rfl,s1.trans U,rfl⟩
  .refine ax (gA _ t1 s1.p) λy I=>?_
   obtain⟨k2,t2⟩:=y;obtain⟨u1,M,J,_⟩:=I;have J:=J (by decide);dsimp only at u1 M J;refine aS M J (aS M J (aR ?_));have ho:(6:Int)<=aK (T:=.int .i64) [6,7,8,11,13,17] k2/\aK (T:=.int .i64) [6,7,8,11,13,17] k2<=(18:Int):=by
    have h1:=bL (T:=.int .i64) (xs:=([6,7,8,11,13,17]:η)) M J;have:∀z:Int,z∈([6,7,8,11,13,17]:η)->6<=z/\z<=18:=by decide
    exact this _ h1
   have ew:bk .i64 (((d+1:Nat):Int)-1)=(d:Int):=by rw[hP (by omega) (by omega)];omega
   dsimp only;rw[ew];refine ax (DQ n d (by omega) (by omega) m t2 h u1.p) λy I=>?_
   obtain⟨e,m',t',h'⟩:=y;obtain⟨v1,Z,U,Y⟩:=I;dsimp only at v1 Z U Y;subst Z;subst Y;refine bh (by simp) ?_;refine ax (DQ n d (by omega) (by omega) m' t' h' U.p) λy I=>?_
   obtain⟨e2,m2,t2',h2⟩:=y;obtain⟨w1,w2,w3,w4⟩:=I;dsimp only at w1 w2 w3 w4;subst w2;subst w4;refine bh (by simp) ?_;refine aU (F6 _ _ _) (ar ?_);dsimp only;rw[fB];exact⟨GE.bin ho v1 w1,rfl,s1.trans (u1.trans (U.trans w3)),rfl⟩
theorem acu (d:Nat) (hd:d<=10) (m:MK) (t:QV) (h:HD) (ht:TP t):Ok (fy ((d:Int),m,t,h)) λy=>GE (d+1) y.1/\y.2.1=m/\vz t y.2.2.1/\y.2.2.2=h:=DQ fuel d (by rw[jY];omega) hd m t h ht
end
end Go.Proofs.YtgijlolllojpaaaGreatDoor.AI
