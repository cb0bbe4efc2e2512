/-
  Texts of the proof, part 2 of 6: what is used to prove the statement. No condition.
-/
import Derived.Test.YthehadcddfilhaaGreatDoorHBRacesQ0
namespace Go.Proofs.YthehadcddfilhaaGreatDoor.AI
open Go.RowKit
set_option maxRecDepth 100000
set_option maxHeartbeats 4000000
set_option linter.unusedVariables false
set_option linter.unusedSimpArgs false
open _root_.Bool renaming true→ai,false→aj
open _root_.Int renaming ofNat_eq_natCast→au,ofNat→aP,toNat→aU,reduceEq→aV,reduceNeg→bt,toNat_natCast→dS
open _root_.List renaming length→al,replicate→aG,length_cons→b9,range→cS,length_singleton→c6,take→dQ,cons_append→gw,length_nil→jU,take_succ_cons→v7,foldl_cons→xo
open _root_.Nat renaming beq→aC,blt→gq
open _root_.Option renaming some→af,none→ah,map_some→ch,getD_some→ve
open _root_.Prod renaming p2→aY,p3→bh,p4→bx,q3→bL,p5→cC,q5→cX,q4→dA,p6→dW,q6→fh,q7→kD,p7→kE,q8→qa,p8→Ah,p9→Cy,p10→Ej
open _root_.Sum renaming inr→bP,inl→lz
noncomputable section
abbrev Kd0:Ty:=(.st (.pr uO (.pr uO (.pr uO (.pr uO (.pr uO (.pr uO (.pr (.sl aM) (.pr uO (.sl aM))))))))))
abbrev Kd1:Ty:=(.st (.pr .bool .bool))
abbrev Yd0:=((List (List Int))×(List (List Int))×(List (List Int))×(List (List Int))×(List (List Int))×(List (List Int))×(List Int)×(List (List Int))×List Int)
abbrev Yd1:=((List Int)×(List (List Int))×(List (List Int))×(List (List Int))×(List (List Int))×(List (List Int))×(List (List Int))×(List (List Int))×(List Int)×List Int)
abbrev Yd2:=(Int×gI×(List Bool)×List dy)
abbrev Yd3:=(Int×gP×gC×(List fm)×cf×cf×List (Int×Int×Int))
abbrev Yd4:=(dz×Int×Int×Int×Int×Int×(List Int)×List Int)
abbrev Yd5:=(List (Int×Int))
abbrev Yd6:=(Int×(List Bool)×List dy)
def MP {α R:Type} [DecidableEq α] (a b:α) (r:Option R):Option R:=if a=b then r else ah
theorem Qx {α R:Type} [DecidableEq α] (a b:α) (r:Option R):MP a b r=same a b r:=by unfold MP same;by_cases h:a=b<;>simp[h]
theorem Qw {α R:Type} [DecidableEq α] {a b:α} (h:a=b) (r:Option R):MP a b r=r:=by unfold MP;rw[aE h]
def jw (x:(List Int)×Int):Option (Int):=
 (jn (α:=Bool) (bz x.2 0 (aF ai) (aF (c8 (aZ x.1) x.2))) λI=>(bcase I (af 0) (wa x.2 x.1 (af (aK (T:=aM) x.1 x.2)))))
def vA (it:yR) (x:(List Int)×List Int):Option (List Int):=
 (bC (c8 0 (iE (aZ x.1) (aZ x.2))&&c8 (iE (aZ x.1) (aZ x.2)) (iE (aZ x.1) (aZ x.2))&&a_ (aU (iE (aZ x.1) (aZ x.2))) 8) (it (Int×List Int) _ (λI=>(bz I.1 (aP (al (aG (aU (iE (aZ x.1) (aZ x.2))) (0:Int)))) (obind (jw (x.1,I.1)) λM=>(obind (jw (x.2,I.1)) λJ=>(ck (fc I.1 (al I.2)) (cK ((cD I.1),(cQ I.2 I.1 (iE M J))))))) (aF I.2))) (0,(aG (aU (iE (aZ x.1) (aZ x.2))) (0:Int)))))
def zd (x:(List Int)×List Int):Option (List Int):=vA @iter x
def kh (x:(List Int)×List Int):Option (List Int):=vA @gg x
def C3 (x:(List Int)×Int):Option (Int):=
 (jn (α:=Bool) (bz x.2 0 (aF ai) (aF (c8 (aZ x.1) x.2))) λI=>(bcase I (af 0) (wa x.2 x.1 (af (aK (T:=aM) x.1 x.2)))))
def E_ (it:yR) (x:(List Int)×List Int):Option (List Int):=
 (bC (c8 0 (iE (aZ x.1) (aZ x.2))&&c8 (iE (aZ x.1) (aZ x.2)) (iE (aZ x.1) (aZ x.2))&&a_ (aU (iE (aZ x.1) (aZ x.2))) 8) (it (Int×List Int) _ (λI=>(bz I.1 (aP (al (aG (aU (iE (aZ x.1) (aZ x.2))) (0:Int)))) (obind (C3 (x.1,I.1)) λM=>(obind (C3 (x.2,I.1)) λJ=>(ck (fc I.1 (al I.2)) (cK ((cD I.1),(cQ I.2 I.1 (iE M J))))))) (aF I.2))) (0,(aG (aU (iE (aZ x.1) (aZ x.2))) (0:Int)))))
def EE (x:(List Int)×List Int):Option (List Int):=E_ @iter x
def pJ (x:(List Int)×List Int):Option (List Int):=E_ @gg x
def Oz (x:List Int):Option (List Int):=
 (bcase (aC (al x) 0) (Fx (af ([]:List Int)) (bC (a_ (al ([]:List Int)+al x) 8) (af (([]:List Int)++x)))) (bC (a_ (al ([]:List Int)+al x) 8) (af (([]:List Int)++x))))
def B9 (x:List Int):Option (List Int):=chk (a_ (al x) 8) λ_=>af x
def xI (it:yR) (x:List (List Int)):Option (List (List Int)):=
 (bC (c8 0 (aZ x)&&c8 (aZ x) (aZ x)&&a_ (aU (aZ x)) 24) (it (Int×List (List Int)) _ (λI=>(bz I.1 (aZ x) (wa I.1 x (obind (B9 (aK (T:=(.sl aM)) x I.1)) λJ=>(ck (fc I.1 (al I.2)) (cK ((cD I.1),(cQ I.2 I.1 J)))))) (aF I.2))) (0,(aG (aU (aZ x)) ([]:List Int)))))
def B1 (x:List (List Int)):Option (List (List Int)):=xI @iter x
def ir (x:List (List Int)):Option (List (List Int)):=xI @gg x
def IU (x:List Int):Option (List Int):=
 (bcase (aC (al x) 0) (Fx (af ([]:List Int)) (bC (a_ (al ([]:List Int)+al x) 8) (af (([]:List Int)++x)))) (bC (a_ (al ([]:List Int)+al x) 8) (af (([]:List Int)++x))))
def o6 (x:List Int):Option (List Int):=chk (a_ (al x) 8) λ_=>af x
def uu (x:(List (List Int))×(List (List Int))×(List (List Int))×(List (List Int))×(List (List Int))×(List (List Int))×(List Int)×(List (List Int))×List Int):Option ((List Int)×(List (List Int))×(List (List Int))×(List (List Int))×(List (List Int))×(List (List Int))×(List (List Int))×(List (List Int))×List Int):=
 (obind (ir x.1) λy1=>(obind (ir x.2.1) λy2=>(obind (ir x.p2) λy3=>(obind (ir x.p3) λZ=>(obind (ir x.p4) λY=>(obind (ir x.p5) λU=>(obind (o6 x.p6) λM=>(obind (ir x.p7) λJ=>(obind (o6 x.q8) λI=>(af (M,y1,y2,y3,Z,Y,U,J,I)))))))))))
def tY (x:Int×List (List Int)):Option ((List Int)×List (List Int)):=
 (jn (α:=Bool×List (List Int)) (bz x.1 0 (aF (ai,x.2)) (aF ((c8 (aZ x.2) x.1),x.2))) λI=>(bcase I.1 (af (([]:List Int),I.2)) (ck (fc x.1 (al I.2)) (af ((aK (T:=(.sl aM)) I.2 x.1),I.2)))))
def uw (x:gh×(List Int)×dz×(List (List Int))×(List (List Int))×(List (List Int))×(List (List Int))×(List (List Int))×(List (List Int))×(List (List Int))×List Int):Option ((List (List Int))×gh×(List Int)×dz×(List (List Int))×(List (List Int))×(List (List Int))×(List (List Int))×(List (List Int))×(List (List Int))×(List (List Int))×List Int):=
 (be x.1.2.1 1 (ck (fc x.1.1 (al x.p4)) (af ([(aK (T:=(.sl aM)) x.p4 x.1.1)],(x.1.1,x.1.2.1,x.1.p2,x.1.p3,x.1.p4,x.1.p5,x.1.q6),x.2.1,(x.p2.1,x.p2.2.1,x.p2.p2,x.p2.p3,x.p2.p4,x.p2.q5),x.p3,x.p4,x.p5,x.p6,x.p7,x.p8,x.p9,x.q10))) (be x.1.2.1 21 (ck (fc x.1.p2 (al x.p3)) (af ([(aK (T:=(.sl aM)) x.p3 x.1.p2)],(x.1.1,x.1.2.1,x.1.p2,x.1.p3,x.1.p4,x.1.p5,x.1.q6),x.2.1,(x.p2.1,x.p2.2.1,x.p2.p2,x.p2.p3,x.p2.p4,x.p2.q5),x.p3,x.p4,x.p5,x.p6,x.p7,x.p8,x.p9,x.q10))) (jn (α:=Bool×gh×(List Int)×dz×(List (List Int))×(List (List Int))×(List (List Int))×(List (List Int))×(List (List Int))×(List (List Int))×(List (List Int))×List Int) (be x.1.2.1 6 (aF ((decide ((x.1.2.1:Int)=6)),(x.1.1,x.1.2.1,x.1.p2,x.1.p3,x.1.p4,x.1.p5,x.1.q6),x.2.1,(x.p2.1,x.p2.2.1,x.p2.p2,x.p2.p3,x.p2.p4,x.p2.q5),x.p3,x.p4,x.p5,x.p6,x.p7,x.p8,x.p9,x.q10)) (aF ((decide ((x.1.2.1:Int)=10)),(x.1.1,x.1.2.1,x.1.p2,x.1.p3,x.1.p4,x.1.p5,x.1.q6),x.2.1,(x.p2.1,x.p2.2.1,x.p2.p2,x.p2.p3,x.p2.p4,x.p2.q5),x.p3,x.p4,x.p5,x.p6,x.p7,x.p8,x.p9,x.q10))) λI=>(bcase I.1 (ck (fc I.2.1.p2 (al I.p6)) (ck (fc I.2.1.p2 (al I.p7)) (af ([(aK (T:=(.sl aM)) I.p6 I.2.1.p2),(aK (T:=(.sl aM)) I.p7 I.2.1.p2)],(I.2.1.1,I.2.1.2.1,I.2.1.p2,I.2.1.p3,I.2.1.p4,I.2.1.p5,I.2.1.q6),I.p2,(I.p3.1,I.p3.2.1,I.p3.p2,I.p3.p3,I.p3.p4,I.p3.q5),I.p4,I.p5,I.p6,I.p7,I.p8,I.p9,I.p10,I.q11)))) (be x.1.2.1 8 (ck (fc I.2.1.p2 (al I.p6)) (af ([(aK (T:=(.sl aM)) I.p6 I.2.1.p2)],(I.2.1.1,I.2.1.2.1,I.2.1.p2,I.2.1.p3,I.2.1.p4,I.2.1.p5,I.2.1.q6),I.p2,(I.p3.1,I.p3.2.1,I.p3.p2,I.p3.p3,I.p3.p4,I.p3.q5),I.p4,I.p5,I.p6,I.p7,I.p8,I.p9,I.p10,I.q11))) (be x.1.2.1 17 (wa I.2.1.p2 I.p3.p2 (obind (tY ((aK (T:=lm) I.p3.p2 I.2.1.p2).2,I.p6)) λM=>(bC (aC (al I.p6) (al M.2)&&ai) (obind (tY ((aK (T:=lm) I.p3.p2 I.2.1.p2).2,I.p7)) λJ=>(bC (aC (al I.p7) (al J.2)&&ai) (ck (fc I.2.1.1 (al I.p10)) (af ([M.1,J.1,(aK (T:=(.sl aM)) I.p10 I.2.1.1)],(I.2.1.1,I.2.1.2.1,I.2.1.p2,I.2.1.p3,I.2.1.p4,I.2.1.p5,I.2.1.q6),I.p2,(I.p3.1,I.p3.2.1,I.p3.p2,I.p3.p3,I.p3.p4,I.p3.q5),I.p4,I.p5,M.2,J.2,I.p8,I.p9,I.p10,I.q11)))))))) (be x.1.2.1 3 (ck (fc I.2.1.p2 (al I.p8)) (af ([(aK (T:=(.sl aM)) I.p8 I.2.1.p2)],(I.2.1.1,I.2.1.2.1,I.2.1.p2,I.2.1.p3,I.2.1.p4,I.2.1.p5,I.2.1.q6),I.p2,(I.p3.1,I.p3.2.1,I.p3.p2,I.p3.p3,I.p3.p4,I.p3.q5),I.p4,I.p5,I.p6,I.p7,I.p8,I.p9,I.p10,I.q11))) (be x.1.2.1 23 (ck (fc I.2.1.p2 (al I.p9)) (af ([(aK (T:=(.sl aM)) I.p9 I.2.1.p2)],(I.2.1.1,I.2.1.2.1,I.2.1.p2,I.2.1.p3,I.2.1.p4,I.2.1.p5,I.2.1.q6),I.p2,(I.p3.1,I.p3.2.1,I.p3.p2,I.p3.p3,I.p3.p4,I.p3.q5),I.p4,I.p5,I.p6,I.p7,I.p8,I.p9,I.p10,I.q11))) (be x.1.2.1 12 (af ([I.p2],(I.2.1.1,I.2.1.2.1,I.2.1.p2,I.2.1.p3,I.2.1.p4,I.2.1.p5,I.2.1.q6),I.p2,(I.p3.1,I.p3.2.1,I.p3.p2,I.p3.p3,I.p3.p4,I.p3.q5),I.p4,I.p5,I.p6,I.p7,I.p8,I.p9,I.p10,I.q11)) (af (([]:List (List Int)),(I.2.1.1,I.2.1.2.1,I.2.1.p2,I.2.1.p3,I.2.1.p4,I.2.1.p5,I.2.1.q6),I.p2,(I.p3.1,I.p3.2.1,I.p3.p2,I.p3.p3,I.p3.p4,I.p3.q5),I.p4,I.p5,I.p6,I.p7,I.p8,I.p9,I.p10,I.q11)))))))))))
def Au (it:yR) (x:gP×gC×(List fm)×cf×cf×List (Int×Int×Int)):Option Yd0:=
 (ck (c8 0 (aZ x.p4)&&c8 (aZ x.p4) (aZ x.p4)&&a_ (aU (aZ x.p4)) 24) (ck (c8 0 (aZ x.2.1)&&c8 (aZ x.2.1) (aZ x.2.1)&&a_ (aU (aZ x.2.1)) 24) (bC (c8 0 (aZ x.1)&&c8 (aZ x.1) (aZ x.1)&&a_ (aU (aZ x.1)) 24) (bC (c8 0 (aZ x.p3)&&c8 (aZ x.p3) (aZ x.p3)&&a_ (aU (aZ x.p3)) 24) (bC (c8 0 (aZ x.p4)&&c8 (aZ x.p4) (aZ x.p4)&&a_ (aU (aZ x.p4)) 24) (bC (c8 0 (aZ x.p4)&&c8 (aZ x.p4) (aZ x.p4)&&a_ (aU (aZ x.p4)) 8) (it (Int×(List (List Int))×(List (List Int))×(List (List Int))×(List (List Int))×(List (List Int))×(List (List Int))×(List (List Int))×List Int) _ (λI=>(bz I.1 (aP (al (aG (aU (aZ x.p4)) (0:Int)))) (ck (fc I.1 (al I.q8)) (cK ((cD I.1),I.2.1,I.p2,I.p3,I.p4,I.p5,I.p6,I.p7,(cQ I.q8 I.1 (-1))))) (aF (I.2.1,I.p2,I.p3,I.p4,I.p5,I.p6,([]:List Int),I.p7,I.q8)))) (0,(aG (aU (aZ x.p4)) ([]:List Int)),(aG (aU (aZ x.p4)) ([]:List Int)),(aG (aU (aZ x.2.1)) ([]:List Int)),(aG (aU (aZ x.2.1)) ([]:List Int)),(aG (aU (aZ x.1)) ([]:List Int)),(aG (aU (aZ x.p3)) ([]:List Int)),(aG (aU (aZ x.p4)) ([]:List Int)),(aG (aU (aZ x.p4)) (0:Int))))))))))
def EI (x:gP×gC×(List fm)×cf×cf×List (Int×Int×Int)):Option Yd0:=Au @iter x
def pO (x:gP×gC×(List fm)×cf×cf×List (Int×Int×Int)):Option Yd0:=Au @gg x
def sG (x:(List Int)×Int):Option (List Int):=
 (jn (α:=Bool) (iW 0 x.2 (aF (fR x.2 4)) (aF aj)) λM=>(jn (α:=Int) (bcase M (aF (iE (aZ x.1) (cD x.2))) (aF (aZ x.1))) λI=>(bC (c8 0 I&&c8 I I&&a_ (aU I) 8) (jn (α:=List Int) (jn (α:=Bool×List Int) (bcase M (ck (fc x.2 (al (Ua (aG (aU I) (0:Int)) x.1))) (aF ((fR (aK (T:=aM) (Ua (aG (aU I) (0:Int)) x.1) x.2) 9223372036854775807),(Ua (aG (aU I) (0:Int)) x.1)))) (aF (aj,(Ua (aG (aU I) (0:Int)) x.1)))) λJ=>(bcase J.1 (ck (fc x.2 (al J.2)) (ck (fc x.2 (al J.2)) (aF (cQ J.2 x.2 (bk .i64 ((aK (T:=aM) J.2 x.2)+1)))))) (aF J.2))) λU=>(af U)))))
def wJ (x:List Int):Option ((List Int)×List Int):=
 (bC (a_ (al ([]:List Int)+al x) 8) (af ((([]:List Int)++x),x)))
def vo (x:List Int):Option (List Int):=obind (wJ x) λy=>MP y.2 x (af y.1)
def H9 (it:yR) (x:(List Int)×List Int):Option ((List Int)×List Int):=
 (bC (c8 0 (iE (aZ x.1) (aZ x.2))&&c8 (iE (aZ x.1) (aZ x.2)) (iE (aZ x.1) (aZ x.2))&&a_ (aU (iE (aZ x.1) (aZ x.2))) 8) (it (Int×(List Int)×List Int) _ (λI=>(bz I.1 (aP (al (aG (aU (iE (aZ x.1) (aZ x.2))) (0:Int)))) (obind (jw (x.1,I.1)) λM=>(obind (jw (I.2.1,I.1)) λJ=>(ck (fc I.1 (al I.2.2)) (cK ((cD I.1),I.2.1,(cQ I.2.2 I.1 (iE M J))))))) (aF (I.2.2,I.2.1)))) (0,x.2,(aG (aU (iE (aZ x.1) (aZ x.2))) (0:Int)))))
def Ov (x:(List Int)×List Int):Option ((List Int)×List Int):=H9 @iter x
def tM (x:(List Int)×List Int):Option ((List Int)×List Int):=H9 @gg x
def B8 (x:(List Int)×List Int):Option (List Int):=obind (tM x) λy=>MP y.2 x.2 (af y.1)
def lI (x:Int×(List (List Int))×List Int):Option ((List (List Int))×List Int):=
 (jn (α:=Bool×(List (List Int))×List Int) (iW 0 x.1 (aF ((fR x.1 (aZ x.2.1)),x.2.1,x.2.2)) (aF (aj,x.2.1,x.2.2))) λI=>(bcase I.1 (ck (fc x.1 (al I.2.1)) (obind (B8 ((aK (T:=(.sl aM)) I.2.1 x.1),I.2.2)) λJ=>(ck (fc x.1 (al I.2.1)) (af ((cQ I.2.1 x.1 J),I.2.2))))) (af (I.2.1,I.2.2))))
def wE (x:Int×(List Int)×(List (List Int))×(List (List Int))×(List (List Int))×(List (List Int))×(List (List Int))×(List (List Int))×(List (List Int))×(List Int)×List Int):Option Yd1:=
 (obind (vo x.q10) λI=>(ck (fc x.1 (al x.p8)) (ck (fc x.1 (al x.p9)) (af (x.2.1,x.p2,x.p3,x.p4,x.p5,x.p6,x.p7,(cQ x.p8 x.1 I),(cQ x.p9 x.1 (-1)),x.q10)))))
def At (it:yR) (x:Yd4×(List Int)×(List (List Int))×(List (List Int))×(List (List Int))×(List (List Int))×(List (List Int))×(List (List Int))×(List (List Int))×(List Int)×List Int):Option Yd1:=
 (obind (vo x.q10) λy1=>(ck (fc x.1.2.1 (al x.p2)) (jn (α:=(List Int)×(List (List Int))×(List (List Int))×(List (List Int))×(List (List Int))×(List (List Int))×(List (List Int))×(List (List Int))×(List Int)×List Int) (be x.1.p2 20 (obind (vo x.q10) λy3=>(ck (fc x.1.p3 (al x.p3)) (aF (x.2.1,(cQ x.p2 x.1.2.1 y1),(cQ x.p3 x.1.p3 y3),x.p4,x.p5,x.p6,x.p7,x.p8,x.p9,x.q10)))) (jn (α:=Bool×(List Int)×(List (List Int))×(List (List Int))×(List (List Int))×(List (List Int))×(List (List Int))×(List (List Int))×(List (List Int))×(List Int)×(List Int)×dz×Int×Int×Int×Int×Int×(List Int)×List Int) (be x.1.p2 7 (aF ((decide ((x.1.p2:Int)=7)),x.2.1,(cQ x.p2 x.1.2.1 y1),x.p3,x.p4,x.p5,x.p6,x.p7,x.p8,x.p9,x.q10,(x.1.1.1,x.1.1.2.1,x.1.1.p2,x.1.1.p3,x.1.1.p4,x.1.1.q5),x.1.2.1,x.1.p2,x.1.p3,x.1.p4,x.1.p5,x.1.p6,x.1.q7)) (aF ((decide ((x.1.p2:Int)=11)),x.2.1,(cQ x.p2 x.1.2.1 y1),x.p3,x.p4,x.p5,x.p6,x.p7,x.p8,x.p9,x.q10,(x.1.1.1,x.1.1.2.1,x.1.1.p2,x.1.1.p3,x.1.1.p4,x.1.1.q5),x.1.2.1,x.1.p2,x.1.p3,x.1.p4,x.1.p5,x.1.p6,x.1.q7))) λI=>(bcase I.1 (obind (lI (I.p14,I.p4,I.p10)) λy5=>(bC (aC (al I.p10) (al y5.2)&&(aC (al I.p4) (al y5.1)&&ai)) (aF (I.2.1,I.p2,I.p3,y5.1,I.p5,I.p6,I.p7,I.p8,I.p9,y5.2)))) (be x.1.p2 9 (obind (lI (I.p14,I.p5,I.p10)) λy6=>(bC (aC (al I.p10) (al y6.2)&&(aC (al I.p5) (al y6.1)&&ai)) (aF (I.2.1,I.p2,I.p3,I.p4,y6.1,I.p6,I.p7,I.p8,I.p9,y6.2)))) (be x.1.p2 16 (ck (fc I.p12 (al I.p9)) (wa I.p14 I.p11.p2 (obind (lI ((aK (T:=lm) I.p11.p2 I.p14).2,I.p4,I.p10)) λy7=>(bC (aC (al I.p10) (al y7.2)&&(aC (al I.p4) (al y7.1)&&ai)) (aF (I.2.1,I.p2,I.p3,y7.1,I.p5,I.p6,I.p7,I.p8,(cQ I.p9 I.p12 I.p14),y7.2)))))) (be x.1.p2 4 (wa I.p14 I.p11.1 (bcase (((((aK (T:=ky) I.p11.1 I.p14).2).2).2).1) (obind (lI (I.p14,I.p6,I.p10)) λy8=>(bC (aC (al I.p10) (al y8.2)&&(aC (al I.p6) (al y8.1)&&ai)) (aF (I.2.1,I.p2,I.p3,I.p4,I.p5,y8.1,I.p7,I.p8,I.p9,y8.2)))) (aF (I.2.1,I.p2,I.p3,I.p4,I.p5,I.p6,I.p7,I.p8,I.p9,I.p10)))) (be x.1.p2 22 (obind (lI (I.p14,I.p7,I.p10)) λy9=>(bC (aC (al I.p10) (al y9.2)&&(aC (al I.p7) (al y9.1)&&ai)) (aF (I.2.1,I.p2,I.p3,I.p4,I.p5,I.p6,y9.1,I.p8,I.p9,y9.2)))) (be x.1.p2 13 (obind (B8 (I.2.1,I.p10)) λy10=>(aF (y10,I.p2,I.p3,I.p4,I.p5,I.p6,I.p7,I.p8,I.p9,I.p10))) (be x.1.p2 18 (jn (α:=Bool×(List Int)×(List (List Int))×(List (List Int))×(List (List Int))×(List (List Int))×(List (List Int))×(List (List Int))×(List (List Int))×(List Int)×(List Int)×Int×Int×Int×Int×Int×(List Int)×List Int) (iW 0 I.p15 (aF ((fR I.p15 (aZ I.p8)),I.2.1,I.p2,I.p3,I.p4,I.p5,I.p6,I.p7,I.p8,I.p9,I.p10,I.p12,I.p13,I.p14,I.p15,I.p16,I.p17,I.q18)) (aF (aj,I.2.1,I.p2,I.p3,I.p4,I.p5,I.p6,I.p7,I.p8,I.p9,I.p10,I.p12,I.p13,I.p14,I.p15,I.p16,I.p17,I.q18))) λM=>(bcase M.1 (obind (wE (M.p14,M.2.1,M.p2,M.p3,M.p4,M.p5,M.p6,M.p7,M.p8,M.p9,M.p10)) λY=>(bC (aC (al M.p10) (al Y.q9)&&(aC (al M.p9) (al Y.p8)&&(aC (al M.p8) (al Y.p7)&&(aC (al M.p7) (al Y.p6)&&(aC (al M.p6) (al Y.p5)&&(aC (al M.p5) (al Y.p4)&&(aC (al M.p4) (al Y.p3)&&(aC (al M.p3) (al Y.p2)&&(aC (al M.p2) (al Y.2.1)&&ai))))))))) (aF (Y.1,Y.2.1,Y.p2,Y.p3,Y.p4,Y.p5,Y.p6,Y.p7,Y.p8,Y.q9)))) (aF (M.2.1,M.p2,M.p3,M.p4,M.p5,M.p6,M.p7,M.p8,M.p9,M.p10)))) (be x.1.p2 19 (it (Int×(List Int)×(List (List Int))×(List (List Int))×(List (List Int))×(List (List Int))×(List (List Int))×(List (List Int))×(List (List Int))×(List Int)×(List Int)×Int×Int×Int×Int×Int×(List Int)×List Int) _ (λJ=>(bz J.1 (aZ I.p9) (jn (α:=(List Int)×(List (List Int))×(List (List Int))×(List (List Int))×(List (List Int))×(List (List Int))×(List (List Int))×(List (List Int))×(List Int)×(List Int)×Int×Int×Int×Int×Int×(List Int)×List Int) (ck (fc J.1 (al J.p9)) (be (aK (T:=aM) J.p9 J.1) J.p13 (obind (wE (J.1,J.2.1,J.p2,J.p3,J.p4,J.p5,J.p6,J.p7,J.p8,J.p9,J.p10)) λU=>(bC (aC (al J.p10) (al U.q9)&&(aC (al J.p9) (al U.p8)&&(aC (al J.p8) (al U.p7)&&(aC (al J.p7) (al U.p6)&&(aC (al J.p6) (al U.p5)&&(aC (al J.p5) (al U.p4)&&(aC (al J.p4) (al U.p3)&&(aC (al J.p3) (al U.p2)&&(aC (al J.p2) (al U.2.1)&&ai))))))))) (aF (U.1,U.2.1,U.p2,U.p3,U.p4,U.p5,U.p6,U.p7,U.p8,U.q9,J.p11,J.p12,J.p13,J.p14,J.p15,J.p16,J.q17)))) (aF (J.2.1,J.p2,J.p3,J.p4,J.p5,J.p6,J.p7,J.p8,J.p9,J.p10,J.p11,J.p12,J.p13,J.p14,J.p15,J.p16,J.q17)))) λZ=>(cK ((cD J.1),Z.1,Z.2.1,Z.p2,Z.p3,Z.p4,Z.p5,Z.p6,Z.p7,Z.p8,Z.p9,Z.p10,Z.p11,Z.p12,Z.p13,Z.p14,Z.p15,Z.q16))) (aF (bP (J.2.1,J.p2,J.p3,J.p4,J.p5,J.p6,J.p7,J.p8,J.p9,J.p10))))) (0,I.2.1,I.p2,I.p3,I.p4,I.p5,I.p6,I.p7,I.p8,I.p9,I.p10,I.p12,I.p13,I.p14,I.p15,I.p16,I.p17,I.q18)) (aF (I.2.1,I.p2,I.p3,I.p4,I.p5,I.p6,I.p7,I.p8,I.p9,I.p10)))))))))))) λx2=>(af (x2.1,x2.2.1,x2.p2,x2.p3,x2.p4,x2.p5,x2.p6,x2.p7,x2.p8,x2.q9)))))
def EH (x:Yd4×(List Int)×(List (List Int))×(List (List Int))×(List (List Int))×(List (List Int))×(List (List Int))×(List (List Int))×(List (List Int))×(List Int)×List Int):Option Yd1:=At @iter x
def rH (x:Yd4×(List Int)×(List (List Int))×(List (List Int))×(List (List Int))×(List (List Int))×(List (List Int))×(List (List Int))×(List (List Int))×(List Int)×List Int):Option Yd1:=At @gg x
def Dm (it:yR) (x:dz×Yd0×Int×Int×Int×Int×Int×(List Int)×List Int):Option (Yd0×List Int):=
 (obind (uu (x.2.1.1,x.2.1.2.1,x.2.1.p2,x.2.1.p3,x.2.1.p4,x.2.1.p5,x.2.1.p6,x.2.1.p7,x.2.1.q8)) λU=>(ck (fc x.p2 (al U.2.1)) (obind (uw ((x.p2,x.p3,x.p4,x.p5,x.p6,x.p7,x.q8),U.1,(x.1.1,x.1.2.1,x.1.p2,x.1.p3,x.1.p4,x.1.q5),U.2.1,U.p2,U.p3,U.p4,U.p5,U.p6,U.p7,U.q8)) λJ=>(bC (aC (al U.q8) (al J.q11)&&(aC (al U.p7) (al J.p10)&&(aC (al U.p6) (al J.p9)&&(aC (al U.p5) (al J.p8)&&(aC (al U.p4) (al J.p7)&&(aC (al U.p3) (al J.p6)&&(aC (al U.p2) (al J.p5)&&(aC (al U.2.1) (al J.p4)&&ai)))))))) (it (Int×dz×gh×(List Int)×(List Int)×(List (List Int))×(List (List Int))×(List (List Int))×(List (List Int))×(List (List Int))×(List (List Int))×(List (List Int))×List Int) _ (λI=>(bz I.1 (aZ J.1) (wa I.1 J.1 (obind (kh (I.p4,(aK (T:=(.sl aM)) J.1 I.1))) λZ=>(cK ((cD I.1),(I.2.1.1,I.2.1.2.1,I.2.1.p2,I.2.1.p3,I.2.1.p4,I.2.1.q5),(I.p2.1,I.p2.2.1,I.p2.p2,I.p2.p3,I.p2.p4,I.p2.p5,I.p2.q6),I.p3,Z,I.p5,I.p6,I.p7,I.p8,I.p9,I.p10,I.p11,I.q12)))) (obind (obind (sG (I.p4,I.p2.1)) λY=>(obind (rH (((I.2.1.1,I.2.1.2.1,I.2.1.p2,I.2.1.p3,I.2.1.p4,I.2.1.q5),I.p2.1,I.p2.2.1,I.p2.p2,I.p2.p3,I.p2.p4,I.p2.p5,I.p2.q6),I.p3,I.p5,I.p6,I.p7,I.p8,I.p9,I.p10,I.p11,I.q12,Y)) λM=>(bC (aC (al Y) (al M.q9)&&(aC (al I.q12) (al M.p8)&&(aC (al I.p11) (al M.p7)&&(aC (al I.p10) (al M.p6)&&(aC (al I.p9) (al M.p5)&&(aC (al I.p8) (al M.p4)&&(aC (al I.p7) (al M.p3)&&(aC (al I.p6) (al M.p2)&&(aC (al I.p5) (al M.2.1)&&ai))))))))) (af ((M.2.1,M.p2,M.p3,M.p4,M.p5,M.p6,M.1,M.p7,M.p8),M.q9))))) λr=>af (bP r)))) (0,(J.p3.1,J.p3.2.1,J.p3.p2,J.p3.p3,J.p3.p4,J.p3.q5),(J.2.1.1,J.2.1.2.1,J.2.1.p2,J.2.1.p3,J.2.1.p4,J.2.1.p5,J.2.1.q6),J.p2,(aK (T:=(.sl aM)) U.2.1 x.p2),J.p4,J.p5,J.p6,J.p7,J.p8,J.p9,J.p10,J.q11))))))
def IK (x:dz×Yd0×Int×Int×Int×Int×Int×(List Int)×List Int):Option (Yd0×List Int):=Dm @iter x
def sF (x:dz×Yd0×Int×Int×Int×Int×Int×(List Int)×List Int):Option (Yd0×List Int):=Dm @gg x
def ui (x:List Int):Option (List Int):=
 (bC (a_ (al (x:List Int)) 8) (af x))
def As (it:yR) (x:(List Int)×Int):Option (List Int):=
 (obind (ui x.1) λM=>(jn (α:=Bool×List Int) (bz x.2 0 (aF (ai,M)) (aF ((c8 4 x.2),M))) λJ=>(bcase J.1 (af J.2) (it (List Int) _ (λI=>(iW (aZ I) x.2 (bC (a_ (al I+al ([0])) 8) (cK (I++([0])))) (obind (jn (α:=List Int) (ck (fc x.2 (al I)) (bz (aK (T:=aM) I x.2) 9223372036854775807 (ck (fc x.2 (al I)) (ck (fc x.2 (al I)) (aF (cQ I x.2 (bk .i64 ((aK (T:=aM) I x.2)+1)))))) (aF I))) λU=>(af U)) λr=>af (bP r)))) J.2))))
def ED (x:(List Int)×Int):Option (List Int):=As @iter x
def pI (x:(List Int)×Int):Option (List Int):=As @gg x
def ru (x:dz×Int):Option (Int):=
 (jn (α:=Bool×gP×gC×(List fm)×cf×cf×List (Int×Int×Int)) (bz x.2 0 (aF (ai,x.1.1,x.1.2.1,x.1.p2,x.1.p3,x.1.p4,x.1.q5)) (aF ((c8 (aZ x.1.p2) x.2),x.1.1,x.1.2.1,x.1.p2,x.1.p3,x.1.p4,x.1.q5))) λI=>(bcase I.1 (af (-1)) (wa x.2 I.p3 (af ((aK (T:=lm) I.p3 x.2).2)))))
def oL (x:dz×Int×Int×Int×Int×Int×(List Int)×List Int):Option (Int×Bool):=
 (jn (α:=Bool×dz×Int×Int×Int×Int×Int×(List Int)×List Int) (be x.p2 6 (aF ((decide ((x.p2:Int)=6)),(x.1.1,x.1.2.1,x.1.p2,x.1.p3,x.1.p4,x.1.q5),x.2.1,x.p2,x.p3,x.p4,x.p5,x.p6,x.q7)) (aF ((decide ((x.p2:Int)=10)),(x.1.1,x.1.2.1,x.1.p2,x.1.p3,x.1.p4,x.1.q5),x.2.1,x.p2,x.p3,x.p4,x.p5,x.p6,x.q7))) λI=>(bcase I.1 (af (I.p4,aj)) (be x.p2 8 (af (I.p4,ai)) (be x.p2 17 (obind (ru ((I.2.1.1,I.2.1.2.1,I.2.1.p2,I.2.1.p3,I.2.1.p4,I.2.1.q5),I.p4)) λJ=>(af (J,aj))) (af ((-1),aj))))))
def oJ (x:dz×Int×Int×Int×Int×Int×(List Int)×List Int):Option (Int×Bool):=
 (jn (α:=Bool×dz×Int×Int×Int×Int×Int×(List Int)×List Int) (be x.p2 7 (aF ((decide ((x.p2:Int)=7)),(x.1.1,x.1.2.1,x.1.p2,x.1.p3,x.1.p4,x.1.q5),x.2.1,x.p2,x.p3,x.p4,x.p5,x.p6,x.q7)) (aF ((decide ((x.p2:Int)=11)),(x.1.1,x.1.2.1,x.1.p2,x.1.p3,x.1.p4,x.1.q5),x.2.1,x.p2,x.p3,x.p4,x.p5,x.p6,x.q7))) λI=>(bcase I.1 (af (I.p4,aj)) (be x.p2 9 (af (I.p4,ai)) (be x.p2 16 (obind (ru ((I.2.1.1,I.2.1.2.1,I.2.1.p2,I.2.1.p3,I.2.1.p4,I.2.1.q5),I.p4)) λJ=>(af (J,aj))) (af ((-1),aj))))))
def rN (it:yR) (x:List UInt8):Option (Bool):=
 (lt (aK (T:=(.st (.pr .str (.pr .str (.pr .str (.pr .str (.pr .str (.pr .str (.pr .str (.pr .str (.pr .str (.pr .str (.pr .str (.pr .str (.pr .str (.pr .str (.pr .str (.pr .str (.pr .str (.pr .str (.pr .str (.pr .str (.pr .str .str))))))))))))))))))))))) ([kwV]) 0) λI=>(it (Int) _ (λJ=>(bz J 22 (bC (c8 0 J&&fR J 22) (lt (aK (T:=.str) [I.1,I.2.1,I.p2,I.p3,I.p4,I.p5,I.p6,I.p7,I.p8,I.p9,I.p10,I.p11,I.p12,I.p13,I.p14,I.p15,I.p16,I.p17,I.p18,I.p19,I.p20,I.q21] J) λM=>(bcase (decide ((x:List UInt8)=M)) (aF ai) (cK (cD J))))) (aF aj))) 0))
def rq (x:List UInt8):Option (Bool):=rN @iter x
def kV (x:List UInt8):Option (Bool):=rN @gg x
def vT (it:yR) (x:List UInt8):Option (Bool):=
 (jn (α:=Bool) (bz (aZ x) 1 (aF ai) (bz 12 (aZ x) (aF ai) (obind (kV x) λU=>(aF U)))) λZ=>(bcase Z (af aj) (it (List (fm×Unit)) _ (λI=>(bcase (gq (OD I) (al (Qe I))) (bC (fR (AD (Qe I) (aP (OD I))) 128) (jn (α:=List (fm×Unit)) (jn (α:=Bool×List (fm×Unit)) (iW 97 (AD (Qe I) (aP (OD I))) (iW (AD (Qe I) (aP (OD I))) 122 (aF (ai,[(((Qe I),(aP ((OD I)+1))),())])) (iW 65 (AD (Qe I) (aP (OD I))) (aF ((c8 (AD (Qe I) (aP (OD I))) 90),[(((Qe I),(aP ((OD I)+1))),())])) (aF (aj,[(((Qe I),(aP ((OD I)+1))),())])))) (iW 65 (AD (Qe I) (aP (OD I))) (aF ((c8 (AD (Qe I) (aP (OD I))) 90),[(((Qe I),(aP ((OD I)+1))),())])) (aF (aj,[(((Qe I),(aP ((OD I)+1))),())])))) λJ=>(bcase J.1 (aF J.2) (jn (α:=Bool×List (fm×Unit)) (bz 0 (aP (OD I)) (be (AD (Qe I) (aP (OD I))) 95 (aF (ai,J.2)) (iW 48 (AD (Qe I) (aP (OD I))) (aF ((c8 (AD (Qe I) (aP (OD I))) 57),J.2)) (aF (aj,J.2)))) (aF (aj,J.2))) λM=>(bcase M.1 (aF M.2) (cK (bP aj)))))) λY=>(cK Y))) (aF ai))) ([((x,0),())]))))
def vM (x:List UInt8):Option (Bool):=vT @iter x
def oH (x:List UInt8):Option (Bool):=vT @gg x
def xN (it:yR) (x:(List Int)×Int):Option (Int):=
 (it (Int) _ (λI=>(bz I (aZ x.1) (bB aM x.1 I λJ=>(be x.2 J (aF I) (cK (cD I)))) (aF (-1)))) 0)
def B3 (x:(List Int)×Int):Option (Int):=xN @iter x
def rJ (x:(List Int)×Int):Option (Int):=xN @gg x
def kw (x:(List Int)×Int):Option (Bool):=
 (obind (rJ x) λI=>(af (c8 0 I)))
def mo (x:(List Int)×Int×Int):Option (Bool):=
 (obind (jw (x.1,x.2.2)) λI=>(af (c8 x.2.1 I)))
def uv (x:Int×Int×Int×Int×Int×(List Int)×List Int):Option (Bool):=
 (jn (α:=Bool) (be x.2.1 3 (aF ai) (aF (decide ((x.2.1:Int)=4)))) λI=>(af I))
def qy (x:(dz×List gh)×Int×Int):Option (Bool):=
 (bB fH x.1.2 x.2.1 λM=>(bB fH x.1.2 x.2.2 λJ=>(jn (α:=Bool×(dz×List gh)×gh×Int×Int×Int×Int×Int×(List Int)×List Int) (be M.1 J.1 (aF (ai,x.1,M,J)) (aF ((!decide ((M.p2:Int)=J.p2)),x.1,M,J))) λI=>(bcase I.1 (af aj) (jn (α:=Bool×gh×Int×Int×Int×Int×Int×(List Int)×List Int) (obind (uv I.p2) λy5=>(bcase (!y5) (aF (ai,I.2.2)) (obind (uv I.q3) λZ=>(bcase (!Z) (aF (ai,I.2.2)) (bB ky I.2.1.1.1 I.p2.p2 λY=>(aF (Y.2.2.2.1,I.2.2))))))) λU=>(bcase U.1 (af aj) (jn (α:=Bool) (be U.2.1.2.1 4 (aF ai) (aF (decide ((U.p3:Int)=4)))) λx8=>(af x8))))))))
def xH (it:yR) (x:List gh):Option Yd5:=
 (bC (c8 0 (aZ x)&&c8 (aZ x) (aZ x)&&a_ (aU (aZ x)) 16) (it (Int×Yd5×List (Int×Int)) _ (λI=>(bz I.1 (aZ x) (bB fH x I.1 λJ=>(ck (fc I.1 (al I.2.2)) (cK ((cD I.1),(EK (K:=aM) (V:=aM) J.1 (bk .i64 ((wF (K:=aM) (V:=aM) J.1 I.2.1 0)+1)) I.2.1),(cQ I.2.2 I.1 ((wF (K:=aM) (V:=aM) J.1 (EK (K:=aM) (V:=aM) J.1 (bk .i64 ((wF (K:=aM) (V:=aM) J.1 I.2.1 0)+1)) I.2.1) 0),J.1)))))) (aF I.2.2))) (0,([]:List (Int×Int)),(aG (aU (aZ x)) ((0,0):Int×Int)))))
def BZ (x:List gh):Option Yd5:=xH @iter x
def pw (x:List gh):Option Yd5:=xH @gg x
def sU (x:Int×Int):Option (Bool):=
 (jn (α:=Bool) (iW 0 x.1 (aF (fR x.1 x.2)) (aF aj)) λI=>(af I))
def sV (x:dz×Int×Bool):Option (Bool):=
 (jn (α:=Bool) (obind (sU (x.2.1,(aZ x.1.2.1))) λJ=>(bcase J (bB q_ x.1.2.1 x.2.1 λI=>(aF ((I.2==x.2.2) !=aj))) (aF aj))) λM=>(af M))
def oy (it:yR) (x:List Tn):Option (cf×Bool):=
 (it (Int×List (List UInt8)) _ (λM=>(bz M.1 (aZ x) (jn (α:=Int×List (List UInt8)) (bB ky x M.1 λI=>(bC (a_ (al M.2+al ([I.1])) 16) (be I.p2 0 (iV I.2.1 0 (cK (bP (([]:List (List UInt8)),aj))) (aF ((cD M.1),(M.2++([I.1]))))) (jn (α:=Bool×cf×(List UInt8)×Int×Int×Bool×Int) (bz I.p2 1 (aF (ai,(M.2++([I.1])),I)) (bz 4 I.p2 (aF (ai,(M.2++([I.1])),I)) (bcase I.p3 (aF (ai,(M.2++([I.1])),I)) (aF ((fR (bk .i64 ((aZ x)-M.1)) I.p2),(M.2++([I.1])),I))))) λY=>(bcase Y.1 (cK (bP (([]:List (List UInt8)),aj))) (it (Int×cf×(List UInt8)×Int×Int×Bool×Int) _ (λJ=>(bz J.1 Y.p4 (bB ky x (bk .i64 (M.1+J.1)) λU=>(bcase (Ng (.pr .str (.pr aM (.pr aM (.pr .bool (.pr aM .un))))) (U.1,U.2.1,U.p2,U.p3,U.q4,()) (J.p2,J.1,J.p4,J.p5,J.q6,()) !=ai) (aF (lz (bP (([]:List (List UInt8)),aj)))) (cK ((cD J.1),J.2.1,J.p2,J.1,J.q4)))) (aF (bP ((bk .i64 (M.1+J.p4)),J.2.1))))) (0,Y.2))))))) λZ=>(cK Z)) (aF (M.2,ai)))) (0,([]:List (List UInt8))))
def oq (x:List Tn):Option (cf×Bool):=oy @iter x
def hP (x:List Tn):Option (cf×Bool):=oy @gg x
def ox (it:yR) (x:dz×List (List UInt8)):Option (Bool):=
 (bC (a_ (al (x.2:List (List UInt8))) 16) (it (Int×dz×List (List UInt8)) _ (λJ=>(bz J.1 (aZ x.1.2.1) (bB q_ x.1.2.1 J.1 λz2=>(bC (a_ (al J.2.2+al ([z2.1])) 16) (cK ((cD J.1),J.2.1,(J.2.2++([z2.1])))))) (obind (it (Int×dz×List (List UInt8)) _ (λI=>(bz I.1 (aZ J.2.1.p2) (bB lm J.2.1.p2 I.1 λZ=>(bC (a_ (al I.2.2+al ([Z.1])) 16) (cK ((cD I.1),I.2.1,(I.2.2++([Z.1])))))) (obind (bC (a_ (al I.2.2+al I.2.1.p3) 16) (bC (a_ (al (I.2.2++I.2.1.p3)+al I.2.1.p4) 16) (it (Int×gC×List (List UInt8)) _ (λM=>(bz M.1 (aP (al ((I.2.2++I.2.1.p3)++I.2.1.p4))) (kB (.str) M.2.2 M.1 λU=>(jn (α:=Bool×gC×List (List UInt8)) (obind (oH U) λy8=>(bcase (!y8) (aF (ai,M.2)) (aF ((wF (K:=.str) (V:=.bool) U M.2.1 aj),M.2)))) λY=>(bcase Y.1 (aF aj) (cK ((cD M.1),(EK (K:=.str) (V:=.bool) U ai Y.2.1),Y.2.2))))) (aF ai))) (0,([]:List ((List UInt8)×Bool)),((I.2.2++I.2.1.p3)++I.2.1.p4))))) λr=>af (bP r)))) (0,J.2)) λr=>af (bP r)))) (0,x)))
def oo (x:dz×List (List UInt8)):Option (Bool):=ox @iter x
def dO (x:dz×List (List UInt8)):Option (Bool):=ox @gg x
def kM (it:yR) (x:gP×gC×(List fm)×cf×cf×List (Int×Int×Int)):Option (Bool):=
 (it ((Int×Int×Int)×gP×gC×(List fm)×cf×cf×List (Int×Int×Int)) _ (λI=>(bz I.1.2.2 (aZ x.q5) (bB oB x.q5 I.1.2.2 λU=>(jn (α:=Bool×dz×Int×Int×Int) (bz U.1 I.1.1 (aF (ai,I.2,U)) (aF ((c8 (aZ I.p5) U.1),I.2,U))) λM=>(bcase M.1 (aF aj) (jn (α:=(Int×Int)×dz×Int×Int×Int) (bz I.1.1 M.p2 (aF ((M.p2,0),M.2)) (aF ((I.1.1,I.1.2.1),M.2))) λJ=>(iV J.p3 J.1.2 (aF aj) (cK ((J.1.1,(cD J.1.2),(cD I.1.2.2)),J.2.1))))))) (aF ai))) ((0,0,0),x))
def om (x:gP×gC×(List fm)×cf×cf×List (Int×Int×Int)):Option (Bool):=kM @iter x
def fZ (x:gP×gC×(List fm)×cf×cf×List (Int×Int×Int)):Option (Bool):=kM @gg x
def kN (it:yR) (x:gP×gC×(List fm)×cf×cf×List (Int×Int×Int)):Option (Bool):=
 (jn (α:=Bool×gP×gC×(List fm)×cf×cf×List (Int×Int×Int)) (bz 12 (aZ x.1) (aF (ai,x)) (bz 4 (aZ x.2.1) (aF (ai,x)) (bz 2 (aZ x.p2) (aF (ai,x)) (bz 2 (aZ x.p3) (aF (ai,x)) (aF ((fR 60 (aZ x.q5)),x)))))) λM=>(bcase M.1 (af aj) (jn (α:=Bool×gP×gC×(List fm)×cf×cf×List (Int×Int×Int)) (bz (aZ M.p5) 1 (aF (ai,M.2)) (aF ((fR 4 (aZ M.p5)),M.2))) λJ=>(bcase J.1 (af aj) (obind (hP J.2.1) λY=>(jn (α:=Bool×gP×gC×(List fm)×cf×cf×List (Int×Int×Int)) (bcase (!Y.2) (aF (ai,J.2)) (obind (dO (J.2,Y.1)) λy5=>(aF ((!y5),J.2)))) λU=>(bcase U.1 (af aj) (it Yd3 _ (λI=>(bz I.1 (aZ U.p3) (bB lm U.p3 I.1 λZ=>(obind (sV (I.2,Z.2,aj)) λy8=>(bcase (!y8) (aF aj) (cK ((cD I.1),I.2))))) (obind (obind (fZ I.2) λy9=>(af y9)) λr=>af (bP r)))) (0,U.2)))))))))
def ou (x:gP×gC×(List fm)×cf×cf×List (Int×Int×Int)):Option (Bool):=kN @iter x
def dP (x:gP×gC×(List fm)×cf×cf×List (Int×Int×Int)):Option (Bool):=kN @gg x
def vU (it:yR) (x:gP×gC×(List fm)×cf×cf×List (Int×Int×Int)):Option pa:=
 (bC (c8 0 (aZ x.2.1)&&c8 (aZ x.2.1) (aZ x.2.1)&&a_ (aU (aZ x.2.1)) 32) (bC (c8 0 (aZ x.p3)&&c8 (aZ x.p3) (aZ x.p3)&&a_ (aU (aZ x.p3)) 1) (bC (c8 0 (aZ x.p4)&&c8 (aZ x.p4) (aZ x.p4)&&a_ (aU (aZ x.p4)) 24) (it (Int×Int×Int×gI×(List Bool)×List dy) _ (λI=>(bz I.1 (aP (al (aG (aU (aZ x.2.1)) ((0,[]):Int×List Int)))) (ck (fc I.1 (al I.p3)) (cK ((cD I.1),I.2.1,I.p2,(cQ I.p3 I.1 ((-1),(aK (T:=d_) I.p3 I.1).2)),I.q4))) (obind (jn (α:=Int×Int×gI×(List Bool)×List dy) (bz 0 (aZ I.q5) (ck (fc 0 (al I.q5)) (aF (I.2.1,I.p2,I.p3,I.p4,(cQ I.q5 0 (1,(aK (T:=ie) I.q5 0).2))))) (aF I.2)) λJ=>(af (J.p2,J.2.1,J.q3))) λr=>af (bP r)))) (0,0,(-1),(aG (aU (aZ x.2.1)) ((0,[]):Int×List Int)),(aG (aU (aZ x.p3)) (aj:Bool)),(aG (aU (aZ x.p4)) ((0,(0,aj)):Int×Int×Bool)))))))
def vO (x:gP×gC×(List fm)×cf×cf×List (Int×Int×Int)):Option pa:=vU @iter x
def oN (x:gP×gC×(List fm)×cf×cf×List (Int×Int×Int)):Option pa:=vU @gg x
def qE (it:yR) (x:gP×gC×(List fm)×cf×cf×List (Int×Int×Int)):Option eH:=
 (obind (oN x) λM=>(bC (c8 0 0&&c8 0 (aZ x.1)&&a_ (aU (aZ x.1)) 8) (bC (c8 0 (aZ x.p3)&&c8 (aZ x.p3) (aZ x.p3)&&a_ (aU (aZ x.p3)) 8) (bC (c8 0 (aZ x.p4)&&c8 (aZ x.p4) (aZ x.p4)&&a_ (aU (aZ x.p4)) 8) (it (Int×Int×pa×(List Int)×(List Int)×List Int) _ (λI=>(bz I.1 (aZ x.1) (bB ky x.1 I.1 λJ=>(bC (a_ (al I.p3+al ([J.q4])) 8) (cK ((cD I.1),I.2.1,I.p2,(I.p3++([J.q4])),I.q4)))) (aF I.2.2))) (0,0,M,(aG (aU 0) (0:Int)),(aG (aU (aZ x.p3)) (0:Int)),(aG (aU (aZ x.p4)) (0:Int))))))))
def qh (x:gP×gC×(List fm)×cf×cf×List (Int×Int×Int)):Option eH:=qE @iter x
def dl (x:gP×gC×(List fm)×cf×cf×List (Int×Int×Int)):Option eH:=qE @gg x
def km (it:yR) (x:(List Bool)×Int×Int×Int×Int×Int×(List Int)×List Int):Option (Bool):=
 (it (Int) _ (λI=>(bz I 2 (bC (c8 0 I&&fR I 2) (lt (aK (T:=(.sl aM)) [x.p6,x.q7] I) λU=>(it (Int) _ (λM=>(bz M (aZ U) (bB aM U M λJ=>(jn (α:=Bool) (bz J 0 (aF ai) (iW (aZ x.1) J (aF ai) (bB (.bool) x.1 J λY=>(aF (!Y))))) λZ=>(bcase Z (aF (bP aj)) (cK (cD M))))) (aF (lz (cD I))))) 0))) (aF ai))) 0)
def mM (x:(List Bool)×Int×Int×Int×Int×Int×(List Int)×List Int):Option (Bool):=km @iter x
def cj (x:(List Bool)×Int×Int×Int×Int×Int×(List Int)×List Int):Option (Bool):=km @gg x
def e9 (x:Int×Int):Option (Bool):=
 (jn (α:=Bool) (iW 0 x.1 (aF (fR x.1 x.2)) (aF aj)) λI=>(af I))
def l7 (x:dz×Int×Int):Option (Bool):=
 (jn (α:=Bool×gP×gC×(List fm)×cf×cf×List (Int×Int×Int)) (be x.2.1 1 (aF ((decide ((x.2.1:Int)=1)),x.1)) (be x.2.1 2 (aF ((decide ((x.2.1:Int)=2)),x.1)) (be x.2.1 5 (aF ((decide ((x.2.1:Int)=5)),x.1)) (be x.2.1 12 (aF ((decide ((x.2.1:Int)=12)),x.1)) (be x.2.1 13 (aF ((decide ((x.2.1:Int)=13)),x.1)) (be x.2.1 14 (aF ((decide ((x.2.1:Int)=14)),x.1)) (aF ((decide ((x.2.1:Int)=15)),x.1)))))))) λx1=>(bcase x1.1 (af (decide ((x.2.2:Int)=(-1)))) (jn (α:=Bool×gP×gC×(List fm)×cf×cf×List (Int×Int×Int)) (be x.2.1 3 (aF ((decide ((x.2.1:Int)=3)),x1.2)) (aF ((decide ((x.2.1:Int)=4)),x1.2))) λZ=>(bcase Z.1 (obind (e9 (x.2.2,(aZ Z.2.1))) λy3=>(af y3)) (jn (α:=Bool×gP×gC×(List fm)×cf×cf×List (Int×Int×Int)) (be x.2.1 6 (aF ((decide ((x.2.1:Int)=6)),Z.2)) (aF ((decide ((x.2.1:Int)=7)),Z.2))) λU=>(bcase U.1 (jn (α:=Bool) (obind (e9 (x.2.2,(aZ U.p2))) λy6=>(bcase y6 (bB q_ U.p2 x.2.2 λz7=>(aF (!z7.2))) (aF aj))) λx5=>(af x5)) (jn (α:=Bool×gP×gC×(List fm)×cf×cf×List (Int×Int×Int)) (be x.2.1 8 (aF ((decide ((x.2.1:Int)=8)),U.2)) (be x.2.1 9 (aF ((decide ((x.2.1:Int)=9)),U.2)) (be x.2.1 10 (aF ((decide ((x.2.1:Int)=10)),U.2)) (aF ((decide ((x.2.1:Int)=11)),U.2))))) λM=>(bcase M.1 (jn (α:=Bool) (obind (e9 (x.2.2,(aZ M.p2))) λy10=>(bcase y10 (bB q_ M.p2 x.2.2 λz11=>(aF z11.2)) (aF aj))) λx9=>(af x9)) (jn (α:=Bool×gP×gC×(List fm)×cf×cf×List (Int×Int×Int)) (be x.2.1 16 (aF ((decide ((x.2.1:Int)=16)),M.2)) (be x.2.1 17 (aF ((decide ((x.2.1:Int)=17)),M.2)) (be x.2.1 18 (aF ((decide ((x.2.1:Int)=18)),M.2)) (aF ((decide ((x.2.1:Int)=19)),M.2))))) λJ=>(bcase J.1 (obind (e9 (x.2.2,(aZ J.p3))) λy13=>(af y13)) (jn (α:=Bool×gP×gC×(List fm)×cf×cf×List (Int×Int×Int)) (be x.2.1 20 (aF ((decide ((x.2.1:Int)=20)),J.2)) (aF ((decide ((x.2.1:Int)=21)),J.2))) λI=>(bcase I.1 (obind (e9 (x.2.2,(aZ I.p5))) λy15=>(af y15)) (jn (α:=Bool×gP×gC×(List fm)×cf×cf×List (Int×Int×Int)) (be x.2.1 22 (aF ((decide ((x.2.1:Int)=22)),I.2)) (aF ((decide ((x.2.1:Int)=23)),I.2))) λY=>(bcase Y.1 (obind (e9 (x.2.2,(aZ Y.p4))) λy17=>(af y17)) (af aj)))))))))))))))
def tP (it:yR) (x:dz×gI×Int×(List Bool)×List dy):Option (Bool):=
 (jn (α:=Bool×gP×gC×(List fm)×cf×cf×List (Int×Int×Int)) (iV (aZ x.2.1) (aZ x.1.2.1) (aF (ai,x.1)) (iV (aZ x.p3) (aZ x.1.p3) (aF (ai,x.1)) (aF ((!decide (((aZ x.q4):Int)=(aZ x.1.p4))),x.1)))) λJ=>(bcase J.1 (af aj) (it Yd3 _ (λI=>(bz I.1 (aZ J.p3) (bB lm J.p3 I.1 λM=>(obind (e9 (M.2,(aZ I.p2))) λU=>(bcase (!U) (aF aj) (cK ((cD I.1),I.2))))) (aF ai))) (0,J.2))))
def xz (x:dz×gI×Int×(List Bool)×List dy):Option (Bool):=tP @iter x
def kg (x:dz×gI×Int×(List Bool)×List dy):Option (Bool):=tP @gg x
def oM (x:dz×pa×Int×Int×Int):Option (Bool):=
 (be x.p3 6 (bB d_ x.2.1.1 x.q4 λz1=>(af (decide ((z1.1:Int)=(-1))))) (be x.p3 10 (jn (α:=Bool) (bB d_ x.2.1.1 x.q4 λz3=>(be z3.1 (-1) (bB d_ x.2.1.1 x.q4 λz4=>(aF (decide (((aZ z4.2):Int)=0)))) (aF aj))) λx2=>(af x2)) (be x.p3 8 (jn (α:=Bool) (bB d_ x.2.1.1 x.q4 λz6=>(be z6.1 (-1) (bB d_ x.2.1.1 x.q4 λz7=>(obind (kw (z7.2,x.p2)) λy8=>(aF (!y8)))) (aF aj))) λx5=>(af x5)) (jn (α:=Bool×dz×gI×Int×(List Bool)×List dy) (be x.p3 7 (aF ((decide ((x.p3:Int)=7)),x.1,x.2.1)) (aF ((decide ((x.p3:Int)=11)),x.1,x.2.1))) λJ=>(bcase J.1 (bB d_ J.p2 x.q4 λz10=>(af (decide ((z10.1:Int)=x.p2)))) (be x.p3 9 (bB d_ J.p2 x.q4 λz11=>(obind (kw (z11.2,x.p2)) λy12=>(af y12))) (be x.p3 12 (af (decide ((J.p3:Int)=(-1)))) (be x.p3 13 (af (decide ((J.p3:Int)=x.p2))) (be x.p3 14 (bB ie J.q5 x.p2 λz13=>(af (!z13.2.2))) (be x.p3 15 (bB ie J.q5 x.p2 λz14=>(af z14.2.2)) (jn (α:=Bool×dz×gI×Int×(List Bool)×List dy) (be x.p3 16 (aF ((decide ((x.p3:Int)=16)),J.2)) (be x.p3 18 (aF ((decide ((x.p3:Int)=18)),J.2)) (aF ((decide ((x.p3:Int)=19)),J.2)))) λI=>(bcase I.1 (bB lm I.2.1.p2 x.q4 λz16=>(bB d_ I.p2 z16.2 λz17=>(af (decide ((z17.1:Int)=x.p2))))) (be x.p3 20 (jn (α:=Bool) (iV x.q4 x.p2 (bB ie I.q5 x.q4 λZ=>(aF (decide ((Z.1:Int)=0)))) (aF aj)) λx18=>(af x18)) (be x.p3 21 (jn (α:=Bool) (iV x.q4 x.p2 (bB ie I.q5 x.q4 λY=>(aF (decide ((Y.1:Int)=5)))) (aF aj)) λx20=>(af x20)) (be x.p3 22 (bB (.bool) I.p4 x.q4 λU=>(af (!U))) (be x.p3 23 (bB (.bool) I.p4 x.q4 λM=>(af M)) (af ai)))))))))))))))))
def jd (x:dz×pa×Int×Int×Int):Option (Bool):=
 (jn (α:=Bool×dz×gI×Int×(List Bool)×List dy) (obind (kg (x.1,x.2.1)) λy2=>(bcase (!y2) (aF (ai,x.1,x.2.1)) (obind (e9 (x.p2,(aZ x.1.p4))) λy3=>(bcase (!y3) (aF (ai,x.1,x.2.1)) (obind (l7 (x.1,x.q3)) λZ=>(aF ((!Z),x.1,x.2.1))))))) λI=>(bcase I.1 (af aj) (bB ie I.q5 x.p2 λJ=>(be x.p3 1 (af (decide ((J.1:Int)=1))) (be x.p3 17 (jn (α:=Bool) (be J.1 4 (be J.2.1 x.q4 (bB lm I.2.1.p2 x.q4 λY=>(bB d_ I.p2 Y.2 λU=>(aF (decide ((U.1:Int)=(-1)))))) (aF aj)) (aF aj)) λx6=>(af x6)) (jn (α:=Bool) (be J.1 2 (obind (oM (I.2.1,I.2.2,x.2.2)) λM=>(aF M)) (aF aj)) λx9=>(af x9)))))))
def kU (x:dz×pa×(List Int)×(List Int)×List Int):Option (Bool):=
 (jn (α:=Bool) (obind (kg (x.1,x.2.1)) λI=>(bcase I (be (aZ x.p2) (aZ x.1.1) (be (aZ x.p3) (aZ x.1.p3) (aF (decide (((aZ x.q4):Int)=(aZ x.1.p4)))) (aF aj)) (aF aj)) (aF aj))) λJ=>(af J))
def jB (x:dz×Int×Int×Int×Int×Int×(List Int)×List Int):Option (Bool):=
 (jn (α:=Bool×dz×Int×Int×Int×Int×Int×(List Int)×List Int) (be x.p2 1 (aF (ai,x)) (aF ((decide ((x.p2:Int)=2)),x))) λI=>(bcase I.1 (af (decide ((I.p6:Int)=(-1)))) (jn (α:=Bool) (iW 0 I.p6 (bz I.p6 (aZ I.2.1.q5) (bB oB I.2.1.q5 I.p6 λJ=>(aF (decide ((J.1:Int)=I.p2)))) (aF aj)) (aF aj)) λM=>(af M))))
def jr (it:yR) (x:dz×eH×Int×Int×Int×Int×Int×(List Int)×List Int):Option (Bool):=
 (jn (α:=Bool×eH×Int×Int×Int×Int×Int×(List Int)×List Int) (be x.p3 3 (bB ky x.1.1 x.p4 λz2=>(aF ((!decide ((z2.2.2.1:Int)=0)),x.2))) (be x.p3 4 (bB ky x.1.1 x.p4 λz3=>(aF ((!decide ((z3.2.2.1:Int)=0)),x.2))) (aF (aj,x.2)))) λI=>(jn (α:=eH×gh×Bool×Bool) (be I.p3 5 (be I.p3 4 (aF (I.2.1,I.2.2,ai,ai)) (aF (I.2.1,I.2.2,ai,(decide ((I.p3:Int)=22))))) (be I.p3 4 (aF (I.2.1,I.2.2,I.1,ai)) (aF (I.2.1,I.2.2,I.1,(decide ((I.p3:Int)=22)))))) λx4=>(it (Int×eH×gh×Bool×Bool) _ (λJ=>(bz J.1 2 (bC (c8 0 J.1&&fR J.1 2) (lt (aK (T:=(.sl aM)) [x4.2.1.p5,x4.2.1.q6] J.1) λZ=>(jn (α:=Bool×eH×gh×Bool×Bool) (bz 0 (aZ Z) (bC (c8 0 J.1&&fR J.1 2) (bC (fc J.1 2) (lt (aK (T:=.bool) [J.p3,J.q4] J.1) λz8=>(aF ((!z8),J.2))))) (aF (aj,J.2))) λx7=>(bcase x7.1 (aF aj) (it ((Int×Int)×eH×gh×Bool×Bool) _ (λM=>(bz M.1.2 (aZ Z) (bB aM Z M.1.2 λU=>(jn (α:=Bool×eH×gh×Bool×Bool) (iW U M.1.1 (aF (ai,M.2)) (bB aM M.2.1.q3 M.p2.1 λz12=>(aF ((c8 z12 U),M.2)))) λY=>(bcase Y.1 (aF (bP aj)) (cK ((U,(cD M.1.2)),Y.2))))) (aF (lz ((cD J.1),M.2))))) ((0,0),x7.2)))))) (aF ai))) (0,x4))))
def lE (x:dz×eH×Int×Int×Int×Int×Int×(List Int)×List Int):Option (Bool):=jr @iter x
def eV (x:dz×eH×Int×Int×Int×Int×Int×(List Int)×List Int):Option (Bool):=jr @gg x
def lK (it:yR) (x:eH×Int×Int×Int×Int×Int×(List Int)×List Int):Option (Bool):=
 (be x.p2 3 (bB aM x.1.2.1 x.p3 λz1=>(af (decide ((x.p4:Int)=z1)))) (be x.p2 23 (bB aM x.1.p2 x.p3 λz2=>(af (decide ((x.p4:Int)=z2)))) (be x.p2 5 (jn (α:=Bool) (be x.p4 0 (aF ai) (aF (decide ((x.p4:Int)=1)))) λx3=>(af x3)) (jn (α:=Bool×eH×Int×Int×Int×Int×Int×(List Int)×List Int) (be x.p2 4 (aF ((decide ((x.p2:Int)=4)),x)) (aF ((decide ((x.p2:Int)=22)),x))) λM=>(bcase M.1 (af ai) (be x.p2 18 (it ((Int×Bool×Int)×Int×Int×Int×Int×Int×(List Int)×List Int) _ (λJ=>(bz J.1.2.2 (aZ M.2.1.1.q3) (jn (α:=(Int×Bool)×Int×Int×Int×Int×Int×(List Int)×List Int) (bB ie M.2.1.1.q3 J.1.2.2 λz7=>(jn (α:=Bool×Int×Int×Int×Int×Int×(List Int)×List Int) (be z7.1 3 (aF ((decide ((z7.2.1:Int)=J.p3)),J.2)) (aF (aj,J.2))) λZ=>(bcase Z.1 (bcase J.1.2.1 (aF (((cD J.1.1),ai),Z.2)) (aF (((cD J.1.1),(decide ((Z.p4:Int)=J.1.2.2))),Z.2))) (aF ((J.1.1,J.1.2.1),Z.2))))) λx6=>(cK ((x6.1.1,x6.1.2,(cD J.1.2.2)),x6.2))) (obind (jn (α:=Bool) (bcase J.1.2.1 (aF ai) (be J.1.1 0 (aF (decide ((J.p4:Int)=(-1)))) (aF aj))) λx9=>(af x9)) λr=>af (bP r)))) ((0,aj,0),M.2.2)) (be x.p2 19 (it ((Int×Int)×Int×Int×Int×Int×Int×(List Int)×List Int) _ (λI=>(bz I.1.2 (aZ M.2.1.1.q3) (jn (α:=Int×Int×Int×Int×Int×Int×(List Int)×List Int) (bB ie M.2.1.1.q3 I.1.2 λY=>(jn (α:=Bool×Int×Int×Int×Int×Int×(List Int)×List Int) (be Y.1 3 (aF ((decide ((Y.2.1:Int)=I.p3)),I.2)) (aF (aj,I.2))) λU=>(bcase U.1 (aF ((cD I.1.1),U.2)) (aF (I.1.1,U.2))))) λx11=>(cK ((x11.1,(cD I.1.2)),x11.2))) (aF (decide ((I.p4:Int)=I.1.1))))) ((0,0),M.2.2)) (af (decide ((M.p5:Int)=0))))))))))
def pe (x:eH×Int×Int×Int×Int×Int×(List Int)×List Int):Option (Bool):=lK @iter x
def gB (x:eH×Int×Int×Int×Int×Int×(List Int)×List Int):Option (Bool):=lK @gg x
def mn (x:dy×Int):Option (Bool):=
 (jn (α:=Bool) (be x.1.1 3 (aF (decide ((x.1.2.1:Int)=x.2))) (aF aj)) λI=>(af I))
def IW (x:List Bool):Option (List Bool):=
 (bcase (aC (al x) 0) (Fx (af ([]:List Bool)) (bC (a_ (al ([]:List Bool)+al x) 1) (af (([]:List Bool)++x)))) (bC (a_ (al ([]:List Bool)+al x) 1) (af (([]:List Bool)++x))))
def Oy (x:List Bool):Option (List Bool):=chk (a_ (al x) 1) λ_=>af x
def EP (x:List Bool):Option (List Bool):=
 (bcase (aC (al x) 0) (Fx (af ([]:List Bool)) (bC (a_ (al ([]:List Bool)+al x) 1) (af (([]:List Bool)++x)))) (bC (a_ (al ([]:List Bool)+al x) 1) (af (([]:List Bool)++x))))
def IV (x:List Bool):Option (List Bool):=chk (a_ (al x) 1) λ_=>af x
def IR (x:List dy):Option (List dy):=
 (bcase (aC (al x) 0) (Fx (af ([]:List dy)) (bC (a_ (al ([]:List dy)+al x) 24) (af (([]:List dy)++x)))) (bC (a_ (al ([]:List dy)+al x) 24) (af (([]:List dy)++x))))
def Ox (x:List dy):Option (List dy):=chk (a_ (al x) 24) λ_=>af x
def EM (x:List dy):Option (List dy):=
 (bcase (aC (al x) 0) (Fx (af ([]:List dy)) (bC (a_ (al ([]:List dy)+al x) 24) (af (([]:List dy)++x)))) (bC (a_ (al ([]:List dy)+al x) 24) (af (([]:List dy)++x))))
def IQ (x:List dy):Option (List dy):=chk (a_ (al x) 24) λ_=>af x
def EO (x:List Int):Option (List Int):=
 (bcase (aC (al x) 0) (Fx (af ([]:List Int)) (bC (a_ (al ([]:List Int)+al x) 8) (af (([]:List Int)++x)))) (bC (a_ (al ([]:List Int)+al x) 8) (af (([]:List Int)++x))))
def zg (x:List Int):Option (List Int):=chk (a_ (al x) 8) λ_=>af x
def sa (it:yR) (x:gI×Int×(List Bool)×List dy):Option Yd2:=
 (bC (c8 0 (aZ x.1)&&c8 (aZ x.1) (aZ x.1)&&a_ (aU (aZ x.1)) 32) (it (Int×pa×Int×List (Int×List Int)) _ (λI=>(bz I.1 (aZ x.1) (bB d_ x.1 I.1 λJ=>(obind (B9 J.2) λY=>(ck (fc I.1 (al I.q3)) (cK ((cD I.1),I.2.1,I.p2,(cQ I.q3 I.1 (J.1,Y))))))) (obind (obind (IV I.2.1.p2) λU=>(obind (IQ I.2.1.q3) λM=>(af (I.2.1.2.1,I.q3,U,M)))) λr=>af (bP r)))) (0,x,0,(aG (aU (aZ x.1)) ((0,[]):Int×List Int)))))
def vN (x:gI×Int×(List Bool)×List dy):Option Yd2:=sa @iter x
def ku (x:gI×Int×(List Bool)×List dy):Option Yd2:=sa @gg x
def qH (it:yR) (x:(Int×Int×Int)×gI×(List Bool)×List dy):Option Yd2:=
 (it ((Int×Int)×gI×(List Bool)×(List dy)×Int) _ (λI=>(bz I.1.2 (aZ x.q3) (jn (α:=Int×gI×(List Bool)×(List dy)×Int) (kB ie I.p3 I.1.2 λU=>(jn (α:=Bool×gI×(List Bool)×(List dy)×Int) (obind (mn (U,x.1.2.1)) λY=>(bcase Y (bz I.1.1 0 (aF (ai,I.2)) (aF ((decide ((I.1.2:Int)=x.1.2.2)),I.2))) (aF (aj,I.2)))) λJ=>(bcase J.1 (aF (I.1.2,J.2)) (aF (I.1.1,J.2))))) λM=>(cK ((M.1,(cD I.1.2)),M.2))) (obind (jn (α:=gI×(List Bool)×List dy) (iW 0 I.1.1 (ck (fc I.1.1 (al I.p3)) (aF (I.2.1,I.p2,(cQ I.p3 I.1.1 (4,(aK (T:=ie) I.p3 I.1.1).2))))) (aF (I.2.1,I.p2,I.p3))) λZ=>(af (I.1.1,Z))) λr=>af (bP r)))) (((-1),0),x.2.1,x.p2,x.q3,x.1.1))
def uf (x:(Int×Int×Int)×gI×(List Bool)×List dy):Option Yd2:=qH @iter x
def jG (x:(Int×Int×Int)×gI×(List Bool)×List dy):Option Yd2:=qH @gg x
def mB (it:yR) (x:(Int×Int)×gI×(List Bool)×List dy):Option Yd2:=
 (it ((Int×Int)×gI×(List Bool)×(List dy)×Int) _ (λI=>(bz I.1.2 (aZ x.q3) (jn (α:=Int×gI×(List Bool)×(List dy)×Int) (kB ie I.p3 I.1.2 λM=>(obind (mn (M,x.1.2)) λU=>(bcase U (ck (fc I.1.2 (al I.p3)) (aF ((cD I.1.1),I.2.1,I.p2,(cQ I.p3 I.1.2 (4,(aK (T:=ie) I.p3 I.1.2).2)),I.q4))) (aF (I.1.1,I.2))))) λJ=>(cK ((J.1,(cD I.1.2)),J.2))) (aF (I.1.1,I.2.1,I.p2,I.p3)))) ((0,0),x.2.1,x.p2,x.q3,x.1.1))
def qi (x:(Int×Int)×gI×(List Bool)×List dy):Option Yd2:=mB @iter x
def gW (x:(Int×Int)×gI×(List Bool)×List dy):Option Yd2:=mB @gg x
def qz (x:Int):Option (Bool):=
 (af (!decide ((x:Int)=x)))
def vQ (x:Int×Int):Option (Bool):=
 (jn (α:=Bool) (obind (qz x.1) λJ=>(bcase J (obind (qz x.2) λI=>(bcase (!I) (aF ai) (aF (fR x.1 x.2)))) (aF (fR x.1 x.2)))) λM=>(af M))
def rF (x:Int):Option (Int):=
 (iW 4294967296 x ah (iW 65536 x ah (iW 256 x ah (wa (bk .u8 x) ([0,1,2,2,3,3,3,3,4,4,4,4,4,4,4,4,5,5,5,5,5,5,5,5,5,5,5,5,5,5,5,5,6,6,6,6,6,6,6,6,6,6,6,6,6,6,6,6,6,6,6,6,6,6,6,6,6,6,6,6,6,6,6,6,7,7,7,7,7,7,7,7,7,7,7,7,7,7,7,7,7,7,7,7,7,7,7,7,7,7,7,7,7,7,7,7,7,7,7,7,7,7,7,7,7,7,7,7,7,7,7,7,7,7,7,7,7,7,7,7,7,7,7,7,7,7,7,7,8,8,8,8,8,8,8,8,8,8,8,8,8,8,8,8,8,8,8,8,8,8,8,8,8,8,8,8,8,8,8,8,8,8,8,8,8,8,8,8,8,8,8,8,8,8,8,8,8,8,8,8,8,8,8,8,8,8,8,8,8,8,8,8,8,8,8,8,8,8,8,8,8,8,8,8,8,8,8,8,8,8,8,8,8,8,8,8,8,8,8,8,8,8,8,8,8,8,8,8,8,8,8,8,8,8,8,8,8,8,8,8,8,8,8,8,8,8,8,8,8,8,8,8,8,8,8,8]) (af (bk .i64 (0+(bk .i64 (AD ([0,1,2,2,3,3,3,3,4,4,4,4,4,4,4,4,5,5,5,5,5,5,5,5,5,5,5,5,5,5,5,5,6,6,6,6,6,6,6,6,6,6,6,6,6,6,6,6,6,6,6,6,6,6,6,6,6,6,6,6,6,6,6,6,7,7,7,7,7,7,7,7,7,7,7,7,7,7,7,7,7,7,7,7,7,7,7,7,7,7,7,7,7,7,7,7,7,7,7,7,7,7,7,7,7,7,7,7,7,7,7,7,7,7,7,7,7,7,7,7,7,7,7,7,7,7,7,7,8,8,8,8,8,8,8,8,8,8,8,8,8,8,8,8,8,8,8,8,8,8,8,8,8,8,8,8,8,8,8,8,8,8,8,8,8,8,8,8,8,8,8,8,8,8,8,8,8,8,8,8,8,8,8,8,8,8,8,8,8,8,8,8,8,8,8,8,8,8,8,8,8,8,8,8,8,8,8,8,8,8,8,8,8,8,8,8,8,8,8,8,8,8,8,8,8,8,8,8,8,8,8,8,8,8,8,8,8,8,8,8,8,8,8,8,8,8,8,8,8,8,8,8,8,8,8,8]) (bk .u8 x))))))))))
def ut (x:Int):Option (Int):=
 (obind (rF x) λI=>(af I))
def jW (it:yR) (x:(Int×Int)×List Int):Option (List Int):=
 (it (Int×List Int) _ (λM=>(bz M.1 x.1.2 (it (Int×List Int) _ (λI=>(jn (α:=Bool×List Int) (bz x.1.1 I.1 (kB aM I.2 I.1 λz4=>(kB aM I.2 (bk .i64 (I.1-1)) λZ=>(obind (vQ (z4,Z)) λy6=>(aF (y6,I.2))))) (aF (aj,I.2))) λJ=>(bcase J.1 (kB aM J.2 (bk .i64 (I.1-1)) λU=>(kB aM J.2 I.1 λY=>(ck (fc I.1 (al J.2)) (ck (fc (bk .i64 (I.1-1)) (al (cQ J.2 I.1 U))) (cK ((bk .i64 (I.1-1)),(cQ (cQ J.2 I.1 U) (bk .i64 (I.1-1)) Y))))))) (aF (lz ((cD M.1),J.2)))))) M) (aF M.2))) ((cD x.1.1),x.2))
def jV (x:(Int×Int)×List Int):Option (List Int):=jW @iter x
def fV (x:(Int×Int)×List Int):Option (List Int):=jW @gg x
def ov (it:yR) (x:(Int×Int×Int)×List Int):Option (List Int):=
 (it ((Int×Int×Int×Bool×Bool)×List Int) _ (λI=>(iW (bk .i64 (I.1.2.1-I.1.1)) 12 (obind (fV ((I.1.1,I.1.2.1),I.2)) λJ=>(bC (aC (al I.2) (al J)&&ai) (aF J))) (be I.1.p2 0 ah (bcase (!I.1.p3) ah ah)))) ((x.1.1,x.1.2.1,x.1.2.2,ai,ai),x.2))
def ol (x:(Int×Int×Int)×List Int):Option (List Int):=ov @iter x
def jg (x:(Int×Int×Int)×List Int):Option (List Int):=ov @gg x
def wI (x:List Int):Option (List Int):=
 (obind (ut (bk .u64 (aZ x))) λJ=>(obind (jg ((0,(aZ x),J),x)) λI=>(bC (aC (al x) (al I)&&ai) (af I))))
def xO (it:yR) (x:List Int):Option (List Int):=
 (bz (aZ x) 2 (af x) (it (Int×List Int) _ (λI=>(bz I.1 (aZ I.2) (kB aM I.2 I.1 λM=>(kB aM I.2 (bk .i64 (I.1-1)) λJ=>(be M J (bC (c8 0 I.1&&fR I.1 (al I.2)) ah) (cK ((cD I.1),I.2))))) (aF I.2))) (1,x)))
def xA (x:List Int):Option (List Int):=xO @iter x
def lJ (x:List Int):Option (List Int):=xO @gg x
def oZ (x:Int×Int):Option (Bool×Int):=
 (af ((decide ((x.1:Int)=x.2)),x.2))
def uF (it:yR) (x:(List Int)×Int):Option (Int×(List Int)×Int):=
 (it (Int×(List Int)×Int) _ (λI=>(bz I.1 (aZ x.1) (kB aM I.2.1 I.1 λM=>(obind (oZ (M,I.2.2)) λJ=>(bcase J.1 (aF (I.1,I.2.1,J.2)) (cK ((cD I.1),I.2.1,J.2))))) (aF ((-1),I.2)))) (0,x))
def ug (x:(List Int)×Int):Option (Int×(List Int)×Int):=uF @iter x
def nh (x:(List Int)×Int):Option (Int×(List Int)×Int):=uF @gg x
def sY (it:yR) (x:(List Int)×Int):Option (Int×List Int):=
 (obind (nh x) λJ=>(bC (aC (al x.1) (al J.2.1)&&ai) (be J.1 (-1) ah (it ((Int×Int)×(List Int)×Int) _ (λI=>(bz I.1.2 (aZ I.2.1) (jn (α:=Int×(List Int)×Int) (kB aM I.2.1 I.1.2 λU=>(obind (oZ (U,I.2.2)) λM=>(bcase (!M.1) (ck (fc I.1.1 (al I.2.1)) (aF ((cD I.1.1),(cQ I.2.1 I.1.1 U),M.2))) (aF (I.1.1,I.2.1,M.2))))) λY=>(cK ((Y.1,(cD I.1.2)),Y.2))) (obind (ck (c8 0 I.1.1&&fR I.1.1 (al I.2.1)) (bC (c8 0 I.1.1&&fR I.1.1 (al (dQ (aU I.1.1) I.2.1++aG (al I.2.1-aU I.1.1) (0:Int)))) (af (I.2.2,(dQ (aU I.1.1) (dQ (aU I.1.1) I.2.1++aG (al I.2.1-aU I.1.1) (0:Int))))))) λr=>af (bP r)))) ((J.1,(cD J.1)),J.2)))))
def sT (x:(List Int)×Int):Option (Int×List Int):=sY @iter x
def je (x:(List Int)×Int):Option (Int×List Int):=sY @gg x
def gX (x:dz×pa×Int×Int×Int×Int):Option (pa×Int×Bool):=
 (obind (jd (x.1,x.2.1,x.p2,x.p3,x.p4)) λy1=>(bcase (!y1) (af ((([]:List (Int×List Int)),0,([]:List Bool),([]:List dy)),0,aj)) (obind (ku x.2.1) λJ=>(jn (α:=Int×Int×Int×gI×(List Bool)×List dy) (be x.p3 1 (ck (fc x.p2 (al J.q3)) (aF (0,J.1,0,J.2.1,J.p2,(cQ J.q3 x.p2 (2,(aK (T:=ie) J.q3 x.p2).2))))) (be x.p3 2 (ck (fc x.p2 (al J.q3)) (aF (0,J.1,0,J.2.1,J.p2,(cQ J.q3 x.p2 (5,(aK (T:=ie) J.q3 x.p2).2))))) (jn (α:=Bool×dz×Int×Int×Int×gI×(List Bool)×List dy) (be x.p3 6 (aF ((decide ((x.p3:Int)=6)),x.1,J.1,x.p2,0,J.2)) (aF ((decide ((x.p3:Int)=10)),x.1,J.1,x.p2,0,J.2))) λY=>(bcase Y.1 (ck (fc x.p4 (al Y.p5)) (aF (0,Y.p2,Y.p4,(cQ Y.p5 x.p4 (Y.p3,(aK (T:=d_) Y.p5 x.p4).2)),Y.q6))) (jn (α:=Bool×dz×Int×Int×Int×gI×(List Bool)×List dy) (be x.p3 7 (aF ((decide ((x.p3:Int)=7)),Y.2)) (aF ((decide ((x.p3:Int)=11)),Y.2))) λI=>(bcase I.1 (ck (fc x.p4 (al I.p5)) (aF (0,I.p2,I.p4,(cQ I.p5 x.p4 ((-1),(aK (T:=d_) I.p5 x.p4).2)),I.q6))) (be x.p3 8 (kB d_ I.p5 x.p4 λz6=>ah) (be x.p3 9 (kB d_ I.p5 x.p4 λz7=>ah) (be x.p3 12 (aF (0,I.q3)) (be x.p3 13 (aF (0,(-1),I.q4)) (be x.p3 14 (ck (fc I.p3 (al I.q7)) (aF (0,I.p2,I.p4,I.p5,I.p6,(cQ I.q7 I.p3 ((aK (T:=ie) I.q7 I.p3).1,((aK (T:=ie) I.q7 I.p3).2).1,ai))))) (be x.p3 15 (ck (fc I.p3 (al I.q7)) (aF (0,I.p2,I.p4,I.p5,I.p6,(cQ I.q7 I.p3 ((aK (T:=ie) I.q7 I.p3).1,((aK (T:=ie) I.q7 I.p3).2).1,aj))))) (be x.p3 16 (bB lm I.2.1.p2 x.p4 λz8=>(ck (fc z8.2 (al I.p5)) (ck (fc I.p3 (al I.q7)) (ck (fc I.p3 (al (cQ I.q7 I.p3 (3,(aK (T:=ie) I.q7 I.p3).2)))) (aF (0,I.p2,I.p4,(cQ I.p5 z8.2 ((-1),(aK (T:=d_) I.p5 z8.2).2)),I.p6,(cQ (cQ I.q7 I.p3 (3,(aK (T:=ie) I.q7 I.p3).2)) I.p3 ((aK (T:=ie) (cQ I.q7 I.p3 (3,(aK (T:=ie) I.q7 I.p3).2)) I.p3).1,x.p4,((aK (T:=ie) (cQ I.q7 I.p3 (3,(aK (T:=ie) I.q7 I.p3).2)) I.p3).2).2)))))))) (be x.p3 17 (bB lm I.2.1.p2 x.p4 λz9=>(ck (fc z9.2 (al I.p5)) (ck (fc I.p3 (al I.q7)) (ck (fc I.p3 (al (cQ I.q7 I.p3 (2,(aK (T:=ie) I.q7 I.p3).2)))) (aF (0,I.p2,I.p4,(cQ I.p5 z9.2 (I.p3,(aK (T:=d_) I.p5 z9.2).2)),I.p6,(cQ (cQ I.q7 I.p3 (2,(aK (T:=ie) I.q7 I.p3).2)) I.p3 ((aK (T:=ie) (cQ I.q7 I.p3 (2,(aK (T:=ie) I.q7 I.p3).2)) I.p3).1,0,((aK (T:=ie) (cQ I.q7 I.p3 (2,(aK (T:=ie) I.q7 I.p3).2)) I.p3).2).2)))))))) (be x.p3 18 (obind (jG ((I.p2,x.q4),I.q5)) λU=>(bC (aC (al I.q7) (al U.q3)&&(aC (al I.p6) (al U.p2)&&(aC (al I.p5) (al U.2.1)&&ai))) (aF (U.1,I.p2,I.p4,U.2)))) (be x.p3 19 (obind (gW ((I.p2,x.p4),I.q5)) λM=>(bC (aC (al I.q7) (al M.q3)&&(aC (al I.p6) (al M.p2)&&(aC (al I.p5) (al M.2.1)&&ai))) (aF (M.1,I.p2,I.p4,M.2)))) (be x.p3 20 (ck (fc x.p4 (al I.q7)) (aF (0,I.p2,I.p4,I.p5,I.p6,(cQ I.q7 x.p4 (1,(aK (T:=ie) I.q7 x.p4).2))))) (be x.p3 22 (ck (fc x.p4 (al I.p6)) (aF (0,I.p2,I.p4,I.p5,(cQ I.p6 x.p4 ai),I.q7))) (aF (0,I.p2,I.q4)))))))))))))))))))) λZ=>(af ((Z.p3,Z.2.1,Z.q4),Z.1,ai))))))
def ne (x:gI×Int×(List Bool)×List dy):Option (Yd6×(Int×Int×Int)×(List Int)×(List Int)×List Int):=
 (bC (c8 0 (aZ x.1)&&c8 (aZ x.1) (aZ x.1)&&a_ (aU (aZ x.1)) 32&&decide (((aZ x.1):Int)=3)) (jn (α:=pa×Int×(Int×Int×Int)×(List Int)×(List Int)×List Int) (bz 0 (aZ x.1) (bB d_ x.1 0 λI=>(obind (o6 I.2) λU=>(bz 1 (aZ x.1) (bB d_ x.1 1 λM=>(obind (o6 M.2) λy5=>(bz 2 (aZ x.1) (bB d_ x.1 2 λz6=>(obind (o6 z6.2) λy7=>(bz 3 (aZ x.1) (bB d_ x.1 3 λz8=>(obind (o6 z8.2) λy9=>ah)) (aF (x,0,(I.1,M.1,z6.1),U,y5,y7))))) (aF (x,0,(I.1,M.1,0),U,y5,([]:List Int)))))) (aF (x,0,(I.1,0,0),U,([]:List Int),([]:List Int)))))) (aF (x,0,(0,0,0),([]:List Int),([]:List Int),([]:List Int)))) λJ=>(obind (Oy J.1.p2) λZ=>(obind (Ox J.1.q3) λY=>(af ((J.1.2.1,Z,Y),J.2.2))))))
def kY (x:dz×pa×Int×Int×Int×Int):Option (pa×Int×Bool):=
 (obind (jd (x.1,x.2.1,x.p2,x.p3,x.p4)) λy1=>(bcase (!y1) (af ((([]:List (Int×List Int)),0,([]:List Bool),([]:List dy)),0,aj)) (obind (ne x.2.1) λM=>(jn (α:=Int×Yd6×Int×((Int×List Int)×(Int×List Int)×Int)×Bool×List Int) (be x.p3 1 (wa x.p2 M.1.2.2 ah) (be x.p3 2 (wa x.p2 M.1.2.2 ah) (jn (α:=Bool×dz×Yd6×Int×Int×(Int×Int×Int)×(List Int)×(List Int)×List Int) (be x.p3 6 (aF ((decide ((x.p3:Int)=6)),x.1,M.1,x.p2,0,M.2)) (aF ((decide ((x.p3:Int)=10)),x.1,M.1,x.p2,0,M.2))) λJ=>(bcase J.1 ah (jn (α:=Bool×dz×Yd6×Int×Int×(Int×(List Int)×Int×(List Int)×Int)×List Int) (be x.p3 7 (aF ((decide ((x.p3:Int)=7)),J.2.1,J.p2,J.p3,J.p4,(J.p5.1,J.p6,J.p5.2.1,J.p7,J.p5.2.2),J.q8)) (aF ((decide ((x.p3:Int)=11)),J.2.1,J.p2,J.p3,J.p4,(J.p5.1,J.p6,J.p5.2.1,J.p7,J.p5.2.2),J.q8))) λI=>(bcase I.1 ah (be x.p3 8 (be x.p4 0 ah (be x.p4 1 ah (be x.p4 2 (bC (a_ (al I.q6+al ([I.p3])) 8) (obind (wI (I.q6++([I.p3]))) λY=>(bC (aC (al (I.q6++([I.p3]))) (al Y)&&ai) (obind (lJ Y) λZ=>(bC (aC (al Y) (al Z)&&ai) (aF (0,I.p2,I.p4,((I.p5.1,I.p5.2.1),(I.p5.p2,I.p5.p3),I.p5.q4),ai,Z))))))) ah))) (be x.p3 9 (be x.p4 0 ah (be x.p4 1 ah (be x.p4 2 (obind (je (I.q6,I.p3)) λy8=>(bC (aC (al I.q6) (al I.q6)&&ai) (aF (0,I.p2,I.p4,((I.p5.1,I.p5.2.1),(I.p5.p2,I.p5.p3),I.p5.q4),aj,y8.2)))) ah))) (be x.p3 12 (aF (0,(I.p3,I.p2.2),I.p4,((I.p5.1,I.p5.2.1),(I.p5.p2,I.p5.p3),I.p5.q4),ai,I.q6)) (be x.p3 13 (aF (0,((-1),I.p2.2),I.p4,((I.p5.1,I.p5.2.1),(I.p5.p2,I.p5.p3),I.p5.q4),ai,I.q6)) (be x.p3 14 (wa I.p3 I.p2.2.2 ah) (be x.p3 15 (wa I.p3 I.p2.2.2 ah) (be x.p3 16 ah (be x.p3 17 ah (be x.p3 18 ah (be x.p3 19 ah (be x.p3 20 (wa x.p4 I.p2.2.2 ah) (be x.p3 22 (wa x.p4 I.p2.2.1 ah) (aF (0,I.p2,I.p4,((I.p5.1,I.p5.2.1),(I.p5.p2,I.p5.p3),I.p5.q4),ai,I.q6)))))))))))))))))))) λU=>(af (([U.p3.1,U.p3.2.1,(U.p3.2.2,U.q5)],U.2.1),U.1,ai))))))
def r7 (x:dz×pa×Int×Int×Int×Int):Option (pa×Int×Bool):=orE (gX x) (kY x)
def fQ (x:dz×eH×Int×Int×Int×Int×Int×(List Int)×List Int):Option (eH×Bool):=
 (jn (α:=Bool×dz×eH×gh×Int) (obind (kU (x.1,x.2.1)) λy2=>(bcase (!y2) (aF (ai,x.1,x.2.1,x.2.2,0)) (bz x.p2 0 (aF (ai,x.1,x.2.1,x.2.2,0)) (iW (aZ x.1.p4) x.p2 (aF (ai,x.1,x.2.1,x.2.2,0)) (bz x.p3 1 (aF (ai,x.1,x.2.1,x.2.2,0)) (aF ((fR 23 x.p3),x.1,x.2.1,x.2.2,0))))))) λM=>(bcase M.1 (af (((([]:List (Int×List Int)),0,([]:List Bool),([]:List dy)),([]:List Int),([]:List Int),([]:List Int)),aj)) (jn (α:=Bool×dz×eH×gh×Int) (obind (jd (M.2.1,M.p2.1,M.p3.1,M.p3.2.1,M.p3.p2)) λy4=>(bcase (!y4) (aF (ai,M.2)) (obind (jB (M.2.1,M.p3)) λy5=>(bcase (!y5) (aF (ai,M.2)) (obind (eV (M.2.1,M.p2,M.p3)) λy6=>(bcase (!y6) (aF (ai,M.2)) (obind (gB (M.p2,M.p3)) λy7=>(aF ((!y7),M.2))))))))) λx3=>(bcase x3.1 (af (((([]:List (Int×List Int)),0,([]:List Bool),([]:List dy)),([]:List Int),([]:List Int),([]:List Int)),aj)) (jn (α:=Int×dz×eH×gh×Int) (be x3.p3.2.1 18 (aF (x3.p3.p3,x3.2)) (aF ((-1),x3.2))) λI=>(obind (r7 (I.2.1,I.p2.1,I.p3.1,I.p3.2.1,I.p3.p2,I.1)) λy9=>(bcase (!y9.2.2) (af (((([]:List (Int×List Int)),0,([]:List Bool),([]:List dy)),([]:List Int),([]:List Int),([]:List Int)),aj)) (obind (zg I.p2.2.1) λY=>(obind (zg I.p2.p2) λU=>(obind (o6 I.p2.q3) λZ=>(jn (α:=gh×Int×pa×(List Int)×(List Int)×List Int) (be I.p3.2.1 4 (ck (fc I.p3.p2 (al Y)) (aF (I.p3,I.q4,y9.1,(cQ Y I.p3.p2 I.p3.p3),U,Z))) (be I.p3.2.1 22 (ck (fc I.p3.p2 (al U)) (aF (I.p3,I.q4,y9.1,Y,(cQ U I.p3.p2 I.p3.p3),Z))) (aF (I.p3,I.q4,y9.1,Y,U,Z)))) λJ=>(kB aM J.q5 J.1.1 λz14=>(ck (fc J.1.1 (al J.q5)) (af ((J.p2,J.p3,J.p4,(cQ J.q5 J.1.1 (cD z14))),ai)))))))))))))))
def lM (it:yR) (x:dz×List gh):Option (Int×Int):=
 (bz 400 (aZ x.2) (af (0,2)) (obind (dP x.1) λy1=>(bcase (!y1) (af (0,1)) (obind (dl x.1) λy2=>(bC (c8 0 (aZ x.1.p4)&&c8 (aZ x.1.p4) (aZ x.1.p4)&&a_ (aU (aZ x.1.p4)) 24&&decide (((aZ x.1.p4):Int)=1)) (it (Int×(dz×List gh)×eH×List Bool) _ (λJ=>(bz J.1 (aZ x.2) (bB fH x.2 J.1 λM=>(obind (fQ (J.2.1.1,J.p2,M)) λU=>(jn (α:=Bool×(dz×List gh)×eH×gh×eH×List Bool) (be M.1 0 (bcase (!U.2) (aF (ai,J.2.1,J.p2,(0,M.2),U.1,J.q3)) (obind (cj (J.q3,0,M.2)) λZ=>(aF ((!Z),J.2.1,J.p2,(0,M.2),U.1,J.q3)))) ah) λI=>(bcase I.1 (aF (J.1,12)) (jn (α:=(dz×List gh)×eH×eH×List Bool) (be I.p3.1 0 (be I.p3.2.1 3 (bC (a_ (al I.q5+al ([ai])) 1) (aF (I.2.1,I.p2,I.p4,(I.q5++([ai]))))) (bC (a_ (al I.q5+al ([(decide ((I.p3.2.1:Int)=23))])) 1) (aF (I.2.1,I.p2,I.p4,(I.q5++([(decide ((I.p3.2.1:Int)=23))])))))) ah) λY=>(cK ((cD J.1),Y.1,Y.2.2))))))) (aF (0,0)))) (0,x,y2,([]:List Bool))))))))
def pi (x:dz×List gh):Option (Int×Int):=lM @iter x
def ey (x:dz×List gh):Option (Int×Int):=lM @gg x
def jL (it:yR) (x:dz×List gh):Option (Int×Int):=
 (bz 400 (aZ x.2) (af (0,2)) (obind (dP x.1) λy1=>(bcase (!y1) (af (0,1)) (obind (dl x.1) λy2=>(bC (c8 0 (aZ x.1.p4)&&c8 (aZ x.1.p4) (aZ x.1.p4)&&a_ (aU (aZ x.1.p4)) 24&&decide (((aZ x.1.p4):Int)=2)) (it (Int×(dz×List gh)×eH×(List Bool)×List Bool) _ (λJ=>(bz J.1 (aZ x.2) (bB fH x.2 J.1 λM=>(obind (fQ (J.2.1.1,J.p2,M)) λU=>(jn (α:=Bool×(dz×List gh)×eH×gh×eH×(List Bool)×List Bool) (be M.1 0 (bcase (!U.2) (aF (ai,J.2.1,J.p2,(0,M.2),U.1,J.q3)) (obind (cj (J.p3,0,M.2)) λy7=>(aF ((!y7),J.2.1,J.p2,(0,M.2),U.1,J.q3)))) (be M.1 1 (bcase (!U.2) (aF (ai,J.2.1,J.p2,(1,M.2),U.1,J.q3)) (obind (cj (J.q4,1,M.2)) λZ=>(aF ((!Z),J.2.1,J.p2,(1,M.2),U.1,J.q3)))) ah)) λI=>(bcase I.1 (aF (J.1,12)) (jn (α:=(dz×List gh)×eH×eH×(List Bool)×List Bool) (be I.p3.1 0 (be I.p3.2.1 3 (bC (a_ (al I.p5+al ([ai])) 1) (aF (I.2.1,I.p2,I.p4,(I.p5++([ai])),I.q6))) (bC (a_ (al I.p5+al ([(decide ((I.p3.2.1:Int)=23))])) 1) (aF (I.2.1,I.p2,I.p4,(I.p5++([(decide ((I.p3.2.1:Int)=23))])),I.q6)))) (be I.p3.1 1 (be I.p3.2.1 3 (bC (a_ (al I.q6+al ([ai])) 1) (aF (I.2.1,I.p2,I.p4,I.p5,(I.q6++([ai]))))) (bC (a_ (al I.q6+al ([(decide ((I.p3.2.1:Int)=23))])) 1) (aF (I.2.1,I.p2,I.p4,I.p5,(I.q6++([(decide ((I.p3.2.1:Int)=23))])))))) ah)) λY=>(cK ((cD J.1),Y.1,Y.2.2))))))) (aF (0,0)))) (0,x,y2,([]:List Bool),([]:List Bool))))))))
def ph (x:dz×List gh):Option (Int×Int):=jL @iter x
def dt (x:dz×List gh):Option (Int×Int):=jL @gg x
def jK (it:yR) (x:dz×List gh):Option (Int×Int):=
 (bz 400 (aZ x.2) (af (0,2)) (obind (dP x.1) λy1=>(bcase (!y1) (af (0,1)) (obind (dl x.1) λy2=>(bC (c8 0 (aZ x.1.p4)&&c8 (aZ x.1.p4) (aZ x.1.p4)&&a_ (aU (aZ x.1.p4)) 24&&decide (((aZ x.1.p4):Int)=3)) (it (Int×(dz×List gh)×eH×(List Bool)×(List Bool)×List Bool) _ (λJ=>(bz J.1 (aZ x.2) (bB fH x.2 J.1 λM=>(obind (fQ (J.2.1.1,J.p2,M)) λU=>(jn (α:=Bool×(dz×List gh)×eH×gh×eH×(List Bool)×(List Bool)×List Bool) (be M.1 0 (bcase (!U.2) (aF (ai,J.2.1,J.p2,(0,M.2),U.1,J.q3)) (obind (cj (J.p3,0,M.2)) λy7=>(aF ((!y7),J.2.1,J.p2,(0,M.2),U.1,J.q3)))) (be M.1 1 (bcase (!U.2) (aF (ai,J.2.1,J.p2,(1,M.2),U.1,J.q3)) (obind (cj (J.p4,1,M.2)) λy8=>(aF ((!y8),J.2.1,J.p2,(1,M.2),U.1,J.q3)))) (be M.1 2 (bcase (!U.2) (aF (ai,J.2.1,J.p2,(2,M.2),U.1,J.q3)) (obind (cj (J.q5,2,M.2)) λZ=>(aF ((!Z),J.2.1,J.p2,(2,M.2),U.1,J.q3)))) ah))) λI=>(bcase I.1 (aF (J.1,12)) (jn (α:=(dz×List gh)×eH×eH×(List Bool)×(List Bool)×List Bool) (be I.p3.1 0 (be I.p3.2.1 3 (bC (a_ (al I.p5+al ([ai])) 1) (aF (I.2.1,I.p2,I.p4,(I.p5++([ai])),I.q6))) (bC (a_ (al I.p5+al ([(decide ((I.p3.2.1:Int)=23))])) 1) (aF (I.2.1,I.p2,I.p4,(I.p5++([(decide ((I.p3.2.1:Int)=23))])),I.q6)))) (be I.p3.1 1 (be I.p3.2.1 3 (bC (a_ (al I.p6+al ([ai])) 1) (aF (I.2.1,I.p2,I.p4,I.p5,(I.p6++([ai])),I.q7))) (bC (a_ (al I.p6+al ([(decide ((I.p3.2.1:Int)=23))])) 1) (aF (I.2.1,I.p2,I.p4,I.p5,(I.p6++([(decide ((I.p3.2.1:Int)=23))])),I.q7)))) (be I.p3.1 2 (be I.p3.2.1 3 (bC (a_ (al I.q7+al ([ai])) 1) (aF (I.2.1,I.p2,I.p4,I.p5,I.p6,(I.q7++([ai]))))) (bC (a_ (al I.q7+al ([(decide ((I.p3.2.1:Int)=23))])) 1) (aF (I.2.1,I.p2,I.p4,I.p5,I.p6,(I.q7++([(decide ((I.p3.2.1:Int)=23))])))))) ah))) λY=>(cK ((cD J.1),Y.1,Y.2.2))))))) (aF (0,0)))) (0,x,y2,([]:List Bool),([]:List Bool),([]:List Bool))))))))
def pg (x:dz×List gh):Option (Int×Int):=jK @iter x
def dL (x:dz×List gh):Option (Int×Int):=jK @gg x
def jJ (it:yR) (x:dz×List gh):Option (Int×Int):=
 (bz 400 (aZ x.2) (af (0,2)) (obind (dP x.1) λy1=>(bcase (!y1) (af (0,1)) (obind (dl x.1) λy2=>(bC (c8 0 (aZ x.1.p4)&&c8 (aZ x.1.p4) (aZ x.1.p4)&&a_ (aU (aZ x.1.p4)) 24&&decide (((aZ x.1.p4):Int)=4)) (it (Int×(dz×List gh)×eH×(List Bool)×(List Bool)×(List Bool)×List Bool) _ (λJ=>(bz J.1 (aZ x.2) (bB fH x.2 J.1 λM=>(obind (fQ (J.2.1.1,J.p2,M)) λU=>(jn (α:=Bool×(dz×List gh)×eH×gh×eH×(List Bool)×(List Bool)×(List Bool)×List Bool) (be M.1 0 (bcase (!U.2) (aF (ai,J.2.1,J.p2,(0,M.2),U.1,J.q3)) (obind (cj (J.p3,0,M.2)) λy7=>(aF ((!y7),J.2.1,J.p2,(0,M.2),U.1,J.q3)))) (be M.1 1 (bcase (!U.2) (aF (ai,J.2.1,J.p2,(1,M.2),U.1,J.q3)) (obind (cj (J.p4,1,M.2)) λy8=>(aF ((!y8),J.2.1,J.p2,(1,M.2),U.1,J.q3)))) (be M.1 2 (bcase (!U.2) (aF (ai,J.2.1,J.p2,(2,M.2),U.1,J.q3)) (obind (cj (J.p5,2,M.2)) λy9=>(aF ((!y9),J.2.1,J.p2,(2,M.2),U.1,J.q3)))) (be M.1 3 (bcase (!U.2) (aF (ai,J.2.1,J.p2,(3,M.2),U.1,J.q3)) (obind (cj (J.q6,3,M.2)) λZ=>(aF ((!Z),J.2.1,J.p2,(3,M.2),U.1,J.q3)))) ah)))) λI=>(bcase I.1 (aF (J.1,12)) (jn (α:=(dz×List gh)×eH×eH×(List Bool)×(List Bool)×(List Bool)×List Bool) (be I.p3.1 0 (be I.p3.2.1 3 (bC (a_ (al I.p5+al ([ai])) 1) (aF (I.2.1,I.p2,I.p4,(I.p5++([ai])),I.q6))) (bC (a_ (al I.p5+al ([(decide ((I.p3.2.1:Int)=23))])) 1) (aF (I.2.1,I.p2,I.p4,(I.p5++([(decide ((I.p3.2.1:Int)=23))])),I.q6)))) (be I.p3.1 1 (be I.p3.2.1 3 (bC (a_ (al I.p6+al ([ai])) 1) (aF (I.2.1,I.p2,I.p4,I.p5,(I.p6++([ai])),I.q7))) (bC (a_ (al I.p6+al ([(decide ((I.p3.2.1:Int)=23))])) 1) (aF (I.2.1,I.p2,I.p4,I.p5,(I.p6++([(decide ((I.p3.2.1:Int)=23))])),I.q7)))) (be I.p3.1 2 (be I.p3.2.1 3 (bC (a_ (al I.p7+al ([ai])) 1) (aF (I.2.1,I.p2,I.p4,I.p5,I.p6,(I.p7++([ai])),I.q8))) (bC (a_ (al I.p7+al ([(decide ((I.p3.2.1:Int)=23))])) 1) (aF (I.2.1,I.p2,I.p4,I.p5,I.p6,(I.p7++([(decide ((I.p3.2.1:Int)=23))])),I.q8)))) (be I.p3.1 3 (be I.p3.2.1 3 (bC (a_ (al I.q8+al ([ai])) 1) (aF (I.2.1,I.p2,I.p4,I.p5,I.p6,I.p7,(I.q8++([ai]))))) (bC (a_ (al I.q8+al ([(decide ((I.p3.2.1:Int)=23))])) 1) (aF (I.2.1,I.p2,I.p4,I.p5,I.p6,I.p7,(I.q8++([(decide ((I.p3.2.1:Int)=23))])))))) ah)))) λY=>(cK ((cD J.1),Y.1,Y.2.2))))))) (aF (0,0)))) (0,x,y2,([]:List Bool),([]:List Bool),([]:List Bool),([]:List Bool))))))))
def pf (x:dz×List gh):Option (Int×Int):=jJ @iter x
def eo (x:dz×List gh):Option (Int×Int):=jJ @gg x
def my (x:dz×List gh):Option (Int×Int):=orE (eo x) (orE (dL x) (orE (dt x) (ey x)))
def xJ (it:yR) (x:dz×List gh):Option ((List (List Int))×Int):=
 (obind (my x) λY=>(iV Y.2 0 (af (([]:List (List Int)),12)) (obind (pO x.1) λU=>(bC (c8 0 (aZ x.2)&&c8 (aZ x.2) (aZ x.2)&&a_ (aU (aZ x.2)) 24) (it (Int×(dz×List gh)×Yd0×List (List Int)) _ (λI=>(bz I.1 (aZ x.2) (bB fH x.2 I.1 λM=>(obind (sF (I.2.1.1,I.p2,M)) λJ=>(ck (fc I.1 (al I.q3)) (cK ((cD I.1),I.2.1,J.1,(cQ I.q3 I.1 J.2)))))) (aF (I.q3,0)))) (0,x,U,(aG (aU (aZ x.2)) ([]:List Int))))))))
def B2 (x:dz×List gh):Option ((List (List Int))×Int):=xJ @iter x
def px (x:dz×List gh):Option ((List (List Int))×Int):=xJ @gg x
def Av (it:yR) (x:dz×List gh):Option (Yd5×Int):=
 (obind (px x) λY=>(iV Y.2 0 (af (([]:List (Int×Int)),Y.2)) (obind (pw x.2) λy2=>(it (Int×(dz×List gh)×List (Int×Int)) _ (λJ=>(bz J.1 (aZ x.2) (it (Int×(dz×List gh)×List (Int×Int)) _ (λI=>(bz I.1 J.1 (jn (α:=(dz×List gh)×List (Int×Int)) (jn (α:=Bool×(dz×List gh)×List (Int×Int)) (obind (qy (I.2.1,I.1,J.1)) λy7=>(bcase y7 (bB (.sl aM) Y.1 J.1 λz8=>(bB gR y2 I.1 λZ=>(obind (mo (z8,Z)) λU=>(aF ((!U),I.2))))) (aF (aj,I.2)))) λM=>(bcase M.1 (bC (a_ (al M.2.2+al ([(I.1,J.1)])) 16) (aF (M.2.1,(M.2.2++([(I.1,J.1)]))))) (aF M.2))) λx5=>(cK ((cD I.1),x5))) (aF (lz ((cD J.1),I.2))))) (0,J.2)) (aF (J.2.2,0)))) (0,x,([]:List (Int×Int)))))))
def EJ (x:dz×List gh):Option (Yd5×Int):=Av @iter x
def nR (x:dz×List gh):Option (Yd5×Int):=Av @gg x
def O4 (it:yR) (x:Unit):Option dz:=
 (it Yd3 _ (λJ=>(bz J.1 (aP (al ([[109,97,105,110],[116,49],[116,50],[116,51]]))) (it Yd3 _ (λI=>(bz I.1 6 (bC (a_ (al I.q6+al ([(J.1,I.1,(bk .i64 ((bk .i64 ((bk .i64 (10*J.1))+I.1))+1)))])) 24) (cK ((cD I.1),I.2.1,I.p2,I.p3,I.p4,I.p5,(I.q6++([(J.1,I.1,(bk .i64 ((bk .i64 ((bk .i64 (10*J.1))+I.1))+1)))]))))) (aF (lz ((cD J.1),I.2))))) (0,J.2)) (aF J.2))) (0,[([120],0,0,aj,0),([121],0,0,aj,1),([118],0,0,ai,0),([113],0,2,aj,0),([113],1,2,aj,0)],[([109],aj),([110],aj),([114],ai)],[([99],0)],[[102]],[[109,97,105,110],[116,49],[116,50],[116,51]],([]:List (Int×Int×Int))))
def Ou (x:Unit):Option dz:=O4 @iter x
def C6 (x:Unit):Option dz:=O4 @gg x
def xC (x:Bool):Option (dz×List gh):=
 (obind (C6 ()) λI=>(jn (α:=dz×List gh) (bcase x (kB fH ([(0,1,(-1),0,(-1),([]:List Int),([]:List Int)),(0,20,1,0,0,([]:List Int),([]:List Int)),(1,1,(-1),0,(-1),([]:List Int),([]:List Int)),(0,6,0,0,0,([]:List Int),([]:List Int)),(0,4,0,1,0,([]:List Int),([]:List Int)),(0,7,0,0,0,([]:List Int),([]:List Int)),(1,6,0,0,6,([]:List Int),([]:List Int)),(1,4,0,2,6,([]:List Int),([]:List Int))]) 0 λz3=>(kB fH ([(0,1,(-1),0,(-1),([]:List Int),([]:List Int)),(0,20,1,0,0,([]:List Int),([]:List Int)),(1,1,(-1),0,(-1),([]:List Int),([]:List Int)),(0,6,0,0,0,([]:List Int),([]:List Int)),(0,4,0,1,0,([]:List Int),([]:List Int)),(0,7,0,0,0,([]:List Int),([]:List Int)),(1,6,0,0,6,([]:List Int),([]:List Int)),(1,4,0,2,6,([]:List Int),([]:List Int))]) 1 λZ=>(kB fH ([(0,1,(-1),0,(-1),([]:List Int),([]:List Int)),(0,20,1,0,0,([]:List Int),([]:List Int)),(1,1,(-1),0,(-1),([]:List Int),([]:List Int)),(0,6,0,0,0,([]:List Int),([]:List Int)),(0,4,0,1,0,([]:List Int),([]:List Int)),(0,7,0,0,0,([]:List Int),([]:List Int)),(1,6,0,0,6,([]:List Int),([]:List Int)),(1,4,0,2,6,([]:List Int),([]:List Int))]) 2 λY=>(kB fH ([(0,1,(-1),0,(-1),([]:List Int),([]:List Int)),(0,20,1,0,0,([]:List Int),([]:List Int)),(1,1,(-1),0,(-1),([]:List Int),([]:List Int)),(0,6,0,0,0,([]:List Int),([]:List Int)),(0,4,0,1,0,([]:List Int),([]:List Int)),(0,7,0,0,0,([]:List Int),([]:List Int)),(1,6,0,0,6,([]:List Int),([]:List Int)),(1,4,0,2,6,([]:List Int),([]:List Int))]) 6 λU=>(kB fH ([(0,1,(-1),0,(-1),([]:List Int),([]:List Int)),(0,20,1,0,0,([]:List Int),([]:List Int)),(1,1,(-1),0,(-1),([]:List Int),([]:List Int)),(0,6,0,0,0,([]:List Int),([]:List Int)),(0,4,0,1,0,([]:List Int),([]:List Int)),(0,7,0,0,0,([]:List Int),([]:List Int)),(1,6,0,0,6,([]:List Int),([]:List Int)),(1,4,0,2,6,([]:List Int),([]:List Int))]) 4 λM=>(kB fH ([(0,1,(-1),0,(-1),([]:List Int),([]:List Int)),(0,20,1,0,0,([]:List Int),([]:List Int)),(1,1,(-1),0,(-1),([]:List Int),([]:List Int)),(0,6,0,0,0,([]:List Int),([]:List Int)),(0,4,0,1,0,([]:List Int),([]:List Int)),(0,7,0,0,0,([]:List Int),([]:List Int)),(1,6,0,0,6,([]:List Int),([]:List Int)),(1,4,0,2,6,([]:List Int),([]:List Int))]) 7 λJ=>(aF (I,[z3,Z,Y,U,M,J])))))))) (aF (I,[(0,1,(-1),0,(-1),([]:List Int),([]:List Int)),(0,20,1,0,0,([]:List Int),([]:List Int)),(1,1,(-1),0,(-1),([]:List Int),([]:List Int)),(0,6,0,0,0,([]:List Int),([]:List Int)),(0,4,0,1,0,([]:List Int),([]:List Int)),(0,7,0,0,0,([]:List Int),([]:List Int)),(1,6,0,0,6,([]:List Int),([]:List Int)),(1,4,0,2,6,([]:List Int),([]:List Int))]))) λx2=>(af x2)))
def tK (x:Unit):Option (Bool):=
 (obind (xC aj) λY=>(obind (nR Y) λM=>(obind (xC ai) λU=>(obind (nR U) λI=>(jn (α:=Bool) (be M.2 0 (be I.2 0 (be (aZ M.1) 0 (be (aZ I.1) 1 (bB gR I.1 0 λJ=>(aF (Ng (.pr aM (.pr aM .un)) (J.1,J.2,()) (4,5,()) !=aj))) (aF aj)) (aF aj)) (aF aj)) (aF aj)) λZ=>(af Z))))))
def wg:Nat:=1000000000
def jl (a b:List Int):List Int:=(cS (max a.length b.length)).map λi=>iE (a.getD i 0) (b.getD i 0)
theorem pQ (a b:List Int):(jl a b).length=max a.length b.length:=by simp[jl]
theorem vR (a b:List Int) (i:Nat):(jl a b).getD i 0=iE (a.getD i 0) (b.getD i 0):=by
 unfold jl;simp only[aA,ba];by_cases h:i<max a.length b.length
 .rw[v8 h];rfl
 .rw[bS (by simp only[fK];omega),bS (l:=a) (by omega),bS (l:=b) (by omega)];rfl
theorem Ll (c:List Int) (i:Nat):jw (c,(i:Int))=af (c.getD i 0):=by
 unfold jw bz wa aZ aF;simp only[];rw[wO (by omega)];simp only[c4,jh];by_cases h:i<c.length
 .rw[M6 (by simp;omega)];simp only[c4];rw[cu (cW h),sI];rfl
 .rw[qC (by simp;omega)];simp only[cZ];rw[aA,bS (by omega)];rfl
theorem aer:pJ=kh:=rfl
theorem X9 (a b:List Int) (U:a.length<=wg) (hb:b.length<=wg):kh (a,b)=af (jl a b):=by
 unfold wg at U hb;unfold kh vA ck bz bC aZ cK aF cD;have hm:max a.length b.length<=1000000000:=by omega
 rw[cu (by simp only[zl];rw[qC (by omega),qC (by omega),tG (by simp;omega) (by simp;omega)];rfl)];simp only[zl,dS,eL];have:=wM (σ:=Int×List Int) (R:=List Int) (max a.length b.length) (by omega) (λi=>((i:Int),(cS (max a.length b.length)).map λk=>if k<i then iE (a.getD k 0) (b.getD k 0) else 0)) (f:=(λI=>(bcase (fR I.1 (aP (max a.length b.length))) (obind (jw (a,I.1)) λM=>(obind (jw (b,I.1)) λJ=>(chk (fc I.1 (al I.2)) λ_=>(chk (fc I.1 (al I.2)) λ_=>(af (lz ((bk .i64 (I.1+1)),(cQ I.2 I.1 (iE M J))))))))) (af (bP I.2))))) (r:=jl a b) ?_ ?_
 .refine Eq.trans ?_ this;congr 1;simp only[Int.natCast_zero,xm,eh,aD,BL];apply dE<;>simp
 .intro i hi;simp only[];rw[vw (by simp;omega),cZ,Ll,Ll,cV,cV,cu (cW (by simpa using hi)),cu (cW (by simpa using hi)),rj hi (by omega),fU];congr 3;apply dE
  .simp
  .intro k h1 h2;simp only[bR,fK] at h2;simp only[vh,qW,nC];by_cases e:i=k
   .subst e;simp
   .by_cases h:k<i
    .rw[ay e,aE h,aE (by omega)]
    .rw[ay e,ay h,ay (by omega)]
 .simp only[];rw[wO (by simp),c4];congr 2;unfold jl;apply qb;intro k hk;rw[aE (lj.1 hk)]
theorem ZV (a b:List Int) (U:a.length<=wg) (hb:b.length<=wg):tM (a,b)=af (jl a b,b):=by
 unfold wg at U hb;unfold tM H9 ck bz bC aZ cK aF cD;have hm:max a.length b.length<=1000000000:=by omega
 rw[cu (by simp only[zl];rw[qC (by omega),qC (by omega),tG (by simp;omega) (by simp;omega)];rfl)];simp only[zl,dS,eL];have:=wM (σ:=Int×List Int×List Int) (R:=List Int×List Int) (max a.length b.length) (by omega) (λi=>((i:Int),b,(cS (max a.length b.length)).map λk=>if k<i then iE (a.getD k 0) (b.getD k 0) else 0)) (f:=(λI=>(bcase (fR I.1 (aP (max a.length b.length))) (obind (jw (a,I.1)) λM=>(obind (jw (I.2.1,I.1)) λJ=>(chk (fc I.1 (al I.2.2)) λ_=>(chk (fc I.1 (al I.2.2)) λ_=>(af (lz ((bk .i64 (I.1+1)),I.2.1,(cQ I.2.2 I.1 (iE M J))))))))) (af (bP (I.2.2,I.2.1)))))) (r:=(jl a b,b)) ?_ ?_
 .refine Eq.trans ?_ this;congr 1;simp only[Int.natCast_zero,xm,eh,aD,BL];apply dE<;>simp
 .intro i hi;simp only[];rw[vw (by simp;omega),cZ,Ll,Ll,cV,cV,cu (cW (by simpa using hi)),cu (cW (by simpa using hi)),rj hi (by omega),fU];congr 4;apply dE
  .simp
  .intro k h1 h2;simp only[bR,fK] at h2;simp only[vh,qW,nC];by_cases e:i=k
   .subst e;simp
   .by_cases h:k<i
    .rw[ay e,aE h,aE (by omega)]
    .rw[ay e,ay h,ay (by omega)]
 .simp only[];rw[wO (by simp),c4];congr 3;unfold jl;apply qb;intro k hk;rw[aE (lj.1 hk)]
theorem TD (a b:List Int) (I:a.length<=wg) (hb:b.length<=wg):B8 (a,b)=af (jl a b):=by
 unfold B8;rw[ZV a b I hb,cV];exact Qw rfl _
def tk (c:List Int) (t:Nat):List Int:=(c++aG (t+1-c.length) 0).set t (c.getD t 0+1)
theorem MJ (c:List Int) (t:Nat):(tk c t).length=max c.length (t+1):=by simp[tk];omega
theorem aj8 (c:List Int) (n i:Nat):(c++aG n 0).getD i 0=c.getD i 0:=by
 simp only[aA];by_cases h:i<c.length
 .rw[bO h]
 .rw[ca (by omega),bS (l:=c) (by omega),lA];split<;>rfl
theorem Io (c:List Int) (t i:Nat):(tk c t).getD i 0=if i=t then c.getD t 0+1 else c.getD i 0:=by
 unfold tk;rw[aA,oW];by_cases h:t=i
 .subst h;rw[aE rfl,aE (by simp;omega),aE rfl];rfl
 .rw[ay h,ay (λe=>h e.symm),<-aA,aj8]
theorem ack (c:List Int) (n:Nat) (h:c.length<=n):Ua (aG n 0) c=c++aG (n-c.length) 0:=by
 unfold Ua;rw[eL,f_ h,List.drop_replicate]
theorem ags (c:List Int) (t:Nat) (hc:c.length<=wg) (ht:t<4) (h0:0<=c.getD t 0) (h1:c.getD t 0<9223372036854775807):sG (c,(t:Int))=af (tk c t):=by
 unfold wg at hc;unfold sG ck iW bC aZ aF cD;simp only[];rw[qC (by omega),cZ,jh,vw (by omega)];simp only[cZ,jh];have e1:iE (aP c.length) (bk .i64 ((t:Int)+1))=((max c.length (t+1):Nat):Int):=by
  rw[rj ht (by omega)];exact zl _ _
 rw[e1];rw[cu (by rw[qC (by omega),qC (by omega),tG (by simp;omega) (by simp;omega)];rfl)];rw[dS];have e2:Ua (aG (max c.length (t+1)) (0:Int)) c=c++aG (t+1-c.length) 0:=by
  rw[ack c _ (by omega)];rw[show max c.length (t+1)-c.length=t+1-c.length from by omega]
 rw[e2];have hl:t<(c++aG (t+1-c.length) (0:Int)).length:=by simp;omega
 rw[cu (cW hl),cu (cW hl),jh];have e3:aK (T:=.int .i64) (c++aG (t+1-c.length) (0:Int)) (t:Int)=c.getD t 0:=by
  rw[sI];exact aj8 c _ t
 simp only[];rw[e3,vw h1,cZ,cu (cW hl),cu (cW hl),cu (cW hl),cu (cW hl),jh,aa8 (by omega) (by omega),fU];rfl
theorem ae2 (c:List Int) (hc:c.length<=wg):ui c=af c:=by
 unfold wg at hc;unfold ui bC;rw[cu (tG (by omega) (by omega))]
theorem T5 (c:List Int) (hc:c.length<=wg):B9 c=af c:=by
 unfold wg at hc;unfold B9;rw[cu (tG (by omega) (by omega))]
theorem NX (c:List Int) (hc:c.length<=wg):vo c=af c:=by
 unfold wg at hc;unfold vo wJ bC;rw[cu (tG (by simp;omega) (by simp;omega)),cV];exact Qw rfl _
theorem NY (c:List Int) (hc:c.length<=wg):o6 c=af c:=T5 c hc
theorem Uv (c:List Int) (t:Nat) (hc:c.length<=wg) (ht:t<4) (h0:0<=c.getD t 0) (h1:c.getD t 0<9223372036854775807):pI (c,(t:Int))=af (tk c t):=by
 unfold wg at hc;unfold pI As ck bz iW bC aZ cK aF;simp only[];rw[ae2 c (by unfold wg;omega),cV,wO (by omega),c4,jh,M6 (by omega)];simp only[c4];have:=wM (σ:=List Int) (R:=List Int) (t+1-c.length) (by omega) (λi=>c++aG i 0) (f:=(λI=>(bcase (c8 (aP (al I)) (t:Int)) (chk (a_ (al I+al ([(0:Int)])) 8) λ_=>(af (lz (I++([0]))))) (obind (jn (α:=List Int) (chk (fc (t:Int) (al I)) λ_=>(chk (fc (t:Int) (al I)) λ_=>(bcase (fR (aK (T:=(.int .i64)) I (t:Int)) 9223372036854775807) (chk (fc (t:Int) (al I)) λ_=>(chk (fc (t:Int) (al I)) λ_=>(chk (fc (t:Int) (al I)) λ_=>(chk (fc (t:Int) (al I)) λ_=>(af (bP (cQ I (t:Int) (bk .i64 ((aK (T:=(.int .i64)) I (t:Int))+1))))))))) (af (bP I))))) λJ=>(af J)) λr=>af (bP r))))) (r:=tk c t) ?_ ?_
 .simpa using this
 .intro i hi;rw[qC (by simp;omega),cZ,cu (tG (by simp;omega) (by simp;omega)),fO,<-uQ]
 .have hl:t<(c++aG (t+1-c.length) (0:Int)).length:=by simp;omega
  have e3:aK (T:=.int .i64) (c++aG (t+1-c.length) (0:Int)) (t:Int)=c.getD t 0:=by
   rw[sI];exact aj8 c _ t
  rw[M6 (by simp;omega),c4,cu (cW hl),cu (cW hl),e3,vw h1,cZ,cu (cW hl),cu (cW hl),cu (cW hl),cu (cW hl),jh,cV,aa8 (by omega) (by omega),fU];rfl
def GL (l:List (List Int)):Prop:=l.length<=wg/\∀ c∈l,c.length<=wg
abbrev HTp:Type:=List (List Int)×List (List Int)×List (List Int)×List (List Int)×List (List Int)×List (List Int)×List Int×List (List Int)×List Int
def GH (h:HTp):Prop:=GL h.1/\GL h.2.1/\GL h.2.2.1/\GL h.2.2.2.1/\GL h.2.2.2.2.1/\GL h.2.2.2.2.2.1/\h.2.2.2.2.2.2.1.length<=wg/\GL h.2.2.2.2.2.2.2.1/\h.2.2.2.2.2.2.2.2.length<=wg
theorem Ju {l:List (List Int)} {i:Nat} (h:i<l.length):l.getD i []∈l:=by
 rw[aA,aB h];exact vi h
theorem GL.at {l:List (List Int)} (h:GL l) (i:Nat):(l.getD i []).length<=wg:=by
 by_cases hi:i<l.length
 .exact h.2 _ (Ju hi)
 .rw[aA,bS (by omega)];simp
theorem Ze (g:List Int->Option (List Int)) (l:List (List Int)) (hl:l.length<=wg) (hg:∀ c∈l,g c=af c):
 gg (σ:=Int×List (List Int)) (λI=>(bcase (fR I.1 (aP (al l))) (chk (fc I.1 (al l)) λ_=>(obind (g (aK (T:=(.sl (.int .i64))) l I.1)) λJ=>(chk (fc I.1 (al I.2)) λ_=>(chk (fc I.1 (al I.2)) λ_=>(af (lz ((bk .i64 (I.1+1)),(cQ I.2 I.1 J)))))))) (af (bP I.2)))) (0,(aG (aU (aP (al l))) ([]:List Int)))=af l:=by
 unfold wg at hl;have:=wM (σ:=Int×List (List Int)) (R:=List (List Int)) l.length (by omega) (λi=>((i:Int),(cS l.length).map λk=>if k<i then l.getD k [] else [])) (f:=(λI=>(bcase (fR I.1 (aP (al l))) (chk (fc I.1 (al l)) λ_=>(obind (g (aK (T:=(.sl (.int .i64))) l I.1)) λJ=>(chk (fc I.1 (al I.2)) λ_=>(chk (fc I.1 (al I.2)) λ_=>(af (lz ((bk .i64 (I.1+1)),(cQ I.2 I.1 J)))))))) (af (bP I.2))))) (r:=l) ?_ ?_
 .refine Eq.trans ?_ this;congr 1;simp only[Int.natCast_zero,xm,eh,aD,BL,au,dS];apply dE<;>simp
 .intro i hi;simp only[];rw[vw (by simp;omega),cZ,cu (cW hi),sI,show (l.getD i (Ty.zero (.sl (.int .i64))))=l.getD i [] from rfl,hg _ (Ju hi),cV,cu (cW (by simpa using hi)),cu (cW (by simpa using hi)),rj hi (by omega),fU];congr 3;apply dE
  .simp
  .intro k h1 h2;simp only[bR,fK] at h2;simp only[vh,qW,nC];by_cases e:i=k
   .subst e;simp
   .by_cases h:k<i
    .rw[ay e,aE h,aE (by omega)]
    .rw[ay e,ay h,ay (by omega)]
 .simp only[];rw[wO (by simp),c4];congr 2;apply dE
  .simp
  .intro k h1 h2;simp only[qW,nC];rw[aE h2,aA,aB h2];rfl
theorem rS (l:List (List Int)) (h:GL l):ir l=af l:=by
 have hl:=h.1;unfold wg at hl;unfold ir xI ck bz wa bC aZ cK aF cD;rw[cu (by rw[qC (by simp),qC (by omega),tG (by simp;omega) (by simp;omega)];rfl)];exact Ze B9 l h.1 λc hc=>T5 c (h.2 c hc)
theorem Zf (h:HTp) (g:GH h):uu h=af (h.2.2.2.2.2.2.1,h.1,h.2.1,h.2.2.1,h.2.2.2.1,h.2.2.2.2.1,h.2.2.2.2.2.1,h.2.2.2.2.2.2.2.1,h.2.2.2.2.2.2.2.2):=by
 obtain⟨g1,g2,g3,Z,Y,U,M,J,I⟩:=g;unfold uu aY bh bx cC dW kE qa;rw[rS _ g1,cV,rS _ g2,cV,rS _ g3,cV,rS _ Z,cV,rS _ Y,cV,rS _ U,cV,NY _ M,cV,rS _ J,cV,NY _ I,cV]
abbrev uY:Type:=List (List UInt8×Int×Int×Bool×Int)×List (List UInt8×Bool)×List (List UInt8×Int)×List (List UInt8)×List (List UInt8)×List (Int×Int×Int)
def h0 (w:uY):HTp:=(aG w.2.2.2.2.1.length [],aG w.2.2.2.2.1.length [],aG w.2.1.length [],aG w.2.1.length [],aG w.1.length [],aG w.2.2.2.1.length [],[],aG w.2.2.2.2.1.length [],aG w.2.2.2.2.1.length (-1))
theorem adi (w:uY) (h1:w.1.length<=wg) (h2:w.2.1.length<=wg) (M:w.2.2.2.1.length<=wg) (J:w.2.2.2.2.1.length<=wg):pO w=af (h0 w):=by
 unfold wg at h1 h2 M J;have c:∀ n b:Nat,n<=1000000000->b<=24->(c8 0 (aP n)&&c8 (aP n) (aP n)&&a_ (aU (aP n)) b)=ai:=λn b hn hb=>by
  have:n*b<=n*24:=Nat.mul_le_mul_left n hb;rw[qC (by simp),qC (by omega),tG (by simp;omega) (by simp;omega)];rfl
 unfold pO Au aY bh bx cC dW kE qa ck bz bC aZ cK aF cD;rw[cu (c _ 24 J (by omega)),cu (c _ 24 J (by omega)),cu (c _ 24 h2 (by omega)),cu (c _ 24 h2 (by omega)),cu (c _ 24 h1 (by omega)),cu (c _ 24 M (by omega)),cu (c _ 24 J (by omega)),cu (c _ 8 J (by omega))];simp only[au,dS,eL];have:=wM (σ:=Int×(List (List Int))×(List (List Int))×(List (List Int))×(List (List Int))×(List (List Int))×(List (List Int))×(List (List Int))×List Int) (R:=HTp) w.2.2.2.2.1.length (by omega) (λi=>((i:Int),aG w.2.2.2.2.1.length [],aG w.2.2.2.2.1.length [],aG w.2.1.length [],aG w.2.1.length [],aG w.1.length [],aG w.2.2.2.1.length [],aG w.2.2.2.2.1.length [],(cS w.2.2.2.2.1.length).map λk=>if k<i then -1 else 0)) (f:=(λI=>(bcase (fR I.1 (w.2.2.2.2.1.length:Int)) (chk (fc I.1 (al I.2.2.2.2.2.2.2.2)) λ_=>(chk (fc I.1 (al I.2.2.2.2.2.2.2.2)) λ_=>(af (lz ((bk .i64 (I.1+1)),I.2.1,I.2.2.1,I.2.2.2.1,I.2.2.2.2.1,I.2.2.2.2.2.1,I.2.2.2.2.2.2.1,I.2.2.2.2.2.2.2.1,(cQ I.2.2.2.2.2.2.2.2 I.1 (-1))))))) (af (bP (I.2.1,I.2.2.1,I.2.2.2.1,I.2.2.2.2.1,I.2.2.2.2.2.1,I.2.2.2.2.2.2.1,([]:List Int),I.2.2.2.2.2.2.2.1,I.2.2.2.2.2.2.2.2)))))) (r:=h0 w) ?_ ?_
 .refine Eq.trans ?_ this;congr 1;simp only[Int.natCast_zero,xm,eh,aD,BL];apply dE<;>simp
 .intro i hi;simp only[];rw[vw (by omega),cZ,cu (cW (by simpa using hi)),cu (cW (by simpa using hi)),rj hi (by omega),fU];congr 3;simp only[aD,BL];apply dE
  .simp
  .intro k h1 h2;simp only[bR,fK] at h2;simp only[vh,qW,nC];by_cases e:i=k
   .subst e;simp
   .by_cases h:k<i
    .rw[ay e,aE h,aE (by omega)]
    .rw[ay e,ay h,ay (by omega)]
 .simp only[];rw[wO (by omega),c4];unfold h0;congr 3;simp only[aD,BL];apply dE
  .simp
  .intro k h1 h2;simp only[eL] at h2;simp only[qW,nC,List.getElem_replicate];rw[aE h2]
theorem qB (x y:Int):iE x y=max x y:=by
 unfold iE;by_cases h:x<y
 .rw[vw h,aE rfl];omega
 .rw[wO (by omega)];simp;omega
theorem UP (a b c:Int):iE (iE a b) c=iE a (iE b c):=by
 simp only[qB];omega
theorem wL {a b:List Int} (hl:a.length=b.length) (h:∀ i,a.getD i 0=b.getD i 0):a=b:=by
 apply dE hl;intro i h1 h2;have:=h i;simpa[aA,aB h1,aB h2] using this
theorem qA (a b c:List Int):jl (jl a b) c=jl a (jl b c):=
 wL (by simp only[pQ];omega) λi=>by simp only[vR,UP]
def En (n:Int) (c:List Int):Prop:=c.length<=4/\∀ i,0<=c.getD i 0/\c.getD i 0<=n
theorem En.nil {n:Int} (h:0<=n):En n []:=⟨by simp,λi=>by simp;exact h⟩
theorem En.mono {n m:Int} {c:List Int} (h:En n c) (hm:n<=m):En m c:=⟨h.1,λi=>⟨(h.2 i).1,Int.le_trans (h.2 i).2 hm⟩⟩
theorem En.jl {n:Int} {a b:List Int} (I:En n a) (hb:En n b):En n (jl a b):=⟨by rw[pQ];have:=I.1;have:=hb.1;omega,λi=>by
 rw[vR];obtain⟨h1,h2⟩:=I.2 i;obtain⟨M,J⟩:=hb.2 i;unfold iE;split<;>exact⟨by assumption,by assumption⟩⟩
theorem En.tk {n:Int} {c:List Int} {t:Nat} (h:En n c) (ht:t<4):En (n+1) (tk c t):=⟨by rw[MJ];have:=h.1;omega,λi=>by
 rw[Io];obtain⟨h1,h2⟩:=h.2 i;obtain⟨J,I⟩:=h.2 t;split<;>omega⟩
theorem mw {n:Int} {c:List Int} (h:En n c):jl c []=c:=wL (by simp[pQ]) λi=>by
 rw[vR,qB];have:=(h.2 i).1;simp only[List.getD_nil];omega
theorem aja {n:Int} {c:List Int} (h:En n c):jl [] c=c:=wL (by simp[pQ]) λi=>by
 rw[vR,qB];have:=(h.2 i).1;simp only[List.getD_nil];omega
def BH (n:Int) (l:List (List Int)):Prop:=∀ i,En n (l.getD i [])
theorem BH.mono {n m:Int} {l:List (List Int)} (h:BH n l) (hm:n<=m):BH m l:=λi=>(h i).mono hm
theorem BH.set {n:Int} {l:List (List Int)} (h:BH n l) {c:List Int} (hc:En n c) (j:Nat):BH n (l.set j c):=λi=>by
 rw[aA,oW];by_cases e:j=i
 .subst e;rw[aE rfl];split
  .exact hc
  .have:=h j;simp only[aA] at this;rename_i hj;rw[bS (by omega)] at this;exact this
 .rw[ay e,<-aA];exact h i
theorem BH.repl {n:Int} (h:0<=n) (k:Nat):BH n (aG k []):=λi=>by
 rw[aA,lA];split<;>exact En.nil h
structure HS where
 T:List (List Int)
 S:List (List Int)
 L:List (List Int)
 R:List (List Int)
 C:List (List Int)
 F:List (List Int)
 X:List Int
 N:List (List Int)
 W:List Int
def HS.t (h:HS):HTp:=(h.T,h.S,h.L,h.R,h.C,h.F,h.X,h.N,h.W)
structure EV where
 th:Nat
 k:Nat
 ob:Nat
 va:Int
abbrev WTc:=List (List UInt8×Int)
def Ow (I:WTc) (o:Nat):Nat:=((I.getD o ([],0)).2).toNat
def CF (I:List (List UInt8×Int×Int×Bool×Int)) (o:Nat):Bool:=(I.getD o ([],0,0,aj,0)).2.2.2.1
def tF (w:uY) (h:HS) (e:EV):List (List Int):=
 if e.k=1 then [h.S.getD e.th []]
 else if e.k=21 then [h.T.getD e.ob []]
 else if e.k=6\/e.k=10 then [h.L.getD e.ob [],h.R.getD e.ob []]
 else if e.k=8 then [h.L.getD e.ob []]
 else if e.k=17 then [h.L.getD (Ow w.2.2.1 e.ob) [],h.R.getD (Ow w.2.2.1 e.ob) [],h.N.getD e.th []]
 else if e.k=3 then [h.C.getD e.ob []]
 else if e.k=23 then [h.F.getD e.ob []]
 else if e.k=12 then [h.X]
 else []
def Fu (w:uY) (h:HS) (e:EV):List Int:=tk ((tF w h e).foldl jl (h.T.getD e.th [])) e.th
def jat (l:List (List Int)) (i:Nat) (c:List Int):List (List Int):=l.set i (jl (l.getD i []) c)
def CE (p:Nat->Bool) (c:List Int) (h:HS):HS:={h with N:=h.N.mapIdx λu x=>if p u then c else x,W:=h.W.mapIdx λu x=>if p u then -1 else x}
def jN (w:uY) (h:HS) (e:EV) (c:List Int):HS:=
 let h:={h with T:=h.T.set e.th c}
 if e.k=20 then {h with S:=h.S.set e.ob c}
 else if e.k=7\/e.k=11 then {h with L:=jat h.L e.ob c}
 else if e.k=9 then {h with R:=jat h.R e.ob c}
 else if e.k=16 then {h with L:=jat h.L (Ow w.2.2.1 e.ob) c,W:=h.W.set e.th e.ob}
 else if e.k=4 then (if CF w.1 e.ob then {h with C:=jat h.C e.ob c} else h)
 else if e.k=22 then {h with F:=jat h.F e.ob c}
 else if e.k=13 then {h with X:=jl h.X c}
 else if e.k=18 then (if 0<=e.va/\e.va<h.N.length then {h with N:=h.N.set e.va.toNat c,W:=h.W.set e.va.toNat (-1)} else h)
 else if e.k=19 then CE (λu=>decide (h.W.getD u 0=(e.ob:Int))) c h
 else h
def Qn (w:uY) (h:HS) (e:EV):HS×List Int:=(jN w h e (Fu w h e),Fu w h e)
structure EOK (w:uY) (h:HS) (e:EV):Prop where
 th4:e.th<4
 th:e.th<h.T.length
 k1:1<=e.k
 k2:e.k<=23
 sp:e.k=20\/e.k=21->e.ob<h.T.length
 lk:6<=e.k/\e.k<=11->e.ob<h.L.length
 cd:e.k=16\/e.k=17->e.ob<w.2.2.1.length/\0<=(w.2.2.1.getD e.ob ([],0)).2/\Ow w.2.2.1 e.ob<h.L.length
 ce:e.k=3\/e.k=4->e.ob<h.C.length/\e.ob<w.1.length
 fu:e.k=22\/e.k=23->e.ob<h.F.length
structure Ub (n:Int) (h:HS):Prop where
 n0:0<=n
 n1:n<=1000000
 T:BH n h.T
 S:BH n h.S
 L:BH n h.L
 R:BH n h.R
 C:BH n h.C
 F:BH n h.F
 X:En n h.X
 N:BH n h.N
 lT:h.T.length<=1000
 lS:h.S.length=h.T.length
 lN:h.N.length=h.T.length
 lW:h.W.length=h.T.length
 lL:h.L.length<=1000
 lR:h.R.length=h.L.length
 lC:h.C.length<=1000
 lF:h.F.length<=1000
theorem En.lb {n:Int} {c:List Int} (h:En n c):c.length<=wg:=by have:=h.1;unfold wg;omega
theorem BH.GL {n:Int} {l:List (List Int)} (h:BH n l) (hl:l.length<=1000):GL l:=⟨by unfold wg;omega,λc hc=>by
 obtain⟨i,hi⟩:=e_ hc;have:=(h i).lb
 rwa [aA,hi] at this⟩
theorem Ub.GH {n:Int} {h:HS} (o:Ub n h):GH h.t:=
 ⟨o.T.GL o.lT,o.S.GL (by rw[o.lS];exact o.lT),o.L.GL o.lL,o.R.GL (by rw[o.lR];exact o.lL),o.C.GL o.lC,o.F.GL o.lF,o.X.lb,o.N.GL (by rw[o.lN];exact o.lT),by show h.W.length<=wg;have:=o.lT;rw[o.lW];unfold wg;omega⟩
theorem En.join {n:Int} {a b:List Int} (I:En n a) (hb:En n b):kh (a,b)=af (AI.jl a b):=X9 a b I.lb hb.lb
theorem Um {n:Int} {w:uY} {h:HS} (o:Ub n h) (e:EV):∀ c∈tF w h e,En n c:=by
 intro c hc;unfold tF at hc;repeat' (split at hc)
 all_goals simp only[bp,cz,gi] at hc
 .subst hc;exact o.S _
 .subst hc;exact o.T _
 .rcases hc with rfl|rfl
  .exact o.L _
  .exact o.R _
 .subst hc;exact o.L _
 .rcases hc with rfl|rfl|rfl
  .exact o.L _
  .exact o.R _
  .exact o.N _
 .subst hc;exact o.C _
 .subst hc;exact o.F _
 .subst hc;exact o.X
theorem Dp {n:Int}:∀ (l:List (List Int)) (c:List Int),En n c->(∀ x∈l,En n x)->En n (l.foldl jl c)
 |[],_,hc,_=>hc
 |x::r,c,hc,h=>Dp r _ (hc.jl (h x (dk ..))) λy I=>h y (cI _ I)
theorem PA {n:Int} {w:uY} {h:HS} (o:Ub n h) {e:EV} (he:e.th<4):En (n+1) (Fu w h e):=(Dp _ _ (o.T _) (Um o e)).tk he
theorem BH.jat {n:Int} {l:List (List Int)} {c:List Int} (h:BH n l) (hc:En n c) (i:Nat):BH n (jat l i c):=h.set ((h i).jl hc) i
theorem BH.mapIdx {n:Int} {l:List (List Int)} {c:List Int} (h:BH n l) (hc:En n c) (p:Nat->Bool):BH n (l.mapIdx λu x=>if p u then c else x):=λi=>by
 rw[aA,Ek];have:=h i;rw[aA] at this;cases I:l[i]? with
 |none=>rw[I] at this;exact this
 |some x=>
  rw[I] at this;simp only[ch,ve];split
  .exact hc
  .exact this
theorem aft {n:Int} {w:uY} {h:HS} (o:Ub n h) (hn:n+1<=1000000) {e:EV} {c:List Int} (hc:En (n+1) c):Ub (n+1) (jN w h e c):=by
 have m:n<=n+1:=by omega
 have oT:BH (n+1) (h.T.set e.th c):=(o.T.mono m).set hc _;have b:Ub (n+1) {h with T:=h.T.set e.th c}:=⟨by have:=o.n0;omega,hn,oT,o.S.mono m,o.L.mono m,o.R.mono m,o.C.mono m,o.F.mono m,o.X.mono m,o.N.mono m,by simpa using o.lT,by simpa using o.lS,by simpa using o.lN,by simpa using o.lW,o.lL,o.lR,o.lC,o.lF⟩
 unfold jN;simp only[];repeat' split
 .exact {b with S:=(o.S.mono m).set hc _,lS:=by simpa using b.lS}
 .exact {b with L:=(o.L.mono m).jat hc _,lL:=by simpa[jat] using b.lL,lR:=by simpa[jat] using b.lR}
 .exact {b with R:=(o.R.mono m).jat hc _,lR:=by simpa[jat] using b.lR}
 .exact {b with L:=(o.L.mono m).jat hc _,lL:=by simpa[jat] using b.lL,lR:=by simpa[jat] using b.lR,lW:=by simpa using b.lW}
 .exact {b with C:=(o.C.mono m).jat hc _,lC:=by simpa[jat] using b.lC}
 .exact b
 .exact {b with F:=(o.F.mono m).jat hc _,lF:=by simpa[jat] using b.lF}
 .exact {b with X:=(o.X.mono m).jl hc}
 .exact {b with N:=(o.N.mono m).set hc _,lN:=by simpa using b.lN,lW:=by simpa using b.lW}
 .exact b
 .exact {b with N:=(o.N.mono m).mapIdx hc _,lN:=by simpa[CE] using b.lN,lW:=by simpa[CE] using b.lW}
 .exact b
theorem aam {n:Int} {w:uY} {h:HS} (o:Ub n h) (hn:n+1<=1000000) {e:EV} (he:e.th<4):Ub (n+1) (Qn w h e).1:=aft o hn (PA o he)
theorem ad0 {a b:Nat} (h:a=b):aC a b=ai:=by subst h;exact rW a
theorem RU (l:List (List Int)) (i:Nat) (h:i<l.length):tY ((i:Int),l)=af (l.getD i [],l):=by
 unfold tY ck bz aZ aF;simp only[];rw[wO (by omega)];simp only[c4,jh];rw[M6 (by simp;omega)];simp only[c4];rw[cu (cW h),cu (cW h),qI]
theorem t7 {n:Int} (l:List (List Int)) (i:Nat) (c:List Int) (h:i<l.length) (hl:BH n l) (hc:En n c):lI ((i:Int),l,c)=af (jat l i c,c):=by
 unfold lI ck iW aZ aF;simp only[];rw[qC (by omega)];simp only[cZ,jh];rw[vw (by simp;omega)];simp only[cZ];rw[cu (cW h),cu (cW h),qI,TD _ _ (hl i).lb hc.lb,cV,cu (cW h),cu (cW h),fU];rfl
theorem rL (l:List (List Int)) (i:Nat) (c:List Int):(jat l i c).length=l.length:=by simp[jat]
theorem WP {n:Int} (h:HS) (u:Nat) (c:List Int) (h1:u<h.N.length) (h2:u<h.W.length) (hc:En n c):wE ((u:Int),h.X,h.T,h.S,h.L,h.R,h.C,h.F,h.N,h.W,c)=af (h.X,h.T,h.S,h.L,h.R,h.C,h.F,h.N.set u c,h.W.set u (-1),c):=by
 unfold wE aY bh bx cC dW kE Ah Cy Prod.q10 ck;simp only[];rw[NX c hc.lb,cV,cu (cW h1),cu (cW h1),cu (cW h2),cu (cW h2),fU,fU]
theorem O1 (I:WTc) (i:Nat):aK (T:=.st (.pr .str (.int .i64))) I (i:Int)=I.getD i ([],0):=sI (T:=.st (.pr .str (.int .i64))) I i
theorem O0 (I:List (List UInt8×Int×Int×Bool×Int)) (i:Nat):aK (T:=.st (.pr .str (.pr (.int .i64) (.pr (.int .i64) (.pr .bool (.int .i64)))))) I (i:Int)=I.getD i ([],0,0,aj,0):=sI (T:=.st (.pr .str (.pr (.int .i64) (.pr (.int .i64) (.pr .bool (.int .i64)))))) I i
abbrev ETp:Type:=Int×Int×Int×Int×Int×List Int×List Int
structure EvT (e:EV) (x:ETp):Prop where
 th:x.1=(e.th:Int)
 k:x.2.1=(e.k:Int)
 ob:e.k∈[3,4,6,7,8,9,10,11,16,17,18,19,20,21,22,23]->x.2.2.1=(e.ob:Int)
 va:x.2.2.2.1=e.va
theorem HZ {k:Nat} {z:Int} (I:z=(k:Int)) (h1:1<=k) (h2:k<=23):(k=1/\z=1)\/(k=2/\z=2)\/(k=3/\z=3)\/(k=4/\z=4)\/(k=5/\z=5)\/(k=6/\z=6)\/(k=7/\z=7)\/(k=8/\z=8)\/(k=9/\z=9)\/(k=10/\z=10)\/(k=11/\z=11)\/(k=12/\z=12)\/(k=13/\z=13)\/(k=14/\z=14)\/(k=15/\z=15)\/(k=16/\z=16)\/(k=17/\z=17)\/(k=18/\z=18)\/(k=19/\z=19)\/(k=20/\z=20)\/(k=21/\z=21)\/(k=22/\z=22)\/(k=23/\z=23):=by
 have h:k=1\/k=2\/k=3\/k=4\/k=5\/k=6\/k=7\/k=8\/k=9\/k=10\/k=11\/k=12\/k=13\/k=14\/k=15\/k=16\/k=17\/k=18\/k=19\/k=20\/k=21\/k=22\/k=23:=by omega
 subst I;rcases h with rfl|rfl|rfl|rfl|rfl|rfl|rfl|rfl|rfl|rfl|rfl|rfl|rfl|rfl|rfl|rfl|rfl|rfl|rfl|rfl|rfl|rfl|rfl<;>simp
theorem Wm (a:Nat):(aC a a&&ai)=ai:=by rw[ad0 rfl];rfl
theorem adh {n:Int} {w:uY} {h:HS} (o:Ub n h) {e:EV} (ok:EOK w h e) {x:ETp} (hx:EvT e x):uw (x,h.X,w,h.T,h.S,h.L,h.R,h.C,h.F,h.N,h.W)=af (tF w h e,x,h.X,w,h.T,h.S,h.L,h.R,h.C,h.F,h.N,h.W):=by
 obtain⟨x1,x2,M,x4,x5,x6,x7⟩:=x;obtain⟨w1,w2,U,w4,w5,w6⟩:=w;obtain⟨th,k,ob,va⟩:=e;obtain⟨q1,Y,q3,q4⟩:=hx;simp only at q1 Y q3 q4;subst q1 q4;have t1:=ok.th;simp only at t1;have fS:fc (th:Int) h.S.length=ai:=cW (by rw[o.lS];exact t1);have fN:fc (th:Int) h.N.length=ai:=cW (by rw[o.lN];exact t1);have fT:k=21->fc (ob:Int) h.T.length=ai/\M=(ob:Int):=λe=>by
  subst e;have:=ok.sp (.inr rfl);exact⟨cW this,q3 (by decide)⟩
 have fL:(k=6\/k=10\/k=8)->fc (ob:Int) h.L.length=ai/\fc (ob:Int) h.R.length=ai/\M=(ob:Int):=λe=>by
  have h1:ob<h.L.length:=ok.lk (by rcases e with rfl|rfl|rfl<;>(simp only[];omega));exact⟨cW h1,cW (by rw[o.lR];exact h1),q3 (by rcases e with rfl|rfl|rfl<;>decide)⟩
 have fC:k=3->fc (ob:Int) h.C.length=ai/\M=(ob:Int):=λe=>by
  subst e;have:=(ok.ce (.inl rfl)).1;exact⟨cW this,q3 (by decide)⟩
 have fF:k=23->fc (ob:Int) h.F.length=ai/\M=(ob:Int):=λe=>by
  subst e;have:=ok.fu (.inr rfl);exact⟨cW this,q3 (by decide)⟩
 unfold uw tF Ej aY bh bx cC dW kE Ah Cy Prod.q10 Prod.q11 cX fh ck be wa bC aF;rcases HZ Y ok.k1 ok.k2 with ⟨e,e'⟩|⟨e,e'⟩|⟨e,e'⟩|⟨e,e'⟩|⟨e,e'⟩|⟨e,e'⟩|⟨e,e'⟩|⟨e,e'⟩|⟨e,e'⟩|⟨e,e'⟩|⟨e,e'⟩|⟨e,e'⟩|⟨e,e'⟩|⟨e,e'⟩|⟨e,e'⟩|⟨e,e'⟩|⟨e,e'⟩|⟨e,e'⟩|⟨e,e'⟩|⟨e,e'⟩|⟨e,e'⟩|⟨e,e'⟩|⟨e,e'⟩<;>clear Y<;>subst e<;>subst e'
 case inr.inr.inr.inr.inr.inr.inr.inr.inr.inr.inr.inr.inr.inr.inr.inr.inl=>
  have q3:=q3 (by decide);subst q3;obtain⟨d1,d2,Z⟩:=ok.cd (.inr rfl);simp only at d1 d2 Z;have d4:Ow U ob<h.R.length:=by rw[o.lR];exact Z
  have e1:(U.getD ob ([],0)).2=((Ow U ob:Nat):Int):=by unfold Ow;omega
  simp only[aV,cw,cM,cZ,c4,jh,cu,cW d1,O1,e1,RU _ _ Z,RU _ _ d4,cV,Wm,fN,qI];rfl
 case inr.inr.inl=>
  obtain⟨I,rfl⟩:=fC rfl;simp only[aV,cw,cM,cZ,c4,jh,cu,I,qI];rfl
 case inr.inr.inr.inr.inr.inr.inr.inr.inr.inr.inr.inr.inr.inr.inr.inr.inr.inr.inr.inr.inr.inr=>
  obtain⟨I,rfl⟩:=fF rfl;simp only[aV,cw,cM,cZ,c4,jh,cu,I,qI];rfl
 case inr.inr.inr.inr.inr.inr.inr.inr.inr.inr.inr.inr.inr.inr.inr.inr.inr.inr.inr.inr.inl=>
  obtain⟨I,rfl⟩:=fT rfl;simp only[aV,cw,cM,cZ,c4,jh,cu,I,qI];rfl
 case inl=>
  simp only[aV,cw,cM,cZ,c4,jh,cu,fS,qI];rfl
 case inr.inr.inr.inr.inr.inl=>
  obtain⟨I,J,rfl⟩:=fL (by decide);simp only[aV,cw,cM,cZ,c4,jh,cu,I,J,qI];rfl
 case inr.inr.inr.inr.inr.inr.inr.inr.inr.inl=>
  obtain⟨I,J,rfl⟩:=fL (by decide);simp only[aV,cw,cM,cZ,c4,jh,cu,I,J,qI];rfl
 case inr.inr.inr.inr.inr.inr.inr.inl=>
  obtain⟨I,J,rfl⟩:=fL (by decide);simp only[aV,cw,cM,cZ,c4,jh,cu,I,J,qI];rfl
 all_goals
  simp only[aV,cw,cM,cZ,c4,jh];rfl
theorem M4 {σ R:Type} {f:σ->Option (σ⊕R)} {x0:σ} {r:R} (n:Nat) (hn:n<18446744073709551616) (st:Nat->σ) (I:x0=st 0) (h0:∀ i,i<n->f (st i)=af (.inl (st (i+1)))) (h1:f (st n)=af (.inr r)):gg f x0=af r:=by
 subst I;exact wM n hn st h0 h1
def Lp {α:Type} (p:Nat->Bool) (c:α) (u:Nat) (l:List α):List α:=l.mapIdx λk x=>if decide (k<u)&&p k then c else x
theorem aaa {α:Type} (p:Nat->Bool) (c:α) (l:List α):Lp p c 0 l=l:=by
 unfold Lp;apply dE
 .simp
 .intro i h1 h2;simp
theorem Il {α:Type} (p:Nat->Bool) (c:α) (u:Nat) (l:List α):(Lp p c u l).length=l.length:=by simp[Lp]
theorem Qj {α:Type} (p:Nat->Bool) (c:α) (u:Nat) (l:List α) (h:l.length<=u):Lp p c u l=l.mapIdx λk x=>if p k then c else x:=by
 unfold Lp;apply dE
 .simp
 .intro i h1 h2;simp only[List.length_mapIdx] at h1;simp only[List.getElem_mapIdx];rw[show decide (i<u)=ai from aQ (by omega)];rfl
theorem WH {α:Type} (p:Nat->Bool) (c:α) (u:Nat) (l:List α) (hp:p u=ai):(Lp p c u l).set u c=Lp p c (u+1) l:=by
 unfold Lp;apply dE
 .simp
 .intro i h1 h2;simp only[vh,List.getElem_mapIdx];by_cases e:u=i
  .subst e;simp[hp]
  .rw[ay e];by_cases h:i<u
   .rw[aQ h,aQ (show i<u+1 by omega)]
   .rw[bw h,bw (show ¬i<u+1 by omega)]
theorem Qi {α:Type} (p:Nat->Bool) (c:α) (u:Nat) (l:List α) (hp:p u=aj):Lp p c u l=Lp p c (u+1) l:=by
 unfold Lp;apply dE
 .simp
 .intro i h1 h2;simp only[List.getElem_mapIdx];by_cases e:u=i
  .subst e;simp[hp]
  .by_cases h:i<u
   .rw[aQ h,aQ (show i<u+1 by omega)]
   .rw[bw h,bw (show ¬i<u+1 by omega)]
theorem aiy (p:Nat->Bool) (c:Int) (u:Nat) (l:List Int):(Lp p c u l).getD u 0=l.getD u 0:=by
 unfold Lp;rw[aA,Ek,aA];cases l[u]? with
 |none=>rfl
 |some x=>simp
def HS.e (h:HS) (c:List Int):List Int×List (List Int)×List (List Int)×List (List Int)×List (List Int)×List (List Int)×List (List Int)×List (List Int)×List Int×List Int:=(h.X,h.T,h.S,h.L,h.R,h.C,h.F,h.N,h.W,c)
theorem acf {n:Int} {w:uY} {h:HS} (o:Ub n h) (hn:n+1<=1000000) {e:EV} (ok:EOK w h e) {x:ETp} (hx:EvT e x) {c:List Int} (hc:En (n+1) c):rH ((w,x),h.e c)=af ((jN w h e c).e c):=by
 obtain⟨x1,x2,x3,I,x5,x6,x7⟩:=x;obtain⟨M,w2,U,w4,w5,w6⟩:=w;obtain⟨th,k,ob,va⟩:=e;obtain⟨q1,q2,q3,q4⟩:=hx;simp only at q1 q2 q3 q4;subst q1 q4;have t1:=ok.th;simp only at t1;have m:n<=n+1:=by omega
 have fT:fc (th:Int) h.T.length=ai:=cW t1;have fW:fc (th:Int) h.W.length=ai:=cW (by rw[o.lW];exact t1);have J:=NX c hc.lb;unfold rH At HS.e Ej Prod.p11 Prod.p12 Prod.p13 Prod.p14 Prod.p15 Prod.p16 Prod.p17 aY bh bx cC dW kE Ah Cy Prod.q10 Prod.q16 Prod.q17 Prod.q18 cX kD Prod.q9 ck be bz iW wa bC aZ cK aF cD;rcases HZ q2 ok.k1 ok.k2 with ⟨e,e'⟩|⟨e,e'⟩|⟨e,e'⟩|⟨e,e'⟩|⟨e,e'⟩|⟨e,e'⟩|⟨e,e'⟩|⟨e,e'⟩|⟨e,e'⟩|⟨e,e'⟩|⟨e,e'⟩|⟨e,e'⟩|⟨e,e'⟩|⟨e,e'⟩|⟨e,e'⟩|⟨e,e'⟩|⟨e,e'⟩|⟨e,e'⟩|⟨e,e'⟩|⟨e,e'⟩|⟨e,e'⟩|⟨e,e'⟩|⟨e,e'⟩<;>clear q2<;>subst e<;>subst e'
 case inr.inr.inr.inr.inr.inr.inr.inr.inr.inr.inr.inr.inr.inr.inr.inr.inr.inr.inr.inl=>
  obtain rfl:=q3 (by decide);have f:fc (ob:Int) h.S.length=ai:=cW (by rw[o.lS];exact ok.sp (.inl rfl));simp only[aV,cw,cM,cZ,c4,jh,cV,cu,J,fT,f,fU];rfl
 case inr.inr.inr.inr.inr.inr.inl=>
  obtain rfl:=q3 (by decide);have f:ob<h.L.length:=ok.lk (by simp only[];omega);simp only[aV,cw,cM,cZ,c4,jh,cV,cu,J,fT,fU,t7 _ _ _ f (o.L.mono m) hc,rL,Wm];rfl
 case inr.inr.inr.inr.inr.inr.inr.inr.inr.inr.inl=>
  obtain rfl:=q3 (by decide);have f:ob<h.L.length:=ok.lk (by simp only[];omega);simp only[aV,cw,cM,cZ,c4,jh,cV,cu,J,fT,fU,t7 _ _ _ f (o.L.mono m) hc,rL,Wm];rfl
 case inr.inr.inr.inr.inr.inr.inr.inr.inl=>
  obtain rfl:=q3 (by decide);have f:ob<h.R.length:=by rw[o.lR];exact ok.lk (by simp only[];omega)
  simp only[aV,cw,cM,cZ,c4,jh,cV,cu,J,fT,fU,t7 _ _ _ f (o.R.mono m) hc,rL,Wm];rfl
 case inr.inr.inr.inr.inr.inr.inr.inr.inr.inr.inr.inr.inr.inr.inr.inl=>
  obtain rfl:=q3 (by decide);obtain⟨Z,d2,d3⟩:=ok.cd (.inl rfl);simp only at Z d2 d3;have e1:(U.getD ob ([],0)).2=((Ow U ob:Nat):Int):=by unfold Ow;omega
  simp only[aV,cw,cM,cZ,c4,jh,cV,cu,J,fT,fW,fU,cW Z,O1,e1,t7 _ _ _ d3 (o.L.mono m) hc,rL,Wm];rfl
 case inr.inr.inr.inl=>
  obtain rfl:=q3 (by decide);obtain⟨Z,d2⟩:=ok.ce (.inr rfl);simp only at Z d2;simp only[aV,cw,cM,cZ,c4,jh,cV,cu,J,fT,fU,cW d2,O0];cases hv:(M.getD ob ([],0,0,aj,0)).2.2.2.1 with
  |true=>
   simp only[cZ,cV,cu,t7 _ _ _ Z (o.C.mono m) hc,rL,Wm,jh];have Y:jN (M,w2,U,w4,w5,w6) h ⟨th,4,ob,I⟩ c=if CF M ob then {h with T:=h.T.set th c,C:=jat h.C ob c} else {h with T:=h.T.set th c}:=rfl
   rw[Y,show CF M ob=ai from hv];rfl
  |false=>
   simp only[c4,jh];have Y:jN (M,w2,U,w4,w5,w6) h ⟨th,4,ob,I⟩ c=if CF M ob then {h with T:=h.T.set th c,C:=jat h.C ob c} else {h with T:=h.T.set th c}:=rfl
   rw[Y,show CF M ob=aj from hv];rfl
 case inr.inr.inr.inr.inr.inr.inr.inr.inr.inr.inr.inr.inr.inr.inr.inr.inr.inr.inr.inr.inr.inl=>
  obtain rfl:=q3 (by decide);have f:ob<h.F.length:=ok.fu (.inl rfl);simp only[aV,cw,cM,cZ,c4,jh,cV,cu,J,fT,fU,t7 _ _ _ f (o.F.mono m) hc,rL,Wm];rfl
 case inr.inr.inr.inr.inr.inr.inr.inr.inr.inr.inr.inr.inl=>
  simp only[aV,cw,cM,cZ,c4,jh,cV,cu,J,fT,fU,TD _ _ (o.X.mono m).lb hc.lb];rfl
 case inr.inr.inr.inr.inr.inr.inr.inr.inr.inr.inr.inr.inr.inr.inr.inr.inr.inl=>
  simp only[aV,cw,cM,cZ,c4,jh,cV,cu,J,fT,fU];have Y:jN (M,w2,U,w4,w5,w6) h ⟨th,18,ob,I⟩ c=if 0<=I/\I<h.N.length then {h with T:=h.T.set th c,N:=h.N.set I.toNat c,W:=h.W.set I.toNat (-1)} else {h with T:=h.T.set th c}:=rfl
  rw[Y];by_cases h0:0<=I
  .by_cases h1:I<h.N.length
   .rw[qC h0];simp only[cZ,jh];rw[vw (show I<aP h.N.length from h1)];obtain⟨v,rfl⟩:∃ v:Nat,I=(v:Int):=⟨I.toNat,by omega⟩
    have v1:v<h.N.length:=by omega
    have v2:v<h.W.length:=by rw[o.lW,<-o.lN];exact v1
    have:=WP {h with T:=h.T.set th c} v c v1 v2 hc;simp only[] at this;simp only[cZ,this,cV,sS,cu,ad0 rfl,kK,jh];rw[aE ⟨h0,h1⟩];rfl
   .rw[qC h0];simp only[cZ,jh];rw[wO (show aP h.N.length<=I from Cv.1 h1)];simp only[c4,jh];rw[ay (λq=>h1 q.2)]
  .rw[M6 (by omega)];simp only[c4,jh];rw[ay (λq=>h0 q.1)]
 case inr.inr.inr.inr.inr.inr.inr.inr.inr.inr.inr.inr.inr.inr.inr.inr.inr.inr.inl=>
  obtain rfl:=q3 (by decide);simp only[aV,cw,cM,cZ,c4,jh,cV,cu,J,fT,fU];rw[M4 (r:=bP (h.X,h.T.set th c,h.S,h.L,h.R,h.C,h.F,Lp (λu=>decide (h.W.getD u 0=(ob:Int))) c h.W.length h.N,Lp (λu=>decide (h.W.getD u 0=(ob:Int))) (-1) h.W.length h.W,c)) h.W.length (by have:=o.lW;have:=o.lT;omega)
   (λi=>((i:Int),h.X,h.T.set th c,h.S,h.L,h.R,h.C,h.F,Lp (λu=>decide (h.W.getD u 0=(ob:Int))) c i h.N,Lp (λu=>decide (h.W.getD u 0=(ob:Int))) (-1) i h.W,c,(th:Int),(19:Int),(ob:Int),I,x5,x6,x7)) ?_ ?_ ?_]
  .simp only[jh];rw[Qj _ _ _ h.W (bV _),Qj _ _ _ h.N (by rw[o.lN,o.lW];exact bV _)];rfl
  .simp only[aaa];rfl
  .intro i hi;simp only[];have hN:i<(Lp (λu=>decide (h.W.getD u 0=(ob:Int))) c i h.N).length:=by rw[Il,o.lN,<-o.lW];exact hi
   have hW:i<(Lp (λu=>decide (h.W.getD u 0=(ob:Int))) (-1) i h.W).length:=by rw[Il];exact hi
   rw[vw (by simp;omega),cZ,cu (cW hW),cu (cW hW),ajh,aiy];have ws:=rj hi (show h.W.length<=1099511627776 by have:=o.lW;have:=o.lT;omega);by_cases hp:h.W.getD i 0=(ob:Int)
   .rw[aQ hp,cZ];have:=WP {h with T:=h.T.set th c,N:=Lp (λu=>decide (h.W.getD u 0=(ob:Int))) c i h.N,W:=Lp (λu=>decide (h.W.getD u 0=(ob:Int))) (-1) i h.W} i c hN hW hc;simp only[] at this;rw[this,cV,cu (by simp only[sS,ad0 rfl,kK]),jh,ws,WH _ _ _ _ (aQ hp),WH _ _ _ _ (aQ hp)]
   .rw[bw hp,c4,jh,ws,<-Qi _ _ _ _ (bw hp),<-Qi _ _ _ _ (bw hp)]
  .simp only[];rw[wO (by simp),c4]
 all_goals
  simp only[aV,cw,cM,cZ,c4,jh,cV,cu,J,fT,fU];rfl
theorem Vm (l:List (List Int)) (c:List Int) (i:Nat) (hi:i<l.length):(l.take (i+1)).foldl jl c=jl ((l.take i).foldl jl c) (l.getD i []):=by
 rw[List.take_add_one,dR,aB hi,aA,aB hi];rfl
theorem Qq (w:uY) (h:HS) (e:EV):(tF w h e).length<=3:=by
 unfold tF;repeat' split
 all_goals simp
theorem ajq {n:Int} {w:uY} {h:HS} (o:Ub n h) (e:EV) (i:Nat):0<=((tF w h e).foldl jl (h.T.getD e.th [])).getD i 0/\((tF w h e).foldl jl (h.T.getD e.th [])).getD i 0<9223372036854775807:=by
 have:=(Dp _ _ (o.T e.th) (Um (w:=w) o e)).2 i;have:=o.n1;omega
theorem F_ (w:uY) (h:HS) (e:EV) (c:List Int):(jN w h e c).T.length=h.T.length/\(jN w h e c).S.length=h.S.length/\(jN w h e c).L.length=h.L.length/\(jN w h e c).R.length=h.R.length/\(jN w h e c).C.length=h.C.length/\(jN w h e c).F.length=h.F.length/\(jN w h e c).N.length=h.N.length/\(jN w h e c).W.length=h.W.length:=by
 unfold jN;simp only[];repeat' split
 all_goals simp[jat,CE]
theorem agv {n:Int} {w:uY} {h:HS} (o:Ub n h) (hn:n+1<=1000000) {e:EV} (ok:EOK w h e) {x:ETp} (hx:EvT e x):sF (w,h.t,x)=af ((Qn w h e).1.t,(Qn w h e).2):=by
 have s2:=adh o ok hx;have hce:En (n+1) (Fu w h e):=PA o ok.th4;have en:=acf o hn ok hx hce;have cp:=Zf h.t o.GH;have sl:=Qq w h e;have sE:=Um (w:=w) o e;have hlen:=F_ w h e (Fu w h e);obtain⟨x1,x2,x3,x4,x5,x6,x7⟩:=x;obtain⟨Z,Y,U,M,J,I⟩:=w;have t1:=hx.th;simp only at t1;subst t1;unfold HS.t at cp;simp only[] at cp;have fT:fc (e.th:Int) h.T.length=ai:=cW ok.th;unfold sF Dm HS.t Ej Prod.p11 aY bh bx cC dW kE Ah Cy Prod.q11 Prod.q12 cX fh qa Prod.q9 ck bz wa bC aZ cK cD;simp only[];rw[cp,cV];simp only[];rw[cu fT,cu fT,s2,cV];simp only[];rw[cu (by simp only[ad0 rfl,kK])];refine M4 (tF (Z,Y,U,M,J,I) h e).length (by omega) (λi=>((i:Int),(Z,Y,U,M,J,I),((e.th:Int),x2,x3,x4,x5,x6,x7),h.X,((tF (Z,Y,U,M,J,I) h e).take i).foldl jl (h.T.getD e.th []),h.T,h.S,h.L,h.R,h.C,h.F,h.N,h.W)) ?_ ?_ ?_
 .simp only[qI,List.take_zero,List.foldl_nil];rfl
 .intro i hi;simp only[];rw[vw (by simp;omega),cZ,cu (cW hi),qI,(Dp _ _ (o.T e.th) (λy hy=>sE y (gZ hy))).join (sE _ (Ju hi)),cV,rj hi (by omega),Vm _ _ _ hi]
 .simp only[];rw[wO (by simp),c4,f_ (bV _)];have hl:=ajq (w:=(Z,Y,U,M,J,I)) o e e.th;rw[ags _ e.th (Dp _ _ (o.T e.th) sE).lb ok.th4 hl.1 hl.2,cV];unfold HS.e at en;unfold Fu at en hlen;rw[en,cV];simp only[];rw[cu (by rw[hlen.1,hlen.2.1,hlen.2.2.1,hlen.2.2.2.1,hlen.2.2.2.2.1,hlen.2.2.2.2.2.1,hlen.2.2.2.2.2.2.1,hlen.2.2.2.2.2.2.2];simp only[ad0 rfl,kK])];rfl
abbrev v_:Ty:=(.st (.pr (.int .i64) (.sl (.st (.pr (.int .i64) (.pr (.int .i64) (.pr (.int .i64) (.pr (.int .i64) (.pr (.int .i64) (.int .i64))))))))))
abbrev BO:Ty:=(.st (.pr (.int .i64) (.pr (.int .i64) (.pr (.int .i64) (.pr (.int .i64) (.pr (.int .i64) (.int .i64)))))))
abbrev uS:Ty:=(.st (.pr (.int .i64) (.pr (.sl (.int .i64)) (.pr (.sl (.sl (.int .i64))) (.int .i64)))))
abbrev yU:Ty:=(.st (.pr .str (.pr (.int .i64) (.pr (.sl .str) (.sl .sm)))))
abbrev tDc:Ty:=(.st (.pr (.int .i64) (.pr (.int .i64) (.pr .str (.pr (.int .i64) (.pr (.int .i64) .str))))))
abbrev tE:Ty:=(.st (.pr (.int .i64) (.pr (.int .i64) (.pr (.int .i64) (.pr (.int .i64) (.pr (.int .i64) (.pr (.sl (.int .i64)) (.sl (.int .i64)))))))))
abbrev Uk:Ty:=(.st (.pr .str .bool))
abbrev Qb:Ty:=(.st (.pr .str (.pr (.int .i64) (.pr (.int .i64) (.pr .bool (.int .i64))))))
abbrev yd:Ty:=(.st (.pr (.int .i64) (.pr (.int .i64) (.int .i64))))
abbrev T9:Ty:=(.st (.pr .str (.int .i64)))
abbrev AC:Ty:=(.st (.pr (.int .i64) (.sl (.int .i64))))
abbrev jA:Ty:=(.st (.pr (.int .i64) (.pr (.int .i64) .bool)))
def Ok {R:Type} (o:Option R) (Q:R->Prop):Prop:=∃ y,o=af y/\Q y
theorem Ok.mono {R:Type} {o:Option R} {Q Q':R->Prop} (h:Ok o Q) (hq:∀ y,Q y->Q' y):Ok o Q':=by obtain⟨y,h1,h2⟩:=h;exact⟨y,h1,hq y h2⟩
theorem ar {R:Type} {y:R} {Q:R->Prop} (h:Q y):Ok (af y) Q:=⟨y,rfl,h⟩
theorem ahv {R:Type} {o:Option R} {y:R} {Q:R->Prop} (e:o=af y) (h:Q y):Ok o Q:=⟨y,e,h⟩
theorem bf {R:Type} {b:Bool} {k:Option R} {Q:R->Prop} (h:b=ai) (hk:Ok k Q):Ok (chk b λ_=>k) Q:=by subst h;exact hk
theorem aO {R:Type} {b:Bool} {t f:Option R} {Q:R->Prop} (ht:b=ai->Ok t Q) (hf:b=aj->Ok f Q):Ok (bcase b t f) Q:=by
 cases b with
 |true=>exact ht rfl
 |false=>exact hf rfl
theorem fI {R:Type} {b:Bool} {t f:Option R} {Q:R->Prop} (h:b=ai) (ht:Ok t Q):Ok (bcase b t f) Q:=by subst h;exact ht
theorem fJ {R:Type} {b:Bool} {t f:Option R} {Q:R->Prop} (h:b=aj) (hf:Ok f Q):Ok (bcase b t f) Q:=by subst h;exact hf
theorem ax {α R:Type} {o:Option α} {k:α->Option R} {P:α->Prop} {Q:R->Prop} (h:Ok o P) (hk:∀ x,P x->Ok (k x) Q):Ok (obind o k) Q:=by
 obtain⟨x,rfl,I⟩:=h;exact hk x I
theorem aT {α R:Type} {o:Option α} {k:α->Option R} {x:α} {Q:R->Prop} (h:o=af x) (hk:Ok (k x) Q):Ok (obind o k) Q:=by subst h;exact hk
theorem aR {α R:Type} {x:α} {k:α->Option R} {Q:R->Prop} (h:Ok (k x) Q):Ok (lt x k) Q:=h
theorem aX {α R:Type} {o:Option (R⊕α)} {k:α->Option R} {Q:R->Prop} (P:α->Prop) (h:Ok o λr=>match r with|.inl r=>Q r|.inr x=>P x) (hk:∀ x,P x->Ok (k x) Q):Ok (jn o k) Q:=by
 obtain⟨r,rfl,hr⟩:=h;cases r with
 |inl r=>exact⟨r,rfl,hr⟩
 |inr x=>exact hk x hr
theorem gj {α R:Type} {o:Option (R⊕α)} {k:α->Option R} {Q:R->Prop} (h:Ok o λr=>match r with|.inl r=>Q r|.inr x=>Ok (k x) Q):Ok (jn o k) Q:=aX (λx=>Ok (k x) Q) h λ_ h=>h
theorem aez {α R:Type} {a b:α} {r:Option R} {Q:R->Prop} (e:a=b) (h:Ok r Q):Ok (same a b r) Q:=by unfold same;rw[aE e];exact h
theorem qe {σ R:Type} {f:σ->Option (σ⊕R)} {Q:R->Prop} (μ:σ->Nat) (I:σ->Prop) (h:∀ x,I x->Ok (f x) λr=>match r with|.inl y=>I y/\μ y<μ x|.inr r=>Q r) {x:σ} (J:I x):Ok (iter f x) Q:=by
 have key:∀ n x,μ x<n->I x->∃ m r,iterN f m x=af r/\Q r:=by
  intro n;induction n with
  |zero=>intro x hm;omega
  |succ n M=>
   intro x hm J;obtain⟨r,h1,h2⟩:=h x J;cases r with
   |inl y=>
    obtain⟨m,r,Y,U⟩:=M y (by have:=h2.2;omega) h2.1;exact⟨m+1,r,by rw[iterN,h1];exact Y,U⟩
   |inr r=>exact⟨1,r,by rw[iterN,h1],h2⟩
 obtain⟨m,r,h1,h2⟩:=key (μ x+1) x (Cu _) J;exact⟨r,zj h1,h2⟩
theorem bZ {σ R:Type} {f:σ->Option (σ⊕R)} {Q:R->Prop} (n:Nat) (I:Nat->σ->Prop) (h0:∀ i x,i<n->I i x->Ok (f x) λr=>match r with|.inl y=>I (i+1) y|.inr r=>Q r) (h1:∀ x,I n x->Ok (f x) λr=>match r with|.inl _=>False|.inr r=>Q r) {x:σ} (U:I 0 x):Ok (iter f x) Q:=by
 have key:∀ m i x,i+m=n->I i x->∃ k r,iterN f k x=af r/\Q r:=by
  intro m;induction m with
  |zero=>
   intro i x hi U;have:i=n:=by omega
   subst this;obtain⟨r,M,J⟩:=h1 x U;cases r with
   |inl y=>exact J.elim
   |inr r=>exact⟨1,r,by rw[iterN,M],J⟩
  |succ m Y=>
   intro i x hi U;obtain⟨r,M,J⟩:=h0 i x (by omega) U;cases r with
   |inl y=>
    obtain⟨k,r,g3,Z⟩:=Y (i+1) y (by omega) J;exact⟨k+1,r,by rw[iterN,M];exact g3,Z⟩
   |inr r=>exact⟨1,r,by rw[iterN,M],J⟩
 obtain⟨m,r,M,J⟩:=key n 0 x (by omega) U;exact⟨r,zj M,J⟩
def itQ {σ R:Type} (f:σ->Option (σ⊕R)) (Q:R->Prop):σ⊕R->Prop
 |.inl y=>Ok (iter f y) Q
 |.inr r=>Q r
def jnQ {α R:Type} (k:α->Option R) (Q:R->Prop):R⊕α->Prop
 |.inl r=>Q r
 |.inr x=>Ok (k x) Q
theorem aey {σ R:Type} {f:σ->Option (σ⊕R)} {x:σ} {Q:R->Prop} (h:Ok (f x) (itQ f Q)):Ok (iter f x) Q:=by
 obtain⟨r,h1,h2⟩:=h;cases r with
 |inr r=>exact⟨r,zj (n:=1) (by rw[iterN,h1]),h2⟩
 |inl y=>
  obtain⟨z,I,J⟩:=h2;unfold iter at I;split at I
  .exact⟨z,zj (n:=_+1) (by rw[iterN,h1];exact I),J⟩
  .cases I
theorem Xj {σ R:Type} {f:σ->Option (σ⊕R)} {y:σ} {Q:R->Prop} (h:Ok (iter f y) Q):Ok (af (.inl y)) (itQ f Q):=⟨_,rfl,h⟩
theorem Xi {σ R:Type} {f:σ->Option (σ⊕R)} {r:R} {Q:R->Prop} (h:Ok (af r) Q):Ok (af (.inr r)) (itQ f Q):=by
 obtain⟨_,h1,h2⟩:=h;cases h1;exact⟨_,rfl,h2⟩
theorem Xg {α R:Type} {o:Option (R⊕α)} {k:α->Option R} {Q:R->Prop} (h:Ok o (jnQ k Q)):Ok (jn o k) Q:=by
 obtain⟨r,rfl,hr⟩:=h;cases r with
 |inl r=>exact⟨r,rfl,hr⟩
 |inr x=>exact hr
theorem Xh {α R:Type} {r:R} {k:α->Option R} {Q:R->Prop} (h:Ok (af r) Q):Ok (af (.inl r)) (jnQ k Q):=by
 obtain⟨_,h1,h2⟩:=h;cases h1;exact⟨_,rfl,h2⟩
theorem Xf {α R:Type} {x:α} {k:α->Option R} {Q:R->Prop} (h:Ok (k x) Q):Ok (af (.inr x)) (jnQ k Q):=⟨_,rfl,h⟩
def oQ {α R:Type} (k:α->Option R) (Q:R->Prop) (x:α):Prop:=Ok (k x) Q
theorem QQ {α R:Type} {o:Option α} {k:α->Option R} {Q:R->Prop} (h:Ok o (oQ k Q)):Ok (obind o k) Q:=ax h λ_ h=>h
theorem QP {α R:Type} {x:α} {k:α->Option R} {Q:R->Prop} (h:Ok (k x) Q):Ok (af x) (oQ k Q):=⟨_,rfl,h⟩
theorem afd {j:Int} {n:Nat}:fc j n=ai↔0<=j/\j<n:=by simp[fc,c8,fR]
theorem OF {a b:Int}:c8 a b=ai↔a<=b:=by simp[c8]
theorem tO {a b:Int}:fR a b=ai↔a<b:=by simp[fR]
theorem gk {a b:Int}:fR a b=aj↔b<=a:=by simp[fR]
theorem l9 {a b:Int}:c8 a b=aj↔b<a:=by simp[c8]
theorem Yg {n b:Nat}:a_ n b=ai↔n<=1099511627776/\n*b<=1099511627776:=by simp[a_]
theorem ci {R:Type} {o:Option R} {v:R} (h:Ok o (·=v)):o=af v:=by obtain⟨y,h1,h2⟩:=h;rw[h1,h2]
section steps
variable {R:Type} {k t f:Option R} {Q:R->Prop}
theorem aS {j:Int} {n:Nat} (h0:0<=j) (h1:j<n) (hk:Ok k Q):Ok (chk (fc j n) λ_=>k) Q:=bf (afd.2 ⟨h0,h1⟩) hk
theorem bg {n b:Nat} (h0:n<=1073741824) (h1:b<=1024) (hk:Ok k Q):Ok (chk (a_ n b) λ_=>k) Q:=
 bf (Yg.2 ⟨by omega,di (Nat.mul_le_mul h0 h1) (by omega)⟩) hk
theorem dx {a b:Bool} (h:Ok (chk a λ_=>chk b λ_=>k) Q):Ok (chk (a&&b) λ_=>k) Q:=by
 cases a with
 |true=>exact h
 |false=>obtain⟨y,h,_⟩:=h;cases h
theorem eM {a b:Int} (h:a<=b) (hk:Ok k Q):Ok (chk (c8 a b) λ_=>k) Q:=bf (OF.2 h) hk
theorem Ao {a b:Int} (h:a<b) (hk:Ok k Q):Ok (chk (fR a b) λ_=>k) Q:=bf (tO.2 h) hk
theorem Xk {p:Prop} {i:Decidable p} (h:p) (hk:Ok k Q):Ok (chk (decide p) λ_=>k) Q:=bf (aQ h) hk
theorem y_ {p:Prop} {i:Decidable p} (h:¬p) (hk:Ok k Q):Ok (chk (!decide p) λ_=>k) Q:=bf (by simp[h]) hk
theorem lD {a b:Nat} (h:a=b) (hk:Ok k Q):Ok (chk (aC a b) λ_=>k) Q:=bf (by subst h;exact rW a) hk
theorem Ba (hk:Ok k Q):Ok (chk ai λ_=>k) Q:=hk
theorem bI {a b:Int} (ht:a<b->Ok t Q) (hf:b<=a->Ok f Q):Ok (bcase (fR a b) t f) Q:=aO (λh=>ht (tO.1 h)) (λh=>hf (gk.1 h))
theorem eZ {a b:Int} (ht:a<=b->Ok t Q) (hf:b<a->Ok f Q):Ok (bcase (c8 a b) t f) Q:=aO (λh=>ht (OF.1 h)) (λh=>hf (l9.1 h))
theorem aJ {p:Prop} {i:Decidable p} (ht:p->Ok t Q) (hf:¬p->Ok f Q):Ok (bcase (decide p) t f) Q:=aO (λh=>ht (bi h)) (λh=>hf (Uc h))
theorem b8 {p:Prop} {i:Decidable p} (ht:¬p->Ok t Q) (hf:p->Ok f Q):Ok (bcase (!decide p) t f) Q:=aO (λh=>ht (by simpa using h)) (λh=>hf (by simpa using h))
theorem dN {b:Bool} (ht:b=aj->Ok t Q) (hf:b=ai->Ok f Q):Ok (bcase (!b) t f) Q:=aO (λh=>ht (by simpa using h)) (λh=>hf (by simpa using h))
theorem QR (ht:Ok t Q):Ok (bcase ai t f) Q:=ht
theorem gz (hf:Ok f Q):Ok (bcase aj t f) Q:=hf
theorem bX {j:Int} {n:Nat} (hk:Ok k Q) (h0:0<=j:=by first|omega|(dsimp only;omega)) (h1:j<n:=by first|omega|(dsimp only;omega)):Ok (chk (fc j n) λ_=>k) Q:=aS h0 h1 hk
theorem db {a b:Int} (ht:Ok t Q) (h:a<b:=by first|omega|(dsimp only[au];omega)):Ok (bcase (fR a b) t f) Q:=bI (λ_=>ht) λg=>cR h (Cv.2 g)
theorem dc {a b:Int} (hf:Ok f Q) (h:b<=a:=by first|omega|(dsimp only[au];omega)):Ok (bcase (fR a b) t f) Q:=bI (λg=>cR g (Cv.2 h)) λ_=>hf
end steps
theorem rc:(∀ (p:Prop) [Decidable p],(decide p=ai)=p)/\(∀ p:Prop,(True\/p)=True)/\(∀ p:Prop,(p\/True)=True)/\(∀ p:Prop,(True->p)=p)/\(∀ p:Prop,(True/\p)=p)/\∀ p:Prop,(p/\True)=p:=⟨λ_=>bd,true_or,or_true,λ_=>true_implies _,BL,and_true⟩
theorem tj:(∀ i:Decidable True,@decide True i=ai)/\(∀ i:Decidable False,@decide False i=aj)/\(∀ {R:Type} (t f:Option R),bcase ai t f=t)/\(∀ {R:Type} (t f:Option R),bcase aj t f=f)/\(∀ {α R:Type} (x:α) (k:α->Option R),jn (af (.inr x)) k=k x)/\(∀ {α R:Type} (r:R) (k:α->Option R),jn (af (.inl r)) k=af r)/\(∀ {α R:Type} (x:α) (k:α->Option R),obind (af x) k=k x)/\(∀ {α R:Type} (x:α) (k:α->Option R),lt x k=k x)/\(!ai)=aj/\(!aj)=ai:=⟨cM,cw,λ_ _=>rfl,λ_ _=>rfl,λ_ _=>rfl,λ_ _=>rfl,λ_ _=>rfl,λ_ _=>rfl,rfl,rfl⟩
structure IM (p q:Prop):Prop where
 h:p->q
inductive OS {R:Type}:Option R->(R->Prop)->Prop where
 |cand {a b:Bool} {k:Option R} {Q:R->Prop} (h:Ok (chk a λ_=>chk b λ_=>k) Q):OS (chk (a&&b) λ_=>k) Q
 |fc {j:Int} {n:Nat} {k:Option R} {Q:R->Prop} (h0:0<=j) (h1:j<n) (hk:Ok k Q):OS (chk (fc j n) λ_=>k) Q
 |room {n b:Nat} {k:Option R} {Q:R->Prop} (h0:n<=1073741824) (h1:b<=1024) (hk:Ok k Q):OS (chk (a_ n b) λ_=>k) Q
 |cile {a b:Int} {k:Option R} {Q:R->Prop} (h:a<=b) (hk:Ok k Q):OS (chk (c8 a b) λ_=>k) Q
 |cilt {a b:Int} {k:Option R} {Q:R->Prop} (h:a<b) (hk:Ok k Q):OS (chk (fR a b) λ_=>k) Q
 |cdec {p:Prop} {i:Decidable p} {k:Option R} {Q:R->Prop} (h:p) (hk:Ok k Q):OS (chk (decide p) λ_=>k) Q
 |cndec {p:Prop} {i:Decidable p} {k:Option R} {Q:R->Prop} (h:¬p) (hk:Ok k Q):OS (chk (!decide p) λ_=>k) Q
 |cbeq {a b:Nat} {k:Option R} {Q:R->Prop} (h:a=b) (hk:Ok k Q):OS (chk (aC a b) λ_=>k) Q
 |cT {k:Option R} {Q:R->Prop} (hk:Ok k Q):OS (chk ai λ_=>k) Q
 |lt {α:Type} {x:α} {k:α->Option R} {Q:R->Prop} (h:Ok (k x) Q):OS (lt x k) Q
 |b1 {t f:Option R} {Q:R->Prop} (h:Ok t Q):OS (bcase ai t f) Q
 |b0 {t f:Option R} {Q:R->Prop} (h:Ok f Q):OS (bcase aj t f) Q
 |fR {a b:Int} {t f:Option R} {Q:R->Prop} (ht:IM (a<b) (Ok t Q)) (hf:IM (b<=a) (Ok f Q)):OS (bcase (fR a b) t f) Q
 |c8 {a b:Int} {t f:Option R} {Q:R->Prop} (ht:IM (a<=b) (Ok t Q)) (hf:IM (b<a) (Ok f Q)):OS (bcase (c8 a b) t f) Q
 |dec {p:Prop} {i:Decidable p} {t f:Option R} {Q:R->Prop} (ht:IM p (Ok t Q)) (hf:IM (¬p) (Ok f Q)):OS (bcase (decide p) t f) Q
 |ndec {p:Prop} {i:Decidable p} {t f:Option R} {Q:R->Prop} (ht:IM (¬p) (Ok t Q)) (hf:IM p (Ok f Q)):OS (bcase (!decide p) t f) Q
 |not {b:Bool} {t f:Option R} {Q:R->Prop} (ht:IM (b=aj) (Ok t Q)) (hf:IM (b=ai) (Ok f Q)):OS (bcase (!b) t f) Q
 |bcase {b:Bool} {t f:Option R} {Q:R->Prop} (ht:IM (b=ai) (Ok t Q)) (hf:IM (b=aj) (Ok f Q)):OS (bcase b t f) Q
 |jc {α:Type} {o:Option (R⊕α)} {k:α->Option R} {Q:R->Prop} (h:Ok o λr=>match r with|.inl r=>Q r|.inr x=>Ok (k x) Q):OS (jn o k) Q
 |some {y:R} {Q:R->Prop} (h:Q y):OS (af y) Q
theorem OS.ok {R:Type} {o:Option R} {Q:R->Prop} (h:OS o Q):Ok o Q:=by
 cases h with
 |cand h=>exact dx h
 |fc a b h=>exact aS a b h
 |room a b h=>exact bg a b h
 |cile a h=>exact eM a h
 |cilt a h=>exact Ao a h
 |cdec a h=>exact Xk a h
 |cndec a h=>exact y_ a h
 |cbeq a h=>exact lD a h
 |cT h=>exact h
 |lt h=>exact h
 |b1 h=>exact h
 |b0 h=>exact h
 |fR a b=>exact bI a.h b.h
 |c8 a b=>exact eZ a.h b.h
 |dec a b=>exact aJ a.h b.h
 |ndec a b=>exact b8 a.h b.h
 |not a b=>exact dN a.h b.h
 |bcase a b=>exact aO a.h b.h
 |jc h=>
  obtain⟨r,e,h⟩:=h;exact gj ⟨r,e,by cases r<;>exact h⟩
 |some h=>exact ar h
theorem bcT {R:Type} (t f:Option R):bcase ai t f=t:=rfl
theorem bcF {R:Type} (t f:Option R):bcase aj t f=f:=rfl
theorem jnr {α R:Type} (x:α) (k:α->Option R):jn (af (.inr x)) k=k x:=rfl
theorem Xl {α R:Type} (x:α) (k:α->Option R):obind (af x) k=k x:=rfl
theorem I1 {k:Int}:k=1\/k=2\/k=3\/k=4\/k=5\/k=6\/k=7\/k=8\/k=9\/k=10\/k=11\/k=12\/k=13\/k=14\/k=15\/k=16\/k=17\/k=18\/k=19\/k=20\/k=21\/k=22\/k=23\/((∀ j:Int,1<=j->j<=23->(k=j)=False)/\(k<1\/23<k)):=by
 by_cases h:1<=k/\k<=23
 .omega
 .have:(∀ j:Int,1<=j->j<=23->(k=j)=False)/\(k<1\/23<k):=⟨λj h1 h2=>eq_false (by omega),by omega⟩
  repeat (first|exact this|refine Or.inr ?_)
theorem ig {n:Int} (h0: -9223372036854775808<=n) (h1:n<=9223372036854775807):bk .i64 n=n:=by
 rw[HP];unfold MG;simp[c8,h0,h1]
theorem gy {i:Nat} (h:i<9223372036854775807):bk .i64 ((i:Int)+1)=((i+1:Nat):Int):=by rw[ig (by omega) (by omega)];omega
theorem yM {T:Ty} (xs:List T.den) (i:Nat):aK xs (i:Int)=xs.getD i T.zero:=by unfold aK;simp
theorem O2 (xs:List Int) (i:Nat):aK (T:=.int .i64) xs (i:Int)=xs.getD i 0:=yM (T:=.int .i64) xs i
theorem bJ {T:Ty} {xs:List T.den} {j:Int} (h0:0<=j) (h1:j<xs.length):aK xs j∈xs:=by
 unfold aK;rw[aA,aB (by omega)];exact vi _
theorem bW {α:Type} (xs:List α) (j:Int) (x:α):(cQ xs j x).length=xs.length:=by unfold cQ;simp
theorem CL {α:Type} {xs:List α} {j:Int} {x y:α} (h:y∈cQ xs j x):y∈xs\/y=x:=List.mem_or_eq_of_mem_set h
abbrev WT:Type:=List (List UInt8×Int×Int×Bool×Int)×List (List UInt8×Bool)×List (List UInt8×Int)×List (List UInt8)×List (List UInt8)×List (Int×Int×Int)
abbrev SY:Type:=List (Int×List Int)×Int×List Bool×List (Int×Int×Bool)
theorem abq (a b:Int):qr (a,b)=af (decide (0<=a/\a<b)):=by
 refine ci ?_;unfold qr iW aF;with_reducible repeat' first|(refine OS.ok ?_;constructor)|refine IM.mk λ_=>?_
 .by_cases h:a<b<;>simp[*,fR]
 .simp;omega
theorem WE (l:List Int) (n:Int) (hl:l.length<=1000000):qu (l,n)=af (l.contains n):=by
 refine ci ?_;unfold qu be bz bB aZ cK aF cD;refine bZ l.length (λi x=>x=(i:Int)/\∀ k,k<i->l.getD k 0≠n) ?_ ?_ ⟨rfl,λk hk=>by omega⟩
 .rintro i x hi ⟨rfl,I⟩;with_reducible repeat' first|(refine OS.ok ?_;constructor)|refine IM.mk λ_=>?_
  all_goals try simp only[au,rc] at*
  .omega
  .omega
  .rename_i h;rw[O2] at h;show ai=_
   symm
   rw[s9,<-h,aA,aB hi];exact vi _
  .rename_i h;rw[O2] at h;refine ⟨gy (by omega),λk hk=>?_⟩;rcases b_ k i with h1|h1
   .exact I k h1
   .rw[show k=i by omega];exact h
  .omega
 .rintro x ⟨rfl,I⟩;with_reducible repeat' first|(refine OS.ok ?_;constructor)|refine IM.mk λ_=>?_
  all_goals try simp only[au,rc] at*
  .omega
  .omega
  .omega
  .omega
  .symm
   rw[N5];intro hc;rw[s9] at hc;obtain⟨k,hk,he⟩:=List.getElem_of_mem hc;exact I k hk (by rw[aA,aB hk];exact he)
theorem iv {T:Ty} {xs:List T.den} {p:T.den->Prop} (h:∀ k:Nat,k<al xs->p (aK xs (k:Int))):∀ c∈xs,p c:=λc hc=>by
 obtain⟨k,hk,he⟩:=List.getElem_of_mem hc;have:=h k hk;rw[yM,aA,aB hk,ve,he] at this;exact this
theorem Qa (w:WT) (s:SY) (hw:w.2.2.1.length<=1000000):Ok (rA (w,s)) λb=>b=ai->(∀ c∈w.2.2.1,0<=c.2/\c.2<w.2.1.length)/\s.1.length=w.2.1.length/\s.2.2.1.length=w.2.2.2.1.length/\s.2.2.2.length=w.2.2.2.2.1.length:=by
 unfold rA aY bh bx cX be bz bB aZ cK aF cD;refine bZ w.2.2.1.length (λi x=>x.1=(i:Int)/\x.2=(w,s)/\∀ k:Nat,k<i->0<=(aK (T:=T9) w.2.2.1 (k:Int)).2/\(aK (T:=T9) w.2.2.1 (k:Int)).2<w.2.1.length) ?_ ?_ ⟨rfl,rfl,λk hk=>by omega⟩
 .rintro i ⟨Y,U⟩ hi ⟨J,I,M⟩;dsimp only at J I;subst J;subst I;with_reducible repeat' first|(refine OS.ok ?_;constructor)|refine IM.mk λ_=>?_
  all_goals try simp only[au,rc] at*
  all_goals first|omega|skip
  .intro h;cases h
  .intro h;cases h
  .refine ⟨gy (by omega),λk hk=>?_⟩;rcases b_ k i with h1|h1
   .exact M k h1
   .rename_i h2 Z;rw[show k=i by omega];exact⟨h2,Z⟩
 .rintro⟨Y,U⟩ ⟨J,I,M⟩;dsimp only at J I;subst J;subst I;with_reducible repeat' first|(refine OS.ok ?_;constructor)|refine IM.mk λ_=>?_
  all_goals try simp only[au,rc] at*
  all_goals first|omega|skip
  refine ax (P:=λb=>b=ai->s.1.length=w.2.1.length/\s.2.2.1.length=w.2.2.2.1.length/\s.2.2.2.length=w.2.2.2.2.1.length) ?_ ?_
  .with_reducible repeat' first|(refine OS.ok ?_;constructor)|refine IM.mk λ_=>?_
   all_goals try simp only[au,rc] at*
   .intro h;omega
   .intro h;cases h
   .intro h;cases h
  .intro b hb;with_reducible repeat' first|(refine OS.ok ?_;constructor)|refine IM.mk λ_=>?_
   exact λh=>⟨iv (T:=T9) M,hb h⟩
structure NM (w:WT) (k o:Int):Prop where
 k1:1<=k
 k2:k<=23
 ce:k=3\/k=4->0<=o/\o<w.1.length
 lk:6<=k/\k<=11->0<=o/\o<w.2.1.length
 cd:16<=k/\k<=19->0<=o/\o<w.2.2.1.length
 th:k=20\/k=21->0<=o/\o<w.2.2.2.2.1.length
 fu:k=22\/k=23->0<=o/\o<w.2.2.2.1.length
 no:k=1\/k=2\/k=5\/(12<=k/\k<=15)->o= -1
 mu:k=6\/k=7->(aK (T:=Uk) w.2.1 o).2=aj
 rw:8<=k/\k<=11->(aK (T:=Uk) w.2.1 o).2=ai
theorem abb (w:WT) (k o:Int):Ok (um (w,k,o)) λb=>b=ai->NM w k o:=by
 unfold um aY bh bx cC be bB aZ aF;rcases @I1 k with rfl|rfl|rfl|rfl|rfl|rfl|rfl|rfl|rfl|rfl|rfl|rfl|rfl|rfl|rfl|rfl|rfl|rfl|rfl|rfl|rfl|rfl|rfl|⟨hk,I⟩
 case inr.inr.inr.inr.inr.inr.inr.inr.inr.inr.inr.inr.inr.inr.inr.inr.inr.inr.inr.inr.inr.inr.inr=>
  simp only[hk 1 (by decide) (by decide),hk 2 (by decide) (by decide),hk 3 (by decide) (by decide),hk 4 (by decide) (by decide),hk 5 (by decide) (by decide),hk 6 (by decide) (by decide),hk 7 (by decide) (by decide),hk 8 (by decide) (by decide),hk 9 (by decide) (by decide),hk 10 (by decide) (by decide),hk 11 (by decide) (by decide),hk 12 (by decide) (by decide),hk 13 (by decide) (by decide),hk 14 (by decide) (by decide),hk 15 (by decide) (by decide),hk 16 (by decide) (by decide),hk 17 (by decide) (by decide),hk 18 (by decide) (by decide),hk 19 (by decide) (by decide),hk 20 (by decide) (by decide),hk 21 (by decide) (by decide),hk 22 (by decide) (by decide),hk 23 (by decide) (by decide),aV,bt,tj];exact ar λh=>by cases h
 all_goals simp only[aV,bt,tj,abq]
 all_goals with_reducible repeat' first|(refine OS.ok ?_;constructor)|refine IM.mk λ_=>?_
 all_goals try simp only[au,rc] at*
 all_goals first|omega|(intro h;cases h;done)|(intro h;constructor<;>first|omega|(intro h2;first|omega|(simpa using h)))
structure SB (n:Nat) (s:SY):Prop where
 n1:n<=100000
 lk:s.1.length<=1000
 rd:∀ l∈s.1,l.2.length<=n
 dn:s.2.2.1.length<=1000
 th:s.2.2.2.length<=1000
structure EN (w:WT) (s:SY) (t k o:Int):Prop where
 nm:NM w k o
 t0:0<=t
 t1:t<w.2.2.2.2.1.length
 cd:∀ c∈w.2.2.1,0<=c.2/\c.2<w.2.1.length
 e1:s.1.length=w.2.1.length
 e2:s.2.2.1.length=w.2.2.2.1.length
 e3:s.2.2.2.length=w.2.2.2.2.1.length
structure Wy (w:WT) (s:SY) (t k o:Int):Prop where
 b:k=1->(aK (T:=jA) s.2.2.2 t).1=1
 wk:k=17->(aK (T:=jA) s.2.2.2 t).1=4/\(aK (T:=jA) s.2.2.2 t).2.1=o/\(aK (T:=AC) s.1 (aK (T:=T9) w.2.2.1 o).2).1= -1
 r:k≠1->k≠17->(aK (T:=jA) s.2.2.2 t).1=2
 aq:k=6\/k=8\/k=10->(aK (T:=AC) s.1 o).1= -1
 wr:k=10->(aK (T:=AC) s.1 o).2.length=0
 ra:k=8->(aK (T:=AC) s.1 o).2.contains t=aj
 rl:k=7\/k=11->(aK (T:=AC) s.1 o).1=t
 rr:k=9->(aK (T:=AC) s.1 o).2.contains t=ai
 xb:k=12->s.2.1= -1
 xe:k=13->s.2.1=t
 ab:k=14->(aK (T:=jA) s.2.2.2 t).2.2=aj
 ae:k=15->(aK (T:=jA) s.2.2.2 t).2.2=ai
 nt:k=16\/k=18\/k=19->(aK (T:=AC) s.1 (aK (T:=T9) w.2.2.1 o).2).1=t
 sp:k=20->¬o=t/\(aK (T:=jA) s.2.2.2 o).1=0
 jo:k=21->¬o=t/\(aK (T:=jA) s.2.2.2 o).1=5
 se:k=22->aK (T:=.bool) s.2.2.1 o=aj
 ge:k=23->aK (T:=.bool) s.2.2.1 o=ai
theorem Li {n:Nat} (w:WT) (s:SY) (hs:SB n s) (hw:w.2.2.1.length<=1000) (t k o:Int):Ok (kc (w,s,t,k,o)) λb=>b=ai->EN w s t k o/\Wy w s t k o:=by
 unfold kc aY bh bx bL dA cX be iV bB aZ aF;refine aX (λx=>x.2=(w,s)/\(x.1=aj->EN w s t k o)) ?_ ?_
 .refine ax (Qa w s (by omega)) λb hb=>?_
  with_reducible repeat' first|(refine OS.ok ?_;constructor)|refine IM.mk λ_=>?_
  .exact⟨rfl,λh=>by cases h⟩
  .simp only[abq,Xl];with_reducible repeat' first|(refine OS.ok ?_;constructor)|refine IM.mk λ_=>?_
   .exact⟨rfl,λh=>by cases h⟩
   .refine ax (abb w k o) λc hc=>?_
    with_reducible repeat' first|(refine OS.ok ?_;constructor)|refine IM.mk λ_=>?_
    all_goals try simp only[au,rc] at*
    rename_i h1 h2;obtain⟨f1,Z,f3,Y⟩:=hb h1;exact λh=>⟨hc (by simpa using h),by omega,by omega,f1,Z,f3,Y⟩
 .rintro⟨x1,x2⟩ ⟨I,J⟩;dsimp only at I J;subst I;refine aO (λh=>ar λh=>by cases h) (λh=>?_);have he:=J h;obtain⟨nm,t0,t1,cd,e1,e2,e3⟩:=id he;obtain⟨_,_,ce,lk,cn,th,fu⟩:=nm;have hm:16<=k/\k<=19->0<=(aK (T:=T9) w.2.2.1 o).2/\(aK (T:=T9) w.2.2.1 o).2<w.2.1.length:=λh=>cd _ (bJ (cn h).1 (cn h).2)
  have U:6<=k/\k<=11->qu ((aK (T:=AC) s.1 o).2,t)=af ((aK (T:=AC) s.1 o).2.contains t):=λh=>WE _ _ (by
   have:=hs.rd _ (bJ (T:=AC) (lk h).1 (by have:=(lk h).2;omega));have:=hs.n1;omega)
  rcases @I1 k with rfl|rfl|rfl|rfl|rfl|rfl|rfl|rfl|rfl|rfl|rfl|rfl|rfl|rfl|rfl|rfl|rfl|rfl|rfl|rfl|rfl|rfl|rfl|⟨hk,M⟩
  case inr.inr.inr.inr.inr.inr.inr.inr.inr.inr.inr.inr.inr.inr.inr.inr.inr.inr.inr.inr.inr.inr.inr=>omega
  all_goals simp only[aV,bt,tj]
  all_goals with_reducible repeat' first|(refine OS.ok ?_;constructor)|refine IM.mk λ_=>?_
  all_goals try simp only[U (by omega),Xl]
  all_goals with_reducible repeat' first|(refine OS.ok ?_;constructor)|refine IM.mk λ_=>?_
  all_goals try simp only[au,rc] at*
  all_goals first|omega|(intro h;cases h;done)|exact (hm ⟨by decide,by decide⟩).1|(rw [e1];exact (hm ⟨by decide,by decide⟩).2)|(intro h;refine ⟨he,?_⟩;constructor<;>first|omega|(intros;first|omega|assumption|(simpa using h)|exact⟨by assumption,by first|assumption|exact⟨by assumption,by assumption⟩⟩))|(refine ⟨he,?_⟩;constructor<;>first|omega|(intros;first|omega|assumption))
def lY:List Int->Int->List Int
 |[],n=>[n]
 |x::r,n=>if x<n then x::lY r n else if x=n then x::r else n::x::r
theorem EA (n:Int):∀ (i:Nat) (l:List Int),i<=l.length->(∀ k,k<i->l.getD k 0<n)->lY l n=l.take i++lY (l.drop i) n
 |0,l,_,_=>by simp
 |i+1,[],h,_=>by simp at h
 |i+1,x::r,h,hk=>by
  have h0:=hk 0 (by omega);simp at h0;have:=EA n i r (by simpa using h) (λk I=>by have:=hk (k+1) (by omega);simpa using this);rw[lY,aE h0,this,v7,v9,gw]
theorem FN (n:Int):∀ l:List Int,(lY l n).length<=l.length+1
 |[]=>by simp[lY]
 |x::r=>by
  have:=FN n r;rw[lY];split
  .simp;omega
  .split<;>simp
theorem Iz {n y:Int}:∀ {l:List Int},y∈lY l n↔y=n\/y∈l
 |[]=>by simp[lY]
 |x::r=>by
  have:=Iz (n:=n) (y:=y) (l:=r);rw[lY];split
  .simp[this];constructor
   .rintro (h|h|h)<;>simp[h]
   .rintro (h|h|h)<;>simp[h]
  .split
   .rename_i h;subst h;simp
   .simp
def HJ:List Int->Prop
 |[]=>True
 |x::r=>(∀ y∈r,x<y)/\HJ r
theorem QM {n:Int}:∀ {l:List Int},HJ l->HJ (lY l n)
 |[],_=>by simp[lY,HJ]
 |x::r,h=>by
  rw[lY];split
  .rename_i J;refine ⟨λy I=>?_,QM h.2⟩;rcases Iz.1 I with rfl|I
   .exact J
   .exact h.1 y I
  .split
   .exact h
   .rename_i h1 h2;refine ⟨λy I=>?_,h⟩;rcases bp.1 I with rfl|I
    .omega
    .have:=h.1 y I;omega
theorem adn (l:List Int) (n:Int) (hl:l.length<=1000000):wD (l,n)=af (lY l n):=by
 refine ci ?_;unfold wD bz bC bB aZ cK aF cD;have fin:∀ i:Nat,i<=l.length->(∀ k,k<i->l.getD k 0<n)->(i<l.length->¬l.getD i 0<n/\l.getD i 0≠n)->l.take i++[n]++l.drop i=lY l n:=λi hi hk hn=>by
  rw[EA n i l hi hk];cases hd:l.drop i with
  |nil=>simp[lY]
  |cons y r=>
   have hlt:i<l.length:=by
    rcases b_ i l.length with h|h
    .exact h
    .rw[List.drop_eq_nil_of_le h] at hd;cases hd
   have J:l.getD i 0=y:=by
    rw[aA,<-List.head?_drop,hd];rfl
   obtain⟨h1,h2⟩:=hn hlt;rw[J] at h1 h2;rw[lY,ay h1,ay h2];simp
 refine bZ l.length (λi x=>x=(i:Int)/\∀ k,k<i->l.getD k 0<n) ?_ ?_ ⟨rfl,λk hk=>by omega⟩
 .rintro i x hi ⟨rfl,I⟩;by_cases hlt:l.getD i 0<n
  .with_reducible repeat' first|(refine OS.ok ?_;constructor)|refine IM.mk λ_=>?_
   all_goals try simp only[au,rc] at*
   all_goals first|omega|skip
   .refine ⟨gy (by omega),λk hk=>?_⟩;rcases b_ k i with h1|h1
    .exact I k h1
    .rw[show k=i by omega];exact hlt
   .rename_i h;exact cR hlt (Cv.2 h)
  .have key:l.getD i 0=n->lY l n=l:=λhe=>by
    rw[EA n i l (by omega) I];cases hd:l.drop i with
    |nil=>have:=gO al hd;simp at this;omega
    |cons y r=>
     have J:l.getD i 0=y:=by rw[aA,<-List.head?_drop,hd];rfl
     rw[J] at he;rw[lY,ay (by omega),aE he,<-hd,BJ]
   with_reducible repeat' first|(refine OS.ok ?_;constructor)|refine IM.mk λ_=>?_
   all_goals try simp only[au,rc] at*
   all_goals first|omega|skip
   .rename_i h;exact cR h hlt
   .refine ax (P:=λr=>r=lY l n) ?_ λr hr=>ar hr
    with_reducible repeat' first|(refine OS.ok ?_;constructor)|refine IM.mk λ_=>?_
    all_goals try simp only[au,rc] at*
    all_goals first|omega|skip
    .rename_i h;exact (key h).symm
    .simp;omega
    .simp;omega
    .simp;omega
    .rename_i h;simpa using fin i (by omega) I (λ_=>⟨hlt,h⟩)
 .rintro x ⟨rfl,I⟩;with_reducible repeat' first|(refine OS.ok ?_;constructor)|refine IM.mk λ_=>?_
  all_goals try simp only[au,rc] at*
  all_goals first|omega|skip
  refine ax (P:=λr=>r=lY l n) ?_ λr hr=>ar hr
  with_reducible repeat' first|(refine OS.ok ?_;constructor)|refine IM.mk λ_=>?_
  all_goals try simp only[au,rc] at*
  all_goals first|omega|skip
  .simp;omega
  .simp;omega
  .simp;omega
  .simpa using fin l.length (by omega) I (λh=>by omega)
def xq (a b:List Int):List Int:=b.foldl lY (a.foldl lY [])
theorem wQ:∀ (b acc:List Int),(b.foldl lY acc).length<=acc.length+b.length
 |[],acc=>by simp
 |x::r,acc=>by
  have:=wQ r (lY acc x);have:=FN x acc;rw[xo,b9];omega
theorem Jz:∀ {b acc:List Int},HJ acc->HJ (b.foldl lY acc)
 |[],_,h=>h
 |x::r,acc,h=>by rw[xo];exact Jz (QM h)
theorem Jy {y:Int}:∀ {b acc:List Int},y∈b.foldl lY acc↔y∈acc\/y∈b
 |[],acc=>by simp
 |x::r,acc=>by
  rw[xo,Jy,Iz];simp;constructor
  .rintro ((h|h)|h)<;>simp[h]
  .rintro (h|h|h)<;>simp[h]
theorem Ql (a b:List Int):HJ (xq a b):=Jz (Jz trivial)
theorem In {a b:List Int} {y:Int}:y∈xq a b↔y∈a\/y∈b:=by unfold xq;rw[Jy,Jy];simp
theorem aae (a b:List Int):(xq a b).length<=a.length+b.length:=by
 have:=wQ b (a.foldl lY []);have:=wQ a [];unfold xq;simp at *;omega
theorem M' {b acc:List Int} {i:Nat} (hi:i<b.length):(b.take (i+1)).foldl lY acc=lY ((b.take i).foldl lY acc) (b.getD i 0):=by
 rw[oV hi,dR,aA,aB hi];rfl
theorem Ts (a b:List Int) (M:a.length<=400000) (hb:b.length<=400000):rB (a,b)=af (xq a b):=by
 refine ci ?_;unfold rB bz bB aZ cK aF cD;refine bZ a.length (λi x=>x.2=(i:Int)/\x.1=(a.take i).foldl lY []) ?_ ?_ ⟨rfl,rfl⟩
 .rintro i ⟨J,I⟩ hi ⟨h1,h2⟩;dsimp only at h1 h2;subst h1;subst h2;have hl:((a.take i).foldl lY []).length<=1000000:=by have:=wQ (a.take i) [];have:=qc i a;simp at *;omega
  with_reducible repeat' first|(refine OS.ok ?_;constructor)|refine IM.mk λ_=>?_
  all_goals try simp only[au,rc] at*
  all_goals first|omega|skip
  refine aT (adn _ _ hl) (ar ?_);dsimp only;refine ⟨gy (by omega),?_⟩;rw[O2,M' hi]
 .rintro⟨J,I⟩ ⟨h1,h2⟩;dsimp only at h1 h2;subst h1;subst h2;rw[cP];have hla:=wQ a [];with_reducible repeat' first|(refine OS.ok ?_;constructor)|refine IM.mk λ_=>?_
  all_goals try simp only[au,rc] at*
  all_goals first|omega|skip
  refine ax (P:=λr=>r=xq a b) ?_ λr hr=>ar hr
  refine bZ b.length (λi x=>x.2=(i:Int)/\x.1=(b.take i).foldl lY (a.foldl lY [])) ?_ ?_ ⟨rfl,rfl⟩
  .rintro i ⟨J,I⟩ hi ⟨h1,h2⟩;dsimp only at h1 h2;subst h1;subst h2;have hl:((b.take i).foldl lY (a.foldl lY [])).length<=1000000:=by have:=wQ (b.take i) (a.foldl lY []);have:=qc i b;simp at *;omega
   with_reducible repeat' first|(refine OS.ok ?_;constructor)|refine IM.mk λ_=>?_
   all_goals try simp only[au,rc] at*
   all_goals first|omega|skip
   refine aT (adn _ _ hl) (ar ?_);dsimp only;refine ⟨gy (by omega),?_⟩;rw[O2,M' hi]
  .rintro⟨J,I⟩ ⟨h1,h2⟩;dsimp only at h1 h2;subst h1;subst h2;rw[cP];with_reducible repeat' first|(refine OS.ok ?_;constructor)|refine IM.mk λ_=>?_
   all_goals try simp only[au,rc] at*
   all_goals first|omega|rfl
def Ii (c:Int) (x:Int×Int×Bool):Bool:=decide (x.1=3)&&decide (x.2.1=c)
def wl (th:List (Int×Int×Bool)) (c:Int):Nat->List Int
 |0=>[]
 |i+1=>if Ii c (aK (T:=jA) th (i:Int)) then wl th c i++[(i:Int)] else wl th c i
theorem vL (th:List (Int×Int×Bool)) (c:Int):∀ i,(wl th c i).length<=i
 |0=>bV _
 |i+1=>by have:=vL th c i;rw[wl];split<;>simp<;>omega
theorem rm {th:List (Int×Int×Bool)} {c u:Int}:∀ {i:Nat},u∈wl th c i↔0<=u/\u<i/\Ii c (aK (T:=jA) th u)=ai
 |0=>by simp[wl];omega
 |i+1=>by
  have I:= @rm th c u i;rw[wl];by_cases hu:u=(i:Int)
  .subst hu;split
   .rename_i h;simp[h];omega
   .rename_i h;rw[I];simp[h]
  .split
   .rw[bQ,I,aL];constructor
    .rintro (h|h)
     .exact⟨h.1,by omega,h.2.2⟩
     .exact cR h hu
    .intro h;exact .inl ⟨h.1,by omega,h.2.2⟩
   .rw[I];constructor
    .intro h;exact⟨h.1,by omega,h.2.2⟩
    .intro h;exact⟨h.1,by omega,h.2.2⟩
theorem ama {th:List (Int×Int×Bool)} {c:Int} {i:Nat} (h1:(aK (T:=jA) th (i:Int)).1=3) (h2:(aK (T:=jA) th (i:Int)).2.1=c):wl th c (i+1)=wl th c i++[(i:Int)]:=by
 rw[wl,aE];unfold Ii;rw[h1,h2];simp
theorem ahl {th:List (Int×Int×Bool)} {c:Int} {i:Nat} (h1:¬(aK (T:=jA) th (i:Int)).1=3):wl th c (i+1)=wl th c i:=by
 rw[wl,ay];unfold Ii;rw[bw h1];simp
theorem ahk {th:List (Int×Int×Bool)} {c:Int} {i:Nat} (h1:¬(aK (T:=jA) th (i:Int)).2.1=c):wl th c (i+1)=wl th c i:=by
 rw[wl,ay];unfold Ii;rw[bw h1];simp
theorem Ws (s:SY) (c:Int) (hs:s.2.2.2.length<=1000):nL (s,c)=af (wl s.2.2.2 c s.2.2.2.length):=by
 refine ci ?_;unfold nL bL be bz bC bB aZ cK aF cD;refine bZ s.2.2.2.length (λi x=>x=((i:Int),s,wl s.2.2.2 c i)) ?_ ?_ rfl
 .rintro i x hi rfl;have hl:=vL s.2.2.2 c i;with_reducible repeat' first|(refine OS.ok ?_;constructor)|refine IM.mk λ_=>?_
  all_goals try simp only[au,rc] at*
  all_goals first|omega|skip
  all_goals first|(simp;omega)|skip
  .rename_i h1 h2;rw[ama h1 h2,gy (by omega)]
  .rename_i h1 h2;rw[ahk h2,gy (by omega)]
  .rename_i h1;rw[ahl h1,gy (by omega)]
 .rintro x rfl;with_reducible repeat' first|(refine OS.ok ?_;constructor)|refine IM.mk λ_=>?_
  all_goals try simp only[au,rc] at*
  all_goals first|omega|rfl
def wo (l:List Int) (n:Int):List Int:=l.filter λx=> !decide (x=n)
theorem Ue (l:List Int) (n:Int) (hl:l.length<=1000000):qp (l,n)=af (wo l n):=by
 refine ci ?_;unfold qp bz iV bC bB aZ cK aF cD;refine bZ l.length (λi x=>x=((i:Int),wo (l.take i) n)) ?_ ?_ rfl
 .rintro i x hi rfl;have hq:(wo (l.take i) n).length<=i:=di (BK ..) (qc ..);have ht:wo (l.take (i+1)) n=if aK (T:=.int .i64) l (i:Int)=n then wo (l.take i) n else wo (l.take i) n++[aK (T:=.int .i64) l (i:Int)]:=by
   unfold wo;rw[oV hi,yc,O2,aA,aB hi];by_cases h:l[i]=n<;>simp[h]
  with_reducible repeat' first|(refine OS.ok ?_;constructor)|refine IM.mk λ_=>?_
  all_goals try simp only[au,rc] at*
  all_goals first|omega|skip
  .simp;omega
  .rename_i h;rw[ht,ay h,gy (by omega)]
  .rename_i h;rw[ht,aE h,gy (by omega)]
 .rintro x rfl;with_reducible repeat' first|(refine OS.ok ?_;constructor)|refine IM.mk λ_=>?_
  all_goals try simp only[au,rc] at*
  all_goals first|omega|(rw [cP])
theorem mI {T:Ty} {xs:List T.den} {i:Nat} (hi:i<al xs):dQ (i+1) xs=dQ i xs++[aK xs (i:Int)]:=by
 rw[oV hi,yM,aA,aB hi];rfl
theorem qU {n:Nat} (s:SY) (hs:SB n s):io s=af (s.2.1,s.1,s.2.2.1,s.2.2.2):=by
 refine ci ?_;obtain⟨s1,s2,J,I⟩:=s;have hn:=hs.n1;have Y:=hs.lk;have U:=hs.dn;have M:=hs.th;dsimp only at Y U M;unfold io aY bh bx bL cX bz bC bB aZ cK aF cD;with_reducible repeat' first|(refine OS.ok ?_;constructor)|refine IM.mk λ_=>?_
 all_goals try simp only[au,rc] at*
 .simp;omega
 .omega
 .simp;omega
 .omega
 refine bZ s1.length (λi x=>x=((i:Int),(s1,s2,J,I),0,s2,s1.take i,J,I)) ?_ ?_ ?_
 .rintro i x hi rfl;have hg:=hs.rd _ (bJ (T:=AC) (xs:=s1) (j:=(i:Int)) (by omega) (by omega));with_reducible repeat' first|(refine OS.ok ?_;constructor)|refine IM.mk λ_=>?_
  all_goals try simp only[au,rc] at*
  all_goals first|omega|skip
  .simp;omega
  .simp;omega
  .rw[gy (by omega),mI (T:=AC) hi];rfl
 .rintro x rfl;with_reducible repeat' first|(refine OS.ok ?_;constructor)|refine IM.mk λ_=>?_
  all_goals try simp only[au,rc] at*
  all_goals first|omega|skip
  simp
 .simp
theorem G6 (s:SY) (c:Int) (hs:s.2.2.2.length<=1000):jC ((s.2.1,c),s.1,s.2.2.1,s.2.2.2)=af (wl s.2.2.2 c s.2.2.2.length):=by
 refine ci ?_;unfold jC;refine ax (P:=λy=>y=(wl s.2.2.2 c s.2.2.2.length,s.1,s.2.2.1,s.2.2.2)) ?_ λy I=>by subst I;exact aez rfl (ar rfl)
 unfold mh aY bh bx bL cX be bz bC kB aZ cK aF cD;refine bZ s.2.2.2.length (λi x=>x=((i:Int),s.1,s.2.2.1,s.2.2.2,s.2.1,wl s.2.2.2 c i)) ?_ ?_ rfl
 .rintro i x hi rfl;have hl:=vL s.2.2.2 c i;with_reducible repeat' first|(refine OS.ok ?_;constructor)|refine IM.mk λ_=>?_
  all_goals try simp only[au,rc] at*
  all_goals first|omega|skip
  all_goals first|(simp;omega)|skip
  .rename_i h1 h2;rw[ama h1 h2,gy (by omega)]
  .rename_i h1 h2;rw[ahk h2,gy (by omega)]
  .rename_i h1;rw[ahl h1,gy (by omega)]
 .rintro x rfl;with_reducible repeat' first|(refine OS.ok ?_;constructor)|refine IM.mk λ_=>?_
  all_goals try simp only[au,rc] at*
  all_goals first|omega|rfl
structure AP (n:Nat) (s y:SY):Prop where
 a1:y.1.length=s.1.length
 a2:y.2.2.1.length=s.2.2.1.length
 a3:y.2.2.2.length=s.2.2.2.length
 rd:∀ l∈y.1,l.2.length<=n+1
theorem AP.toSB {n:Nat} {s y:SY} (h:AP n s y) (hs:SB n s) (hn:n+1<=100000):SB (n+1) y:=
 ⟨hn,by rw[h.a1];exact hs.lk,h.rd,by rw[h.a2];exact hs.dn,by rw[h.a3];exact hs.th⟩
theorem AP.same {n:Nat} {s:SY} (hs:SB n s) (x:Int) (d:List Bool) (t:List (Int×Int×Bool)) (hd:d.length=s.2.2.1.length) (ht:t.length=s.2.2.2.length):AP n s (s.1,x,d,t):=
 ⟨rfl,hd,ht,λl hl=>iB (hs.rd l hl)⟩
theorem AP.set {n:Nat} {s:SY} (hs:SB n s) (j a:Int) (r:List Int) (hr:r.length<=n+1) (x:Int) (d:List Bool) (t:List (Int×Int×Bool)) (hd:d.length=s.2.2.1.length) (ht:t.length=s.2.2.2.length):AP n s (cQ s.1 j (a,r),x,d,t):=
 ⟨bW _ _ _,hd,ht,λl hl=>by
   rcases CL hl with h|rfl
   .exact iB (hs.rd l h)
   .exact hr⟩
def ye (th:List (Int×Int×Bool)) (t st:Int):List (Int×Int×Bool):=cQ th t (st,(aK (T:=jA) th t).2)
def owP (lk:List (Int×List Int)) (o t:Int):List (Int×List Int):=cQ lk o (t,(aK (T:=AC) lk o).2)
def rdP (lk:List (Int×List Int)) (o:Int) (l:List Int):List (Int×List Int):=cQ lk o ((aK (T:=AC) lk o).1,l)
def cdP (th:List (Int×Int×Bool)) (t c:Int):List (Int×Int×Bool):=cQ th t ((aK (T:=jA) th t).1,c,(aK (T:=jA) th t).2.2)
def atP (th:List (Int×Int×Bool)) (t:Int) (b:Bool):List (Int×Int×Bool):=cQ th t ((aK (T:=jA) th t).1,(aK (T:=jA) th t).2.1,b)
def C2 (th:List (Int×Int×Bool)) (l:List Int):List (Int×Int×Bool):=l.foldl (λx u=>ye x u 4) th
def BD (l:List Int) (u:Int):Int:=if l.length=0 then -1 else if l.contains u then u else aK (T:=.int .i64) l 0
def muP (w:WT) (o:Int):Int:=(aK (T:=T9) w.2.2.1 o).2
def rh (w:WT) (s:SY) (t k o u:Int):SY×Int:=
 if k=1 then ((s.1,s.2.1,s.2.2.1,ye s.2.2.2 t 2),0)
 else if k=2 then ((s.1,s.2.1,s.2.2.1,ye s.2.2.2 t 5),0)
 else if k=6\/k=10 then ((owP s.1 o t,s.2),0)
 else if k=7\/k=11 then ((owP s.1 o (-1),s.2),0)
 else if k=8 then ((rdP s.1 o (xq (aK (T:=AC) s.1 o).2 [t]),s.2),0)
 else if k=9 then ((rdP s.1 o (wo (aK (T:=AC) s.1 o).2 t),s.2),0)
 else if k=12 then ((s.1,t,s.2.2),0)
 else if k=13 then ((s.1,-1,s.2.2),0)
 else if k=14 then ((s.1,s.2.1,s.2.2.1,atP s.2.2.2 t ai),0)
 else if k=15 then ((s.1,s.2.1,s.2.2.1,atP s.2.2.2 t aj),0)
 else if k=16 then ((owP s.1 (muP w o) (-1),s.2.1,s.2.2.1,cdP (ye s.2.2.2 t 3) t o),0)
 else if k=17 then ((owP s.1 (muP w o) t,s.2.1,s.2.2.1,cdP (ye s.2.2.2 t 2) t 0),0)
 else if k=18 then (if (wl s.2.2.2 o s.2.2.2.length).length=0 then (s,-1) else ((s.1,s.2.1,s.2.2.1,ye s.2.2.2 (BD (wl s.2.2.2 o s.2.2.2.length) u) 4),BD (wl s.2.2.2 o s.2.2.2.length) u))
 else if k=19 then ((s.1,s.2.1,s.2.2.1,C2 s.2.2.2 (wl s.2.2.2 o s.2.2.2.length)),((wl s.2.2.2 o s.2.2.2.length).length:Int))
 else if k=20 then ((s.1,s.2.1,s.2.2.1,ye s.2.2.2 o 1),0)
 else if k=22 then ((s.1,s.2.1,cQ s.2.2.1 o ai,s.2.2.2),0)
 else (s,0)
theorem HY (l:List Int):∀ th,(C2 th l).length=th.length:=by
 induction l with
 |nil=>intro th;rfl
 |cons x r I=>intro th;unfold C2;rw[xo];exact (I _).trans (bW ..)
theorem abc {th:List (Int×Int×Bool)} {l:List Int} {i:Nat} (hi:i<l.length):C2 th (l.take (i+1))=ye (C2 th (l.take i)) (aK (T:=.int .i64) l (i:Int)) 4:=by
 unfold C2;rw[oV hi,dR,O2,aA,aB hi];rfl
theorem T7 {n:Nat} (w:WT) (s:SY) (hs:SB n s) (U:w.2.2.1.length<=1000) (t k o u:Int):Ok (pl (w,s,t,k,o,u)) λy=>(y.2.2=ai->EN w s t k o/\Wy w s t k o/\AP n s y.1/\(y.1,y.2.1)=rh w s t k o u)/\(y.2.2=aj->y.1=([],0,[],[]))/\(kc (w,s,t,k,o)=af ai->y.2.2=ai):=by
 unfold pl aY bh bx cC bL dA cX fh ck be bz bB kB aZ cK aF cD;obtain⟨b,J,hb⟩:=Li w s hs U t k o;refine aT J ?_;refine dN (λh=>ar ⟨λh=>(by cases h),λ_=>rfl,λh2=>(by rw[J,h] at h2;cases h2)⟩) (λh=>?_);obtain⟨he,hry⟩:=hb h;refine aT (qU s hs) ?_;suffices hmain:Ok _ _ from aX (λx=>AP n s (x.2.2.2.1,x.2.1,x.2.2.2.2)/\((x.2.2.2.1,x.2.1,x.2.2.2.2),x.1)=rh w s t k o u) hmain λx M=>ar ⟨λ_=>⟨he,hry,M⟩,λh=>(by cases h),λ_=>rfl⟩
 obtain⟨nm,t0,t1,cd,e1,e2,e3⟩:=id he;obtain⟨_,_,ce,lk,cn,th,fu⟩:=nm;have hn:=hs.n1;have hlk:=hs.lk;have hm:16<=k/\k<=19->0<=(aK (T:=T9) w.2.2.1 o).2/\(aK (T:=T9) w.2.2.1 o).2<w.2.1.length:=λh=>cd _ (bJ (cn h).1 (cn h).2)
 have hr:∀ j:Int,0<=j->j<s.1.length->(aK (T:=AC) s.1 j).2.length<=n:=λj h0 h1=>hs.rd _ (bJ (T:=AC) h0 h1)
 rcases @I1 k with rfl|rfl|rfl|rfl|rfl|rfl|rfl|rfl|rfl|rfl|rfl|rfl|rfl|rfl|rfl|rfl|rfl|rfl|rfl|rfl|rfl|rfl|rfl|⟨hk,Y⟩
 case inr.inr.inr.inr.inr.inr.inr.inr.inr.inr.inr.inr.inr.inr.inr.inr.inr.inr.inr.inr.inr.inr.inr=>omega
 all_goals simp only[aV,bt,tj]
 all_goals with_reducible repeat' first|(refine OS.ok ?_;constructor)|refine IM.mk λ_=>?_
 all_goals try simp only[au,rc] at*
 all_goals try rw[bW]
 all_goals first|omega|exact (hm ⟨by decide,by decide⟩).1|exact e1▸(hm ⟨by decide,by decide⟩).2|exact⟨AP.same hs _ _ _ rfl rfl,rfl⟩|exact⟨AP.same hs _ _ _ rfl (bW _ _ _),rfl⟩|exact⟨AP.same hs _ _ _ (bW _ _ _) rfl,rfl⟩|skip
 all_goals try exact⟨AP.set hs _ _ _ (iB (hr o (by omega) (by omega))) _ _ _ rfl rfl,rfl⟩
 .have:=hr o (by omega) (by omega);refine aT (Ts _ _ (di this (by have:=hs.n1;omega)) (by simp)) ?_;with_reducible repeat' first|(refine OS.ok ?_;constructor)|refine IM.mk λ_=>?_
  all_goals try simp only[au,rc] at*
  all_goals first|omega|skip
  exact⟨AP.set hs _ _ _ (by have:=aae (aK (T:=AC) s.1 o).2 [t];simp at this;omega) _ _ _ rfl rfl,rfl⟩
 .have:=hr o (by omega) (by omega);have hl:(wo (aK (T:=AC) s.1 o).2 t).length<=(aK (T:=AC) s.1 o).2.length:=BK ..;refine aT (Ue _ _ (by omega)) ?_;with_reducible repeat' first|(refine OS.ok ?_;constructor)|refine IM.mk λ_=>?_
  all_goals try simp only[au,rc] at*
  all_goals first|omega|skip
  exact⟨AP.set hs _ _ _ (di hl (by omega)) _ _ _ rfl rfl,rfl⟩
 .exact⟨AP.set hs _ _ _ (iB (hr _ (hm ⟨by decide,by decide⟩).1 (by rw[e1];exact (hm ⟨by decide,by decide⟩).2))) _ _ _ rfl (by rw[bW,bW]),rfl⟩
 .exact⟨AP.set hs _ _ _ (iB (hr _ (hm ⟨by decide,by decide⟩).1 (by rw[e1];exact (hm ⟨by decide,by decide⟩).2))) _ _ _ rfl (by rw[bW,bW]),rfl⟩
 .refine aT (G6 s o hs.th) ?_;have hth:=hs.th;have hll:=vL s.2.2.2 o s.2.2.2.length;have hml:∀ u∈wl s.2.2.2 o s.2.2.2.length,0<=u/\u<s.2.2.2.length:=λu hu=>⟨(rm.1 hu).1,(rm.1 hu).2.1⟩
  have hap:rh w s t 18 o u=if (wl s.2.2.2 o s.2.2.2.length).length=0 then (s,-1) else ((s.1,s.2.1,s.2.2.1,ye s.2.2.2 (BD (wl s.2.2.2 o s.2.2.2.length) u) 4),BD (wl s.2.2.2 o s.2.2.2.length) u):=rfl
  unfold BD at hap;revert hll hml hap;generalize wl s.2.2.2 o s.2.2.2.length=l;intro hll hml hap;with_reducible repeat' first|(refine OS.ok ?_;constructor)|refine IM.mk λ_=>?_
  all_goals try simp only[au,rc] at*
  all_goals first|omega|skip
  .have I:=hml _ (bJ (T:=.int .i64) (xs:=l) (j:=0) (by omega) (by omega));rw[ay (by omega),ay (by omega)] at hap;simp only[WE l u (by omega),Xl];refine aO (λhc=>?_) λhc=>?_
   .have hu:=hml u (s9.1 hc);rw[hc,aE rfl] at hap;refine ar (aS hu.1 hu.2 (aS hu.1 hu.2 (ar ⟨AP.same hs _ _ _ rfl (bW ..),?_⟩)));rw[hap];rfl
   .rw[hc,ay (by decide)] at hap;refine ar (aS I.1 I.2 (aS I.1 I.2 (ar ⟨AP.same hs _ _ _ rfl (bW ..),?_⟩)));rw[hap];rfl
  .rw[aE (by omega)] at hap;exact⟨AP.same hs _ _ _ rfl rfl,hap.symm⟩
 .refine aT (G6 s o hs.th) ?_;have hth:=hs.th;have hll:=vL s.2.2.2 o s.2.2.2.length;have hml:∀ u∈wl s.2.2.2 o s.2.2.2.length,0<=u/\u<s.2.2.2.length:=λu hu=>⟨(rm.1 hu).1,(rm.1 hu).2.1⟩
  have hap:rh w s t 19 o u=((s.1,s.2.1,s.2.2.1,C2 s.2.2.2 (wl s.2.2.2 o s.2.2.2.length)),((wl s.2.2.2 o s.2.2.2.length).length:Int)):=rfl;rw[hap];clear hap;generalize wl s.2.2.2 o s.2.2.2.length=l at hll hml ⊢;refine bZ l.length (λi x=>x=((i:Int),s.2.1,0,s.1,s.2.2.1,C2 s.2.2.2 (l.take i))) ?_ ?_ rfl
  .rintro i x hi rfl;have I:=hml _ (bJ (T:=.int .i64) (xs:=l) (j:=(i:Int)) (by omega) (by omega));have hq:=HY (l.take i) s.2.2.2;with_reducible repeat' first|(refine OS.ok ?_;constructor)|refine IM.mk λ_=>?_
   all_goals try simp only[au,rc] at*
   all_goals first|omega|skip
   rw[gy (by omega),abc hi];rfl
  .rintro x rfl;rw[cP];with_reducible repeat' first|(refine OS.ok ?_;constructor)|refine IM.mk λ_=>?_
   all_goals try simp only[au,rc] at*
   all_goals first|omega|skip
   exact AP.same hs _ _ _ rfl (HY ..)
abbrev SN:Type:=SY×List Int×List Int×List Int
abbrev ET:Type:=Int×Int×Int×Int×Int×List Int×List Int
theorem amo (a b:Int):C4 (a,b)=af (decide (0<=a/\a<b)):=abq a b
structure NB (n:Nat) (s:SN):Prop where
 sb:SB n s.1
 c:s.2.1.length<=1000
 f:s.2.2.1.length<=1000
 k:s.2.2.2.length<=1000
structure SP (n:Nat) (s y:SN):Prop where
 ap:AP n s.1 y.1
 c:y.2.1.length=s.2.1.length
 f:y.2.2.1.length=s.2.2.1.length
 k:y.2.2.2.length=s.2.2.2.length
theorem SP.NB {n:Nat} {s y:SN} (h:SP n s y) (hs:NB n s) (hn:n+1<=100000):NB (n+1) y:=
 ⟨h.ap.toSB hs.sb hn,by rw[h.c];exact hs.c,by rw[h.f];exact hs.f,by rw[h.k];exact hs.k⟩
def sn0:SN:=(([],0,[],[]),[],[],[])
structure F16 (w:WT) (s:SN):Prop where
 c:s.2.1.length=w.1.length
 f:s.2.2.1.length=w.2.2.2.1.length
 k:s.2.2.2.length=w.2.2.2.2.1.length
theorem ZW (w:WT) (s:SN) (I:w.2.2.1.length<=1000):Ok (wy (w,s)) λb=>b=ai->F16 w s:=by
 unfold wy aY bh bx dA be aZ aF;refine gj (ax (Qa w s.1 (by omega)) λb hb=>?_);with_reducible repeat' first|(refine OS.ok ?_;constructor)|refine IM.mk λ_=>?_
 all_goals try simp only[au,rc] at*
 all_goals first|(intro h;constructor<;>omega)|(intro h;cases h;done)
theorem XY:∀ (l:List Int),(∀ k:Nat,k+1<l.length->l.getD k 0<l.getD (k+1) 0)->HJ l
 |[],_=>trivial
 |[x],_=>⟨λy M=>(by cases M),trivial⟩
 |x::y::r,h=>by
  have J:=XY (y::r) λk hk=>by have:=h (k+1) (by simpa using hk);simpa using this
  have h0:=h 0 (by simp);simp at h0;refine ⟨λz I=>?_,J⟩;rcases bp.1 I with rfl|I
  .exact h0
  .have:=J.1 z I;omega
structure AN (c:Int) (l:List Int):Prop where
 a:HJ l
 m:∀ x:Int,x∈l->1<=x/\x<c
theorem IJ (l:List Int) (c:Int) (hl:l.length<=1000000000):Ok (nJ (l,c)) λb=>b=ai->AN c l:=by
 unfold nJ bz iW bB aZ cK aF cD;refine bZ l.length (λi x=>x=(i:Int)/\(∀ k:Nat,k<i->1<=aK (T:=.int .i64) l (k:Int)/\aK (T:=.int .i64) l (k:Int)<c)/\∀ k:Nat,k+1<i->l.getD k 0<l.getD (k+1) 0) ?_ ?_ ⟨rfl,λk hk=>by omega,λk hk=>by omega⟩
 .rintro i x hi ⟨rfl,I,J⟩;have M:0<(i:Int)->bk .i64 ((i:Int)-1)=((i-1:Nat):Int):=λh=>by rw[ig (by omega) (by omega)];omega
  have hq:(0<i->l.getD (i-1) 0<l.getD i 0)->1<=aK (T:=.int .i64) l (i:Int)/\aK (T:=.int .i64) l (i:Int)<c->bk .i64 ((i:Int)+1)=((i+1:Nat):Int)/\(∀ k:Nat,k<i+1->1<=aK (T:=.int .i64) l (k:Int)/\aK (T:=.int .i64) l (k:Int)<c)/\∀ k:Nat,k+1<i+1->l.getD k 0<l.getD (k+1) 0:=λg1 Z=>by
   refine ⟨gy (by omega),λk hk=>?_,λk hk=>?_⟩
   .rcases b_ k i with h1|h1
    .exact I k h1
    .rw[show k=i by omega];exact Z
   .rcases b_ (k+1) i with h1|h1
    .exact J k h1
    .have:=g1 (by omega);rw[show k=i-1 by omega,show i-1+1=i by omega];exact this
  with_reducible repeat' first|(refine OS.ok ?_;constructor)|refine IM.mk λ_=>?_
  all_goals try simp only[au,rc] at*
  all_goals first|omega|(intro h;cases h;done)|(rw [M (by omega)];omega)|skip
  .rename_i h1 h2 Y U;rw[M Y,O2,O2] at U;exact hq (λ_=>U) ⟨by omega,by omega⟩
  .exact hq (λh=>by omega) ⟨by omega,by omega⟩
 .rintro x ⟨rfl,I,J⟩;with_reducible repeat' first|(refine OS.ok ?_;constructor)|refine IM.mk λ_=>?_
  all_goals try simp only[au,rc] at*
  all_goals first|omega|skip
  exact⟨XY l λk hk=>J k hk,iv (T:=.int .i64) I⟩
structure VA (w:WT) (sy:SY) (ce fu:List Int) (t k o v:Int):Prop where
 ld:k=3->v=aK (T:=.int .i64) ce o
 gt:k=23->v=aK (T:=.int .i64) fu o
 br:k=5->v=0\/v=1
 el:¬k=3->¬k=23->¬k=5->¬k=4->¬k=22->v=(rh w sy t k o v).2
theorem ite2 {c:Prop} [Decidable c] {a b:SY×Int} (I:a.2=0) (hb:b.2=0):(if c then a else b).2=0:=by by_cases h:c<;>simp[h,I,hb]
theorem aic (w:WT) (sy:SY) (t k o u:Int) (h1:¬k=18) (h2:¬k=19):(rh w sy t k o u).2=0:=by
 unfold rh;rw[ay h1,ay h2];repeat (first|exact rfl|refine ite2 rfl ?_)
theorem X2 (w:WT) (sy:SY) (t k o u I:Int) (h1:¬k=18):rh w sy t k o u=rh w sy t k o I:=by
 unfold rh;rw[ay h1,ay h1]
theorem FA (w:WT) (sy:SY) (t o u:Int):rh w sy t 18 o u=if (wl sy.2.2.2 o sy.2.2.2.length).length=0 then (sy,-1) else ((sy.1,sy.2.1,sy.2.2.1,ye sy.2.2.2 (BD (wl sy.2.2.2 o sy.2.2.2.length) u) 4),BD (wl sy.2.2.2 o sy.2.2.2.length) u):=rfl
theorem ajy (w:WT) (sy:SY) (t o u:Int):(rh w sy t 19 o u).2=((wl sy.2.2.2 o sy.2.2.2.length).length:Int):=rfl
theorem aad {n:Nat} (w:WT) (s:SN) (hs:NB n s) (hf:F16 w s) (e:ET) (he:EN w s.1 e.1 e.2.1 e.2.2.1):Ok (uj (s,e)) λb=>b=ai->VA w s.1 s.2.1 s.2.2.1 e.1 e.2.1 e.2.2.1 e.2.2.2.1:=by
 obtain⟨t,k,o,v,si,de,fr⟩:=e;obtain⟨s1,s2,s3,s4⟩:=s;obtain⟨nm,t0,t1,cd,e1,e2,e3⟩:=he;obtain⟨_,_,ce,lk,cn,th,fu,_,_,_⟩:=nm;obtain⟨f1,f2,f3⟩:=hf;have hth:=hs.sb.th;dsimp only at*
 unfold uj aY bh bx cC bL be bz iW bB aZ aF;have hW:=Ws s1 o hth;have hWl:=vL s1.2.2.2 o s1.2.2.2.length;refine aJ (λh=>?_) λn3=>?_
 .have h:k=3:=h;obtain⟨Z,Y⟩:=ce (.inl h);exact aS Z (by rw[f1];exact Y) (aR (ar λh2=>⟨λ_=>bi h2,λI=>by omega,λI=>by omega,λI=>(I h).elim⟩))
 refine aJ (λh=>?_) λJ=>?_
 .have h:k=23:=h;obtain⟨Z,Y⟩:=fu (.inr h);exact aS Z (by rw[f2];exact Y) (aR (ar λh2=>⟨λI=>by omega,λ_=>bi h2,λI=>by omega,λ_ I=>(I h).elim⟩))
 refine aJ (λh=>?_) λn5=>?_
 .have h:k=5:=h;exact gj (aJ (λh2=>ar (ar λ_=>⟨λI=>by omega,λI=>by omega,λ_=>.inl h2,λ_ _ I=>(I h).elim⟩)) λ_=>ar (ar λh2=>⟨λI=>by omega,λI=>by omega,λ_=>.inr (bi h2),λ_ _ I=>(I h).elim⟩))
 refine aX (λx=>x.2=((s1,s2,s3,s4),t,k,o,v,si,de,fr)/\(x.1=ai->k=4\/k=22)) (aJ (λh=>ar ⟨rfl,λ_=>.inl h⟩) λ_=>ar ⟨rfl,λh=>.inr (bi h)⟩) ?_;rintro⟨b,x⟩ ⟨e,hb⟩;dsimp only at e hb;subst e;refine aO (λh=>ar λ_=>⟨λI=>(n3 I).elim,λI=>(J I).elim,λI=>(n5 I).elim,λ_ _ _ h4 h5=>(hb h).elim (λh=>(h4 h).elim) λh=>(h5 h).elim⟩) λ_=>?_
 have fin:v=(rh w s1 t k o v).2->VA w s1 s2 s3 t k o v:=λh=>⟨λI=>(n3 I).elim,λI=>(J I).elim,λI=>(n5 I).elim,λ_ _ _ _ _=>h⟩
 refine aJ (λh=>?_) λU=>?_
 .have h:k=18:=h;subst h;rw[FA] at fin;refine aT hW ?_;revert fin hWl;generalize wl s1.2.2.2 o s1.2.2.2.length=l;intro hWl fin;refine aJ (λh=>ar λh2=>fin ?_) λh=>?_
  .dsimp only[au] at h;rw[aE (by omega)];exact bi h2
  .dsimp only[au] at h;have hne:¬l.length=0:=by omega
   refine gj (eZ (λ_=>bI (λ_=>?_) λ_=>ar (ar λh=>(by cases h))) λ_=>ar (ar λh=>(by cases h)));refine aT (WE _ _ (by omega)) (ar (ar λh2=>fin ?_));rw[ay hne];unfold BD;rw[ay hne,aE h2]
 refine aJ (λh=>?_) λM=>?_
 .have h:k=19:=h;subst h;exact aT hW (ar λh2=>fin (bi h2))
 exact ar λh2=>fin (by rw[aic _ _ _ _ _ _ U M];exact bi h2)
structure S16 (w:WT) (s:SN) (e:ET):Prop where
 rd:Wy w s.1 e.1 e.2.1 e.2.2.1
 s1:e.2.1=1\/e.2.1=2->e.2.2.2.2.1= -1
 s2:¬(e.2.1=1\/e.2.1=2)->0<=e.2.2.2.2.1/\e.2.2.2.2.1<w.2.2.2.2.2.length/\(aK (T:=yd) w.2.2.2.2.2 e.2.2.2.2.1).1=e.1
 de:0<e.2.2.2.2.2.1.length->e.2.1=5\/(e.2.1=3\/e.2.1=4)/\¬(aK (T:=Qb) w.1 e.2.2.1).2.2.1=0
 fr:0<e.2.2.2.2.2.2.length->e.2.1=4\/e.2.1=22
 nd:AN (aK (T:=.int .i64) s.2.2.2 e.1) e.2.2.2.2.2.1
 nf:AN (aK (T:=.int .i64) s.2.2.2 e.1) e.2.2.2.2.2.2
 va:VA w s.1 s.2.1 s.2.2.1 e.1 e.2.1 e.2.2.1 e.2.2.2.1
def Zm (ce:List Int) (e:ET):List Int:=if e.2.1=4 then cQ ce e.2.2.1 e.2.2.2.1 else ce
def fuP (fu:List Int) (e:ET):List Int:=if e.2.1=22 then cQ fu e.2.2.1 e.2.2.2.1 else fu
def nxP (w:WT) (s:SN) (e:ET):SN:=((rh w s.1 e.1 e.2.1 e.2.2.1 e.2.2.2.1).1,Zm s.2.1 e,fuP s.2.2.1 e,cQ s.2.2.2 e.1 (bk .i64 (aK (T:=.int .i64) s.2.2.2 e.1+1)))
theorem FD {n:Nat} (w:WT) (s:SN) (hs:NB n s) (hw:w.2.2.1.length<=1000) (e:ET) (hd:e.2.2.2.2.2.1.length<=1000000000) (hf:e.2.2.2.2.2.2.length<=1000000000):Ok (ry (w,s,e)) λy=>(y.2=ai->EN w s.1 e.1 e.2.1 e.2.2.1/\SP n s y.1/\S16 w s e/\y.1=nxP w s e)/\(y.2=aj->y.1=sn0):=by
 have Z:∀ {Q:SN×Bool->Prop},Q (sn0,aj)->Ok (af (sn0,aj)) Q:=λh=>ar h
 have z0:((sn0,aj).2=ai->EN w s.1 e.1 e.2.1 e.2.2.1/\SP n s (sn0,aj).1/\S16 w s e/\(sn0,aj).1=nxP w s e)/\((sn0,aj).2=aj->(sn0,aj).1=sn0):=⟨λh=>(by cases h),λ_=>rfl⟩
 unfold ry aY bh bx cC dW bL dA cX fh kD ck be bz iV bC bB kB aZ cK aF cD;refine aX (λx=>x.2=(w,s,e,0)/\(x.1=aj->F16 w s/\(EN w s.1 e.1 e.2.1 e.2.2.1/\Wy w s.1 e.1 e.2.1 e.2.2.1)/\kc (w,s.1,e.1,e.2.1,e.2.2.1)=af ai)) ?_ ?_
 .refine ax (ZW w s hw) λb hb=>?_
  with_reducible repeat' first|(refine OS.ok ?_;constructor)|refine IM.mk λ_=>?_
  .exact⟨rfl,λh=>(by cases h)⟩
  simp only[amo,Xl];with_reducible repeat' first|(refine OS.ok ?_;constructor)|refine IM.mk λ_=>?_
  .exact⟨rfl,λh=>(by cases h)⟩
  .exact⟨rfl,λh=>(by cases h)⟩
  .exact⟨rfl,λh=>(by cases h)⟩
  obtain⟨c,hc0,hc⟩:=Li w s.1 hs.sb hw e.1 e.2.1 e.2.2.1;refine aT hc0 (ar ⟨rfl,λh=>?_⟩);have h:c=ai:=by simpa using h
  exact⟨hb (by assumption),hc h,h▸hc0⟩
 rintro⟨J,M⟩ ⟨I,hx⟩;dsimp only at I hx;subst I;refine aO (λ_=>Z z0) λh1=>?_
 obtain⟨hF,⟨hE,hR⟩,hEn⟩:=hx h1;clear hx h1;refine aX (λx=>x=(w,s,e,0)/\(e.2.1=1\/e.2.1=2->e.2.2.2.2.1= -1)/\(¬(e.2.1=1\/e.2.1=2)->0<=e.2.2.2.2.1/\e.2.2.2.2.1<w.2.2.2.2.2.length/\(aK (T:=yd) w.2.2.2.2.2 e.2.2.2.2.1).1=e.1)) ?_ ?_
 .refine aX (λx=>x.2=(w,s,e,0)/\(x.1=ai->e.2.1=1\/e.2.1=2)/\(x.1=aj->¬(e.2.1=1\/e.2.1=2))) ?_ ?_
  .refine aJ (λh=>ar ⟨rfl,λ_=>.inl h,λh=>(by cases h)⟩) λh=>ar ⟨rfl,λh2=>.inr (bi h2),λh2=>?_⟩
   have:=Uc h2;exact λY=>Y.elim h this
  rintro⟨J,M⟩ ⟨I,hy1,hy2⟩;dsimp only at I hy1 hy2;subst I;refine aO (λhk=>?_) λhk=>?_
  .exact b8 (λ_=>ar z0) λh=>ar ⟨rfl,λ_=>h,λY=>(Y (hy1 hk)).elim⟩
  .refine aX (λx=>x.2=(w,s,e,0)/\(x.1=aj->0<=e.2.2.2.2.1/\e.2.2.2.2.1<w.2.2.2.2.2.length/\(aK (T:=yd) w.2.2.2.2.2 e.2.2.2.2.1).1=e.1)) ?_ ?_
   .simp only[amo,Xl];refine b8 (λ_=>ar ⟨rfl,λh=>(by cases h)⟩) λh=>aS h.1 h.2 (aR (ar ⟨rfl,λh2=>⟨h.1,h.2,?_⟩⟩))
    simpa using h2
   rintro⟨J,M⟩ ⟨I,Z⟩;dsimp only at I Z;subst I;exact aO (λ_=>ar z0) λh=>ar ⟨rfl,λY=>((hy2 hk) Y).elim,λ_=>Z h⟩
 rintro x ⟨rfl,hS1,hS2⟩;obtain⟨nm,t0,t1,cd,e1,e2,e3⟩:=id hE;obtain⟨_,_,ce,lk,cn,th,fu,_,_,_⟩:=nm;obtain⟨f1,f2,f3⟩:=id hF;refine aX (λx=>x.2=(w,s,e,0)/\(x.1=ai->e.2.1=3\/e.2.1=4)) ?_ ?_
 .with_reducible repeat' first|(refine OS.ok ?_;constructor)|refine IM.mk λ_=>?_
  .exact⟨rfl,λ_=>.inl (by assumption)⟩
  .exact⟨rfl,λh=>.inr (bi h)⟩
 rintro⟨J,M⟩ ⟨I,U⟩;dsimp only at I U;subst I;refine aX (λx=>x.2=(w,s,e,0)/\(x.1=aj->0<e.2.2.2.2.2.1.length->e.2.1=5\/(e.2.1=3\/e.2.1=4)/\¬(aK (T:=Qb) w.1 e.2.2.1).2.2.1=0)) ?_ ?_
 .refine bI (λ_=>b8 (λ_=>aO (λh=>?_) λ_=>ar ⟨rfl,λh=>(by cases h)⟩) λh5=>ar ⟨rfl,λ_ _=>.inl h5⟩) λh=>ar ⟨rfl,λ_ h2=>?_⟩
  .refine aS (ce (U h)).1 (ce (U h)).2 (aR (ar ⟨rfl,λh2 _=>.inr ⟨U h,?_⟩⟩));simpa using h2
  .dsimp only[au] at h;omega
 rintro⟨J,M⟩ ⟨I,hDe⟩;dsimp only at I hDe;subst I;refine aO (λ_=>Z z0) λhde=>?_
 refine aX (λx=>x.2=(w,s,e,0)/\(x.1=aj->0<e.2.2.2.2.2.2.length->e.2.1=4\/e.2.1=22)) ?_ ?_
 .refine bI (λ_=>b8 (λ_=>ar ⟨rfl,λh _=>.inr (by simpa using h)⟩) λh4=>ar ⟨rfl,λ_ _=>.inl h4⟩) λh=>ar ⟨rfl,λ_ h2=>?_⟩
  dsimp only[au] at h;omega
 rintro⟨J,M⟩ ⟨I,hFr⟩;dsimp only at I hFr;subst I;refine aO (λ_=>Z z0) λhfr=>?_
 have hk:=hs.k;have hc:=hs.c;have hfu:=hs.f;refine aX (λx=>x.2=(w,s,e,0)/\(x.1=aj->AN (aK (T:=.int .i64) s.2.2.2 e.1) e.2.2.2.2.2.1/\AN (aK (T:=.int .i64) s.2.2.2 e.1) e.2.2.2.2.2.2/\VA w s.1 s.2.1 s.2.2.1 e.1 e.2.1 e.2.2.1 e.2.2.2.1)) ?_ ?_
 .have hv:=aad w s hs hF e hE;refine aS t0 (by rw[f3];exact t1) (aR (ax (IJ _ _ hd) λb hb=>?_));refine dN (λ_=>ar ⟨rfl,λh=>(by cases h)⟩) λb1=>?_
  refine aS t0 (by rw[f3];exact t1) (aR (ax (IJ _ _ hf) λb hb2=>?_));refine dN (λ_=>ar ⟨rfl,λh=>(by cases h)⟩) λb2=>?_
  exact ax hv λb hb3=>ar ⟨rfl,λh=>⟨hb b1,hb2 b2,hb3 (by simpa using h)⟩⟩
 rintro⟨J,M⟩ ⟨I,hNum⟩;dsimp only at I hNum;subst I;refine aO (λ_=>Z z0) λhnu=>?_
 obtain⟨hN1,hN2,hVA⟩:=hNum hnu;have hS:S16 w s e:=⟨hR,hS1,hS2,hDe hde,hFr hfr,hN1,hN2,hVA⟩
 refine bg (by simp;omega) (by omega) (bg (by simp;omega) (by omega) (bg (by simp;omega) (by omega) ?_));refine aX (λx=>x.2=(w,s,e,0,0,s.2.1,s.2.2.1,s.2.2.2)/\rh w s.1 e.1 e.2.1 e.2.2.1 x.1=rh w s.1 e.1 e.2.1 e.2.2.1 e.2.2.2.1) ?_ ?_
 .exact aJ (λ_=>ar ⟨rfl,rfl⟩) λh=>ar ⟨rfl,X2 _ _ _ _ _ _ _ h⟩
 rintro⟨J,M⟩ ⟨I,hxu⟩;dsimp only at I hxu;subst I;refine ax (T7 w s.1 hs.sb hw e.1 e.2.1 e.2.2.1 J) λy hy=>?_
 obtain⟨_,_,hap,hyq⟩:=hy.1 (hy.2.2 hEn);rw[hxu] at hyq;refine aX (λx=>x.1=e/\x.2.2.1=y.1/\x.2.2.2.1=Zm s.2.1 e/\x.2.2.2.2=(s.2.2.1,s.2.2.2)) ?_ ?_
 .unfold Zm;refine aJ (λh=>?_) λh=>ar ⟨rfl,rfl,(ay h).symm,rfl⟩
  have hc4:=ce (.inr h);with_reducible repeat' first|(refine OS.ok ?_;constructor)|refine IM.mk λ_=>?_
  all_goals try simp only[au,rc] at*
  all_goals first|omega|exact (aE h).symm
 rintro⟨J,M,x3,x4,x5,x6⟩ ⟨h1,h2,Y,h4⟩;simp only[aD] at h1 h2 Y h4;obtain⟨rfl,rfl⟩:=h4;subst h1;subst h2;subst Y;refine aX (λx=>x.1=J/\x.2.2.1=y.1/\x.2.2.2.1=Zm s.2.1 J/\x.2.2.2.2.1=fuP s.2.2.1 J/\x.2.2.2.2.2=s.2.2.2) ?_ ?_
 .unfold fuP;refine aJ (λh=>?_) λh=>ar ⟨rfl,rfl,rfl,(ay h).symm,rfl⟩
  have hc4:=fu (.inl h);with_reducible repeat' first|(refine OS.ok ?_;constructor)|refine IM.mk λ_=>?_
  all_goals try simp only[au,rc] at*
  all_goals first|omega|exact (aE h).symm
 rintro⟨J,M,x3,x4,x5,x6⟩ ⟨h1,h2,h4,h5,h6⟩;simp only at h1 h2 h4 h5 h6;subst h1;subst h2;subst h4;subst h5;subst h6;have l1:(Zm s.2.1 J).length=s.2.1.length:=by unfold Zm;split<;>simp[bW]
 have l2:(fuP s.2.2.1 J).length=s.2.2.1.length:=by unfold fuP;split<;>simp[bW]
 with_reducible repeat' first|(refine OS.ok ?_;constructor)|refine IM.mk λ_=>?_
 all_goals try simp only[au,rc] at*
 all_goals first|omega|skip
 exact⟨⟨hE,⟨hap,l1,l2,by rw[bW]⟩,hS,by unfold nxP;rw[<- hyq]⟩,λh=>(by cases h)⟩
theorem TB:Ok (kr ()) λl=>l.length=22:=by
 unfold kr;with_reducible repeat' first|(refine OS.ok ?_;constructor)|refine IM.mk λ_=>?_
 all_goals rfl
theorem P' (s:List UInt8):Ok (jF s) λ_=>True:=by
 unfold jF bz bB aZ cK aF cD;refine ax TB λl hl=>?_
 refine bZ l.length (λi x=>x=(i:Int)) ?_ ?_ rfl
 .rintro i x hi rfl;with_reducible repeat' first|(refine OS.ok ?_;constructor)|refine IM.mk λ_=>?_
  all_goals try simp only[au,rc] at*
  all_goals first|omega|exact gy (by omega)
 .rintro x rfl;with_reducible repeat' first|(refine OS.ok ?_;constructor)|refine IM.mk λ_=>?_
  all_goals try simp only[au,rc] at*
  all_goals omega
theorem NR (c:Int):Ok (lx c) λ_=>True:=by
 unfold lx iW aF;with_reducible repeat' first|(refine OS.ok ?_;constructor)|refine IM.mk λ_=>?_
 all_goals exact trivial
theorem abo (c:Int):Ok (pq c) λ_=>True:=by
 unfold pq rE iW aF;refine gj (ax (NR c) λ_ _=>?_);with_reducible repeat' first|(refine OS.ok ?_;constructor)|refine IM.mk λ_=>?_
 all_goals try exact trivial
 refine ax (P:=λ_=>True) ?_ λ_ _=>?_
 .with_reducible repeat' first|(refine OS.ok ?_;constructor)|refine IM.mk λ_=>?_
  all_goals exact trivial
 .with_reducible repeat' first|(refine OS.ok ?_;constructor)|refine IM.mk λ_=>?_
  all_goals exact trivial
theorem iy (s:List UInt8):Ok (fe s) λ_=>True:=by
 unfold fe bz wa aZ cK aF cD;refine aX (λb=>b=aj->s.length<=12) ?_ ?_
 .with_reducible repeat' first|(refine OS.ok ?_;constructor)|refine IM.mk λ_=>?_
  .exact λh=>(by cases h)
  .exact λh=>(by cases h)
  .omega
  .simp only[au] at *;omega
  refine ax (NR _) λ_ _=>?_
  with_reducible repeat' first|(refine OS.ok ?_;constructor)|refine IM.mk λ_=>?_
  .exact λh=>(by cases h)
  refine ax (P' _) λ_ _=>ar λ_=>?_
  simp only[au] at *;omega
 .rintro b hb;refine aO (λ_=>ar trivial) λh=>?_
  have hb:=hb h;refine bZ s.length (λi x=>x=(i:Int)) ?_ ?_ rfl
  .rintro i x hi rfl;with_reducible repeat' first|(refine OS.ok ?_;constructor)|refine IM.mk λ_=>?_
   all_goals try simp only[au,rc] at*
   all_goals first|omega|skip
   refine ax (abo _) λ_ _=>?_
   with_reducible repeat' first|(refine OS.ok ?_;constructor)|refine IM.mk λ_=>?_
   .exact trivial
   .exact gy (by omega)
  .rintro x rfl;with_reducible repeat' first|(refine OS.ok ?_;constructor)|refine IM.mk λ_=>?_
   all_goals try simp only[au,rc] at*
   all_goals first|omega|exact trivial
theorem yH (l:List (List UInt8)) (s:List UInt8) (hl:l.length<=1000000000):Ok (iZ (l,s)) λr=> -1<=r/\r<l.length/\(0<=r->aK (T:=.str) l r=s)/\(r<0->s∉l):=by
 unfold iZ bz bB aZ cK aF cD;refine bZ l.length (λi x=>x=(i:Int)/\∀ k:Nat,k<i->aK (T:=.str) l (k:Int)≠s) ?_ ?_ ⟨rfl,λk hk=>by omega⟩
 .rintro i x hi ⟨rfl,I⟩;with_reducible repeat' first|(refine OS.ok ?_;constructor)|refine IM.mk λ_=>?_
  all_goals try simp only[au,rc] at*
  all_goals first|omega|skip
  .exact⟨by omega,by omega,λ_=>by assumption,λh=>by omega⟩
  .refine ⟨gy (by omega),λk hk=>?_⟩;rcases b_ k i with h1|h1
   .exact I k h1
   .rw[show k=i by omega];assumption
 .rintro x ⟨rfl,I⟩;with_reducible repeat' first|(refine OS.ok ?_;constructor)|refine IM.mk λ_=>?_
  all_goals try simp only[au,rc] at*
  all_goals first|omega|skip
  exact⟨by omega,by omega,λh=>by omega,λ_ h=>iv (T:=.str) (p:=λc=>c≠s) I s h rfl⟩
structure VL (w:WT):Prop where
 c:w.1.length<=12
 l:w.2.1.length<=4
 d:w.2.2.1.length<=2
 f:w.2.2.2.1.length<=2
 t0:1<=w.2.2.2.2.1.length
 t:w.2.2.2.2.1.length<=4
 s:w.2.2.2.2.2.length<=60
theorem ab9 (w:WT) (h:VL w):Ok (pm w) λy=>y.1.length<=100:=by
 obtain⟨I,U,M,w4,Z,Y⟩:=w;obtain⟨h1,h2,h3,h4,_,h5,h6⟩:=h;dsimp only at*
 unfold pm aY bh bx cC dA kD be bz iV bC bB aZ cK aF cD;refine qe (λx=>((I.length:Int)-x.1).toNat) (λx=>x.2.1=(I,U,M,w4,Z,Y)/\0<=x.1/\x.1<=(I.length:Int)/\(x.2.2.length:Int)<=x.1) ?_ ⟨rfl,by simp,by simp,by simp⟩;rintro⟨x1,x2,x3⟩ ⟨e,g1,g2,g3⟩;dsimp only at e g1 g2 g3;subst e;refine bI (λg4=>?_) λg4=>?_
 .dsimp only[au] at g4;refine aX (λx=>x.2.1=(I,U,M,w4,Z,Y)/\x1<x.1/\x.1<=(I.length:Int)/\(x.2.2.length:Int)<=x.1) ?_ ?_
  .refine bX (aR (bg (by simp;omega) (by omega) ?_));refine aJ (λ_=>?_) λ_=>?_
   .with_reducible repeat' first|(refine OS.ok ?_;constructor)|refine IM.mk λ_=>?_
    .exact jT _
    .rw[ig (by omega) (by omega)];exact⟨rfl,by dsimp only;omega,by dsimp only;omega,by simp;omega⟩
   .generalize hz:aK _ x1=z;obtain⟨z1,(z2:Int),(J:Int),z4,z5⟩:=z;dsimp only;refine aX (λx=>x.2=((I,U,M,w4,Z,Y),x3++[z1],z1,z2,J,z4,z5)/\(x.1=aj->1<=J/\J<=4/\x1+J<=I.length)) ?_ ?_
    .with_reducible repeat' first|(refine OS.ok ?_;constructor)|refine IM.mk λ_=>?_
     .exact⟨rfl,λh=>(by cases h)⟩
     .exact⟨rfl,λh=>(by cases h)⟩
     .refine ⟨rfl,λh=>?_⟩;dsimp only[au] at*
      rw[ig (by omega) (by omega),gk] at h;omega
    .rintro⟨b,y⟩ ⟨e,hb⟩;dsimp only at e hb;subst e;refine aO (λ_=>ar (jT _)) λh=>?_
     obtain⟨q1,q2,q3⟩:=hb h;refine qe (λx=>(J-x.1).toNat) (λx=>x.2=((I,U,M,w4,Z,Y),x3++[z1],z1,z2,J,z4,z5)/\0<=x.1/\x.1<=J) ?_ ⟨rfl,by simp,by dsimp only;omega⟩;rintro⟨k,y⟩ ⟨e,k0,k1⟩;dsimp only at e k0 k1;subst e;refine bI (λk2=>?_) λk2=>?_
     .dsimp only at k2;have e1:bk .i64 (x1+k)=x1+k:=ig (by omega) (by omega);refine aS (by dsimp only;rw[e1];omega) (by dsimp only;rw[e1];omega) (aR ?_);refine aX (λx=>x.2=((I,U,M,w4,Z,Y),x3++[z1],z1,z2,J,z4,z5)) ?_ ?_
      .with_reducible repeat' first|(refine OS.ok ?_;constructor)|refine IM.mk λ_=>?_
       all_goals rfl
      .rintro⟨b,y⟩ e;dsimp only at e;subst e;refine aO (λ_=>ar (jT _)) λ_=>ar ?_
       dsimp only;rw[ig (by omega) (by omega)];exact⟨⟨rfl,by omega,by omega⟩,by omega⟩
     .dsimp only at k2;refine ar ?_;dsimp only;rw[ig (by omega) (by omega)];exact⟨rfl,by omega,by omega,by simp;omega⟩
  .rintro⟨y1,y2,y3⟩ ⟨e,g5,g6,g7⟩;dsimp only at e g5 g6 g7;subst e;refine ar ⟨⟨rfl,by dsimp only;omega,g6,g7⟩,?_⟩;dsimp only;omega
 .dsimp only[au] at g4;refine ax (P:=λy=>y.1.length<=100) ?_ λy hy=>ar hy
  refine bZ U.length (λi x=>x.1=(i:Int)/\x.2.1=(I,U,M,w4,Z,Y)/\x.2.2.length<=12+i) ?_ ?_ ⟨rfl,rfl,by dsimp only;omega⟩
  .rintro i ⟨a,b,c⟩ hi ⟨e1,e2,e3⟩;dsimp only at e1 e2 e3;subst e1;subst e2;with_reducible repeat' first|(refine OS.ok ?_;constructor)|refine IM.mk λ_=>?_
   all_goals try simp only[au,rc] at*
   all_goals first|omega|(simp;omega)|skip
   exact⟨gy (by omega),by simp;omega⟩
  .rintro⟨a,b,c⟩ ⟨e1,e2,e3⟩;dsimp only at e1 e2 e3;subst e1;subst e2;refine bI (λg4=>(by dsimp only[au] at g4;omega)) λ_=>?_
   refine ax (P:=λy=>y.1.length<=100) ?_ λy hy=>ar hy
   refine bZ M.length (λi x=>x.1=(i:Int)/\x.2.1=(I,U,M,w4,Z,Y)/\x.2.2.length<=16+i) ?_ ?_ ⟨rfl,rfl,by dsimp only;omega⟩
   .rintro i ⟨a,b,c⟩ hi ⟨e1,e2,e3⟩;dsimp only at e1 e2 e3;subst e1;subst e2;with_reducible repeat' first|(refine OS.ok ?_;constructor)|refine IM.mk λ_=>?_
    all_goals try simp only[au,rc] at*
    all_goals first|omega|(simp;omega)|skip
    exact⟨gy (by omega),by simp;omega⟩
   .rintro⟨a,b,c⟩ ⟨e1,e2,e3⟩;dsimp only at e1 e2 e3;subst e1;subst e2;refine bI (λg4=>(by dsimp only[au] at g4;omega)) λ_=>?_
    refine ax (P:=λy=>y.1.length<=100) ?_ λy hy=>ar hy
    with_reducible repeat' first|(refine OS.ok ?_;constructor)|refine IM.mk λ_=>?_
    all_goals try simp only[au,rc] at*
    all_goals first|omega|(simp;omega)
def T_ (T:Int) (o:Option (Int×Int)) (s:Int×Int×Int):Option (Int×Int):=
 match o with
 |none=>ah
 |some (t,n)=>if s.1=t/\s.2.1=n then af (t,n+1) else if t<s.1/\s.1<T/\s.2.1=0 then af (s.1,1) else ah
def Lr (T:Int) (l:List (Int×Int×Int)):Option (Int×Int):=l.foldl (T_ T) (af (0,0))
def SV0 (w:WT):Prop:=Lr w.2.2.2.2.1.length w.2.2.2.2.2≠ah
theorem Is {T:Int} {l:List (Int×Int×Int)} {i:Nat} (hi:i<l.length):Lr T (l.take (i+1))=T_ T (Lr T (l.take i)) (aK (T:=yd) l (i:Int)):=by
 rw[mI (T:=yd) hi];unfold Lr;rw[dR];rfl
theorem BE (w:WT):Ok (h_ w) λb=>b=ai->VL w/\SV0 w:=by
 unfold h_ aY bh bx cC cX fh be bz iW iV bC bB aZ cK aF cD;refine aX (λx=>x.2=w/\(x.1=aj->VL w)) ?_ ?_
 .with_reducible repeat' first|(refine OS.ok ?_;constructor)|refine IM.mk λ_=>?_
  all_goals first|exact⟨rfl,λh=>(by cases h)⟩|skip
  dsimp only[au] at*
  refine ⟨rfl,λh=>?_⟩;rw[gk] at h;constructor<;>omega
 rintro⟨b,x⟩ ⟨e,hb⟩;dsimp only at e hb;subst e;refine aO (λ_=>ar λh=>(by cases h)) λh=>?_
 have hv:=hb h;refine ax (ab9 _ hv) λy hy=>?_
 refine dN (λ_=>ar λh=>(by cases h)) λ_=>?_
 obtain⟨w1,w2,U,Z,J,I⟩:=x;have h6:=hv.s;have h3:=hv.d;dsimp only at h6 h3;refine bZ y.1.length (λi x=>x.1=(i:Int)/\x.2=(w1,w2,U,Z,J,I)) ?_ ?_ ⟨rfl,rfl⟩
 .rintro i ⟨a,b⟩ hi ⟨e1,e2⟩;dsimp only at e1 e2;subst e1;subst e2;refine bI (λY=>?_) λY=>(by dsimp only[au] at Y;omega)
  refine aX (λx=>x.2=(w1,w2,U,Z,J,I)) ?_ ?_
  .refine bX (aR (ax (iy _) λ_ _=>?_));refine dN (λ_=>ar rfl) λ_=>?_
   with_reducible repeat' first|(refine OS.ok ?_;constructor)|refine IM.mk λ_=>?_
   all_goals try simp only[au,rc] at*
   all_goals first|omega|skip
   refine ax (yH _ _ (by simp;omega)) λ_ _=>ar rfl
  .rintro⟨a,b⟩ e;dsimp only at e;subst e;with_reducible repeat' first|(refine OS.ok ?_;constructor)|refine IM.mk λ_=>?_
   .exact λh=>(by cases h)
   .dsimp only;exact⟨gy (by omega),rfl⟩
 rintro⟨a,b⟩ ⟨e1,e2⟩;dsimp only at e1 e2;subst e1;subst e2;refine bI (λY=>(by dsimp only[au] at Y;omega)) λ_=>?_
 refine ax (P:=λb=>b=ai->VL (w1,w2,U,Z,J,I)/\SV0 (w1,w2,U,Z,J,I)) ?_ λy hy=>ar hy
 refine bZ U.length (λi x=>x.1=(i:Int)/\x.2=(w1,w2,U,Z,J,I)) ?_ ?_ ⟨rfl,rfl⟩
 .rintro i ⟨a,b⟩ hi ⟨e1,e2⟩;dsimp only at e1 e2;subst e1;subst e2;refine bI (λY=>?_) λY=>(by dsimp only[au] at Y;omega)
  refine bX (aR ?_);refine aX (λx=>x.2=(w1,w2,U,Z,J,I)) ?_ ?_
  .with_reducible repeat' first|(refine OS.ok ?_;constructor)|refine IM.mk λ_=>?_
   all_goals try simp only[au,rc] at*
   all_goals first|omega|rfl
  .rintro⟨a,b⟩ e;dsimp only at e;subst e;with_reducible repeat' first|(refine OS.ok ?_;constructor)|refine IM.mk λ_=>?_
   .exact λh=>(by cases h)
   .dsimp only;exact⟨gy (by omega),rfl⟩
 rintro⟨a,b⟩ ⟨e1,e2⟩;dsimp only at e1 e2;subst e1;subst e2;refine bI (λY=>(by dsimp only[au] at Y;omega)) λ_=>?_
 refine ax (P:=λb=>b=ai->VL (w1,w2,U,Z,J,I)/\SV0 (w1,w2,U,Z,J,I)) ?_ λy hy=>ar hy
 refine bZ I.length (λi x=>x.1=(i:Int)/\x.2=(w1,w2,U,Z,J,I)/\Lr J.length (I.take i)=af (if i=0 then (0,0) else ((aK (T:=yd) I ((i-1:Nat):Int)).1,(aK (T:=yd) I ((i-1:Nat):Int)).2.1+1))/\(¬i=0->(0:Int)<=(aK (T:=yd) I ((i-1:Nat):Int)).2.1/\(i:Int)>(aK (T:=yd) I ((i-1:Nat):Int)).2.1)) ?_ ?_ ⟨rfl,rfl,rfl,λh=>(h rfl).elim⟩
 .rintro i ⟨a,b⟩ hi ⟨e1,e2,e3,hpb⟩;dsimp only at e1 e2;subst e1;subst e2;have hw:¬(i:Int)=0->bk .i64 ((i:Int)-1)=((i-1:Nat):Int):=λh=>by rw[ig (by omega) (by omega)];omega
  have hnx:=Is (T:=J.length) hi;rw[e3] at hnx;clear e3;refine bI (λY=>?_) λY=>(by dsimp only[au] at Y;omega)
  refine aX (λx=>x=(w1,w2,U,Z,J,I)/\Lr J.length (I.take (i+1))=af (((aK (T:=yd) I (i:Int)).1,(aK (T:=yd) I (i:Int)).2.1+1))/\(0:Int)<=(aK (T:=yd) I (i:Int)).2.1/\((i+1:Nat):Int)>(aK (T:=yd) I (i:Int)).2.1) ?_ ?_
  .refine bX (aR ?_);rw[hnx];generalize hz:aK (T:=yd) I (i:Int)=z;obtain⟨(z1:Int),(z2:Int),(z3:Int)⟩:=z;dsimp only;refine aX (λx=>x.2=((w1,w2,U,Z,J,I),z1,z2,z3)/\(x.1=aj->0<=z1/\z1<J.length)) ?_ ?_
   .refine bI (λ_=>ar ⟨rfl,λh=>(by cases h)⟩) λg=>ar ⟨rfl,λh=>⟨g,?_⟩⟩
    rw[l9] at h;exact h
   rintro⟨c,y⟩ ⟨e,hzr⟩;dsimp only at e hzr;subst e;refine aO (λ_=>ar λh=>(by cases h)) λhzb=>?_
   obtain⟨z0,zT⟩:=hzr hzb;refine aX (λx=>x.2=((w1,w2,U,Z,J,I),z1,z2,z3)/\(x.1=ai->i=0\/¬(aK (T:=yd) I ((i-1:Nat):Int)).1=z1)/\(x.1=aj->¬(i:Int)=0/\(aK (T:=yd) I ((i-1:Nat):Int)).1=z1)) ?_ ?_
   .refine aJ (λh=>ar ⟨rfl,λ_=>.inl (by have h:((i:Nat):Int)=0:=h;omega),λh=>(by cases h)⟩) λh=>?_
    rw[hw h];refine bX (aR (ar ⟨rfl,λh2=>.inr (by simpa using h2),λh2=>⟨h,by simpa using h2⟩⟩))
   rintro⟨c,y⟩ ⟨e,hc1,hc⟩;dsimp only at e hc1 hc;subst e;refine aO (λhct=>?_) λhcf=>?_
   .refine aX (λx=>x.2=(w1,w2,U,Z,J,I)/\(x.1=aj->z2=0/\(¬i=0->((aK (T:=yd) I ((i-1:Nat):Int)).1:Int)<z1))) ?_ ?_
    .refine b8 (λ_=>ar ⟨rfl,λh=>(by cases h)⟩) λhz2=>?_
     refine bI (λh=>?_) λM=>ar ⟨rfl,λ_=>⟨hz2,λh=>by have M:((i:Nat):Int)<=0:=M;omega⟩⟩
     have h:(0:Int)<((i:Nat):Int):=h;rw[hw (by omega)];refine bX (aR (ar ⟨rfl,λh2=>⟨hz2,λh3=>?_⟩⟩));rw[gk] at h2;have h4:=(hc1 hct).resolve_left h3;have h2:(aK (T:=yd) I ((i-1:Nat):Int)).1<=z1:=h2;exact Int.lt_iff_le_and_ne.2 ⟨h2,h4⟩
    rintro⟨c,y⟩ ⟨e,hy⟩;dsimp only at e hy;subst e;refine aO (λ_=>ar λh=>(by cases h)) λh=>ar ⟨rfl,?_⟩
    obtain⟨q1,q2⟩:=hy h;have q1:z2=0:=q1;subst q1;refine ⟨?_,eR 0,by show _>(0:Int);omega⟩;unfold T_;by_cases M:i=0
    .subst M;rw[aE rfl];dsimp only;by_cases hz1:z1=0
     .subst hz1;rfl
     .rw[ay (λh=>hz1 h.1),aE ⟨by omega,zT,rfl⟩];rfl
    .have:=q2 M;rw[ay M];dsimp only;rw[ay (λh=>by omega),aE ⟨this,zT,rfl⟩];rfl
   .obtain⟨M,hpr⟩:=hc hcf;rw[hw M];refine bX (aR ?_);refine b8 (λ_=>ar λh=>(by cases h)) λh=>ar ⟨rfl,?_⟩
    obtain⟨b0,b1⟩:=hpb (by omega);have h:z2=bk .i64 ((aK (T:=yd) I ((i-1:Nat):Int)).2.1+1):=h;rw[ig (by omega) (by omega)] at h;refine ⟨?_,by omega,by omega⟩;rw[ay (by omega)];unfold T_;dsimp only;rw[aE ⟨hpr.symm,h⟩,hpr,h]
  .rintro x ⟨rfl,hx,hx2⟩;refine ar ?_;dsimp only;refine ⟨gy (by omega),rfl,?_,λ_=>hx2⟩;rw[ay (by omega)];exact hx
 .rintro⟨a,b⟩ ⟨e1,e2,e3,_⟩;dsimp only at e1 e2;subst e1;subst e2;refine bI (λY=>(by dsimp only[au] at Y;omega)) λ_=>?_
  rw[cP] at e3;exact ar λ_=>⟨hv,by unfold SV0;dsimp only;rw[e3];simp⟩
def tH (e:ET):Bool:=decide (e.2.1=3)||decide (e.2.1=23)
def fl (l:List ET) (t:Int):List Bool:=(l.filter λe=>decide (e.1=t)).map tH
def Lg (l:List ET) (t y:Int):Prop:=0<=y/\(fl l t).getD y.toNat aj=ai
theorem uG (l m:List ET) (t:Int):fl (l++m) t=fl l t++fl m t:=by unfold fl;rw[yc,cE]
theorem zC {e:ET} {t:Int} (h:e.1=t):fl [e] t=[tH e]:=by unfold fl;simp[h]
theorem wR {e:ET} {t:Int} (h:¬e.1=t):fl [e] t=[]:=by unfold fl;simp[h]
theorem Lg.app {l:List ET} {t y:Int} (h:Lg l t y) (m:List ET):Lg (l++m) t y:=by
 obtain⟨h0,h1⟩:=h;refine ⟨h0,?_⟩;rw[uG];rw[aA] at h1 ⊢;rcases b_ y.toNat (fl l t).length with g|g
 .rw[bO g];exact h1
 .rw[bS g] at h1;cases h1
theorem Lg.lt {l:List ET} {t y:Int} (h:Lg l t y):y<(fl l t).length:=by
 obtain⟨h0,h1⟩:=h;rcases b_ y.toNat (fl l t).length with g|g
 .omega
 .rw[aA,bS g] at h1;cases h1
theorem Lg.last {l:List ET} {e:ET} {y:Int} (h:tH e=ai) (I:y=(fl l e.1).length):Lg (l++[e]) e.1 y:=by
 subst I;refine ⟨by omega,?_⟩;rw[uG,zC rfl,aA,ca (by simp),h];simp
theorem XB (l:List ET) (t:Int):(fl l t).length<=l.length:=by unfold fl;rw[bR];exact BK ..
structure SCx (w:WT) (l:List ET) (sy:SY) (ce fu:List Int) (e:ET):Prop where
 en:EN w sy e.1 e.2.1 e.2.2.1
 rd:Wy w sy e.1 e.2.1 e.2.2.1
 s1:e.2.1=1\/e.2.1=2->e.2.2.2.2.1= -1
 s2:¬(e.2.1=1\/e.2.1=2)->0<=e.2.2.2.2.1/\e.2.2.2.2.1<w.2.2.2.2.2.length/\(aK (T:=yd) w.2.2.2.2.2 e.2.2.2.2.1).1=e.1
 de:0<e.2.2.2.2.2.1.length->e.2.1=5\/(e.2.1=3\/e.2.1=4)/\¬(aK (T:=Qb) w.1 e.2.2.1).2.2.1=0
 fr:0<e.2.2.2.2.2.2.length->e.2.1=4\/e.2.1=22
 nd:AN (fl l e.1).length e.2.2.2.2.2.1
 nf:AN (fl l e.1).length e.2.2.2.2.2.2
 rd1:∀ y∈e.2.2.2.2.2.1,Lg l e.1 y
 rd2:∀ y∈e.2.2.2.2.2.2,Lg l e.1 y
 va:VA w sy ce fu e.1 e.2.1 e.2.2.1 e.2.2.2.1
def Yb:Nat->List (Int×Int×Bool)
 |0=>[]
 |n+1=>(1,0,aj)::aG n (0,0,aj)
def Qd (w:WT):SY:=(aG w.2.1.length (-1,[]),-1,aG w.2.2.2.1.length aj,Yb w.2.2.2.2.1.length)
def ce0 (w:WT):List Int:=w.1.map λc=>c.2.2.2.2
def fu0 (w:WT):List Int:=aG w.2.2.2.1.length 0
inductive Acw (w:WT):List ET->SY->List Int->List Int->Prop
 |nil:Acw w [] (Qd w) (ce0 w) (fu0 w)
 |snoc {l:List ET} {sy:SY} {ce fu:List Int} {e:ET} (h:Acw w l sy ce fu) (hs:SCx w l sy ce fu e):Acw w (l++[e]) (rh w sy e.1 e.2.1 e.2.2.1 e.2.2.2.1).1 (Zm ce e) (fuP fu e)
theorem aai (i:Nat):Yb (i+2)=Yb (i+1)++[(0,0,aj)]:=by
 show (1,0,aj)::aG (i+1) (0,0,aj)=(1,0,aj)::aG i (0,0,aj)++[(0,0,aj)]
 rw[uQ,gw]
theorem HR:∀ n,(Yb n).length=n
 |0=>rfl
 |n+1=>by simp[Yb]
theorem K6 (w:WT) (h:VL w):rz w=af (Qd w):=by
 obtain⟨w1,I,Z,J,U,Y⟩:=w;obtain⟨h1,h2,h3,h4,_,h5,h6⟩:=h;dsimp only at*
 refine ci ?_;unfold rz aY bh bx cC dA cX fh be bz bC aZ cK aF cD;refine bZ I.length (λi x=>x.1=(i:Int)/\x.2.1=(w1,I,Z,J,U,Y)/\x.2.2.2=(-1,aG i (-1,[]))) ?_ ?_ ⟨rfl,rfl,rfl⟩
 .rintro i ⟨a,b,c,d,e⟩ hi ⟨e1,e2,e3⟩;simp only[aD] at e1 e2 e3;obtain⟨rfl,rfl⟩:=e3;subst e1;subst e2;with_reducible repeat' first|(refine OS.ok ?_;constructor)|refine IM.mk λ_=>?_
  all_goals try simp only[au,rc] at*
  all_goals first|omega|(simp;omega)|skip
  exact⟨gy (by omega),by rw[uQ]⟩
 rintro⟨a,b,c,d,e⟩ ⟨e1,e2,e3⟩;simp only[aD] at e1 e2 e3;obtain⟨rfl,rfl⟩:=e3;subst e1;subst e2;refine bI (λM=>(by dsimp only[au] at M;omega)) λ_=>?_
 refine ax (P:=λs=>s=Qd (w1,I,Z,J,U,Y)) ?_ λy hy=>ar hy
 refine bZ J.length (λi x=>x.1=(i:Int)/\x.2.1=(w1,I,Z,J,U,Y)/\x.2.2.2=(-1,aG I.length (-1,[]),aG i aj)) ?_ ?_ ⟨rfl,rfl,rfl⟩
 .rintro i ⟨a,b,c,d,e',f⟩ hi ⟨e1,e2,e3⟩;simp only[aD] at e1 e2 e3;obtain⟨rfl,rfl,rfl⟩:=e3;subst e1;subst e2;with_reducible repeat' first|(refine OS.ok ?_;constructor)|refine IM.mk λ_=>?_
  all_goals try simp only[au,rc] at*
  all_goals first|omega|(simp;omega)|skip
  exact⟨gy (by omega),by rw[uQ]⟩
 rintro⟨a,b,c,d,e',f⟩ ⟨e1,e2,e3⟩;simp only[aD] at e1 e2 e3;obtain⟨rfl,rfl,rfl⟩:=e3;subst e1;subst e2;refine bI (λM=>(by dsimp only[au] at M;omega)) λ_=>?_
 refine ax (P:=λs=>s=Qd (w1,I,Z,J,U,Y)) ?_ λy hy=>ar hy
 refine bZ U.length (λi x=>x.1=(i:Int)/\x.2.1=(w1,I,Z,J,U,Y)/\x.2.2.2=(-1,aG I.length (-1,[]),aG J.length aj,Yb i)) ?_ ?_ ⟨rfl,rfl,rfl⟩
 .rintro i ⟨a,b,c,d,e'',f',g⟩ hi ⟨e1,e2,e3⟩;simp only[aD] at e1 e2 e3;obtain⟨rfl,rfl,rfl,rfl⟩:=e3;subst e1;subst e2;have hl:=HR i;refine bI (λ_=>?_) λM=>(by dsimp only[au] at M;omega)
  refine gj (aJ (λh0=>ar ?_) λh0=>ar ?_)
  .have h0:((i:Nat):Int)=0:=h0;have h0:i=0:=by omega
   subst h0;exact bg (by simp[Yb]) (by omega) (ar ⟨rfl,rfl,rfl⟩)
  .have h0:¬((i:Nat):Int)=0:=h0;obtain⟨j,rfl⟩:∃ j,i=j+1:=⟨i-1,by omega⟩
   refine bg (by dsimp only;rw[hl];simp;omega) (by omega) (ar ⟨gy (by omega),rfl,?_⟩);dsimp only;rw[aai]
 rintro⟨a,b,c,d,e'',f',g⟩ ⟨e1,e2,e3⟩;simp only[aD] at e1 e2 e3;obtain⟨rfl,rfl,rfl,rfl⟩:=e3;subst e1;subst e2;refine bI (λM=>(by dsimp only[au] at M;omega)) λ_=>ar rfl
theorem Uq {w:WT} (h:VL w):SB 0 (Qd w):=by
 obtain⟨h1,h2,U,M,_,J,I⟩:=h;refine ⟨by omega,by simp[Qd];omega,λl hl=>?_,by simp[Qd];omega,by simp[Qd,HR];omega⟩;rw[pE hl];simp
theorem K5 (w:WT) (h:VL w):mP w=af (Qd w,ce0 w,fu0 w,aG w.2.2.2.2.1.length 0):=by
 have hs:=K6 w h;have hd:(Qd w)=Qd w:=rfl;obtain⟨I,Z,Y,M,J,U⟩:=w;obtain⟨h1,h2,h3,h4,_,h5,h6⟩:=h;dsimp only at*
 refine ci ?_;unfold mP aY bh bx bL cX bz bC bB aZ cK aF cD;refine aT hs ?_;with_reducible repeat' first|(refine OS.ok ?_;constructor)|refine IM.mk λ_=>?_
 all_goals try simp only[au,rc] at*
 all_goals first|omega|skip
 refine bZ I.length (λi x=>x.1=(i:Int)/\x.2.1=(I,Z,Y,M,J,U)/\x.2.2.2=(Qd (I,Z,Y,M,J,U),(I.take i).map (λc=>c.2.2.2.2),aG M.length 0,aG J.length 0)) ?_ ?_ ⟨rfl,rfl,rfl⟩
 .rintro i ⟨a,b,c,d,e,f,g⟩ hi ⟨e1,e2,e3⟩;simp only[aD] at e1 e2 e3;obtain⟨rfl,rfl,rfl,rfl⟩:=e3;subst e1;subst e2;with_reducible repeat' first|(refine OS.ok ?_;constructor)|refine IM.mk λ_=>?_
  all_goals try simp only[au,rc] at*
  all_goals first|omega|(simp;omega)|skip
  exact⟨gy (by omega),by rw[mI (T:=Qb) hi,cE];rfl⟩
 rintro⟨a,b,c,d,e,f,g⟩ ⟨e1,e2,e3⟩;simp only[aD] at e1 e2 e3;obtain⟨rfl,rfl,rfl,rfl⟩:=e3;subst e1;subst e2;refine bI (λg4=>(by dsimp only[au] at g4;omega)) λ_=>ar ?_
 rw[cP];rfl
theorem Wv (w:WT) (h:VL w):Ok (mP w) λs=>NB 0 s/\s.2.1.length=w.1.length/\s.2.2.1.length=w.2.2.2.1.length/\s.2.2.2.length=w.2.2.2.2.1.length:=
 ahv (K5 w h) ⟨⟨Uq h,by have:=h.c;simp[ce0];omega,by have:=h.f;simp[fu0];omega,by have:=h.t;simp;omega⟩,by simp[ce0],by simp[fu0],by simp⟩
theorem QI (l:List ET) (i t:Int) (I:List Int) (hl:l.length<=1000000000) (hi:0<=i/\i<=l.length) (hn:I.length<=1000000000):Ok (rx (l,i,t,I)) λb=>b=ai->∀ y∈I,Lg (l.take i.toNat) t y:=by
 unfold rx aY bL be bz iV bB aZ cK aF cD;refine bZ I.length (λk x=>x=(k:Int)/\∀ j:Nat,j<k->Lg (l.take i.toNat) t (aK (T:=.int .i64) I (j:Int))) ?_ ?_ ⟨rfl,λj hj=>(by omega)⟩
 .rintro k x hk ⟨rfl,Y⟩;refine bI (λM=>?_) λM=>(by dsimp only[au] at M;omega)
  refine qe (λx=>(i-x.2.2).toNat) (λx=>0<=x.2.2/\x.2.2<=i/\x.1=((fl (l.take x.2.2.toNat) t).length:Int)/\(x.2.1=ai->Lg (l.take x.2.2.toNat) t (aK (T:=.int .i64) I (k:Int)))) ?_ ⟨by simp,hi.1,by simp[fl],λh=>(by cases h)⟩;rintro⟨a,b,(c:Int)⟩ ⟨U,c1,Z,hb⟩;dsimp only at U c1 Z hb;subst Z;obtain⟨c,rfl⟩:∃ n:Nat,c=(n:Int):=⟨c.toNat,by omega⟩
  rw[dS] at hb;dsimp only;rw[dS];have hfl:=XB (l.take c) t;have htl:=qc c l;refine bI (λJ=>?_) λJ=>?_
  .have J:(c:Int)<i:=J;have htk:l.take (c+1)=l.take c++[aK (T:=tE) l (c:Int)]:=mI (T:=tE) (by omega);refine aX (λy=>y.1=((fl (l.take (c+1)) t).length:Int)/\(y.2=ai->Lg (l.take (c+1)) t (aK (T:=.int .i64) I (k:Int)))) ?_ ?_
   .rw[htk,uG];refine aS U (by first|omega|(dsimp only;omega)) (aR ?_);refine b8 (λhne=>ar ⟨by rw[wR hne];simp,λh=>(hb h).app _⟩) λhe=>?_
    have he:(aK (T:=tE) l (c:Int)).1=t:=he;refine aX (λy=>y=ai->Lg (l.take c++[aK (T:=tE) l (c:Int)]) t (aK (T:=.int .i64) I (k:Int))) ?_ λy hy=>ar ⟨?_,hy⟩
    .refine aO (λh=>ar λ_=>(hb h).app _) λ_=>?_
     refine aS (by omega) (by first|omega|(dsimp only;omega)) (aR ?_);refine aJ (λhn=>?_) λ_=>ar λh=>(by cases h)
     have hq:tH (aK (T:=tE) l (c:Int))=ai->Lg (l.take c++[aK (T:=tE) l (c:Int)]) t (aK (T:=.int .i64) I (k:Int)):=λh=>by
      rw[<- he] at hn ⊢;exact Lg.last h hn.symm
     refine aS U (by first|omega|(dsimp only;omega)) (aR ?_);refine aJ (λh=>ar λ_=>hq (by unfold tH;rw[aQ h];rfl)) λ_=>?_
     exact aS U (by first|omega|(dsimp only;omega)) (aR (ar λh=>hq (by unfold tH;rw[h];simp)))
    .dsimp only;rw[zC he,gy (by omega)];simp
   .rintro⟨p,q⟩ ⟨hp,hq⟩;refine ar ?_;dsimp only at hp hq ⊢;rw[gy (by omega),dS];exact⟨⟨by omega,by omega,hp,hq⟩,by omega⟩
  .refine ax (P:=λr=>match r with|.inl y=>y=((k+1:Nat):Int)/\∀ j:Nat,j<k+1->Lg (l.take i.toNat) t (aK (T:=.int .i64) I (j:Int))|.inr r=>r=ai->∀ y∈I,Lg (l.take i.toNat) t y) ?_ λr hr=>ar ?_
   .refine dN (λ_=>ar λh=>(by cases h)) λh=>ar ⟨gy (by omega),λj hj=>?_⟩
    rcases b_ j k with h1|h1
    .exact Y j h1
    .have:=hb h;have hci:c=i.toNat:=by have J:i<=(c:Int):=J;omega
     rw[show j=k by omega,<-hci];exact this
   .cases r with
    |inl y=>exact hr
    |inr r=>exact hr
 .rintro x ⟨rfl,Y⟩;refine bI (λM=>(by dsimp only[au] at M;omega)) λ_=>ar λ_=>iv (T:=.int .i64) Y
def CN (l:List ET) (c:List Int):Prop:=∀ t:Int,0<=t->t<c.length->aK (T:=.int .i64) c t=((fl l t).length:Int)
theorem rP {T:Ty} (xs:List T.den) (j k:Int) (x:T.den) (hj:0<=j) (I:j<xs.length) (hk:0<=k):aK (cQ xs j x) k=if k=j then x else aK xs k:=by
 unfold aK cQ;rw[aA,aA,oW];by_cases h:k=j
 .subst h;rw[aE rfl,aE rfl,aE (by omega)];rfl
 .rw[ay (by omega),ay h]
theorem CN.next {l:List ET} {c:List Int} (h:CN l c) (e:ET) (h0:0<=e.1) (h1:e.1<c.length) (hl:l.length<1000000):CN (l++[e]) (cQ c e.1 (bk .i64 (aK (T:=.int .i64) c e.1+1))):=λt t0 t1=>by
 rw[bW] at t1;have:=XB l e.1;rw[rP (T:=.int .i64) _ _ _ _ h0 h1 t0,uG];split
 .rename_i h2;subst h2;rw[zC rfl,h _ h0 h1,gy (by omega)];simp
 .rename_i h2;rw[wR λI=>h2 I.symm,h _ t0 t1];simp
structure EvF (w:WT) (e:ET):Prop where
 nm:NM w e.2.1 e.2.2.1
 t0:0<=e.1
 t1:e.1<w.2.2.2.2.1.length
 cd:∀ c∈w.2.2.1,0<=c.2/\c.2<w.2.1.length
theorem ae3 (w:WT) (l:List ET) (hd:∀ e∈l,e.2.2.2.2.2.1.length<=1000000000/\e.2.2.2.2.2.2.length<=1000000000):Ok (uk (w,l)) λy=>y.2=0->(VL w/\SV0 w)/\(∀ e∈l,EvF w e)/\∃ sy ce fu,Acw w l sy ce fu:=by
 unfold uk cC bL fh bz bB aZ cK aF cD;refine bI (λ_=>ar λh=>(by cases h)) λhl=>?_
 dsimp only[au] at hl;refine ax (BE w) λb hb=>?_
 refine dN (λ_=>ar λh=>(by cases h)) λh=>?_
 obtain⟨hv,hsv⟩:=hb h;refine aT (K5 w hv) ?_;have hs:NB 0 (Qd w,ce0 w,fu0 w,aG w.2.2.2.2.1.length 0):=⟨Uq hv,by have:=hv.c;simp[ce0];omega,by have:=hv.f;simp[fu0];omega,by have:=hv.t;simp;omega⟩
 have hw:w.2.2.1.length<=1000:=by have:=hv.d;omega
 refine bZ l.length (λi x=>x.1=(i:Int)/\x.2.1=(w,l)/\NB i x.2.2/\(∀ k:Nat,k<i->EvF w (aK (T:=tE) l (k:Int)))/\Acw w (l.take i) x.2.2.1 x.2.2.2.1 x.2.2.2.2.1/\CN (l.take i) x.2.2.2.2.2/\x.2.2.2.2.2.length=w.2.2.2.2.1.length) ?_ ?_ ⟨rfl,rfl,hs,λk hk=>(by omega),.nil,λt t0 t1=>?_,by simp⟩
 .rintro i ⟨a,b,s⟩ hi ⟨e1,e2,e3,Y,U,e6,Z⟩;dsimp only at e1 e2 e3 Y U e6 Z;subst e1;subst e2;refine bI (λI=>?_) λI=>(by dsimp only[au] at I;omega)
  refine bX (aR ?_);have hmem:=bJ (T:=tE) (xs:=l) (j:=(i:Int)) (by omega) (by omega);obtain⟨d1,d2⟩:=hd _ hmem;refine ax (FD w s e3 hw _ d1 d2) λy hy=>?_
  refine aX (λx=>x.2.1=(w,l)/\x.2.2.2=y.1/\(x.1=aj->y.2=ai/\(∀ z∈(aK (T:=tE) l (i:Int)).2.2.2.2.2.1,Lg (l.take i) (aK (T:=tE) l (i:Int)).1 z)/\∀ z∈(aK (T:=tE) l (i:Int)).2.2.2.2.2.2,Lg (l.take i) (aK (T:=tE) l (i:Int)).1 z)) ?_ ?_
  .refine dN (λ_=>ar ⟨rfl,rfl,λh=>(by cases h)⟩) λh=>?_
   refine ax (QI l _ _ _ (by omega) ⟨by dsimp only;omega,by dsimp only;omega⟩ d1) λb1 hr1=>?_
   refine dN (λ_=>ar ⟨rfl,rfl,λh=>(by cases h)⟩) λhb1=>?_
   refine ax (QI l _ _ _ (by omega) ⟨by dsimp only;omega,by dsimp only;omega⟩ d2) λb2 hr2=>ar ⟨rfl,rfl,λhb2=>⟨h,hr1 hb1,hr2 (by simpa using hb2)⟩⟩
  .rintro⟨c,p,q,r⟩ ⟨f1,f2,f3⟩;dsimp only at f1 f2 f3;subst f1;subst f2;refine aO (λ_=>ar λh=>(by cases h)) λh=>?_
   obtain⟨f4,r1,r2⟩:=f3 h;obtain⟨J,g2,M,I⟩:=hy.1 f4;refine ar ?_;dsimp only;have htk:l.take (i+1)=l.take i++[aK (T:=tE) l (i:Int)]:=mI (T:=tE) hi;have hc:=e6 _ J.t0 (by rw[Z];exact J.t1);have hnx:=gO Prod.fst I;have hac:=U.snoc (e:=aK (T:=tE) l (i:Int)) ⟨J,M.rd,M.s1,M.s2,M.de,M.fr,by rw[<- hc];exact M.nd,by rw[<- hc];exact M.nf,r1,r2,M.va⟩;refine ⟨gy (by omega),rfl,g2.NB e3 (by omega),λk hk=>?_,by rw[htk,I];exact hac,by rw[htk,I];exact e6.next _ J.t0 (by rw[Z];exact J.t1) (by rw[bH];omega),by rw[I];unfold nxP;rw[bW];exact Z⟩;rcases b_ k i with h1|h1
   .exact Y k h1
   .rw[show k=i by omega];exact⟨J.nm,J.t0,J.t1,J.cd⟩
 .rintro⟨a,b,s⟩ ⟨e1,e2,e3,Y,U,_⟩;dsimp only at e1 e2 e3 Y U;subst e1;subst e2;rw[cP] at U;refine bI (λI=>(by dsimp only[au] at I;omega)) λ_=>ar λ_=>⟨⟨hv,hsv⟩,iv (T:=tE) Y,_,_,_,U⟩
 .rw[eL] at t1;obtain⟨t,rfl⟩:∃ n:Nat,t=(n:Int):=⟨t.toNat,by omega⟩
  rw[O2,aA,lA];split<;>simp[fl]
structure TP (t:List Int×Int):Prop where
 l0:t.1.length<=9223372036854775807
 by_:∀ x∈t.1,0<=x/\x<=255
 a0:0<=t.2
 a1:t.2<=t.1.length
structure uZ (t t':List Int×Int):Prop where
 e:t'.1=t.1
 m:t.2<=t'.2
 p:TP t'
theorem uZ.refl {t:List Int×Int} (h:TP t):uZ t t:=⟨rfl,eR _,h⟩
theorem uZ.trans {a b c:List Int×Int} (h:uZ a b) (g:uZ b c):uZ a c:=⟨g.e.trans h.e,Int.le_trans h.m g.m,g.p⟩
theorem gr (n:Int) (t:List Int×Int) (h:TP t):Ok (bA (n,t)) λy=>uZ t y.2/\0<=y.1/\(1<=n->y.1<n)/\(t.2<t.1.length->1<=n->t.2<y.2.2):=by
 obtain⟨L,a⟩:=t;have U:=h;obtain⟨l0,hb,a0,a1⟩:=h;dsimp only at l0 hb a0 a1;unfold bA iW bC bB aZ aF cD;refine aX (λx=>x.2=(L,a)/\(x.1=ai->a=L.length\/n<1)/\(x.1=aj->a<L.length/\1<=n)) ?_ ?_
 .refine eZ (λh=>ar ⟨rfl,λ_=>?_,λh=>(by cases h)⟩) λh=>ar ⟨rfl,λh2=>?_,λh2=>?_⟩
  .dsimp only[au] at h;omega
  .rw[tO] at h2;exact .inr h2
  .rw[gk] at h2;dsimp only[au] at h h2;omega
 rintro⟨b,x⟩ ⟨e,h1,h2⟩;dsimp only at e h1 h2;subst e;refine aO (λh=>ar ⟨uZ.refl U,eR _,λM=>(by dsimp only;omega),λM Z=>?_⟩) λh=>?_
 .have:=h1 h;dsimp only at M;omega
 obtain⟨J,Y⟩:=h2 h;refine aR ?_;have e1:bk .i64 (a+1)=a+1:=ig (by omega) (by omega);dsimp only;rw[e1,ig (n:=a+1-1) (by omega) (by omega),show a+1-1=a by omega];have I:=hb _ (bJ (T:=.int .u8) (xs:=L) (j:=a) a0 J);refine aS a0 J (aR ?_);generalize (aK _ a)=z at I;have I:0<=z/\z<=255:=I;rw[ig (n:=z) (by omega) (by omega)];refine y_ (by omega) (ar ?_);dsimp only;refine ⟨⟨rfl,by dsimp only;omega,⟨l0,hb,by dsimp only;omega,by dsimp only;omega⟩⟩,Int.tmod_nonneg _ I.1,λ_=>?_,λ_ _=>by omega⟩;exact Int.tmod_lt_of_pos _ (by omega)
theorem Ug (s:SY) (hs:s.2.2.2.length<=1000) (y:List Int×List Int×List Int):Ok (kW (s,y)) λl=>l.length<=s.2.2.2.length:=by
 unfold kW bL be bz bC bB aZ cK aF cD;refine bZ s.2.2.2.length (λi x=>x.1=(i:Int)/\x.2.length<=i) ?_ ?_ ⟨rfl,by simp⟩
 .rintro i ⟨a,b⟩ hi ⟨e1,e2⟩;dsimp only at e1 e2;subst e1;with_reducible repeat' first|(refine OS.ok ?_;constructor)|refine IM.mk λ_=>?_
  all_goals try simp only[au,rc] at*
  all_goals first|omega|(simp;omega)|skip
  .exact⟨gy (by omega),by simp;omega⟩
  .exact⟨gy (by omega),by omega⟩
 .rintro⟨a,b⟩ ⟨e1,e2⟩;dsimp only at e1 e2;subst e1;refine bI (λI=>(by dsimp only[au] at I;omega)) λ_=>ar e2
theorem Yp (k u:Int) (t:List Int×Int) (h:TP t):Ok (oI ((k,u),t)) λy=>uZ t y.2/\(k=3\/k=4->0<=y.1/\y.1<5):=by
 unfold oI be kB aF cD;rcases @I1 k with rfl|rfl|rfl|rfl|rfl|rfl|rfl|rfl|rfl|rfl|rfl|rfl|rfl|rfl|rfl|rfl|rfl|rfl|rfl|rfl|rfl|rfl|rfl|⟨hk,J⟩
 case inr.inr.inr.inr.inr.inr.inr.inr.inr.inr.inr.inr.inr.inr.inr.inr.inr.inr.inr.inr.inr.inr.inr=>
  simp only[hk 1 (by decide) (by decide),hk 2 (by decide) (by decide),hk 3 (by decide) (by decide),hk 4 (by decide) (by decide),hk 5 (by decide) (by decide),hk 6 (by decide) (by decide),hk 7 (by decide) (by decide),hk 8 (by decide) (by decide),hk 9 (by decide) (by decide),hk 10 (by decide) (by decide),hk 11 (by decide) (by decide),hk 12 (by decide) (by decide),hk 13 (by decide) (by decide),hk 14 (by decide) (by decide),hk 15 (by decide) (by decide),hk 16 (by decide) (by decide),hk 17 (by decide) (by decide),hk 18 (by decide) (by decide),hk 19 (by decide) (by decide),hk 20 (by decide) (by decide),hk 21 (by decide) (by decide),hk 22 (by decide) (by decide),hk 23 (by decide) (by decide),aV,bt,tj];exact ar ⟨uZ.refl h,λh=>(by first|omega|(simp at h;done)|(rcases h with h|h<;>cases h;done))⟩
 all_goals simp only[aV,bt,tj]
 all_goals first
  |exact ar ⟨uZ.refl h,λh=>(by first|omega|(simp at h;done)|(rcases h with h|h<;>cases h;done))⟩
  |exact ax (gr 2 t h) λy I=>ar ⟨I.1,λh=>(by first|omega|(simp at h;done)|(rcases h with h|h<;>cases h;done))⟩
  |exact ax (gr 3 t h) λy I=>ar ⟨I.1,λh=>(by first|omega|(simp at h;done)|(rcases h with h|h<;>cases h;done))⟩
  |skip
 all_goals
  refine ax (gr 8 t h) λy I=>?_
  have h1:=I.2.1;have h2:=I.2.2.1 (by omega);refine aS h1 (by simp;omega) (aS h1 (by simp;omega) (aR (ar ⟨I.1,λ_=>?_⟩)));have:∀ z:Int,z∈([0,0,0,1,1,2,3,4]:List Int)->0<=z/\z<5:=by decide
  exact this _ (bJ (T:=.int .i64) h1 (by simp;omega))
structure SZ (n:Nat) (s:SN):Prop where
 nb:NB n s
 c:s.2.1.length=5
 f:s.2.2.1.length=1
 k:s.2.2.2.length=4
theorem SZ.step {n:Nat} {s y:SN} (h:SZ n s) (hp:SP n s y) (hn:n+1<=100000):SZ (n+1) y:=
 ⟨hp.NB h.nb hn,by rw[hp.c];exact h.c,by rw[hp.f];exact h.f,by rw[hp.k];exact h.k⟩
theorem Yc {n:Nat} (s:SN) (hs:SZ n s) (k o:Int) (M:k=3->0<=o/\o<5) (t:List Int×Int) (h:TP t):Ok (qj ((s,k,o),t)) λy=>uZ t y.2:=by
 obtain⟨s1,s2,Y,U⟩:=s;have hc:=hs.c;have hf:=hs.f;have hth:=hs.nb.sb.th;dsimp only at hc hf hth;have J:=Ug s1 hth (s2,Y,U);unfold qj aY be bz bB aZ aF;rcases @I1 k with rfl|rfl|rfl|rfl|rfl|rfl|rfl|rfl|rfl|rfl|rfl|rfl|rfl|rfl|rfl|rfl|rfl|rfl|rfl|rfl|rfl|rfl|rfl|⟨hk,Z⟩
 case inr.inr.inr.inr.inr.inr.inr.inr.inr.inr.inr.inr.inr.inr.inr.inr.inr.inr.inr.inr.inr.inr.inr=>
  simp only[hk 1 (by decide) (by decide),hk 2 (by decide) (by decide),hk 3 (by decide) (by decide),hk 4 (by decide) (by decide),hk 5 (by decide) (by decide),hk 6 (by decide) (by decide),hk 7 (by decide) (by decide),hk 8 (by decide) (by decide),hk 9 (by decide) (by decide),hk 10 (by decide) (by decide),hk 11 (by decide) (by decide),hk 12 (by decide) (by decide),hk 13 (by decide) (by decide),hk 14 (by decide) (by decide),hk 15 (by decide) (by decide),hk 16 (by decide) (by decide),hk 17 (by decide) (by decide),hk 18 (by decide) (by decide),hk 19 (by decide) (by decide),hk 20 (by decide) (by decide),hk 21 (by decide) (by decide),hk 22 (by decide) (by decide),hk 23 (by decide) (by decide),aV,bt,tj];exact ar (uZ.refl h)
 all_goals simp only[aV,bt,tj]
 all_goals first
  |exact ar (uZ.refl h)
  |exact ax (gr 2 t h) λy I=>ar I.1
  |exact ax (gr 3 t h) λy I=>ar I.1
  |exact ax J λy I=>ar (uZ.refl h)
  |exact aS (by decide) (by omega) (aR (ar (uZ.refl h)))
  |exact aS (M rfl).1 (by have:=(M rfl).2;omega) (aR (ar (uZ.refl h)))
  |skip
 refine ax J λl hl=>?_
 refine bI (λh1=>?_) λ_=>ar (uZ.refl h)
 refine ax (gr _ t h) λy I=>?_
 dsimp only[au] at h1;have h2:=I.2.2.1 (by dsimp only[au];omega);exact aS I.2.1 h2 (aR (ar I.1))
theorem aeo (t:List Int×Int) (h:TP t) (r:List Int) (hr:r.length<=1000000):Ok (gE (t,r)) λy=>y.1.length<=r.length/\uZ t y.2.1/\y.2.2=r:=by
 unfold gE aY bL bz iW bC kB aZ cK aF cD;refine bZ r.length (λi x=>x.1=(i:Int)/\uZ t x.2.1/\x.2.2.1=r/\x.2.2.2.length<=i) ?_ ?_ ⟨rfl,uZ.refl h,rfl,by simp⟩
 .rintro i ⟨a,b,c,d⟩ hi ⟨e1,e2,e3,U⟩;dsimp only at e1 e2 e3 U;subst e1;subst e3;refine bI (λM=>?_) λM=>(by dsimp only[au] at M;omega)
  refine aX (λx=>uZ t x.1/\x.2.1=c/\x.2.2.length<=i+1) ?_ ?_
  .refine bX (bX (aR ?_));refine aX (λx=>uZ t x.2.1/\x.2.2=(c,d)) ?_ ?_
   .refine aO (λ_=>?_) λ_=>ar ⟨e2,rfl⟩
    exact ax (gr 2 b e2.p) λy Y=>ar ⟨e2.trans Y.1,rfl⟩
   .rintro⟨p,q,u⟩ ⟨I,J⟩;dsimp only at I J;subst J;refine aO (λ_=>?_) λ_=>ar ⟨I,rfl,by dsimp only;omega⟩
    exact bg (by simp;omega) (by omega) (ar ⟨I,rfl,by simp;omega⟩)
  .rintro⟨p,q,u⟩ ⟨I,J,f3⟩;dsimp only at I J f3;subst J;refine ar ?_;dsimp only;exact⟨gy (by omega),I,rfl,f3⟩
 .rintro⟨a,b,c,d⟩ ⟨e1,e2,e3,U⟩;dsimp only at e1 e2 e3 U;subst e1;subst e3;refine bI (λM=>(by dsimp only[au] at M;omega)) λ_=>ar ⟨U,e2,rfl⟩
theorem abj:tJ ()=af [3,3,3,3,3,4,4,4,4,4,5,5,5,6,6,6,7,7,7,8,9,10,11,12,13,14,14,15,16,16,17,17,18,18,19,20,1,1,2,21,22,23,23]:=rfl
abbrev RR:Type:=List Int×List Int×List Int×List Int
structure RB4 (m:Nat) (r:RR):Prop where
 r0:r.1.length<=m
 r1:r.2.1.length<=m
 r2:r.2.2.1.length<=m
 r3:r.2.2.2.length<=m
theorem aca {n:Nat} (s:SN) (hs:SZ n s) (w:WT) (hw:w.1.length=5) (t:List Int×Int) (h:TP t) (r:RR) (hr:RB4 1000000 r):Ok (ql ((s,w),t,r)) λy=>uZ t y.2.1/\y.2.2=r/\(t.2<t.1.length->t.2<y.2.1.2)/\y.1.2.2.2.2.2.1.length<=1000000/\y.1.2.2.2.2.2.2.length<=1000000:=by
 obtain⟨r0,r1,r2,r3⟩:=r;obtain⟨h0,h1,h2,h3⟩:=hr;dsimp only at h0 h1 h2 h3;unfold ql Ej Prod.p11 Prod.p12 aY bh bx cC dW kE Ah Cy Prod.q11 Prod.q12 cX fh be bC bB aZ aF;refine ax (gr 4 t h) λy hy=>?_
 refine aT abj ?_;refine ax (gr _ y.2 hy.1.p) λz hz=>?_
 obtain⟨y1,yt⟩:=y;obtain⟨z1,zt⟩:=z;obtain⟨ty,yy0,yy1,yy2⟩:=hy;obtain⟨tz,zz0,zz1,_⟩:=hz;dsimp only at ty yy0 yy1 yy2 tz zz0 zz1;have yy1:=yy1 (by decide);have hzl:=zz1 (by decide);refine aS zz0 hzl (aR ?_);generalize (aK _ z1)=k;refine ax (gr 6 zt tz.p) λv hv=>?_
 obtain⟨v1,vt⟩:=v;have tv:=hv.1;dsimp only at tv;have tt:=(ty.trans tz).trans tv;have hadv:t.2<t.1.length->t.2<vt.2:=λh=>by
  have:=yy2 h (by decide);have:=tz.m;have:=tv.m;omega
 refine aX (λx=>x.1=vt/\x.2.1=r0/\x.2.2.1=r1/\x.2.2.2.1=r2/\x.2.2.2.2.1=r3/\x.2.2.2.2.2.1=s/\x.2.2.2.2.2.2.1=w) ?_ ?_
 .refine aX (λx=>x.2.1=vt/\x.2.2.1=r0/\x.2.2.2.1=r1/\x.2.2.2.2.1=r2/\x.2.2.2.2.2.1=r3/\x.2.2.2.2.2.2.1=s/\x.2.2.2.2.2.2.2.1=w) ?_ ?_
  .with_reducible repeat' first|(refine OS.ok ?_;constructor)|refine IM.mk λ_=>?_
   all_goals exact⟨rfl,rfl,rfl,rfl,rfl,rfl,rfl⟩
  .rintro⟨p,q⟩ hq;dsimp only at hq;with_reducible repeat' first|(refine OS.ok ?_;constructor)|refine IM.mk λ_=>?_
   all_goals exact hq
 rintro⟨x1,x2,x3,x4,x5,x6,x7,x8,x9,x10⟩ ⟨J,Y,f3,f4,f5,f6,U⟩;dsimp only at J Y f3 f4 f5 f6 U;subst J;subst Y;subst f3;subst f4;subst f5;subst f6;subst U;refine ax (Yp _ _ _ tv.p) λo Z=>?_
 obtain⟨o1,ot⟩:=o;obtain⟨to,Z⟩:=Z;dsimp only at to Z;refine ax (Yc _ hs _ _ (λhk=>Z (.inl hk)) _ to.p) λq hq=>?_
 obtain⟨q1,qt⟩:=q;dsimp only at hq;have M:=(tt.trans to).trans hq;have hadv2:t.2<t.1.length->t.2<qt.2:=λh=>by have:=hadv h;have:=to.m;have:=hq.m;omega
 have row:∀ (T:List Int×Int) (c:List Int) {R:Type} (k:List Int×((List Int×Int)×List Int)->Option R) (Q:R->Prop),uZ t T->c.length<=1000000->(∀ v T',uZ T T'->v.length<=1000000->Ok (k (v,T',c)) Q)->Ok (obind (gE (T,c)) k) Q:=λT c R k Q I hc hk=>by
  refine ax (aeo T I.p c hc) λy hy=>?_
  obtain⟨a,b,d⟩:=y;obtain⟨g1,g2,g3⟩:=hy;dsimp only at g1 g2 g3;subst g3;exact hk a b g2 (by omega)
 refine aX (λx=>uZ t x.1/\(t.2<t.1.length->t.2<x.1.2)/\x.2.1=x2/\x.2.2.1=x3/\x.2.2.2.1=x4/\x.2.2.2.2.1=x5/\x.2.2.2.2.2.2.2.2.2.2.2.length<=1000000) ?_ ?_
 .refine aX (λx=>x.2.1=qt/\x.2.2.1=x2/\x.2.2.2.1=x3/\x.2.2.2.2.1=x4/\x.2.2.2.2.2.1=x5) ?_ ?_
  .refine aJ (λ_=>ar ⟨rfl,rfl,rfl,rfl,rfl⟩) λ_=>?_
   refine aJ (λhk=>?_) λ_=>aJ (λhk=>?_) λ_=>ar ⟨rfl,rfl,rfl,rfl,rfl⟩
   .exact aS (Z (.inl hk)).1 (by dsimp only;rw[hw];exact (Z (.inl hk)).2) (aR (ar ⟨rfl,rfl,rfl,rfl,rfl⟩))
   .exact aS (Z (.inr hk)).1 (by dsimp only;rw[hw];exact (Z (.inr hk)).2) (aR (ar ⟨rfl,rfl,rfl,rfl,rfl⟩))
  .rintro⟨b,p1,p2,p3,p4,p5,p6⟩ ⟨J,Y,f3,f4,f5⟩;dsimp only at J Y f3 f4 f5;subst J;subst Y;subst f3;subst f4;subst f5;refine aO (λ_=>?_) λ_=>ar ⟨M,hadv2,rfl,rfl,rfl,rfl,by simp⟩
   have adv3:∀ T',uZ p1 T'->t.2<t.1.length->t.2<T'.2:=λT' I h=>by have:=hadv2 h;have:=I.m;omega
   refine aJ (λ_=>?_) λ_=>aJ (λ_=>?_) λ_=>aJ (λ_=>?_) λ_=>aJ (λ_=>?_) λ_=>?_
   .refine row p1 p2 _ _ M h0 λv T' I hv=>?_
    refine dx (lD rfl (Ba ?_));exact ar ⟨M.trans I,adv3 T' I,rfl,rfl,rfl,rfl,hv⟩
   .refine row p1 p3 _ _ M h1 λv T' I hv=>?_
    refine dx (lD rfl (Ba ?_));exact ar ⟨M.trans I,adv3 T' I,rfl,rfl,rfl,rfl,hv⟩
   .refine row p1 p4 _ _ M h2 λv T' I hv=>?_
    refine dx (lD rfl (Ba ?_));exact ar ⟨M.trans I,adv3 T' I,rfl,rfl,rfl,rfl,hv⟩
   .refine row p1 p5 _ _ M h3 λv T' I hv=>?_
    refine dx (lD rfl (Ba ?_));exact ar ⟨M.trans I,adv3 T' I,rfl,rfl,rfl,rfl,hv⟩
   .omega
 rintro⟨u1,u2,u3,u4,u5,u6,u7,u8,u9,u10,u11,u12⟩ ⟨J,Y,f3,f4,f5,f6,U⟩;dsimp only at J Y f3 f4 f5 f6 U;subst f3;subst f4;subst f5;subst f6;refine aX (λx=>uZ t x.1/\(t.2<t.1.length->t.2<x.1.2)/\x.2.1=u2/\x.2.2.1=u3/\x.2.2.2.1=u4/\x.2.2.2.2.1=u5/\x.2.2.2.2.2.2.2.2.2.2.2.1.length<=1000000/\x.2.2.2.2.2.2.2.2.2.2.2.2.length<=1000000) ?_ ?_
 .refine aX (λx=>x.2=(u1,u2,u3,u4,u5,u6,u7,u8,u9,u10,u11,u12)) ?_ ?_
  .with_reducible repeat' first|(refine OS.ok ?_;constructor)|refine IM.mk λ_=>?_
   all_goals rfl
  .rintro⟨b,x⟩ e;dsimp only at e;subst e;refine aO (λ_=>?_) λ_=>ar ⟨J,Y,rfl,rfl,rfl,rfl,U,by simp⟩
   have adv3:∀ T',uZ u1 T'->t.2<t.1.length->t.2<T'.2:=λT' I h=>by have:=Y h;have:=I.m;omega
   refine aJ (λ_=>?_) λ_=>aJ (λ_=>?_) λ_=>aJ (λ_=>?_) λ_=>aJ (λ_=>?_) λ_=>?_
   .refine row u1 u2 _ _ J h0 λv T' I hv=>?_
    refine dx (lD rfl (Ba ?_));exact ar ⟨J.trans I,adv3 T' I,rfl,rfl,rfl,rfl,U,hv⟩
   .refine row u1 u3 _ _ J h1 λv T' I hv=>?_
    refine dx (lD rfl (Ba ?_));exact ar ⟨J.trans I,adv3 T' I,rfl,rfl,rfl,rfl,U,hv⟩
   .refine row u1 u4 _ _ J h2 λv T' I hv=>?_
    refine dx (lD rfl (Ba ?_));exact ar ⟨J.trans I,adv3 T' I,rfl,rfl,rfl,rfl,U,hv⟩
   .refine row u1 u5 _ _ J h3 λv T' I hv=>?_
    refine dx (lD rfl (Ba ?_));exact ar ⟨J.trans I,adv3 T' I,rfl,rfl,rfl,rfl,U,hv⟩
   .omega
 rintro⟨a1,a2,a3,a4,a5,a6,a7⟩ ⟨g1,g2,g3,g4,g5,g6,g7,g8⟩;dsimp only at g1 g2 g3 g4 g5 g6 g7 g8;subst g3;subst g4;subst g5;subst g6;exact ar ⟨g1,rfl,g2,g7,g8⟩
def ZX (e:ET):Prop:=e.2.2.2.2.2.1.length<=1000000/\e.2.2.2.2.2.2.length<=1000000
theorem aev {m:Nat} (hm:m<=1000) (s:SN) (hs:SZ m s) (w:WT) (hw:w.1.length=5) (hwt:w.2.2.2.2.1.length=4) (hwc:w.2.2.1.length<=1000) (n:Int) (hn:n<=60) (t:List Int×Int) (h:TP t):Ok (su ((s,w,n,aj),t)) λy=>(∀ e∈y.1,ZX e)/\y.1.length<=60:=by
 unfold su aY bh bx cC dW kE Ah Cy Prod.q10 bL cX fh kD qa Prod.q9 be bz bC bB aZ cK aF;refine dx (dx (dx (eM (by dsimp only[au];omega) (eM (eR _) (bg (by dsimp only[au];omega) (by omega) (Xk (by dsimp only[au];omega) ?_))))));refine aX (λx=>x=(t,s,w,[],[],[],[])) ⟨_,rfl,rfl⟩ ?_;rintro x rfl;refine qe (λx=>((t.1.length:Int)-x.1.2).toNat) (λx=>uZ t x.1/\x.2.2.1=w/\SZ (m+x.2.2.2.1.length) x.2.1/\x.2.2.2.1.length<=60/\(∀ e∈x.2.2.2.1,ZX e)/\RB4 x.2.2.2.1.length x.2.2.2.2) ?_ ⟨uZ.refl h,rfl,(by simpa using hs),by simp,λe he=>(by cases he),⟨by simp,by simp,by simp,by simp⟩⟩;rintro⟨I,s,w',out,r⟩ ⟨i1,i2,U,i4,i5,i6⟩;dsimp only at i1 i2 U i4 i5 i6;subst i2;refine aX (λx=>x.2=(I,s,w',out,r)/\(x.1=ai->out.length<60/\I.2<I.1.length)) ?_ ?_
 .refine bI (λh1=>ar ⟨rfl,λh2=>?_⟩) λ_=>ar ⟨rfl,λh=>(by cases h)⟩
  rw[tO] at h2;dsimp only[au] at h1 h2;exact⟨by omega,h2⟩
 rintro⟨b,x⟩ ⟨e,hb⟩;dsimp only at e hb;subst e;refine aO (λh1=>?_) λ_=>ar ⟨i5,i4⟩
 obtain⟨ho,ht⟩:=hb h1;obtain⟨q0,q1,q2,q3⟩:=id i6;refine aX (λx=>uZ I x.1/\I.2<x.1.2/\x.2.2.1=w'/\SZ (m+x.2.2.2.1.length) x.2.1/\x.2.2.2.1.length<=60/\(∀ e∈x.2.2.2.1,ZX e)/\RB4 x.2.2.2.1.length x.2.2.2.2) ?_ ?_
 .refine ax (aca s U w' hw I i1.p r ⟨by omega,by omega,by omega,by omega⟩) λy hy=>?_
  obtain⟨ev,tp',r'⟩:=y;obtain⟨j1,j2,j3,M,J⟩:=hy;dsimp only at j1 j2 j3 M J;subst j2;have j3:=j3 ht;refine dx (lD rfl (dx (lD rfl (dx (lD rfl (dx (lD rfl (Ba ?_))))))));refine ax (FD w' s U.nb hwc ev (by omega) (by omega)) λz hz=>?_
  refine dN (λ_=>ar ⟨j1,j3,rfl,U,i4,i5,i6⟩) λh2=>?_
  obtain⟨z1,z2⟩:=z;obtain⟨hE,hS,_⟩:=hz.1 h2;have hS2:=U.step hS (by omega);refine aX (λx=>x.1=tp'/\x.2.2.1=w'/\x.2.2.2.1=out/\ZX x.2.2.2.2.1/\x.2.2.2.2.2.1=z1/\RB4 (out.length+1) x.2.2.2.2.2.2) ?_ ?_
  .refine aX (λx=>x.2=(tp',s,w',out,ev,z1,r')) ?_ ?_
   .refine aJ (λ_=>ar rfl) λ_=>ar rfl
   .rintro⟨b,x⟩ e;dsimp only at e;subst e;have hk:=U.k;obtain⟨ev1,ev2⟩:=ev;have t0:=hE.t0;have t1:=hE.t1;rw[hwt] at t1;dsimp only at t0 t1;refine aO (λ_=>?_) λ_=>ar ⟨rfl,rfl,rfl,⟨M,J⟩,rfl,⟨by dsimp only;omega,by dsimp only;omega,by dsimp only;omega,by dsimp only;omega⟩⟩
    refine aJ (λ_=>?_) λ_=>aJ (λ_=>?_) λ_=>aJ (λ_=>?_) λ_=>aJ (λ_=>?_) λ_=>?_
    .exact aS (by decide) (by dsimp only;omega) (aR (bg (by simp;omega) (by omega) (ar ⟨rfl,rfl,rfl,⟨M,J⟩,rfl,⟨by simp;omega,by dsimp only;omega,by dsimp only;omega,by dsimp only;omega⟩⟩)))
    .exact aS (by decide) (by dsimp only;omega) (aR (bg (by simp;omega) (by omega) (ar ⟨rfl,rfl,rfl,⟨M,J⟩,rfl,⟨by dsimp only;omega,by simp;omega,by dsimp only;omega,by dsimp only;omega⟩⟩)))
    .exact aS (by decide) (by dsimp only;omega) (aR (bg (by simp;omega) (by omega) (ar ⟨rfl,rfl,rfl,⟨M,J⟩,rfl,⟨by dsimp only;omega,by dsimp only;omega,by simp;omega,by dsimp only;omega⟩⟩)))
    .exact aS (by decide) (by dsimp only;omega) (aR (bg (by simp;omega) (by omega) (ar ⟨rfl,rfl,rfl,⟨M,J⟩,rfl,⟨by dsimp only;omega,by dsimp only;omega,by dsimp only;omega,by simp;omega⟩⟩)))
    .dsimp only at *;omega
  .rintro⟨x1,x2,x3,x4,x5,x6,x7⟩ ⟨k1,k2,k3,k4,Z,Y⟩;dsimp only at k1 k2 k3 k4 Z Y;subst k1;subst k2;subst k3;subst Z;refine bg (by simp;omega) (by omega) (ar ⟨j1,j3,rfl,?_,by simp;omega,λe he=>?_,?_⟩)
   .dsimp only;rw[bm,c6,<-pD];exact hS2
   .rcases bQ.1 he with he|he
    .exact i5 e he
    .rw[aL] at he;subst he;exact k4
   .dsimp only;rw[bm,c6];exact Y
 rintro⟨tp',s',w'',out',r'⟩ ⟨k1,k2,k3,k4,Z,Y,k7⟩;dsimp only at k1 k2 k3 k4 Z Y k7;have e1:=i1.e;have a1:=k1.p.a1;have e2:=k1.e;refine ar ⟨⟨i1.trans k1,k3,k4,Z,Y,k7⟩,?_⟩;dsimp only;rw[e2,e1] at a1;omega
def C0:List (List UInt8×Int×Int×Bool×Int):=[([120],0,0,aj,0),([121],0,0,aj,1),([118],0,0,ai,0),([113],0,2,aj,0),([113],1,2,aj,0)]
def G9:List (List UInt8×Bool):=[([109],aj),([110],aj),([114],ai)]
def MF:List (List UInt8×Int):=[([99],0)]
def TJ:List (List UInt8):=[[102]]
def wh:List (List UInt8):=[[109,97,105,110],[116,49],[116,50],[116,51]]
structure WX (w:WT):Prop where
 c:w.1=C0
 l:w.2.1=G9
 d:w.2.2.1=MF
 f:w.2.2.2.1=TJ
 t:∃ n,1<=n/\n<=4/\w.2.2.2.2.1=wh.take n
 s:w.2.2.2.2.2.length<=60
 v:SV0 w
structure W0 (w:WT):Prop where
 c:w.1.length=5
 l:w.2.1.length=3
 d:w.2.2.1.length=1
 f:w.2.2.2.1.length=1
 t:w.2.2.2.2.1.length=4
 s:w.2.2.2.2.2.length<=24
 x:WX w
theorem W0.vl {w:WT} (h:W0 w):VL w:=⟨by rw[h.c];decide,by rw[h.l];decide,by rw[h.d];decide,by rw[h.f];decide,by rw[h.t];decide,by rw[h.t];decide,by have:=h.s;omega⟩
def nxS (i j:Nat):Int×Int:=if j=0 then (if i=0 then (0,0) else ((i:Int)-1,6)) else (i,j)
theorem W3 {T:Int} {l:List (Int×Int×Int)} {s:Int×Int×Int}:Lr T (l++[s])=T_ T (Lr T l) s:=by unfold Lr;rw[dR];rfl
theorem Tp:Ok (nI ()) W0:=by
 unfold nI aY bh bx cC fh bz bC cK aF cD;refine bZ 4 (λi x=>x.1=(i:Int)/\x.2.1=C0/\x.2.2.1=G9/\x.2.2.2.1=MF/\x.2.2.2.2.1=TJ/\x.2.2.2.2.2.1=wh/\x.2.2.2.2.2.2.length<=6*i/\Lr 4 x.2.2.2.2.2.2=af (nxS i 0)) ?_ ?_ ⟨rfl,rfl,rfl,rfl,rfl,rfl,by simp,rfl⟩
 .rintro i ⟨a,w1,w2,w3,w4,w5,w6⟩ hi ⟨e1,e2,e3,Z,Y,I,e7,U⟩;dsimp only at e1 e2 e3 Z Y I e7 U;subst e1;have hl5:w5.length=4:=by rw[I];rfl
  refine bI (λ_=>?_) λg=>(by dsimp only[au] at g;simp at g;omega)
  refine bZ 6 (λj x=>x.1=(j:Int)/\x.2.1=w1/\x.2.2.1=w2/\x.2.2.2.1=w3/\x.2.2.2.2.1=w4/\x.2.2.2.2.2.1=w5/\x.2.2.2.2.2.2.length<=6*i+j/\Lr 4 x.2.2.2.2.2.2=af (nxS i j)) ?_ ?_ ⟨rfl,rfl,rfl,rfl,rfl,rfl,by dsimp only;omega,U⟩
  .rintro j ⟨b,v1,v2,v3,v4,v5,v6⟩ hj ⟨d1,d2,d3,d4,d5,d6,d7,d8⟩;dsimp only at d1 d2 d3 d4 d5 d6 d7 d8;subst d1;refine db ?_;refine bg (by simp;omega) (by omega) (ar ?_);dsimp only;refine ⟨gy (by omega),d2,d3,d4,d5,d6,by simp;omega,?_⟩;rw[W3,d8];by_cases J:j=0
   .subst J;by_cases M:i=0
    .subst M;rfl
    .rw[show nxS i 0=((i:Int)-1,6) by unfold nxS;simp[M],show nxS i (0+1)=((i:Int),1) by unfold nxS;simp];unfold T_;dsimp only;rw[ay (λh=>by have:=h.1;omega),aE ⟨by omega,by omega,rfl⟩]
   .rw[show nxS i j=((i:Int),(j:Int)) by unfold nxS;simp[J],show nxS i (j+1)=((i:Int),(j:Int)+1) by unfold nxS;simp];unfold T_;dsimp only;rw[aE ⟨rfl,rfl⟩]
  .rintro⟨b,v1,v2,v3,v4,v5,v6⟩ ⟨d1,d2,d3,d4,d5,d6,d7,d8⟩;dsimp only at d1 d2 d3 d4 d5 d6 d7 d8;subst d1;subst d2;subst d3;subst d4;subst d5;subst d6;refine dc (ar ?_);dsimp only;refine ⟨gy (by omega),e2,e3,Z,Y,I,by omega,?_⟩;rw[d8];unfold nxS;simp
 .rintro⟨a,w1,w2,w3,w4,w5,w6⟩ ⟨e1,e2,e3,Z,Y,I,e7,U⟩;dsimp only at e1 e2 e3 Z Y I e7 U;subst e1;subst e2;subst e3;subst Z;subst Y;subst I;refine bI (λg=>(by dsimp only[au] at g;simp[wh] at g)) λ_=>ar ?_
  refine ⟨rfl,rfl,rfl,rfl,rfl,by dsimp only;omega,rfl,rfl,rfl,rfl,⟨4,by decide,by decide,rfl⟩,by dsimp only;omega,?_⟩;unfold SV0;show Lr 4 w6≠ah;rw[U];simp
theorem SZ.mono {n m:Nat} {s:SN} (h:SZ n s) (hnm:n<=m) (hm:m<=100000):SZ m s:=
 ⟨⟨⟨hm,h.nb.sb.lk,λl hl=>di (h.nb.sb.rd l hl) hnm,h.nb.sb.dn,h.nb.sb.th⟩,h.nb.c,h.nb.f,h.nb.k⟩,h.c,h.f,h.k⟩
theorem Wu (w:WT) (I:W0 w):Ok (mP w) λs=>SZ 0 s:=by
 refine (Wv w I.vl).mono λs hs=>⟨hs.1,?_,?_,?_⟩
 .rw[hs.2.1,I.c]
 .rw[hs.2.2.1,I.f]
 .rw[hs.2.2.2,I.t]
structure WB (w:WT):Prop where
 c:w.1.length<=12
 l:w.2.1.length<=4
 d:w.2.2.1.length<=2
 f:w.2.2.2.1.length<=2
 t:w.2.2.2.2.1.length<=4
 s:w.2.2.2.2.2.length<=60
theorem VL.wb {w:WT} (h:VL w):WB w:=⟨h.c,h.l,h.d,h.f,h.t,h.s⟩
structure TR (y:WT×List ET):Prop where
 wb:WB y.1
 vl:VL y.1
 ev:∀ e∈y.2,EvF y.1 e
 len:y.2.length<=400
 ls:∀ e∈y.2,ZX e
 wx:WX y.1
 ac:∃ sy ce fu,Acw y.1 y.2 sy ce fu
theorem It (L:List Int) (n:Int) (hl:L.length<=9223372036854775807) (hb:∀ x∈L,0<=x/\x<=255):Ok (qm (L,n)) TR:=by
 unfold qm aY bh bx dA cX bz iW iV bC kB aZ cK aF cD;refine aX (λx=>x.length<=600/\∀ z∈x,0<=z/\z<=255) ?_ ?_
 .refine bI (λg=>?_) λg=>?_
  .dsimp only[au] at g;refine dx (eM (by omega) (eM (by dsimp only;omega) (ar ⟨by dsimp only;rw[bH];simp;omega,λz I=>hb z (gZ I)⟩)))
  .dsimp only[au] at g;exact ar ⟨by dsimp only;omega,hb⟩
 rintro L' ⟨hL,hB⟩;refine ax Tp λw J=>?_
 have hvl:=J.vl;refine ax (Wu w J) λs hs=>?_
 refine ax (gr 3 (L',0) ⟨by dsimp only;omega,hB,by dsimp only;omega,by dsimp only;omega⟩) λy hy=>?_
 obtain⟨y1,yt⟩:=y;obtain⟨ty,yy0,yy1,_⟩:=hy;have yy1:=yy1 (by decide);dsimp only at ty yy0 yy1;have ew:bk .i64 (1+y1)=1+y1:=ig (by omega) (by omega);refine qe (λx=>(1+y1+1-x.1).toNat) (λx=>1<=x.1/\x.1<=2+y1/\x.2.1=yt/\x.2.2.1=w/\x.2.2.2.1=s/\((x.2.2.2.2.length:Nat):Int)<=2*x.1/\∀ e∈x.2.2.2.2,ZX e) ?_ ⟨by dsimp only;omega,by dsimp only;omega,rfl,rfl,rfl,by simp,λe he=>?_⟩
 .rintro⟨a,t,w',s',es⟩ ⟨e1,e2,e3,e4,e5,e6,e7⟩;dsimp only at e1 e2 e3 e4 e5 e6 e7;subst e3;subst e4;subst e5;refine eZ (λg=>?_) λg=>?_
  .dsimp only at g;rw[ew] at g;refine bg (by simp;omega) (by omega) (ar ?_);dsimp only;rw[ig (n:=a+1) (by omega) (by omega)];refine ⟨⟨by omega,by omega,rfl,rfl,rfl,by simp;omega,λe he=>?_⟩,by omega⟩;rcases bQ.1 he with he|he
   .exact e7 e he
   .simp only[bp,cz,gi] at he;rcases he with he|he<;>subst he<;>exact⟨by simp,by simp⟩
  .refine ax (P:=TR) ?_ λr hr=>ar hr
   refine bZ es.length (λi x=>x.1=(i:Int)/\TP x.2.1/\x.2.2.1=w'/\SZ i x.2.2.2.1/\x.2.2.2.2.1=es/\x.2.2.2.2.2.length<=i/\∀ e∈x.2.2.2.2.2,ZX e) ?_ ?_ ⟨rfl,ty.p,rfl,hs,rfl,by simp,λe he=>(by cases he)⟩
   .rintro i ⟨b,t,w',s',es',out⟩ hi ⟨d1,U,Z,M,Y,d6,d7⟩;dsimp only at d1 U Z M Y d6 d7;subst d1;subst Z;subst Y;refine db ?_;refine aX (λx=>TP x.1/\x.2.1=w'/\SZ (i+1) x.2.2.1/\x.2.2.2.1=es'/\x.2.2.2.2.length<=i+1/\∀ e∈x.2.2.2.2,ZX e) ?_ ?_
    .refine bX (bX (aR ?_));have I:=e7 _ (bJ (T:=.st (.pr (.int .i64) (.pr (.int .i64) (.pr (.int .i64) (.pr (.int .i64) (.pr (.int .i64) (.pr (.sl (.int .i64)) (.sl (.int .i64))))))))) (xs:=es') (j:=(i:Int)) (by omega) (by omega));revert I;generalize (aK _ _)=z;intro I;refine ax (FD w' s' M.nb (by rw[J.d];decide) z (by have:=I.1;omega) (by have:=I.2;omega)) λv hv=>?_
     refine aO (λh=>?_) λh=>ar ⟨U,rfl,M.mono (by omega) (by omega),rfl,by dsimp only;omega,d7⟩
     refine bg (by simp;omega) (by omega) (ar ⟨U,rfl,M.step (hv.1 h).2.1 (by omega),rfl,by simp;omega,λe he=>?_⟩);rcases bQ.1 he with he|he
     .exact d7 e he
     .rw[aL] at he;subst he;exact I
    .rintro⟨t,w'',s'',es'',out'⟩ ⟨f1,f2,f3,f4,f5,f6⟩;dsimp only at f1 f2 f3 f4 f5 f6;refine ar ?_;dsimp only;exact⟨gy (by omega),f1,f2,f3,f4,f5,f6⟩
   .rintro⟨b,t,w',s',es',out⟩ ⟨d1,U,Z,M,Y,d6,d7⟩;dsimp only at d1 U Z M Y d6 d7;subst d1;subst Z;subst Y;refine dc ?_;refine ax (P:=TR) ?_ λr hr=>ar hr
    have hmin:Hh (iE n 0) 60<=60:=by
     unfold Hh;split
     .omega
     .rename_i h;simp[fR] at h;exact h
    refine ax (aev (by omega) s' M w' J.c J.t (by rw[J.d];decide) _ hmin t U) λv hv=>?_
    refine bg (by have:=hv.2;dsimp only;omega) (by omega) ?_;have hall:∀ e∈out++v.1,ZX e:=λe he=>by
     rcases bQ.1 he with he|he
     .exact d7 e he
     .exact hv.1 e he
    refine ax (ae3 w' (out++v.1) λe he=>by have:=hall e he;exact⟨by have:=this.1;omega,by have:=this.2;omega⟩) λc hc=>?_
    refine b8 (λ_=>?_) λh=>?_
    .exact ax Tp λu hu=>ar ⟨hu.vl.wb,hu.vl,λe he=>(by cases he),by simp,λe he=>(by cases he),hu.x,_,_,_,.nil⟩
    .exact ar ⟨(hc h).1.1.wb,(hc h).1.1,(hc h).2.1,by have:=hv.2;simp;omega,hall,J.x,(hc h).2.2⟩
 .rw[aL] at he;subst he;exact⟨by simp,by simp⟩
abbrev IT:Type:=Int×Int×Int×Int×Int×Int
abbrev CT:Type:=WT×List (Int×List IT)
theorem r9 (a b:Int):jp (a,b)=af (decide (0<=a/\a<b)):=by
 refine ci ?_;unfold jp iW aF;with_reducible repeat' first|(refine OS.ok ?_;constructor)|refine IM.mk λ_=>?_
 .by_cases h:a<b<;>simp[*,fR]
 .simp;omega
theorem FE (k:Int):pK k=af (decide (1<=k/\k<=5)):=by
 refine ci ?_;unfold pK iW aF;with_reducible repeat' first|(refine OS.ok ?_;constructor)|refine IM.mk λ_=>?_
 .by_cases h:k<=5<;>simp[*,c8]
 .simp;omega
def iO (i:IT):List Int:=
 if i.1=1\/i.1=6\/i.1=10\/i.1=27 then [i.2.1]
 else if i.1=2\/i.1=3 then [i.2.1,i.2.2.1]
 else if i.1=4 then [i.2.1,i.2.2.1,i.2.2.2.1]
 else if i.1=7 then [i.2.1,i.2.2.2.1]
 else if i.1=8\/i.1=26 then [i.2.2.1]
 else if i.1=9 then [i.2.2.1,i.2.2.2.1]
 else []
theorem tS (i:IT):jE i=af (iO i):=by
 obtain⟨I,i2⟩:=i;unfold jE iO aY bh bx be aF;by_cases h1:I=1
 .subst h1;rfl
 by_cases h2:I=6
 .subst h2;rfl
 by_cases h3:I=10
 .subst h3;rfl
 by_cases h4:I=27
 .subst h4;rfl
 by_cases h5:I=2
 .subst h5;rfl
 by_cases h6:I=3
 .subst h6;rfl
 by_cases Z:I=4
 .subst Z;rfl
 by_cases Y:I=7
 .subst Y;rfl
 by_cases U:I=8
 .subst U;rfl
 by_cases M:I=26
 .subst M;rfl
 by_cases J:I=9
 .subst J;rfl
 simp only[h1,h2,h3,h4,h5,h6,Z,Y,U,M,J,cw,bcF,jnr,gi,eh]
theorem CU (z:IT):(iO z).length<=3:=by
 unfold iO
 (repeat' split)<;>simp
theorem abi (l:List IT) (a:Int) (hl:l.length<=1000000):Ok (pn (l,a)) λ_=>True:=by
 unfold pn be bz iW bB aZ cK aF cD;refine qe (λx=>((l.length:Int)+1-x.2).toNat) (λx=>0<=x.2/\x.2<=(l.length:Int)+1) ?_ ⟨by dsimp only;omega,by dsimp only;omega⟩;rintro⟨(a:Int),(n:Int)⟩ ⟨h0,h1⟩;dsimp only at h0 h1;refine eZ (λg=>?_) λ_=>ar trivial
 dsimp only[au] at g;refine aX (λ_=>True) ?_ λb _=>ar ?_
 .refine aX (λb=>b=aj->0<=a/\a<(l.length:Int)) ?_ ?_
  .refine bI (λ_=>ar λh=>(by cases h)) λI=>ar λh=>?_
   rw[l9] at h;dsimp only[au] at h I;exact⟨I,h⟩
  .intro b hb;refine aO (λ_=>ar trivial) λh=>?_
   obtain⟨q0,J⟩:=hb h;refine aS q0 (by dsimp only;omega) (aR ?_);refine aT (FE _) ?_;refine dN (λ_=>ar trivial) λ_=>?_
   refine aS q0 (by dsimp only;omega) (aR ?_);refine aJ (λ_=>?_) λ_=>ar trivial
   exact aS q0 (by dsimp only;omega) (aR (ar trivial))
 .dsimp only;rw[ig (by omega) (by omega)];exact⟨⟨by omega,by omega⟩,by omega⟩
structure AR (w:WT) (b n:Int):Prop where
 b0:0<=b
 b1:b<w.1.length
 ix:(aK (T:=Qb) w.1 b).2.1=0
 sz:¬(aK (T:=Qb) w.1 b).2.2.1=0
 sn:(aK (T:=Qb) w.1 b).2.2.1=n
theorem Tg (w:WT) (b n:Int):Ok (m_ (w,b,n)) λr=>r=ai->AR w b n:=by
 unfold m_ be iV bB aZ aF;refine gj ?_;refine aT (r9 _ _) ?_;refine aJ (λh=>?_) λ_=>ar (ar λh=>(by cases h))
 refine aS h.1 h.2 (aR (aJ (λh1=>?_) λ_=>ar (ar λh=>(by cases h))));refine aS h.1 h.2 (aR (b8 (λh2=>?_) λ_=>ar (ar λh=>(by cases h))));exact aS h.1 h.2 (aR (ar (ar λI=>⟨h.1,h.2,h1,h2,bi I⟩)))
theorem UC (w:WT) (i:IT):Ok (lH (w,i)) λb=>b=ai->(i.1=7->AR w i.2.2.1 i.2.2.2.2.1)/\(i.1=9->AR w i.2.1 i.2.2.2.2.1):=by
 have I:∀ {b:Bool},¬i.1=7->¬i.1=9->b=ai->(i.1=7->AR w i.2.2.1 i.2.2.2.2.1)/\(i.1=9->AR w i.2.1 i.2.2.2.2.1):=λh1 h2 _=>⟨λh=>(h1 h).elim,λh=>(h2 h).elim⟩
 unfold lH aY bh bx cC dW be iW bB aZ aF;simp only[r9,Xl];refine aJ (λU=>?_) λ_=>?_
 .refine aX (λ_=>True) ?_ λ_ _=>ar (I (by have U:i.1=6:=U;omega) (by have U:i.1=6:=U;omega))
  refine aJ (λh=>?_) λ_=>ar trivial
  exact aS h.1 h.2 (aR (ar trivial))
 refine aJ (λJ=>?_) λ_=>?_
 .refine aX (λ_=>True) ?_ λ_ _=>ar (I (by have J:i.1=8:=J;omega) (by have J:i.1=8:=J;omega))
  refine aJ (λh=>?_) λ_=>ar trivial
  exact aS h.1 h.2 (aR (ar trivial))
 refine aJ (λM=>?_) λY=>?_
 .exact ax (Tg _ _ _) λ_ h=>ar λh2=>⟨λ_=>h h2,λh9=>by have M:i.1=7:=M;omega⟩
 refine aJ (λh9=>?_) λZ=>?_
 .exact ax (Tg _ _ _) λ_ h=>ar λh2=>⟨λM=>(Y M).elim,λ_=>h h2⟩
 have I:∀ {b:Bool},b=ai->(i.1=7->AR w i.2.2.1 i.2.2.2.2.1)/\(i.1=9->AR w i.2.1 i.2.2.2.2.1):=I Y Z;refine aX (λx=>x.2=(w,i)) (aJ (λ_=>ar rfl) λ_=>ar rfl) ?_;rintro⟨b,x⟩ e;dsimp only at e;subst e;refine aO (λ_=>?_) λ_=>?_
 .refine aX (λ_=>True) ?_ λ_ _=>ar I
  refine aJ (λh=>?_) λ_=>ar trivial
  exact aS h.1 h.2 (aR (ar trivial))
 refine aX (λx=>x.2=(w,i)) (aJ (λ_=>ar rfl) λ_=>aJ (λ_=>ar rfl) λ_=>aJ (λ_=>ar rfl) λ_=>ar rfl) ?_;rintro⟨b,x⟩ e;dsimp only at e;subst e;refine aO (λ_=>?_) λ_=>?_
 .refine aX (λ_=>True) ?_ λ_ _=>ar I
  refine aJ (λh=>?_) λ_=>ar trivial
  exact aS h.1 h.2 (aR (ar trivial))
 refine aX (λx=>x.2=(w,i)) (aJ (λ_=>ar rfl) λ_=>aJ (λ_=>ar rfl) λ_=>ar rfl) ?_;rintro⟨b,x⟩ e;dsimp only at e;subst e;refine aO (λ_=>ar I) λ_=>?_
 refine aX (λx=>x.2=(w,i)) (aJ (λ_=>ar rfl) λ_=>ar rfl) ?_;rintro⟨b,x⟩ e;dsimp only at e;subst e;with_reducible repeat' first|(refine OS.ok ?_;constructor)|refine IM.mk λ_=>?_
 all_goals exact I
structure VI (n:Int) (i:IT):Prop where
 o1:1<=i.1
 o2:i.1<=28
 r:∀ j∈iO i,0<=j/\j<n
structure VT (t:Int×List IT):Prop where
 r0:0<=t.1
 r1:t.1<=32
 i:∀ i∈t.2,VI t.1 i
structure VJ (w:WT) (k:Int) (i:IT):Prop where
 a7:i.1=7->AR w i.2.2.1 i.2.2.2.2.1
 a9:i.1=9->AR w i.2.1 i.2.2.2.2.1
 se:i.1=28->i.2.2.2.2.2= -1
 si:¬i.1=28->0<=i.2.2.2.2.2/\i.2.2.2.2.2<w.2.2.2.2.2.length/\(aK (T:=yd) w.2.2.2.2.2 i.2.2.2.2.2).1=k
theorem Im (w:WT) (k:Int) (c:Int×List IT) (hc:c.2.length<=1000000):Ok (ip (w,k,c)) λb=>b=ai->VT c/\∀ i∈c.2,VJ w k i:=by
 unfold ip aY bh bx cC bL cX qa be bz iV bB aZ cK aF cD;refine aX (λx=>x.2=(w,c)/\(x.1=aj->0<=c.1/\c.1<=32)) ?_ ?_
 .refine bI (λ_=>ar ⟨rfl,λh=>(by cases h)⟩) λh0=>bI (λ_=>ar ⟨rfl,λh=>(by cases h)⟩) λh1=>ar ⟨rfl,λ_=>⟨h0,h1⟩⟩
 rintro⟨b,x⟩ ⟨e,hb⟩;dsimp only at e hb;subst e;refine aO (λ_=>ar λh=>(by cases h)) λh=>?_
 obtain⟨r0,r1⟩:=hb h;refine bZ c.2.length (λi x=>x.1=(i:Int)/\x.2=(w,c)/\∀ q:Nat,q<i->VI c.1 (aK (T:=BO) c.2 (q:Int))/\VJ w k (aK (T:=BO) c.2 (q:Int))) ?_ ?_ ⟨rfl,rfl,λk hk=>by omega⟩
 .rintro i ⟨a,x⟩ hi ⟨e1,e2,e3⟩;dsimp only at e1 e2 e3;subst e1;subst e2;refine db ?_;refine bX (aR ?_);generalize Y:(aK _ _)=z;refine aX (λx=>x.2=(w,c,z)/\(x.1=aj->(1<=z.1/\z.1<=28)/\(z.1=7->AR w z.2.2.1 z.2.2.2.2.1)/\(z.1=9->AR w z.2.1 z.2.2.2.2.1))) ?_ ?_
  .refine bI (λ_=>ar ⟨rfl,λh=>(by cases h)⟩) λh0=>bI (λ_=>ar ⟨rfl,λh=>(by cases h)⟩) λh1=>?_
   refine aO (λ_=>ar ⟨rfl,λh=>(by cases h)⟩) λ_=>?_
   refine ax (UC w z) λy Z=>?_
   refine dN (λ_=>ar ⟨rfl,λh=>(by cases h)⟩) λhyt=>?_
   exact ax (abi c.2 _ hc) λy _=>ar ⟨rfl,λ_=>⟨⟨h0,h1⟩,Z hyt⟩⟩
  rintro⟨b,x⟩ ⟨e,hb⟩;dsimp only at e hb;subst e;refine aO (λ_=>ar λh=>(by cases h)) λh=>?_
  obtain⟨⟨o1,o2⟩,a7,a9⟩:=hb h;refine aX (λx=>x.2=(w,c,z)/\(x.1=aj->(z.1=28->z.2.2.2.2.2= -1)/\(¬z.1=28->0<=z.2.2.2.2.2/\z.2.2.2.2.2<w.2.2.2.2.2.length/\(aK (T:=yd) w.2.2.2.2.2 z.2.2.2.2.2).1=k))) ?_ ?_
  .simp only[r9,Xl];refine aJ (λI=>?_) λI=>?_
   .refine b8 (λ_=>ar ⟨rfl,λh=>(by cases h)⟩) λhm=>?_
    exact b8 (λh=>(h I).elim) λ_=>ar ⟨rfl,λ_=>⟨λ_=>hm,λh=>(h I).elim⟩⟩
   .refine b8 (λ_=>?_) λh=>(I h).elim
    refine b8 (λ_=>ar ⟨rfl,λh=>(by cases h)⟩) λh=>?_
    exact aS h.1 h.2 (aR (ar ⟨rfl,λh2=>⟨λh3=>(I h3).elim,λ_=>⟨h.1,h.2,by simpa using h2⟩⟩⟩))
  rintro⟨b,x⟩ ⟨e,hsi⟩;dsimp only at e hsi;subst e;refine aO (λ_=>ar λh=>(by cases h)) λhbs=>?_
  obtain⟨se,si⟩:=hsi hbs;refine aX (λx=>x.2=(w,c,z)) ?_ ?_
  .simp only[r9,Xl];with_reducible repeat' first|(refine OS.ok ?_;constructor)|refine IM.mk λ_=>?_
   all_goals rfl
  rintro⟨b,x⟩ e;dsimp only at e;subst e;refine aO (λ_=>ar λh=>(by cases h)) λ_=>?_
  refine aT (tS z) ?_;refine bZ (iO z).length (λj x=>x.1=(j:Int)/\x.2=(w,c)/\∀ k:Nat,k<j->0<=aK (T:=.int .i64) (iO z) (k:Int)/\aK (T:=.int .i64) (iO z) (k:Int)<c.1) ?_ ?_ ⟨rfl,rfl,λk hk=>by omega⟩
  .rintro j ⟨a,x⟩ hj ⟨U,M,J⟩;dsimp only at U M J;subst U;subst M;refine db ?_;refine bX (aR ?_);refine aT (r9 _ _) ?_;refine b8 (λ_=>ar λh=>(by cases h)) λh=>ar ?_
   dsimp only at h ⊢;have hj32:(iO z).length<=3:=CU z;refine ⟨gy (by omega),rfl,λk hk=>?_⟩;rcases b_ k j with h1|h1
   .exact J k h1
   .rw[show k=j by omega];exact h
  .rintro⟨a,x⟩ ⟨U,M,J⟩;dsimp only at U M J;subst U;subst M;refine dc (ar ?_);dsimp only;refine ⟨gy (by omega),rfl,λk hk=>?_⟩;rcases b_ k i with h1|h1
   .exact e3 k h1
   .rw[show k=i by omega,Y];exact⟨⟨o1,o2,iv (T:=.int .i64) J⟩,⟨a7,a9,se,si⟩⟩
 .rintro⟨a,x⟩ ⟨e1,e2,e3⟩;dsimp only at e1 e2 e3;subst e1;subst e2;refine dc (ar λ_=>⟨⟨r0,r1,iv (T:=BO) (p:=VI c.1) λq hq=>(e3 q hq).1⟩,iv (T:=BO) (p:=VJ w k) λq hq=>(e3 q hq).2⟩)
structure VC (c:CT):Prop where
 vl:VL c.1
 tl:c.2.length=c.1.2.2.2.2.1.length
 t:∀ t∈c.2,VT t
 sv:SV0 c.1
 j:∀ k:Nat,k<c.2.length->∀ i∈(aK (T:=v_) c.2 (k:Int)).2,VJ c.1 (k:Int) i
structure CB (c:CT):Prop where
 th:c.2.length<=1000000
 ins:∀ t∈c.2,t.2.length<=1000000
 rg:∀ t∈c.2,1<=t.1
 wx:WX c.1
 ok:jD c=af ai
theorem Tr (c:CT) (h1:c.2.length<=1000000) (h2:∀ t∈c.2,t.2.length<=1000000):Ok (jD c) λb=>b=ai->VC c:=by
 obtain⟨w,l⟩:=c;dsimp only at h1 h2;unfold jD bx bz bB aZ cK aF cD;refine aX (λx=>x.2=(w,l)/\(x.1=aj->(VL w/\SV0 w)/\l.length=w.2.2.2.2.1.length)) ?_ ?_
 .refine ax (BE w) λb hb=>?_
  refine dN (λ_=>ar ⟨rfl,λh=>(by cases h)⟩) λh=>ar ⟨rfl,λM=>⟨hb h,?_⟩⟩
  simp at M;omega
 rintro⟨b,x⟩ ⟨e,I⟩;dsimp only at e I;subst e;refine aO (λ_=>ar λh=>(by cases h)) λh=>?_
 obtain⟨⟨hv,hsv⟩,hl⟩:=I h;refine bZ l.length (λi x=>x.1=(i:Int)/\x.2=(w,l)/\∀ k:Nat,k<i->VT (aK (T:=v_) l (k:Int))/\∀ q∈(aK (T:=v_) l (k:Int)).2,VJ w (k:Int) q) ?_ ?_ ⟨rfl,rfl,λk hk=>by omega⟩
 .rintro i ⟨a,x⟩ hi ⟨e1,e2,e3⟩;dsimp only at e1 e2 e3;subst e1;subst e2;refine db ?_;refine bX (aR ?_);have hm:=bJ (T:=v_) (xs:=l) (j:=(i:Int)) (by omega) (by omega);revert hm;generalize J:(aK (T:=v_) l (i:Int))=z;intro hm;refine ax (Im w _ z (h2 z hm)) λb hb=>?_
  refine dN (λ_=>ar λh=>(by cases h)) λh=>ar ?_
  dsimp only;refine ⟨gy (by omega),rfl,λk hk=>?_⟩;rcases b_ k i with h1|h1
  .exact e3 k h1
  .rw[show k=i by omega,J];exact hb h
 .rintro⟨a,x⟩ ⟨e1,e2,e3⟩;dsimp only at e1 e2 e3;subst e1;subst e2;refine dc (ar λ_=>⟨hv,hl,iv (T:=v_) (p:=VT) λk hk=>(e3 k hk).1,hsv,λk hk=>(e3 k hk).2⟩)
abbrev TT:Type:=Int×List Int×List (List Int)×Int
structure TL (F:Int->Prop) (E:Nat) (l:List Int):Prop where
 a:HJ l
 m:∀ y∈l,0<=y/\y<(E:Int)
 f:∀ y∈l,F y
theorem PP:∀ (l:List Int) (lo hi:Int),HJ l->(∀ y∈l,lo<=y/\y<hi)->(l.length:Int)<=max 0 (hi-lo)
 |[],lo,hi,_,_=>by simp;omega
 |x::r,lo,hi,h,hm=>by
  have h1:=hm x (dk ..);have h2:=PP r (x+1) hi h.2 λy I=>⟨by have:=h.1 y I;omega,(hm y (cI _ I)).2⟩
  rw[b9];omega
variable {F:Int->Prop}
theorem TL.len {E:Nat} {l:List Int} (h:TL F E l):l.length<=E:=by
 have:=PP l 0 E h.a h.m;omega
theorem TL.nil (E:Nat):TL F E []:=⟨trivial,λy I=>(by cases I),λy I=>(by cases I)⟩
theorem TL.uni {E:Nat} {a b:List Int} (J:TL F E a) (hb:TL F E b):TL F E (xq a b):=
 ⟨Ql a b,λy I=>by
   rcases In.1 I with h|h
   .exact J.m y h
   .exact hb.m y h,λy I=>(In.1 I).elim (J.f y) (hb.f y)⟩
theorem TL.mono {E M:Nat} {J:Int->Prop} {l:List Int} (h:TL F E l) (hf:E<=M) (U:∀ y,F y->J y):TL J M l:=⟨h.a,λy I=>⟨(h.m y I).1,by have:=(h.m y I).2;omega⟩,λy I=>U y (h.f y I)⟩
structure TH (F:Int->Prop) (E:Nat) (s:TT):Prop where
 r:s.2.1.length<=32
 t:s.2.2.1.length<=32
 l:∀ l∈s.2.2.1,TL F E l
 e0:0<=s.2.2.2
 e1:s.2.2.2<=(E:Int)
theorem TH.zero (E:Nat):TH F E (0,[],[],0):=⟨by simp,by simp,λl hl=>(by cases hl),by simp,by simp⟩
theorem TH.mono {E J:Nat} {I:Int->Prop} {s:TT} (h:TH F E s) (hf:E<=J) (M:∀ y,F y->I y):TH I J s:=⟨h.r,h.t,λl hl=>(h.l l hl).mono hf M,h.e0,by have:=h.e1;omega⟩
theorem dh (s:TT) (E:Nat) (Y:E<=100000) (h:TH F E s):co s=af ((s.1,s.2.2.2),s.2.1,s.2.2.1):=by
 obtain⟨h1,h2,U,h4,Z⟩:=h;refine ci ?_;unfold co aY bh bx bL cX bz bC bB aZ cK aF cD;refine bg (by simp;omega) (by omega) ?_;refine bZ s.2.2.1.length (λi x=>x.1=(i:Int)/\x.2.1=s/\x.2.2.2.1=(s.1,s.2.2.2)/\x.2.2.2.2.1=s.2.1/\x.2.2.2.2.2=s.2.2.1.take i) ?_ ?_ ⟨rfl,rfl,rfl,rfl,rfl⟩
 .rintro i ⟨a,b,c,d,e,f⟩ hi ⟨e1,e2,e3,J,I⟩;dsimp only at e1 e2 e3 J I;subst e1;subst e2;subst I;refine db ?_;refine bX (aR ?_);have M:=(U _ (bJ (T:=.sl (.int .i64)) (xs:=b.2.2.1) (j:=(i:Int)) (by omega) (by omega))).len;refine bg (by simp only[jU,bN];exact di M (by omega)) (by omega) ?_;refine bg (by simp;omega) (by omega) (ar ?_);dsimp only;refine ⟨gy (by omega),rfl,e3,J,?_⟩;rw[mI (T:=.sl (.int .i64)) hi];rfl
 .rintro⟨a,b,c,d,e,f⟩ ⟨e1,e2,e3,J,I⟩;dsimp only at e1 e2 e3 J I;subst e1;subst e2;subst I;refine dc (ar ?_);show (d,e,_)=_;rw[e3,J,cP]
theorem wj (b:Bool):Ok (fY b) λ_=>True:=by
 unfold fY;with_reducible repeat' first|(refine OS.ok ?_;constructor)|refine IM.mk λ_=>?_
 all_goals trivial
theorem FR (n:Int):Ok (mi n) λ_=>True:=by
 unfold mi bz aF;with_reducible repeat' first|(refine OS.ok ?_;constructor)|refine IM.mk λ_=>?_
 all_goals trivial
theorem ade (x:Int×Int):Ok (ur x) λ_=>True:=by
 unfold ur be;refine aJ (λ_=>ar trivial) λ_=>aJ (λ_=>?_) λ_=>ar trivial
 exact ax (wj _) λ_ _=>ar trivial
theorem Z' (x:Int×Int×Int):Ok (sB x) λ_=>True:=by
 unfold sB be iV bC aF;have t1:∀ b,Ok (obind (fY b) λy=>af (y,ai)) λ_=>True:=λb=>ax (wj _) λ_ _=>ar trivial
 refine aJ (λ_=>ar trivial) λ_=>aJ (λ_=>ar trivial) λ_=>aJ (λ_=>ar trivial) λ_=>?_
 refine aJ (λ_=>aJ (λ_=>ar trivial) λh=>y_ h (ar trivial)) λ_=>?_
 refine aJ (λ_=>aJ (λ_=>ar trivial) λh=>y_ h (ar trivial)) λ_=>?_
 refine aJ (λ_=>t1 _) λ_=>aJ (λ_=>t1 _) λ_=>aJ (λ_=>t1 _) λ_=>aJ (λ_=>t1 _) λ_=>aJ (λ_=>t1 _) λ_=>aJ (λ_=>t1 _) λ_=>?_
 refine aJ (λ_=>aX (λ_=>True) (b8 (λ_=>ax (wj _) λ_ _=>ar trivial) λ_=>ax (wj _) λ_ _=>ar trivial) λ_ _=>ar trivial) λ_=>?_
 exact aJ (λ_=>aX (λ_=>True) (b8 (λ_=>ax (wj _) λ_ _=>ar trivial) λ_=>ax (wj _) λ_ _=>ar trivial) λ_ _=>ar trivial) λ_=>ar trivial
theorem Ye (E:Nat) (hE:E<=100000) (i:IT) (p:Int×Int) (R:List Int) (T:List (List Int)) (hr:∀ j∈iO i,0<=j/\j<(R.length:Int)) (o1:1<=i.1) (o2:i.1<=5) (hR:R.length<=32) (I:T.length=R.length) (hl:∀ l∈T,TL F E l):Ok (wC ((i,p),R,T)) λy=>y.1.1.2=p.2/\y.2.1.length=R.length/\y.2.2.length=T.length/\∀ l∈y.2.2,TL F E l:=by
 unfold wC aY bh bx ck be bz bC bB kB aZ cK aF cD;refine aT (tS i) ?_;have h3:=CU i;refine bZ (iO i).length (λj x=>x.1=(j:Int)/\x.2.1=R/\x.2.2.1=T/\x.2.2.2.1=i/\x.2.2.2.2.1=p) ?_ ?_ ⟨rfl,rfl,rfl,rfl,rfl⟩
 .rintro j ⟨a,b,c,d,e⟩ hj ⟨e1,e2,e3,Z,M⟩;dsimp only at e1 e2 e3 Z M;subst e1;subst e2;subst e3;subst Z;refine db ?_;have hz:=hr _ (bJ (T:=.int .i64) (xs:=iO d) (j:=(j:Int)) (by omega) (by omega));refine aX (λx=>x.2=(b,c,d,e)/\x.1=aj) ?_ ?_
  .refine bX (aR ?_);refine bI (λg=>?_) λ_=>?_
   .dsimp only at g;omega
   refine bX (aR (ar ⟨rfl,?_⟩));dsimp only;rw[l9];exact hz.2
  rintro⟨b',x⟩ ⟨Y,U⟩;dsimp only at Y U;subst Y;subst U;refine aO (λh=>(by cases h)) λ_=>ar ?_
  dsimp only;exact⟨gy (by omega),rfl,rfl,rfl,M⟩
 .rintro⟨a,b,c,d,e⟩ ⟨e1,e2,e3,Z,M⟩;dsimp only at e1 e2 e3 Z M;subst e1;subst e2;subst e3;subst Z;refine dc ?_;obtain⟨e,e'⟩:=e;dsimp only at M;subst M;refine ax (P:=λy=>y.1.1.2=e.2/\y.2.1.length=b.length/\y.2.2.length=c.length/\∀ l∈y.2.2,TL F E l) ?_ λr hr=>ar hr
  have hA:d.1≠5->0<=d.2.1/\d.2.1<(b.length:Int):=λh5=>hr _ (by
   unfold iO;(repeat' split)<;>simp<;>omega)
  have hB:2<=d.1->d.1≠5->0<=d.2.2.1/\d.2.2.1<(b.length:Int):=λh2 h5=>hr _ (by
   unfold iO;(repeat' split)<;>simp<;>omega)
  have hC:d.1=4->0<=d.2.2.2.1/\d.2.2.2.1<(b.length:Int):=λh5=>hr _ (by
   unfold iO;(repeat' split)<;>simp<;>omega)
  have hg:∀ {j:Int},0<=j->j<(b.length:Int)->TL F E (aK (T:=.sl (.int .i64)) c j):=λh0 h1=>hl _ (bJ (T:=.sl (.int .i64)) (xs:=c) h0 (by rw[I];exact h1))
  refine aX (λx=>x.2.1=b/\x.2.2.1=c/\x.2.2.2.1=d/\x.2.2.2.2.1=e/\TL F E x.1.2.2/\d.1≠5) ?_ ?_
  .refine aJ (λ_=>ar ⟨rfl,rfl,rfl,hl⟩) λJ=>?_
   refine aJ (λ_=>ar ⟨rfl,rfl,rfl,rfl,TL.nil E,J⟩) λn1=>?_
   dsimp only at n1 J;obtain⟨b0,b1⟩:=hB (by omega) J;refine aJ (λ_=>?_) λn2=>?_
   .refine aS b0 b1 (aS b0 b1 (aR ?_));refine aS b0 (by dsimp only;rw[I];exact b1) (aS b0 (by dsimp only;rw[I];exact b1) (aR ?_));exact ar ⟨rfl,rfl,rfl,rfl,hg b0 b1,J⟩
   refine aJ (λ_=>?_) λn3=>?_
   .refine ax (FR _) λy _=>?_
    refine aS b0 b1 (aS b0 b1 (aR ?_));refine ax (ade _) λy _=>?_
    refine aS b0 (by dsimp only;rw[I];exact b1) (aS b0 (by dsimp only;rw[I];exact b1) (aR ?_));exact ar ⟨rfl,rfl,rfl,rfl,hg b0 b1,J⟩
   dsimp only at n2 n3;obtain⟨c0,c1⟩:=hC (by omega);refine ax (FR _) λy _=>?_
   refine aS b0 b1 (aS b0 b1 (aR ?_));refine aS c0 c1 (aS c0 c1 (aR ?_));refine ax (Z' _) λy _=>?_
   refine aS b0 (by dsimp only;rw[I];exact b1) (aS b0 (by dsimp only;rw[I];exact b1) (aR ?_));refine aS c0 (by dsimp only;rw[I];exact c1) (aS c0 (by dsimp only;rw[I];exact c1) (aR ?_));have g1:=hg b0 b1;have g2:=hg c0 c1;refine aT (Ts _ _ (di g1.len (by omega)) (di g2.len (by omega))) ?_;exact ar ⟨rfl,rfl,rfl,rfl,g1.uni g2,J⟩
  rintro⟨⟨v,ok,tn⟩,b',c',d',e',e''⟩ ⟨Y,U,f3,f4,f5,f6⟩;dsimp only at Y U f3 f4 f5 f6;subst Y;subst U;subst f3;subst f4;obtain⟨a0,a1⟩:=hA f6;have ht:=f5.len;refine bg (by simp;omega) (by omega) ?_;refine aS a0 a1 (aS a0 a1 (aS a0 (by dsimp only;rw[I];exact a1) (aS a0 (by dsimp only;rw[I];exact a1) (ar ?_))));refine ⟨rfl,bW ..,bW ..,λl hm=>?_⟩;rcases CL hm with h|h
  .exact hl l h
  .rw[h];exact f5
theorem ZI (E:Nat) (Z:E<=100000) (c:Int×List IT) (hc:c.2.length<=1000000) (hv:VT c) (s:TT) (h:TH F E s):Ok (m8 (c,s)) λy=>TH F E y.1/\(y.1.2.1.length=0\/y.1.2.2.2=s.2.2.2):=by
 unfold m8 aY bh bx bL dA cX be bz iW iV bC bB aZ cK aF cD;have J:=h;obtain⟨h1,h2,h3,h4,h5⟩:=h;refine aX (λx=>x.2.1=c/\x.2.2.1=s/\(x.1=aj->(s.2.1.length:Int)=c.1/\(s.2.2.1.length:Int)=c.1)) ?_ ?_
 .refine b8 (λ_=>ar ⟨rfl,rfl,λh=>(by cases h)⟩) λg=>ar ⟨rfl,rfl,λh=>?_⟩
  simp at h;exact⟨g,h⟩
 rintro⟨b,c',s',z⟩ ⟨e1,e2,e3⟩;dsimp only at e1 e2 e3;subst e1;subst e2;refine aO (λ_=>ar ⟨TH.zero E,.inl rfl⟩) λhb=>?_
 obtain⟨q1,q2⟩:=e3 hb;refine aT (dh s' E Z J) ?_;refine qe (λx=>((c'.2.length:Int)+1-x.1).toNat) (λx=>0<=x.1/\x.1<=(c'.2.length:Int)+1/\x.2.1=c'/\x.2.2.1.2=s'.2.2.2/\x.2.2.2.2.1.length=s'.2.1.length/\x.2.2.2.2.2.length=s'.2.2.1.length/\∀ l∈x.2.2.2.2.2,TL F E l) ?_ ⟨by dsimp only;omega,by dsimp only;omega,rfl,rfl,rfl,rfl,h3⟩;rintro⟨(n:Int),c,⟨(I:Int),ev⟩,z',R,T⟩ ⟨n0,n1,e1,e2,e3,e4,M⟩;dsimp only at n0 n1 e1 e2 e3 e4 M;subst e1;subst e2;refine eZ (λg=>?_) λ_=>ar ⟨TH.zero E,.inl rfl⟩
 dsimp only[au] at g;refine aX (λx=>x.2=(c,(I,s'.2.2.2),z',R,T)/\(x.1=aj->0<=I/\I<(c.2.length:Int))) ?_ ?_
 .refine bI (λ_=>ar ⟨rfl,λh=>(by cases h)⟩) λg1=>ar ⟨rfl,λh=>?_⟩
  dsimp only at g1 h;rw[l9] at h;exact⟨g1,h⟩
 rintro⟨b',x⟩ ⟨f1,f2⟩;dsimp only at f1 f2;subst f1;refine aO (λ_=>ar ⟨TH.zero E,.inl rfl⟩) λhb=>?_
 obtain⟨p0,p1⟩:=f2 hb;refine aS p0 p1 (aR ?_);have hi:=hv.i _ (bJ (T:=BO) (xs:=c.2) (j:=I) p0 p1);revert hi;generalize (aK (T:=BO) _ _)=i;intro hi;refine aT (FE _) ?_;refine b8 (λ_=>ar ⟨⟨by dsimp only;omega,by dsimp only;omega,M,h4,h5⟩,.inr rfl⟩) λhsil=>?_
 refine aJ (λ_=>ar ⟨TH.zero E,.inl rfl⟩) λhn=>?_
 dsimp only[au] at hn;refine ax (Ye E Z i (I,s'.2.2.2) R T (λj hj=>by have:=hi.r j hj;omega) hsil.1 hsil.2 (by omega) (by omega) M) λy hy=>?_
 obtain⟨⟨⟨pc',ev'⟩,ok⟩,R',T'⟩:=y;obtain⟨k1,k2,Y,U⟩:=hy;dsimp only at k1 k2 Y U;refine dx (lD Y.symm (dx (lD k2.symm (Ba ?_))));refine dN (λ_=>ar ⟨TH.zero E,.inl rfl⟩) λ_=>ar ?_
 dsimp only;rw[ig (by omega) (by omega)];exact⟨⟨by omega,by omega,rfl,k1,by omega,by omega,U⟩,by omega⟩
abbrev ST:Type:=SY×List Int×List Int×List TT
structure TF (c:Int×List IT) (t:TT):Prop where
 p0:0<=t.1
 p1:t.1<(c.2.length:Int)
 r:(t.2.1.length:Int)=c.1
 t:(t.2.2.1.length:Int)=c.1
structure FSx (c:CT) (s:ST):Prop where
 vc:VC c
 cd:∀ d∈c.1.2.2.1,0<=d.2/\d.2<(c.1.2.1.length:Int)
 e3:s.1.2.2.2.length=c.1.2.2.2.2.1.length
 ce:s.2.1.length=c.1.1.length
 fu:s.2.2.1.length=c.1.2.2.2.1.length
 th:s.2.2.2.length=c.2.length
 t:∀ k:Nat,k<c.2.length->TF (aK (T:=v_) c.2 (k:Int)) (aK (T:=uS) s.2.2.2 (k:Int))
def FQ (L:List ET) (k:Int) (y:Int):Prop:=1<=y/\Lg L k y
structure SV (n:Nat) (L:List ET) (s:ST):Prop where
 sb:SB n s.1
 ln:L.length=n
 t:∀ k:Nat,k<s.2.2.2.length->TH (FQ L k) n (aK (T:=uS) s.2.2.2 (k:Int))
theorem SV.ti {n:Nat} {L:List ET} {s:ST} (h:SV n L s) {k:Int} (h0:0<=k) (h1:k<(s.2.2.2.length:Int)):TH (FQ L k) n (aK (T:=uS) s.2.2.2 k):=by
 have:=h.t k.toNat (by omega);rw[show ((k.toNat:Nat):Int)=k by omega] at this;exact this
structure TG (c:CT) (L:List ET) (sy:SY) (k:Int) (t:TT):Prop where
 ev:t.2.2.2=((fl L k).length:Int)
 wi:(aK (T:=jA) sy.2.2.2 k).1=3\/(aK (T:=jA) sy.2.2.2 k).1=4->(aK (T:=BO) (aK (T:=v_) c.2 k).2 t.1).1=21
 nw:(fl L k).length=0->(aK (T:=jA) sy.2.2.2 k).1=0\/(aK (T:=jA) sy.2.2.2 k).1=1
structure Ls (c:CT) (L:List ET) (s:ST):Prop where
 ac:Acw c.1 L s.1 s.2.1 s.2.2.1
 t:∀ k:Nat,k<s.2.2.2.length->(aK (T:=uS) s.2.2.2 (k:Int)).2.1.length=0\/TG c L s.1 (k:Int) (aK (T:=uS) s.2.2.2 (k:Int))
theorem afs (c:CT) (s:ST) (hc:CB c):Ok (wB (c,s)) λb=>b=ai->FSx c s:=by
 unfold wB aY bh dA cX bz iW iV bB aZ cK aF cD;refine aX (λx=>x.2=(c,s)/\(x.1=aj->VC c/\(∀ d∈c.1.2.2.1,0<=d.2/\d.2<(c.1.2.1.length:Int))/\s.1.2.2.2.length=c.1.2.2.2.2.1.length/\s.2.1.length=c.1.1.length/\s.2.2.1.length=c.1.2.2.2.1.length/\s.2.2.2.length=c.2.length)) ?_ ?_
 .refine ax (Tr c hc.th hc.ins) λb hb=>?_
  refine dN (λ_=>ar ⟨rfl,λh=>(by cases h)⟩) λh=>?_
  have hv:=hb h;refine ax (Qa c.1 s.1 (by have:=hv.vl.d;omega)) λb2 I=>?_
  refine dN (λ_=>ar ⟨rfl,λh=>(by cases h)⟩) λh2=>?_
  obtain⟨J,_,_,Z⟩:=I h2;refine b8 (λ_=>ar ⟨rfl,λh=>(by cases h)⟩) λk1=>?_
  refine b8 (λ_=>ar ⟨rfl,λh=>(by cases h)⟩) λk2=>ar ⟨rfl,λU=>⟨hv,J,Z,?_,?_,?_⟩⟩
  .dsimp only[au] at k1;omega
  .dsimp only[au] at k2;omega
  .simp at U;omega
 rintro⟨b,x⟩ ⟨e,hb⟩;dsimp only at e hb;subst e;refine aO (λ_=>ar λh=>(by cases h)) λh=>?_
 obtain⟨hv,hcd,Y,hce,hfu,hth⟩:=hb h;have hcl:=hc.th;refine bZ c.2.length (λi x=>x.1=(i:Int)/\x.2=(c,s)/\∀ k:Nat,k<i->TF (aK (T:=v_) c.2 (k:Int)) (aK (T:=uS) s.2.2.2 (k:Int))) ?_ ?_ ⟨rfl,rfl,λk hk=>by omega⟩
 .rintro i ⟨a,x⟩ hi ⟨e1,e2,e3⟩;dsimp only at e1 e2 e3;subst e1;subst e2;refine db ?_;have hin:((i:Nat):Int)<(c.2.length:Int):=by omega
  refine bX (aR ?_);refine aX (λx=>x.2=(c,s)/\(x.1=aj->TF (aK (T:=v_) c.2 (i:Int)) (aK (T:=uS) s.2.2.2 (i:Int)))) ?_ ?_
  .refine bI (λ_=>ar ⟨rfl,λh=>(by cases h)⟩) λg0=>?_
   refine aS (by dsimp only;omega) hin (aR ?_);refine eZ (λ_=>ar ⟨rfl,λh=>(by cases h)⟩) λJ=>?_
   refine aS (by dsimp only;omega) hin (aR ?_);refine b8 (λ_=>ar ⟨rfl,λh=>(by cases h)⟩) λg2=>?_
   refine aS (by dsimp only;omega) hin (aR (ar ⟨rfl,λM=>⟨g0,J,g2,?_⟩⟩));simp at M;exact M
  rintro⟨b,x⟩ ⟨e,hb⟩;dsimp only at e hb;subst e;refine aO (λ_=>ar λh=>(by cases h)) λh=>ar ?_
  dsimp only;refine ⟨gy (by omega),rfl,λk hk=>?_⟩;rcases b_ k i with h1|h1
  .exact e3 k h1
  .rw[show k=i by omega];exact hb h
 .rintro⟨a,x⟩ ⟨e1,e2,e3⟩;dsimp only at e1 e2 e3;subst e1;subst e2;refine dc (ar λ_=>⟨hv,hcd,Y,hce,hfu,hth,e3⟩)
theorem aht {i:IT} (h:i.1=6\/i.1=7\/i.1=27\/i.1=10):i.2.1∈iO i:=by
 unfold iO;(repeat' split)<;>simp<;>omega
theorem ahs {i:IT} (h:i.1=8\/i.1=9\/i.1=26):i.2.2.1∈iO i:=by
 unfold iO;(repeat' split)<;>simp<;>omega
theorem ame {i:IT} (h:i.1=7\/i.1=9):i.2.2.2.1∈iO i:=by
 unfold iO;(repeat' split)<;>simp<;>omega
structure KD (op k:Int):Prop where
 ld:k=3->op=6\/op=7
 st:k=4->op=8\/op=9
 br:k=5->op=10
 se:k=22->op=26
 ge:k=23->op=27
 e1:k=2->op=28
 n1:¬k=1
 n17:¬k=17
 wt:k=16->op=21
 e2:¬k=0->op=28->k=2
 d7:¬k=0->op=7->k=3
 d8:¬k=0->op=8->k=4
 d9:¬k=0->op=9->k=4
 d10:¬k=0->op=10->k=5
 d26:¬k=0->op=26->k=22
theorem af8 (op:Int):Ok (wz op) λk=>KD op k:=by
 unfold wz bz kB aF;refine aX (λx=>x.2=[3,3,4,4,5,6,7,8,9,10,11,12,13,14,15,16,18,19,20,21,22,23,2]/\(x.1=aj->6<=op/\op<=28)) ?_ ?_
 .refine bI (λ_=>ar ⟨rfl,λh=>(by cases h)⟩) λg=>ar ⟨rfl,λh=>?_⟩
  dsimp only at h;rw[gk] at h;exact⟨g,h⟩
 rintro⟨b,x⟩ ⟨e,hb⟩;dsimp only at e hb;subst e;refine aO (λ_=>ar (by constructor<;>first|decide|(intro h;first|(exact (h rfl).elim)|(cases h;done)))) λh=>?_
 obtain⟨h1,h2⟩:=hb h;dsimp only;rw[ig (n:=op-6) (by omega) (by omega)];refine aS (by omega) (by simp;omega) (aS (by omega) (by simp;omega) (aR (ar ?_)));have:op=6\/op=7\/op=8\/op=9\/op=10\/op=11\/op=12\/op=13\/op=14\/op=15\/op=16\/op=17\/op=18\/op=19\/op=20\/op=21\/op=22\/op=23\/op=24\/op=25\/op=26\/op=27\/op=28:=by omega
 rcases this with rfl|rfl|rfl|rfl|rfl|rfl|rfl|rfl|rfl|rfl|rfl|rfl|rfl|rfl|rfl|rfl|rfl|rfl|rfl|rfl|rfl|rfl|rfl;all_goals (constructor<;>decide)
theorem TI (a n:Int):Ok (rC (a,n)) λr=>n=2->r=0\/r=1:=by
 unfold rC bz bC aF;refine bI (λ_=>ar λh=>(by dsimp only at *;omega)) λh=>?_
 dsimp only at h;refine y_ (by dsimp only;omega) ?_;have t1:=Int.tmod_lt_of_pos a (b:=n) (by omega);have I:=Int.lt_tmod_of_pos a (b:=n) (by omega);refine aX (λr=>n=2->r=0\/r=1) (bI (λg=>ar λh2=>?_) λg=>ar λh2=>?_) λ_ h=>ar h
 .dsimp only at g ⊢;rw[ig (by omega) (by omega)];omega
 .dsimp only at g ⊢;omega
theorem QW (i:IT) (t:TT) (hr:∀ j∈iO i,0<=j/\j<(t.2.1.length:Int)):Ok (sA (i,t)) λo=>(i.1=7->i.2.2.1=3->i.2.2.2.2.1=2->o=3\/o=4)/\(i.1=9->i.2.1=3->i.2.2.2.2.1=2->o=3\/o=4):=by
 unfold sA aY bh bx be bB aF;have J:i.1=7\/i.1=9->0<=i.2.2.2.1/\i.2.2.2.1<(t.2.1.length:Int):=λh=>hr _ (by
  unfold iO;(repeat' split)<;>simp<;>omega)
 have M:∀ {o:Int},¬i.1=7->¬i.1=9->(i.1=7->i.2.2.1=3->i.2.2.2.2.1=2->o=3\/o=4)/\(i.1=9->i.2.1=3->i.2.2.2.2.1=2->o=3\/o=4):=λh1 h2=>⟨λh=>(h1 h).elim,λh=>(h2 h).elim⟩
 have wk:∀ {b r n:Int},b=3->n=2->(n=2->r=0\/r=1)->bk .i64 (b+r)=3\/bk .i64 (b+r)=4:=λh1 h2 I=>by
  have:=I h2;rw[ig (by omega) (by omega)];omega
 refine aX (λx=>x.2=(i,t)/\(x.1=ai->i.1=6\/i.1=27)) (aJ (λh=>ar ⟨rfl,λ_=>.inl h⟩) λ_=>ar ⟨rfl,λh=>.inr (bi h)⟩) ?_;rintro⟨b,x⟩ ⟨e,hb⟩;dsimp only at e hb;subst e;refine aO (λh=>ar (M (by have:=hb h;omega) (by have:=hb h;omega))) λ_=>?_
 refine aJ (λh=>?_) λU=>?_
 .exact aS (J (.inl h)).1 (J (.inl h)).2 (aR (ax (TI _ _) λy Y=>ar ⟨λ_ I Z=>wk I Z Y,λh9=>by dsimp only at h;omega⟩))
 refine aJ (λh=>?_) λn9=>?_
 .exact aS (J (.inr h)).1 (J (.inr h)).2 (aR (ax (TI _ _) λy Y=>ar ⟨λh7=>(U h7).elim,λ_ I Z=>wk I Z Y⟩))
 refine aX (λ_=>True) ?_ λx _=>aO (λ_=>ar (M U n9)) λ_=>ar (M U n9)
 with_reducible repeat' first|(refine OS.ok ?_;constructor)|refine IM.mk λ_=>?_
 all_goals trivial
theorem aib {w:WT} (I:w.1=C0) {b n:Int} (h:AR w b n):b=3/\n=2:=by
 obtain⟨b0,b1,ix,sz,sn⟩:=h;rw[I] at b1 ix sz sn;have b1:b<5:=b1;rcases (by omega:b=0\/b=1\/b=2\/b=3\/b=4) with rfl|rfl|rfl|rfl|rfl
 .exact (sz rfl).elim
 .exact (sz rfl).elim
 .exact (sz rfl).elim
 .exact⟨rfl,sn.symm⟩
 .exact cR ix (by decide)
theorem ahm {w:WT} (I:w.1=C0) {o:Int} (h:o=3\/o=4):¬(aK (T:=Qb) w.1 o).2.2.1=0:=by
 rw[I];rcases h with rfl|rfl<;>decide
structure PE (n:Nat) (c:CT) (s:ST) (t:Int) (e:ET):Prop where
 fs:FSx c s
 t0:0<=t
 t1:t<(c.2.length:Int)
 et:e.1=t
 d:e.2.2.2.2.2.1.length<=n
 f:e.2.2.2.2.2.2.length<=n
 a:e.2.1=3\/e.2.1=23\/e.2.1=5->0<=(aK (T:=BO) (aK (T:=v_) c.2 t).2 (aK (T:=uS) s.2.2.2 t).1).2.1/\(aK (T:=BO) (aK (T:=v_) c.2 t).2 (aK (T:=uS) s.2.2.2 t).1).2.1<((aK (T:=uS) s.2.2.2 t).2.1.length:Int)
 b:e.2.1=4\/e.2.1=22->0<=(aK (T:=BO) (aK (T:=v_) c.2 t).2 (aK (T:=uS) s.2.2.2 t).1).2.2.1/\(aK (T:=BO) (aK (T:=v_) c.2 t).2 (aK (T:=uS) s.2.2.2 t).1).2.2.1<((aK (T:=uS) s.2.2.2 t).2.1.length:Int)
structure PS (c:CT) (L:List ET) (s:ST) (t:Int) (e:ET):Prop where
 tg:TG c L s.1 t (aK (T:=uS) s.2.2.2 t)
 s1:e.2.1=1\/e.2.1=2->e.2.2.2.2.1= -1
 s2:¬(e.2.1=1\/e.2.1=2)->0<=e.2.2.2.2.1/\e.2.2.2.2.1<c.1.2.2.2.2.2.length/\(aK (T:=yd) c.1.2.2.2.2.2 e.2.2.2.2.1).1=t
 de:0<e.2.2.2.2.2.1.length->e.2.1=5\/(e.2.1=3\/e.2.1=4)/\¬(aK (T:=Qb) c.1.1 e.2.2.1).2.2.1=0
 fr:0<e.2.2.2.2.2.2.length->e.2.1=4\/e.2.1=22
 da:HJ e.2.2.2.2.2.1
 dq:∀ y∈e.2.2.2.2.2.1,FQ L t y
 fa:HJ e.2.2.2.2.2.2
 fq:∀ y∈e.2.2.2.2.2.2,FQ L t y
 wt:e.2.1=16->(aK (T:=BO) (aK (T:=v_) c.2 t).2 (aK (T:=uS) s.2.2.2 t).1).1=21
theorem Wz (n:Nat) (hn:n<=100000) (c:CT) (L:List ET) (s:ST) (hc:CB c) (hs:SV n L s) (hI:Ls c L s) (t:Int):Ok (nK (c,s,t)) λy=>y.2=ai->PE n c s t y.1/\PS c L s t y.1:=by
 unfold nK aY bh bx bL dA cX be bz bC bB aZ aF;refine aX (λx=>x.2.1=c/\x.2.2.1=s/\(x.1=aj->FSx c s/\0<=t/\t<(c.2.length:Int))) ?_ ?_
 .refine ax (afs c s hc) λb hb=>?_
  refine dN (λ_=>ar ⟨rfl,rfl,λh=>(by cases h)⟩) λh=>?_
  refine bI (λ_=>ar ⟨rfl,rfl,λh=>(by cases h)⟩) λg0=>ar ⟨rfl,rfl,λg1=>?_⟩
  dsimp only at g0 g1;rw[l9] at g1;exact⟨hb h,g0,g1⟩
 rintro⟨b,c',s',z⟩ ⟨e1,e2,hb⟩;dsimp only at e1 e2 hb;subst e1;subst e2;refine aO (λ_=>ar λh=>(by cases h)) λh=>?_
 obtain⟨hf,t0,t1⟩:=hb h;have hk:((t.toNat:Nat):Int)=t:=by omega
 have htf:=hf.t t.toNat (by omega);rw[hk] at htf;have hvt:=hf.vc.t _ (bJ (T:=v_) (xs:=c'.2) (j:=t) t0 t1);have hth:=hs.ti t0 (by rw[hf.th];exact t1);have key:∀ e:ET,e.1=t->e.2.2.2.2.2.1.length<=n->e.2.2.2.2.2.2.length<=n->(e.2.1=1\/e.2.1=17\/KD (aK (T:=BO) (aK (T:=v_) c'.2 t).2 (aK (T:=uS) s'.2.2.2 t).1).1 e.2.1)->PE n c' s' t e:=by
  intro e h1 h2 h3 J;have hi:=hvt.i _ (bJ (T:=BO) (xs:=(aK (T:=v_) c'.2 t).2) (j:=(aK (T:=uS) s'.2.2.2 t).1) htf.p0 htf.p1);refine ⟨hf,t0,t1,h1,h2,h3,λh5=>?_,λh5=>?_⟩
  .rw[htf.r];rcases J with J|J|J
   .omega
   .omega
   .refine hi.r _ ?_;have a1:=J.ld;have a2:=J.ge;have a3:=J.br;revert a1 a2 a3 h5;generalize (aK (T:=BO) (aK (T:=v_) c'.2 t).2 (aK (T:=uS) s'.2.2.2 t).1)=i;intro h5 a1 a2 a3;exact aht (by omega)
  .rw[htf.r];rcases J with J|J|J
   .omega
   .omega
   .refine hi.r _ ?_;have a1:=J.st;have a2:=J.se;revert a1 a2 h5;generalize (aK (T:=BO) (aK (T:=v_) c'.2 t).2 (aK (T:=uS) s'.2.2.2 t).1)=i;intro h5 a1 a2;exact ahs (by omega)
 have hir:=(hvt.i _ (bJ (T:=BO) (xs:=(aK (T:=v_) c'.2 t).2) (j:=(aK (T:=uS) s'.2.2.2 t).1) htf.p0 htf.p1)).r;rw[<- htf.r] at hir;have hrg:=hc.rg _ (bJ (T:=v_) (xs:=c'.2) (j:=t) t0 t1);have htg:TG c' L s'.1 t (aK (T:=uS) s'.2.2.2 t):=by
  have:=hI.t t.toNat (by rw[hf.th];omega);rw[hk] at this;refine this.resolve_left λh=>?_
  have:=htf.r;omega
 have hvj:=hf.vc.j t.toNat (by omega);rw[hk] at hvj;have hvj:=hvj _ (bJ (T:=BO) (xs:=(aK (T:=v_) c'.2 t).2) (j:=(aK (T:=uS) s'.2.2.2 t).1) htf.p0 htf.p1);have hC0:=hc.wx.c;refine aS t0 (by dsimp only;rw[hf.th];exact t1) (aR ?_);refine aS t0 t1 (aR ?_);refine aS htf.p0 htf.p1 (aR ?_);have t4:t<(s'.1.2.2.2.length:Int):=by rw[hf.e3,<-hf.vc.tl];exact t1
 have tz:(aK (T:=uS) s'.2.2.2 t).2.2.1.length=(aK (T:=uS) s'.2.2.2 t).2.1.length:=by have:=htf.r;have:=htf.t;omega
 refine aS t0 t4 (aR ?_);refine aJ (λ_=>ar λ_=>⟨key _ rfl (jT _) (jT _) (.inl rfl),⟨htg,λ_=>rfl,λh=>(h (.inl rfl)).elim,λh=>(by cases h),λh=>(by cases h),trivial,λy Z=>(by cases Z),trivial,λy Z=>(by cases Z),λh=>(by cases h)⟩⟩) λ_=>?_
 refine aJ (λJ=>aS t0 t4 (aR (ar λ_=>⟨key _ rfl (jT _) (jT _) (.inr (.inl rfl)),⟨htg,λh=>(by rcases h with h|h<;>cases h),λ_=>hvj.si (by rw[htg.wi (.inr J)];decide),λh=>(by cases h),λh=>(by cases h),trivial,λy Z=>(by cases Z),trivial,λy Z=>(by cases Z),λh=>(by cases h)⟩⟩))) λ_=>?_
 refine aJ (λ_=>?_) λ_=>ar λh=>(by cases h)
 refine ax (af8 _) λk I=>?_
 refine ax (QW _ _ hir) λo ho=>?_
 refine aJ (λ_=>ar λh=>(by cases h)) λM=>?_
 have fin:∀ e:ET,e.1=t->e.2.1=k->e.2.2.1=o->e.2.2.2.2.1=(aK (T:=BO) (aK (T:=v_) c'.2 t).2 (aK (T:=uS) s'.2.2.2 t).1).2.2.2.2.2->(0<e.2.2.2.2.2.1.length->(aK (T:=BO) (aK (T:=v_) c'.2 t).2 (aK (T:=uS) s'.2.2.2 t).1).1=10\/(aK (T:=BO) (aK (T:=v_) c'.2 t).2 (aK (T:=uS) s'.2.2.2 t).1).1=7\/(aK (T:=BO) (aK (T:=v_) c'.2 t).2 (aK (T:=uS) s'.2.2.2 t).1).1=9)->(0<e.2.2.2.2.2.2.length->(aK (T:=BO) (aK (T:=v_) c'.2 t).2 (aK (T:=uS) s'.2.2.2 t).1).1=8\/(aK (T:=BO) (aK (T:=v_) c'.2 t).2 (aK (T:=uS) s'.2.2.2 t).1).1=9\/(aK (T:=BO) (aK (T:=v_) c'.2 t).2 (aK (T:=uS) s'.2.2.2 t).1).1=26)->TL (FQ L t) n e.2.2.2.2.2.1->TL (FQ L t) n e.2.2.2.2.2.2->PE n c' s' t e/\PS c' L s' t e:=by
  intro e h1 h2 h3 J h5 h6 h7 h8;refine ⟨key e h1 h7.len h8.len (.inr (.inr (h2▸I))),htg,λh=>?_,λh=>?_,λh=>?_,λh=>?_,h7.a,h7.f,h8.a,h8.f,λh=>I.wt (h2▸h)⟩
  .rw[J];rw[h2] at h;exact hvj.se (I.e1 (h.resolve_left I.n1))
  .rw[J];rw[h2] at h;exact hvj.si λh9=>h (.inr (I.e2 M h9))
  .rw[h2,h3];rcases h5 h with g|g|g
   .exact .inl (I.d10 M g)
   .obtain⟨q1,q2⟩:=aib hC0 (hvj.a7 g);exact .inr ⟨.inl (I.d7 M g),ahm hC0 (ho.1 g q1 q2)⟩
   .obtain⟨q1,q2⟩:=aib hC0 (hvj.a9 g);exact .inr ⟨.inr (I.d9 M g),ahm hC0 (ho.2 g q1 q2)⟩
  .rw[h2];rcases h6 h with g|g|g
   .exact .inl (I.d8 M g)
   .exact .inl (I.d9 M g)
   .exact .inr (I.d26 M g)
 clear key htg hvj ho hC0 hrg;revert fin htf hvt hth hir tz I;dsimp only;generalize (aK (T:=uS) s'.2.2.2 t)=th;generalize (aK (T:=BO) _ th.1)=i;intro htf hvt hth hir tz I fin;have hlen:∀ {j:Int},0<=j->j<(th.2.2.1.length:Int)->TL (FQ L t) n (aK (T:=.sl (.int .i64)) th.2.2.1 j):=λh0 h1=>hth.l _ (bJ (T:=.sl (.int .i64)) (xs:=th.2.2.1) h0 h1)
 have hA:i.1=10->0<=i.2.1/\i.2.1<(th.2.2.1.length:Int):=λh=>by
  rw[tz];exact hir _ (aht (.inr (.inr (.inr h))))
 have hB:i.1=8\/i.1=9\/i.1=26->0<=i.2.2.1/\i.2.2.1<(th.2.2.1.length:Int):=λh=>by
  rw[tz];exact hir _ (ahs (h))
 have hC:i.1=7\/i.1=9->0<=i.2.2.2.1/\i.2.2.2.1<(th.2.2.1.length:Int):=λh=>by
  rw[tz];exact hir _ (ame (h))
 refine aX (λx=>x.2.1=th/\x.2.2.1=i/\(x.2.2.2.1.1=t/\x.2.2.2.1.2.1=k/\x.2.2.2.1.2.2.1=o/\x.2.2.2.1.2.2.2.2=i.2.2.2.2.2)/\TL (FQ L t) n x.2.2.2.2/\(0<x.2.2.2.2.length->i.1=10\/i.1=7\/i.1=9)) ?_ ?_
 .refine aJ (λh=>?_) λ_=>?_
  .obtain⟨a0,a1⟩:=hA h;refine aS a0 a1 (aR ?_);have:=hlen a0 a1;exact bg (di this.len (by omega)) (by omega) (ar ⟨rfl,rfl,⟨rfl,rfl,rfl,rfl⟩,this,λ_=>.inl h⟩)
  refine aX (λx=>x.2.2.1=th/\x.2.2.2.1=i/\(x.2.2.2.2.1=t/\x.2.2.2.2.2.1=k/\x.2.2.2.2.2.2.1=o/\x.2.2.2.2.2.2.2.2=i.2.2.2.2.2)/\(x.1=ai->i.1=7\/i.1=9)) ?_ ?_
  .refine aJ (λh=>ar ⟨rfl,rfl,⟨rfl,rfl,rfl,rfl⟩,λ_=>.inl h⟩) λ_=>ar ⟨rfl,rfl,⟨rfl,rfl,rfl,rfl⟩,λh=>.inr (bi h)⟩
  rintro⟨b,z0,th',Y,t',k',z1⟩ ⟨e1,e2,e3,U⟩;dsimp only at e1 e2 e3 U;subst e1;subst e2;refine aO (λh=>?_) λ_=>ar ⟨rfl,rfl,e3,TL.nil n,λh=>(by cases h)⟩
  obtain⟨a0,a1⟩:=hC (U h);refine aS a0 a1 (aR ?_);have:=hlen a0 a1;exact bg (di this.len (by omega)) (by omega) (ar ⟨rfl,rfl,e3,this,λ_=>.inr (U h)⟩)
 rintro⟨z0,th',Y,⟨t',k',z1⟩,ds⟩ ⟨e1,e2,e3,hd,hd2⟩;dsimp only at e1 e2 e3 hd hd2;subst e1;subst e2;refine aX (λx=>(x.2.1.1=t/\x.2.1.2.1=k/\x.2.1.2.2.1=o/\x.2.1.2.2.2.2=Y.2.2.2.2.2)/\x.2.2.1=ds/\TL (FQ L t) n x.2.2.2/\(0<x.2.2.2.length->Y.1=8\/Y.1=9\/Y.1=26)) ?_ ?_
 .refine aX (λx=>x.2=(z0,th',Y,(t',k',z1),ds)/\(x.1=ai->Y.1=8\/Y.1=9\/Y.1=26)) ?_ ?_
  .exact aJ (λh=>ar ⟨rfl,λ_=>.inl h⟩) λ_=>aJ (λh=>ar ⟨rfl,λ_=>.inr (.inl h)⟩) λ_=>ar ⟨rfl,λh=>.inr (.inr (bi h))⟩
  rintro⟨b,x⟩ ⟨e,U⟩;dsimp only at e U;subst e;refine aO (λh=>?_) λ_=>ar ⟨e3,rfl,TL.nil n,λh=>(by cases h)⟩
  obtain⟨a0,a1⟩:=hB (U h);refine aS a0 a1 (aR ?_);have:=hlen a0 a1;exact bg (di this.len (by omega)) (by omega) (ar ⟨e3,rfl,this,λ_=>U h⟩)
 rintro⟨z2,⟨t2,k2,o2,z3,si⟩,d2,f2⟩ ⟨e1,e2,h1,h2⟩;dsimp only at e1 e2 h1 h2;subst e2;obtain⟨g1,g2,g3,g4⟩:=e1;exact ar λ_=>fin _ g1 g2 g3 g4 hd2 h2 hd h1
theorem aj2 {n:Nat} {k:Int} (h0:0<=k) (h1:k<n):(aK (T:=jA) (Yb n) k).1=0\/(aK (T:=jA) (Yb n) k).1=1:=by
 have hm:=bJ (T:=jA) (xs:=Yb n) h0 (by rw[HR];exact h1);revert hm;generalize aK (T:=jA) (Yb n) k=z;intro hm;cases n with
 |zero=>cases hm
 |succ n=>
  rcases bp.1 hm with rfl|hm
  .exact .inr rfl
  .rw[pE hm];exact .inl rfl
theorem Ww (c:CT) (hvt:jD c=af ai) (hv:VC c):Ok (ul c) λs=>SV 0 [] s/\Ls c [] s:=by
 unfold ul aY bh bx cC bL dA cX fh bz wa bC bB aZ cK aF cD;refine aT hvt (dN (λh=>(by cases h)) λ_=>?_);obtain⟨vc,vl,vd,Z,_,Y,_⟩:=id hv.vl;have htl:=hv.tl;refine aT (K6 c.1 hv.vl) ?_;refine bZ c.1.1.length (λi x=>x.1=(i:Int)/\x.2.1=c/\x.2.2.2.1=Qd c.1/\x.2.2.2.2=(c.1.1.take i).map λc=>c.2.2.2.2) ?_ ?_ ⟨rfl,rfl,rfl,rfl⟩
 .rintro i ⟨a,c',z,U,l⟩ hi ⟨e1,e2,e3,I⟩;dsimp only at e1 e2 e3 I;subst e1;subst e2;subst e3;subst I;refine db ?_;refine bX (aR (bg (by simp;omega) (by omega) (ar ?_)));dsimp only;exact⟨gy (by omega),rfl,rfl,by rw[mI (T:=Qb) hi,cE];rfl⟩
 rintro⟨a,c',z,U,l⟩ ⟨e1,e2,e3,I⟩;dsimp only at e1 e2 e3 I;subst e1;subst e2;subst e3;rw[cP] at I;subst I;refine dc ?_;refine ax (P:=λs=>SV 0 [] s/\Ls c' [] s) ?_ λr hr=>ar hr
 refine bZ c'.1.2.2.2.1.length (λi x=>x.1=(i:Int)/\x.2.1=c'/\x.2.2.2.1=Qd c'.1/\x.2.2.2.2.1=ce0 c'.1/\x.2.2.2.2.2=aG i 0) ?_ ?_ ⟨rfl,rfl,rfl,rfl,rfl⟩
 .rintro i ⟨a,c,z,y,l,f⟩ hi ⟨e1,e2,e3,I,J⟩;dsimp only at e1 e2 e3 I J;subst e1;subst e2;subst e3;subst J;refine db ?_;refine bg (by simp;omega) (by omega) (ar ?_);dsimp only;exact⟨gy (by omega),rfl,rfl,I,by rw[uQ]⟩
 rintro⟨a,c,z,y,l,f⟩ ⟨e1,e2,e3,I,J⟩;dsimp only at e1 e2 e3 I J;subst e1;subst e2;subst e3;subst I;subst J;refine dc ?_;refine ax (P:=λs=>SV 0 [] s/\Ls c [] s) ?_ λr hr=>ar hr
 refine bZ c.2.length (λi x=>x.1=(i:Int)/\x.2.1=c/\x.2.2.2.1=Qd c.1/\x.2.2.2.2.1=ce0 c.1/\x.2.2.2.2.2.1=fu0 c.1/\x.2.2.2.2.2.2.length=i/\∀ t∈x.2.2.2.2.2.2,(∀ F,TH F 0 t)/\t.2.2.2=0) ?_ ?_ ⟨rfl,rfl,rfl,rfl,rfl,rfl,λt ht=>(by cases ht)⟩
 .rintro i ⟨a,c,z,y,l,f,th⟩ hi ⟨e1,e2,e3,I,e4b,J,M⟩;dsimp only at e1 e2 e3 I e4b J M;subst e1;subst e2;subst e3;refine db ?_;have hin:((i:Nat):Int)<(c.2.length:Int):=by omega
  have hvt:=hv.t _ (bJ (T:=v_) (xs:=c.2) (j:=(i:Int)) (by omega) hin);have q0:=hvt.r0;have q1:=hvt.r1;refine aS (by dsimp only;omega) hin (aR ?_);refine dx (dx (eM q0 (eM (eR _) (bg (by dsimp only;omega) (by omega) ?_))));refine aS (by dsimp only;omega) hin (aR ?_);refine dx (dx (eM q0 (eM (eR _) (bg (by dsimp only;omega) (by omega) ?_))));refine bg (by simp;omega) (by omega) (ar ?_);dsimp only;refine ⟨gy (by omega),rfl,rfl,I,e4b,by simp;omega,λt ht=>?_⟩;rcases bQ.1 ht with h|h
  .exact M t h
  .rw[aL] at h;subst h;refine ⟨λF=>⟨?_,?_,λl hl=>?_,eR _,eR _⟩,rfl⟩
   .dsimp only;rw[eL];omega
   .dsimp only;rw[eL];omega
   .rw[pE hl];exact TL.nil 0
 .rintro⟨a,c,z,y,l,f,th⟩ ⟨e1,e2,e3,I,e4b,J,M⟩;dsimp only at e1 e2 e3 I e4b J M;subst e1;subst e2;subst e3;subst I;subst e4b;refine dc (ar ?_);have hm:∀ k:Nat,k<th.length->_:=λk hk=>M _ (bJ (T:=uS) (xs:=th) (j:=(k:Int)) (by omega) (by omega))
  refine ⟨⟨Uq hv.vl,rfl,λk hk=>(hm k hk).1 _⟩,⟨.nil,λk hk=>.inr ?_⟩⟩;dsimp only at hk;have hst:=aj2 (n:=c.1.2.2.2.2.1.length) (k:=(k:Int)) (by omega) (by omega);exact⟨(hm k hk).2,λh=>(by rcases hst with q|q<;>rcases h with h|h<;>exact cR (q.symm.trans h) (by decide)),λ_=>hst⟩
theorem Iq {th:List (Int×Int×Bool)} {t x j:Int} (h0:0<=t) (h1:t<th.length) (hj:0<=j):(aK (T:=jA) (ye th t x) j).1=if j=t then x else (aK (T:=jA) th j).1:=by
 unfold ye;rw[rP (T:=jA) _ _ _ _ h0 h1 hj];split<;>rfl
theorem ai4 {th:List (Int×Int×Bool)} {t x j:Int} (h0:0<=t) (h1:t<th.length) (hj:0<=j):(aK (T:=jA) (cdP th t x) j).1=(aK (T:=jA) th j).1:=by
 unfold cdP;rw[rP (T:=jA) _ _ _ _ h0 h1 hj];split
 .rename_i h;rw[h]
 .rfl
theorem aia {th:List (Int×Int×Bool)} {t j:Int} {x:Bool} (h0:0<=t) (h1:t<th.length) (hj:0<=j):(aK (T:=jA) (atP th t x) j).1=(aK (T:=jA) th j).1:=by
 unfold atP;rw[rP (T:=jA) _ _ _ _ h0 h1 hj];split
 .rename_i h;rw[h]
 .rfl
theorem ahw {j:Int} (hj:0<=j):∀ (l:List Int) (th:List (Int×Int×Bool)),(∀ u:Int,u∈l->0<=u/\u<th.length)->(aK (T:=jA) (C2 th l) j).1=if j∈l then 4 else (aK (T:=jA) th j).1
 |[],th,_=>by simp[C2]
 |x::r,th,h=>by
  have I:=h x (dk ..);have J:=ahw hj r (ye th x 4) λu hu=>by unfold ye;rw[bW];exact h u (cI _ hu)
  have e:C2 th (x::r)=C2 (ye th x 4) r:=rfl;rw[e,J,Iq I.1 I.2 hj];by_cases h1:j∈r
  .rw[aE h1,aE (cI _ h1)]
  .rw[ay h1];by_cases h2:j=x
   .rw[aE h2,aE (by rw[h2];exact dk ..)]
   .rw[ay h2,ay λh=>(bp.1 h).elim h2 h1]
theorem Ib {l:List Int} (u:Int) (hl:¬l.length=0):BD l u∈l:=by
 unfold BD;rw[ay hl];split
 .rename_i h;exact s9.1 h
 .exact bJ (T:=.int .i64) (by omega) (by omega)
theorem Ti {w:WT} {s:SY} {t k o u v:Int} {sy:SY} (h:(sy,v)=rh w s t k o u):rh w s t k o v=(sy,v):=by
 by_cases hk:k=18
 .subst hk;rw[FA] at h ⊢;by_cases hl:(wl s.2.2.2 o s.2.2.2.length).length=0
  .rw[aE hl] at h ⊢;exact h.symm
  .rw[ay hl] at h ⊢;have hm:=Ib u hl;generalize wl s.2.2.2 o s.2.2.2.length=l at h hl hm ⊢;obtain⟨rfl,rfl⟩:=Prod.mk.inj h;have:BD l (BD l u)=BD l u:=by
    rw[BD,ay hl,aE (s9.2 hm)]
   rw[this]
 .rw[X2 _ _ _ _ _ _ u hk,<-h]
theorem ajx {w:WT} {s:SY} {t k o:Int} (u:Int) (he:EN w s t k o) (hr:Wy w s t k o) {j:Int} (h0:0<=j):(¬j=t->(aK (T:=jA) (rh w s t k o u).1.2.2.2 j).1=(aK (T:=jA) s.2.2.2 j).1\/((aK (T:=jA) s.2.2.2 j).1=3/\(aK (T:=jA) (rh w s t k o u).1.2.2.2 j).1=4)\/((aK (T:=jA) s.2.2.2 j).1=0/\(aK (T:=jA) (rh w s t k o u).1.2.2.2 j).1=1))/\(j=t->¬k=16->¬(aK (T:=jA) (rh w s t k o u).1.2.2.2 j).1=3/\¬(aK (T:=jA) (rh w s t k o u).1.2.2.2 j).1=4):=by
 have t0:=he.t0;have t1:t<s.2.2.2.length:=by have:=he.t1;have:=he.e3;omega
 have M:=hr.r;have hml:∀ u:Int,u∈wl s.2.2.2 o s.2.2.2.length->0<=u/\u<s.2.2.2.length:=λu hu=>⟨(rm.1 hu).1,(rm.1 hu).2.1⟩
 have h3:∀ u:Int,u∈wl s.2.2.2 o s.2.2.2.length->(aK (T:=jA) s.2.2.2 u).1=3:=λu hu=>by
  have:=(rm.1 hu).2.2;unfold Ii at this;rw[av] at this;exact bi this.1
 have same:¬k=1->¬k=17->∀ th:List (Int×Int×Bool),(aK (T:=jA) th j).1=(aK (T:=jA) s.2.2.2 j).1->(¬j=t->(aK (T:=jA) th j).1=(aK (T:=jA) s.2.2.2 j).1\/((aK (T:=jA) s.2.2.2 j).1=3/\(aK (T:=jA) th j).1=4)\/((aK (T:=jA) s.2.2.2 j).1=0/\(aK (T:=jA) th j).1=1))/\(j=t->¬k=16->¬(aK (T:=jA) th j).1=3/\¬(aK (T:=jA) th j).1=4):=λa b th h=>⟨λ_=>.inl h,λh2 _=>by rw[h,h2,M a b];decide⟩
 have st:∀ x:Int,¬x=3\/k=16->¬x=4->∀ th:List (Int×Int×Bool),(aK (T:=jA) th j).1=(if j=t then x else (aK (T:=jA) s.2.2.2 j).1)->(¬j=t->(aK (T:=jA) th j).1=(aK (T:=jA) s.2.2.2 j).1\/((aK (T:=jA) s.2.2.2 j).1=3/\(aK (T:=jA) th j).1=4)\/((aK (T:=jA) s.2.2.2 j).1=0/\(aK (T:=jA) th j).1=1))/\(j=t->¬k=16->¬(aK (T:=jA) th j).1=3/\¬(aK (T:=jA) th j).1=4):=λx hx hx4 th h=>⟨λhn=>.inl (by rw[h,ay hn]),λh2 h16=>by rw[h,aE h2];exact⟨hx.resolve_right h16,hx4⟩⟩
 have U:∀ x:Int,t<(ye s.2.2.2 t x).length:=λx=>by unfold ye;rw[bW];exact t1
 by_cases k1:k=1
 .subst k1;exact st 2 (.inl (by decide)) (by decide) _ (Iq t0 t1 h0)
 by_cases k2:k=2
 .subst k2;exact st 5 (.inl (by decide)) (by decide) _ (Iq t0 t1 h0)
 by_cases k16:k=16
 .subst k16;exact st 3 (.inr rfl) (by decide) _ ((ai4 t0 (U _) h0).trans (Iq t0 t1 h0))
 by_cases I:k=17
 .subst I;exact st 2 (.inl (by decide)) (by decide) _ ((ai4 t0 (U _) h0).trans (Iq t0 t1 h0))
 by_cases k14:k=14
 .subst k14;exact same k1 I _ (aia t0 t1 h0)
 by_cases k15:k=15
 .subst k15;exact same k1 I _ (aia t0 t1 h0)
 by_cases k18:k=18
 .subst k18;rw[FA];by_cases hl:(wl s.2.2.2 o s.2.2.2.length).length=0
  .rw[aE hl];exact same k1 I _ rfl
  .rw[ay hl];have hc:=Ib u hl;have Y:=hml _ hc;have J:=h3 _ hc;dsimp only;rw[Iq Y.1 Y.2 h0];generalize BD (wl s.2.2.2 o s.2.2.2.length) u=c at J;by_cases hj:j=c
   .rw[aE hj,hj];exact⟨λ_=>.inr (.inl ⟨J,rfl⟩),λh _=>by rw[h,M k1 I] at J;exact cR J (by decide)⟩
   .rw[ay hj];exact⟨λ_=>.inl rfl,λh _=>by rw[h,M k1 I];decide⟩
 by_cases k19:k=19
 .subst k19;show (_->(aK (T:=jA) (C2 _ _) j).1=_\/_/\(aK (T:=jA) (C2 _ _) j).1=_\/_/\(aK (T:=jA) (C2 _ _) j).1=_)/\(_->_->¬(aK (T:=jA) (C2 _ _) j).1=_/\¬(aK (T:=jA) (C2 _ _) j).1=_)
  rw[ahw h0 _ _ hml];by_cases hj:j∈wl s.2.2.2 o s.2.2.2.length
  .rw[aE hj];have J:=h3 _ hj;exact⟨λ_=>.inr (.inl ⟨J,rfl⟩),λh _=>by rw[h,M k1 I] at J;exact cR J (by decide)⟩
  .rw[ay hj];exact⟨λ_=>.inl rfl,λh _=>by rw[h,M k1 I];decide⟩
 by_cases k20:k=20
 .subst k20;obtain⟨o0,o1⟩:=he.nm.th (.inl rfl);obtain⟨hot,ho0⟩:=hr.sp rfl;have Z:o<s.2.2.2.length:=by rw[he.e3];exact o1
  show (_->(aK (T:=jA) (ye _ _ _) j).1=_\/_/\(aK (T:=jA) (ye _ _ _) j).1=_\/_/\(aK (T:=jA) (ye _ _ _) j).1=_)/\(_->_->¬(aK (T:=jA) (ye _ _ _) j).1=_/\¬(aK (T:=jA) (ye _ _ _) j).1=_)
  rw[Iq o0 Z h0];by_cases hj:j=o
  .rw[aE hj,hj];exact⟨λ_=>.inr (.inr ⟨ho0,rfl⟩),λh _=>(hot h).elim⟩
  .rw[ay hj];exact⟨λ_=>.inl rfl,λh _=>by rw[h,M k1 I];decide⟩
 refine same k1 I _ ?_;unfold rh;rw[ay k1,ay k2];repeat' split
 all_goals first|rfl|omega
theorem afr {e e':ET} (h1:e'.1=e.1) (h2:e'.2.1=e.2.1) (t:Int):fl [e'] t=fl [e] t:=by
 by_cases h:e.1=t
 .rw[zC h,zC (h1.trans h)];unfold tH;rw[h2]
 .rw[wR h,wR (λg=>h (h1.symm.trans g))]
theorem ahf {L:List ET} {e e':ET} (h1:e'.1=e.1) (h2:e'.2.1=e.2.1) {k y:Int} (h:FQ (L++[e]) k y):FQ (L++[e']) k y:=by
 unfold FQ Lg at h ⊢;rw[uG,afr h1 h2,<-uG];exact h
theorem Jq {T:Ty} (xs:List T.den) (i k:Nat) (x:T.den) (hi:i<xs.length):aK (xs.set i x) (k:Int)=if k=i then x else aK xs (k:Int):=by
 refine (rP xs (i:Int) (k:Int) x (by omega) (by omega) (by omega)).trans ?_;by_cases h:k=i
 .rw[aE h,aE (by omega)]
 .rw[ay h,ay (by omega)]
def SQ (n:Nat) (c:CT) (L:List ET) (y:ST×ET×Bool):Prop:=y.2.2=ai->SV (n+1) (L++[y.2.1]) y.1/\Ls c (L++[y.2.1]) y.1/\EvF c.1 y.2.1/\ZX y.2.1
theorem agx {n:Nat} (hn:n+1<=100000) {c:CT} {L:List ET} {s:ST} {i:Nat} {kd o v0 si:Int} {ds fs:List Int} {sy:SY} (hs:SV n L s) (hI:Ls c L s) (hp:PE n c s (i:Int) ((i:Int),kd,o,v0,si,ds,fs)) (hm:PS c L s (i:Int) ((i:Int),kd,o,v0,si,ds,fs)) (he:EN c.1 s.1 (i:Int) kd o) (hr:Wy c.1 s.1 (i:Int) kd o) (ha:AP n s.1 sy) (I:Int) (ce fu:List Int) (t':TT) (hap:(rh c.1 s.1 (i:Int) kd o I).1=sy) (hva:VA c.1 s.1 s.2.1 s.2.2.1 (i:Int) kd o I) (hce:ce=Zm s.2.1 ((i:Int),kd,o,I,si,ds,fs)) (hfu:fu=fuP s.2.2.1 ((i:Int),kd,o,I,si,ds,fs)) (ht:TH (FQ (L++[((i:Int),kd,o,v0,si,ds,fs)]) (i:Int)) (n+1) t') (hg:t'.2.1.length=0\/t'.2.2.2=bk .i64 ((aK (T:=uS) s.2.2.2 (i:Int)).2.2.2+1)/\(kd=16->t'.1=(aK (T:=uS) s.2.2.2 (i:Int)).1)):SQ n c L ((sy,ce,fu,s.2.2.2.set i t'),((i:Int),kd,o,I,si,ds,fs),ai):=by
 intro _;have q1:=hp.t1;have q2:=hp.fs.th;have q3:=hp.fs.e3;have q4:=hp.fs.vc.tl;have hil:i<s.2.2.2.length:=by omega
 have hln:=hs.ln;refine ⟨⟨ha.toSB hs.sb hn,by simp[hln],λk hk=>?_⟩,⟨?_,λk hk=>?_⟩,⟨he.nm,he.t0,he.t1,he.cd⟩,⟨di hp.d (by omega),di hp.f (by omega)⟩⟩
 .dsimp only at hk ⊢;rw[sS] at hk;rw[Jq (T:=uS) _ _ _ _ hil];split
  .rename_i h;subst h;exact ht.mono (bV _) λy J=>ahf (e:=((k:Int),kd,o,v0,si,ds,fs)) (e':=((k:Int),kd,o,I,si,ds,fs)) rfl rfl J
  .exact (hs.t k hk).mono (by omega) λy J=>⟨J.1,J.2.app _⟩
 .rw[<- hap,hce,hfu];exact hI.ac.snoc (e:=((i:Int),kd,o,I,si,ds,fs)) ⟨he,hr,hm.s1,hm.s2,hm.de,hm.fr,⟨hm.da,λx U=>⟨(hm.dq x U).1,(hm.dq x U).2.lt⟩⟩,⟨hm.fa,λx U=>⟨(hm.fq x U).1,(hm.fq x U).2.lt⟩⟩,λy J=>(hm.dq y J).2,λy J=>(hm.fq y J).2,hva⟩
 .dsimp only at hk ⊢;rw[sS] at hk;rw[Jq (T:=uS) _ _ _ _ hil];obtain⟨Ir,st2⟩:=ajx I he hr (j:=(k:Int)) (by omega);rw[hap] at Ir st2;have hfl:=XB L (i:Int);split
  .rename_i h;subst h;rcases hg with hg|⟨g1,g2⟩
   .exact .inl hg
   .refine .inr ⟨?_,λZ=>?_,λM=>?_⟩
    .rw[g1,hm.tg.ev,uG,zC rfl,gy (by omega)];simp
    .have Y:kd=16:=vK λh=>Z.elim (st2 rfl h).1 (st2 rfl h).2
     rw[g2 Y];exact hm.wt Y
    .rw[uG,zC rfl] at M;simp at M
  .rename_i h;have hki:¬(k:Int)=(i:Int):=by omega
   have hfo:∀ e:ET,e.1=(i:Int)->fl (L++[e]) (k:Int)=fl L (k:Int):=λe h=>by
    rw[uG,wR (by rw[h];exact λh=>hki h.symm),gp]
   have Ir:=Ir hki;refine (hI.t k hk).imp id λg=>⟨by rw[hfo _ rfl];exact g.ev,λZ=>g.wi (by
    rcases Ir with h1|⟨h1,_⟩|⟨_,h1⟩
    .rw[<- h1];exact Z
    .exact .inl h1
    .exact Z.elim (λh=>cR (h1.symm.trans h) (by decide)) λh=>cR (h1.symm.trans h) (by decide)),λM=>?_⟩
   rw[hfo _ rfl] at M;have g2:=g.nw M;rcases Ir with h1|⟨h1,_⟩|⟨_,h1⟩
   .rw[h1];exact g2
   .exact (g2.elim (λh=>cR (h1.symm.trans h) (by decide)) λh=>cR (h1.symm.trans h) (by decide))
   .exact .inr h1
theorem kq {α R:Type} (o:Option α):obind o (λ_=>(ah:Option R))=ah:=by cases o<;>rfl
theorem oR {R:Type} (b:Bool):chk b (λ_=>(ah:Option R))=ah:=by cases b<;>rfl
theorem r8 {α R:Type} (x:α):lt x (λ_=>(ah:Option R))=ah:=rfl
def Qg {R:Type} (o:Option R) (Q:R->Prop):Prop:=o=ah\/Ok o Q
theorem Qg.or {R:Type} {a b:Option R} {Q:R->Prop} (I:Qg a Q) (hb:Qg b Q):Qg (orE a b) Q:=by
 rcases I with rfl|⟨y,rfl,h⟩
 .exact hb
 .exact .inr ⟨y,rfl,h⟩
theorem Ok.orL {R:Type} {a b:Option R} {Q:R->Prop} (I:Ok a Q):Ok (orE a b) Q:=by
 obtain⟨y,rfl,h⟩:=I;exact⟨y,rfl,h⟩
theorem Qg.orR {R:Type} {a b:Option R} {Q:R->Prop} (I:Qg a Q) (hb:Ok b Q):Ok (orE a b) Q:=by
 rcases I with rfl|⟨y,rfl,h⟩
 .exact hb
 .exact⟨y,rfl,h⟩
theorem Ip {n:Nat} (hn:n+1<=100000) {c:CT} {L:List ET} {s:ST} {t u:Int} (hc:CB c) (hs:SV n L s) (U:Ls c L s) (G:Option (ST×ET×Bool)->Prop) (Y:∀ y,SQ n c L y->G (af y)) (k:ET×Bool->SY×Int×Bool->Option (ST×ET×Bool))
 (hk:∀ e v sy,PE n c s t e->PS c L s t e->EN c.1 s.1 t e.2.1 e.2.2.1->Wy c.1 s.1 t e.2.1 e.2.2.1->AP n s.1 sy->(sy,v)=rh c.1 s.1 t e.2.1 e.2.2.1 u->G (k (e,ai) (sy,v,ai))):
 G (obind (nK (c,s,t)) λI=>bcase (!I.2) (af ((([],0,[],[]),[],[],[]),(0,0,0,0,0,[],[]),aj)) (obind (pl (c.1,s.1,t,I.1.2.1,I.1.2.2.1,u)) λJ=>bcase (!J.2.2) (af ((([],0,[],[]),[],[],[]),(0,0,0,0,0,[],[]),aj)) (k I J))):=by
 have M:=Y ((([],0,[],[]),[],[],[]),(0,0,0,0,0,[],[]),aj) λh=>(by cases h)
 obtain⟨⟨e,b⟩,h1,h2⟩:=Wz n (by omega) c L s hc hs U t;rw[h1,Xl];cases b with
 |false=>exact M
 |true=>
  obtain⟨hp,hm⟩:=h2 rfl;have hcd:c.1.2.2.1.length<=1000:=by have:=hp.fs.vc.vl.d;omega
  obtain⟨⟨sy,v,b⟩,h3,Z,_,_⟩:=T7 c.1 s.1 hs.sb hcd t e.2.1 e.2.2.1 u;have e0:∀ {R:Type} (a b:Option R),bcase (!ai) a b=b:=λ_ _=>rfl
  rw[e0,h3,Xl];cases b with
  |false=>exact M
  |true=>
   obtain⟨g1,g2,g3,g4⟩:=Z rfl;exact hk e v sy hp hm g1 g2 g3 g4
theorem Z8 {E:Nat} {L:List ET} (sy:SY) (ce fu:List Int) (a:TT) (h:SV E L (sy,ce,fu,[a])) (hce:ce.length<=1000) (hfu:fu.length<=1000):m7 (sy,ce,fu,[a])=af ((sy.2.1,sy.1,sy.2.2.1,sy.2.2.2).1,(sy.2.1,sy.1,sy.2.2.1,sy.2.2.2).2.1,(sy.2.1,sy.1,sy.2.2.1,sy.2.2.2).2.2.1,(sy.2.1,sy.1,sy.2.2.1,sy.2.2.2).2.2.2,(([]:List Int)++ce),(([]:List Int)++fu),((a.1,a.2.2.2),a.2.1,a.2.2.1)):=by
 have J:=h.sb.n1;have I:TH (FQ L 0) E a:=h.t 0 (by simp);refine ci ?_;unfold m7 aY bL bz bC bB aZ;refine aT (qU sy h.sb) ?_;refine bg (by simp;omega) (by omega) (bg (by simp;omega) (by omega) ?_);refine fI rfl (bf rfl (aR (aT (dh a E J I) ?_)));exact fJ rfl (ar rfl)
theorem T2 (sy:SY) (ce fu:List Int) (l:List TT) (h0:l.length<=4) (h:l.length≠1):m7 (sy,ce,fu,l)=ah:=by
 unfold m7 aY bL bz bC bB aZ;rcases l with _|⟨a,_|⟨b,_|⟨c,_|⟨d,_|⟨e,l⟩⟩⟩⟩⟩;all_goals first|(simp at h;done)|(exfalso;simp only[b9] at h0;omega)|simp[fR,kq,oR,r8,bcT,bcF]
theorem Z7 {E:Nat} {L:List ET} (sy:SY) (ce fu:List Int) (a b:TT) (h:SV E L (sy,ce,fu,[a,b])) (hce:ce.length<=1000) (hfu:fu.length<=1000):m6 (sy,ce,fu,[a,b])=af ((sy.2.1,sy.1,sy.2.2.1,sy.2.2.2).1,(sy.2.1,sy.1,sy.2.2.1,sy.2.2.2).2.1,(sy.2.1,sy.1,sy.2.2.1,sy.2.2.2).2.2.1,(sy.2.1,sy.1,sy.2.2.1,sy.2.2.2).2.2.2,(([]:List Int)++ce),(([]:List Int)++fu),(((a.1,a.2.2.2),a.2.1,a.2.2.1).1.1,((a.1,a.2.2.2),a.2.1,a.2.2.1).1.2,((b.1,b.2.2.2),b.2.1,b.2.2.1).1.1,((b.1,b.2.2.2),b.2.1,b.2.2.1).2.1,((b.1,b.2.2.2),b.2.1,b.2.2.1).2.2,((b.1,b.2.2.2),b.2.1,b.2.2.1).1.2),((a.1,a.2.2.2),a.2.1,a.2.2.1).2):=by
 have I:=h.sb.n1;have J:TH (FQ L 0) E a:=h.t 0 (by simp);have hb:TH (FQ L 1) E b:=h.t 1 (by simp);refine ci ?_;unfold m6 aY bL bz bC bB aZ;refine aT (qU sy h.sb) ?_;refine bg (by simp;omega) (by omega) (bg (by simp;omega) (by omega) ?_);refine fI rfl (bf rfl (aR (aT (dh a E I J) ?_)));refine fI rfl (bf rfl (aR (aT (dh b E I hb) ?_)));exact fJ rfl (ar rfl)
theorem TZ (sy:SY) (ce fu:List Int) (l:List TT) (h0:l.length<=4) (h:l.length≠2):m6 (sy,ce,fu,l)=ah:=by
 unfold m6 aY bL bz bC bB aZ;rcases l with _|⟨a,_|⟨b,_|⟨c,_|⟨d,_|⟨e,l⟩⟩⟩⟩⟩;all_goals first|(simp at h;done)|(exfalso;simp only[b9] at h0;omega)|simp[fR,kq,oR,r8,bcT,bcF]
theorem Z6 {E:Nat} {L:List ET} (sy:SY) (ce fu:List Int) (a b:TT) (h:SV E L (sy,ce,fu,[a,b])) (hce:ce.length<=1000) (hfu:fu.length<=1000):mZ (sy,ce,fu,[a,b])=af ((sy.2.1,sy.1,sy.2.2.1,sy.2.2.2).1,(sy.2.1,sy.1,sy.2.2.1,sy.2.2.2).2.1,(sy.2.1,sy.1,sy.2.2.1,sy.2.2.2).2.2.1,(sy.2.1,sy.1,sy.2.2.1,sy.2.2.2).2.2.2,(([]:List Int)++ce),(([]:List Int)++fu),((((a.1,a.2.2.2),a.2.1,a.2.2.1).1.1,((a.1,a.2.2.2),a.2.1,a.2.2.1).2.1,((a.1,a.2.2.2),a.2.1,a.2.2.1).2.2,((a.1,a.2.2.2),a.2.1,a.2.2.1).1.2),((b.1,b.2.2.2),b.2.1,b.2.2.1).1),((b.1,b.2.2.2),b.2.1,b.2.2.1).2):=by
 have I:=h.sb.n1;have J:TH (FQ L 0) E a:=h.t 0 (by simp);have hb:TH (FQ L 1) E b:=h.t 1 (by simp);refine ci ?_;unfold mZ aY bL bz bC bB aZ;refine aT (qU sy h.sb) ?_;refine bg (by simp;omega) (by omega) (bg (by simp;omega) (by omega) ?_);refine fI rfl (bf rfl (aR (aT (dh a E I J) ?_)));refine fI rfl (bf rfl (aR (aT (dh b E I hb) ?_)));exact fJ rfl (ar rfl)
theorem TY (sy:SY) (ce fu:List Int) (l:List TT) (h0:l.length<=4) (h:l.length≠2):mZ (sy,ce,fu,l)=ah:=by
 unfold mZ aY bL bz bC bB aZ;rcases l with _|⟨a,_|⟨b,_|⟨c,_|⟨d,_|⟨e,l⟩⟩⟩⟩⟩;all_goals first|(simp at h;done)|(exfalso;simp only[b9] at h0;omega)|simp[fR,kq,oR,r8,bcT,bcF]
theorem Z5 {E:Nat} {L:List ET} (sy:SY) (ce fu:List Int) (a b c:TT) (h:SV E L (sy,ce,fu,[a,b,c])) (hce:ce.length<=1000) (hfu:fu.length<=1000):mY (sy,ce,fu,[a,b,c])=af ((sy.2.1,sy.1,sy.2.2.1,sy.2.2.2).1,(sy.2.1,sy.1,sy.2.2.1,sy.2.2.2).2.1,(sy.2.1,sy.1,sy.2.2.1,sy.2.2.2).2.2.1,(sy.2.1,sy.1,sy.2.2.1,sy.2.2.2).2.2.2,(([]:List Int)++ce),(([]:List Int)++fu),(((a.1,a.2.2.2),a.2.1,a.2.2.1).1.1,((a.1,a.2.2.2),a.2.1,a.2.2.1).1.2,(((b.1,b.2.2.2),b.2.1,b.2.2.1).1.1,((b.1,b.2.2.2),b.2.1,b.2.2.1).2.1,((b.1,b.2.2.2),b.2.1,b.2.2.1).2.2,((b.1,b.2.2.2),b.2.1,b.2.2.1).1.2),((c.1,c.2.2.2),c.2.1,c.2.2.1).1.1,((c.1,c.2.2.2),c.2.1,c.2.2.1).2.1,((c.1,c.2.2.2),c.2.1,c.2.2.1).2.2,((c.1,c.2.2.2),c.2.1,c.2.2.1).1.2),((a.1,a.2.2.2),a.2.1,a.2.2.1).2):=by
 have I:=h.sb.n1;have J:TH (FQ L 0) E a:=h.t 0 (by simp);have hb:TH (FQ L 1) E b:=h.t 1 (by simp);have hc:TH (FQ L 2) E c:=h.t 2 (by simp);refine ci ?_;unfold mY aY bL bz bC bB aZ;refine aT (qU sy h.sb) ?_;refine bg (by simp;omega) (by omega) (bg (by simp;omega) (by omega) ?_);refine fI rfl (bf rfl (aR (aT (dh a E I J) ?_)));refine fI rfl (bf rfl (aR (aT (dh b E I hb) ?_)));refine fI rfl (bf rfl (aR (aT (dh c E I hc) ?_)));exact fJ rfl (ar rfl)
theorem TX (sy:SY) (ce fu:List Int) (l:List TT) (h0:l.length<=4) (h:l.length≠3):mY (sy,ce,fu,l)=ah:=by
 unfold mY aY bL bz bC bB aZ;rcases l with _|⟨a,_|⟨b,_|⟨c,_|⟨d,_|⟨e,l⟩⟩⟩⟩⟩;all_goals first|(simp at h;done)|(exfalso;simp only[b9] at h0;omega)|simp[fR,kq,oR,r8,bcT,bcF]
theorem Z4 {E:Nat} {L:List ET} (sy:SY) (ce fu:List Int) (a b c:TT) (h:SV E L (sy,ce,fu,[a,b,c])) (hce:ce.length<=1000) (hfu:fu.length<=1000):mX (sy,ce,fu,[a,b,c])=af ((sy.2.1,sy.1,sy.2.2.1,sy.2.2.2).1,(sy.2.1,sy.1,sy.2.2.1,sy.2.2.2).2.1,(sy.2.1,sy.1,sy.2.2.1,sy.2.2.2).2.2.1,(sy.2.1,sy.1,sy.2.2.1,sy.2.2.2).2.2.2,(([]:List Int)++ce),(([]:List Int)++fu),((((a.1,a.2.2.2),a.2.1,a.2.2.1).1.1,((a.1,a.2.2.2),a.2.1,a.2.2.1).2.1,((a.1,a.2.2.2),a.2.1,a.2.2.1).2.2,((a.1,a.2.2.2),a.2.1,a.2.2.1).1.2),((b.1,b.2.2.2),b.2.1,b.2.2.1).1.1,((b.1,b.2.2.2),b.2.1,b.2.2.1).1.2,((c.1,c.2.2.2),c.2.1,c.2.2.1).1.1,((c.1,c.2.2.2),c.2.1,c.2.2.1).2.1,((c.1,c.2.2.2),c.2.1,c.2.2.1).2.2,((c.1,c.2.2.2),c.2.1,c.2.2.1).1.2),((b.1,b.2.2.2),b.2.1,b.2.2.1).2):=by
 have I:=h.sb.n1;have J:TH (FQ L 0) E a:=h.t 0 (by simp);have hb:TH (FQ L 1) E b:=h.t 1 (by simp);have hc:TH (FQ L 2) E c:=h.t 2 (by simp);refine ci ?_;unfold mX aY bL bz bC bB aZ;refine aT (qU sy h.sb) ?_;refine bg (by simp;omega) (by omega) (bg (by simp;omega) (by omega) ?_);refine fI rfl (bf rfl (aR (aT (dh a E I J) ?_)));refine fI rfl (bf rfl (aR (aT (dh b E I hb) ?_)));refine fI rfl (bf rfl (aR (aT (dh c E I hc) ?_)));exact fJ rfl (ar rfl)
theorem TW (sy:SY) (ce fu:List Int) (l:List TT) (h0:l.length<=4) (h:l.length≠3):mX (sy,ce,fu,l)=ah:=by
 unfold mX aY bL bz bC bB aZ;rcases l with _|⟨a,_|⟨b,_|⟨c,_|⟨d,_|⟨e,l⟩⟩⟩⟩⟩;all_goals first|(simp at h;done)|(exfalso;simp only[b9] at h0;omega)|simp[fR,kq,oR,r8,bcT,bcF]
theorem Z3 {E:Nat} {L:List ET} (sy:SY) (ce fu:List Int) (a b c:TT) (h:SV E L (sy,ce,fu,[a,b,c])) (hce:ce.length<=1000) (hfu:fu.length<=1000):mW (sy,ce,fu,[a,b,c])=af ((sy.2.1,sy.1,sy.2.2.1,sy.2.2.2).1,(sy.2.1,sy.1,sy.2.2.1,sy.2.2.2).2.1,(sy.2.1,sy.1,sy.2.2.1,sy.2.2.2).2.2.1,(sy.2.1,sy.1,sy.2.2.1,sy.2.2.2).2.2.2,(([]:List Int)++ce),(([]:List Int)++fu),((((a.1,a.2.2.2),a.2.1,a.2.2.1).1.1,((a.1,a.2.2.2),a.2.1,a.2.2.1).2.1,((a.1,a.2.2.2),a.2.1,a.2.2.1).2.2,((a.1,a.2.2.2),a.2.1,a.2.2.1).1.2),(((b.1,b.2.2.2),b.2.1,b.2.2.1).1.1,((b.1,b.2.2.2),b.2.1,b.2.2.1).2.1,((b.1,b.2.2.2),b.2.1,b.2.2.1).2.2,((b.1,b.2.2.2),b.2.1,b.2.2.1).1.2),((c.1,c.2.2.2),c.2.1,c.2.2.1).1),((c.1,c.2.2.2),c.2.1,c.2.2.1).2):=by
 have I:=h.sb.n1;have J:TH (FQ L 0) E a:=h.t 0 (by simp);have hb:TH (FQ L 1) E b:=h.t 1 (by simp);have hc:TH (FQ L 2) E c:=h.t 2 (by simp);refine ci ?_;unfold mW aY bL bz bC bB aZ;refine aT (qU sy h.sb) ?_;refine bg (by simp;omega) (by omega) (bg (by simp;omega) (by omega) ?_);refine fI rfl (bf rfl (aR (aT (dh a E I J) ?_)));refine fI rfl (bf rfl (aR (aT (dh b E I hb) ?_)));refine fI rfl (bf rfl (aR (aT (dh c E I hc) ?_)));exact fJ rfl (ar rfl)
theorem TU (sy:SY) (ce fu:List Int) (l:List TT) (h0:l.length<=4) (h:l.length≠3):mW (sy,ce,fu,l)=ah:=by
 unfold mW aY bL bz bC bB aZ;rcases l with _|⟨a,_|⟨b,_|⟨c,_|⟨d,_|⟨e,l⟩⟩⟩⟩⟩;all_goals first|(simp at h;done)|(exfalso;simp only[b9] at h0;omega)|simp[fR,kq,oR,r8,bcT,bcF]
theorem Z2 {E:Nat} {L:List ET} (sy:SY) (ce fu:List Int) (a b c d:TT) (h:SV E L (sy,ce,fu,[a,b,c,d])) (hce:ce.length<=1000) (hfu:fu.length<=1000):mV (sy,ce,fu,[a,b,c,d])=af ((sy.2.1,sy.1,sy.2.2.1,sy.2.2.2).1,(sy.2.1,sy.1,sy.2.2.1,sy.2.2.2).2.1,(sy.2.1,sy.1,sy.2.2.1,sy.2.2.2).2.2.1,(sy.2.1,sy.1,sy.2.2.1,sy.2.2.2).2.2.2,(([]:List Int)++ce),(([]:List Int)++fu),(((a.1,a.2.2.2),a.2.1,a.2.2.1).1.1,((a.1,a.2.2.2),a.2.1,a.2.2.1).1.2,(((b.1,b.2.2.2),b.2.1,b.2.2.1).1.1,((b.1,b.2.2.2),b.2.1,b.2.2.1).2.1,((b.1,b.2.2.2),b.2.1,b.2.2.1).2.2,((b.1,b.2.2.2),b.2.1,b.2.2.1).1.2),(((c.1,c.2.2.2),c.2.1,c.2.2.1).1.1,((c.1,c.2.2.2),c.2.1,c.2.2.1).2.1,((c.1,c.2.2.2),c.2.1,c.2.2.1).2.2,((c.1,c.2.2.2),c.2.1,c.2.2.1).1.2),((d.1,d.2.2.2),d.2.1,d.2.2.1).1.1,((d.1,d.2.2.2),d.2.1,d.2.2.1).2.1,((d.1,d.2.2.2),d.2.1,d.2.2.1).2.2,((d.1,d.2.2.2),d.2.1,d.2.2.1).1.2),((a.1,a.2.2.2),a.2.1,a.2.2.1).2):=by
 have I:=h.sb.n1;have J:TH (FQ L 0) E a:=h.t 0 (by simp);have hb:TH (FQ L 1) E b:=h.t 1 (by simp);have hc:TH (FQ L 2) E c:=h.t 2 (by simp);have hd:TH (FQ L 3) E d:=h.t 3 (by simp);refine ci ?_;unfold mV aY bL bz bC bB aZ;refine aT (qU sy h.sb) ?_;refine bg (by simp;omega) (by omega) (bg (by simp;omega) (by omega) ?_);refine fI rfl (bf rfl (aR (aT (dh a E I J) ?_)));refine fI rfl (bf rfl (aR (aT (dh b E I hb) ?_)));refine fI rfl (bf rfl (aR (aT (dh c E I hc) ?_)));refine fI rfl (bf rfl (aR (aT (dh d E I hd) ?_)));exact fJ rfl (ar rfl)
theorem TQ (sy:SY) (ce fu:List Int) (l:List TT) (h0:l.length<=4) (h:l.length≠4):mV (sy,ce,fu,l)=ah:=by
 unfold mV aY bL bz bC bB aZ;rcases l with _|⟨a,_|⟨b,_|⟨c,_|⟨d,_|⟨e,l⟩⟩⟩⟩⟩;all_goals first|(simp at h;done)|(exfalso;simp only[b9] at h0;omega)|simp[fR,kq,oR,r8,bcT,bcF]
theorem Z1 {E:Nat} {L:List ET} (sy:SY) (ce fu:List Int) (a b c d:TT) (h:SV E L (sy,ce,fu,[a,b,c,d])) (hce:ce.length<=1000) (hfu:fu.length<=1000):mU (sy,ce,fu,[a,b,c,d])=af ((sy.2.1,sy.1,sy.2.2.1,sy.2.2.2).1,(sy.2.1,sy.1,sy.2.2.1,sy.2.2.2).2.1,(sy.2.1,sy.1,sy.2.2.1,sy.2.2.2).2.2.1,(sy.2.1,sy.1,sy.2.2.1,sy.2.2.2).2.2.2,(([]:List Int)++ce),(([]:List Int)++fu),((((a.1,a.2.2.2),a.2.1,a.2.2.1).1.1,((a.1,a.2.2.2),a.2.1,a.2.2.1).2.1,((a.1,a.2.2.2),a.2.1,a.2.2.1).2.2,((a.1,a.2.2.2),a.2.1,a.2.2.1).1.2),((b.1,b.2.2.2),b.2.1,b.2.2.1).1.1,((b.1,b.2.2.2),b.2.1,b.2.2.1).1.2,(((c.1,c.2.2.2),c.2.1,c.2.2.1).1.1,((c.1,c.2.2.2),c.2.1,c.2.2.1).2.1,((c.1,c.2.2.2),c.2.1,c.2.2.1).2.2,((c.1,c.2.2.2),c.2.1,c.2.2.1).1.2),((d.1,d.2.2.2),d.2.1,d.2.2.1).1.1,((d.1,d.2.2.2),d.2.1,d.2.2.1).2.1,((d.1,d.2.2.2),d.2.1,d.2.2.1).2.2,((d.1,d.2.2.2),d.2.1,d.2.2.1).1.2),((b.1,b.2.2.2),b.2.1,b.2.2.1).2):=by
 have I:=h.sb.n1;have J:TH (FQ L 0) E a:=h.t 0 (by simp);have hb:TH (FQ L 1) E b:=h.t 1 (by simp);have hc:TH (FQ L 2) E c:=h.t 2 (by simp);have hd:TH (FQ L 3) E d:=h.t 3 (by simp);refine ci ?_;unfold mU aY bL bz bC bB aZ;refine aT (qU sy h.sb) ?_;refine bg (by simp;omega) (by omega) (bg (by simp;omega) (by omega) ?_);refine fI rfl (bf rfl (aR (aT (dh a E I J) ?_)));refine fI rfl (bf rfl (aR (aT (dh b E I hb) ?_)));refine fI rfl (bf rfl (aR (aT (dh c E I hc) ?_)));refine fI rfl (bf rfl (aR (aT (dh d E I hd) ?_)));exact fJ rfl (ar rfl)
theorem TO (sy:SY) (ce fu:List Int) (l:List TT) (h0:l.length<=4) (h:l.length≠4):mU (sy,ce,fu,l)=ah:=by
 unfold mU aY bL bz bC bB aZ;rcases l with _|⟨a,_|⟨b,_|⟨c,_|⟨d,_|⟨e,l⟩⟩⟩⟩⟩;all_goals first|(simp at h;done)|(exfalso;simp only[b9] at h0;omega)|simp[fR,kq,oR,r8,bcT,bcF]
theorem Z0 {E:Nat} {L:List ET} (sy:SY) (ce fu:List Int) (a b c d:TT) (h:SV E L (sy,ce,fu,[a,b,c,d])) (hce:ce.length<=1000) (hfu:fu.length<=1000):mT (sy,ce,fu,[a,b,c,d])=af ((sy.2.1,sy.1,sy.2.2.1,sy.2.2.2).1,(sy.2.1,sy.1,sy.2.2.1,sy.2.2.2).2.1,(sy.2.1,sy.1,sy.2.2.1,sy.2.2.2).2.2.1,(sy.2.1,sy.1,sy.2.2.1,sy.2.2.2).2.2.2,(([]:List Int)++ce),(([]:List Int)++fu),((((a.1,a.2.2.2),a.2.1,a.2.2.1).1.1,((a.1,a.2.2.2),a.2.1,a.2.2.1).2.1,((a.1,a.2.2.2),a.2.1,a.2.2.1).2.2,((a.1,a.2.2.2),a.2.1,a.2.2.1).1.2),(((b.1,b.2.2.2),b.2.1,b.2.2.1).1.1,((b.1,b.2.2.2),b.2.1,b.2.2.1).2.1,((b.1,b.2.2.2),b.2.1,b.2.2.1).2.2,((b.1,b.2.2.2),b.2.1,b.2.2.1).1.2),((c.1,c.2.2.2),c.2.1,c.2.2.1).1.1,((c.1,c.2.2.2),c.2.1,c.2.2.1).1.2,((d.1,d.2.2.2),d.2.1,d.2.2.1).1.1,((d.1,d.2.2.2),d.2.1,d.2.2.1).2.1,((d.1,d.2.2.2),d.2.1,d.2.2.1).2.2,((d.1,d.2.2.2),d.2.1,d.2.2.1).1.2),((c.1,c.2.2.2),c.2.1,c.2.2.1).2):=by
 have I:=h.sb.n1;have J:TH (FQ L 0) E a:=h.t 0 (by simp);have hb:TH (FQ L 1) E b:=h.t 1 (by simp);have hc:TH (FQ L 2) E c:=h.t 2 (by simp);have hd:TH (FQ L 3) E d:=h.t 3 (by simp);refine ci ?_;unfold mT aY bL bz bC bB aZ;refine aT (qU sy h.sb) ?_;refine bg (by simp;omega) (by omega) (bg (by simp;omega) (by omega) ?_);refine fI rfl (bf rfl (aR (aT (dh a E I J) ?_)));refine fI rfl (bf rfl (aR (aT (dh b E I hb) ?_)));refine fI rfl (bf rfl (aR (aT (dh c E I hc) ?_)));refine fI rfl (bf rfl (aR (aT (dh d E I hd) ?_)));exact fJ rfl (ar rfl)
theorem TN (sy:SY) (ce fu:List Int) (l:List TT) (h0:l.length<=4) (h:l.length≠4):mT (sy,ce,fu,l)=ah:=by
 unfold mT aY bL bz bC bB aZ;rcases l with _|⟨a,_|⟨b,_|⟨c,_|⟨d,_|⟨e,l⟩⟩⟩⟩⟩;all_goals first|(simp at h;done)|(exfalso;simp only[b9] at h0;omega)|simp[fR,kq,oR,r8,bcT,bcF]
theorem ZZ {E:Nat} {L:List ET} (sy:SY) (ce fu:List Int) (a b c d:TT) (h:SV E L (sy,ce,fu,[a,b,c,d])) (hce:ce.length<=1000) (hfu:fu.length<=1000):mS (sy,ce,fu,[a,b,c,d])=af ((sy.2.1,sy.1,sy.2.2.1,sy.2.2.2).1,(sy.2.1,sy.1,sy.2.2.1,sy.2.2.2).2.1,(sy.2.1,sy.1,sy.2.2.1,sy.2.2.2).2.2.1,(sy.2.1,sy.1,sy.2.2.1,sy.2.2.2).2.2.2,(([]:List Int)++ce),(([]:List Int)++fu),((((a.1,a.2.2.2),a.2.1,a.2.2.1).1.1,((a.1,a.2.2.2),a.2.1,a.2.2.1).2.1,((a.1,a.2.2.2),a.2.1,a.2.2.1).2.2,((a.1,a.2.2.2),a.2.1,a.2.2.1).1.2),(((b.1,b.2.2.2),b.2.1,b.2.2.1).1.1,((b.1,b.2.2.2),b.2.1,b.2.2.1).2.1,((b.1,b.2.2.2),b.2.1,b.2.2.1).2.2,((b.1,b.2.2.2),b.2.1,b.2.2.1).1.2),(((c.1,c.2.2.2),c.2.1,c.2.2.1).1.1,((c.1,c.2.2.2),c.2.1,c.2.2.1).2.1,((c.1,c.2.2.2),c.2.1,c.2.2.1).2.2,((c.1,c.2.2.2),c.2.1,c.2.2.1).1.2),((d.1,d.2.2.2),d.2.1,d.2.2.1).1),((d.1,d.2.2.2),d.2.1,d.2.2.1).2):=by
 have I:=h.sb.n1;have J:TH (FQ L 0) E a:=h.t 0 (by simp);have hb:TH (FQ L 1) E b:=h.t 1 (by simp);have hc:TH (FQ L 2) E c:=h.t 2 (by simp);have hd:TH (FQ L 3) E d:=h.t 3 (by simp);refine ci ?_;unfold mS aY bL bz bC bB aZ;refine aT (qU sy h.sb) ?_;refine bg (by simp;omega) (by omega) (bg (by simp;omega) (by omega) ?_);refine fI rfl (bf rfl (aR (aT (dh a E I J) ?_)));refine fI rfl (bf rfl (aR (aT (dh b E I hb) ?_)));refine fI rfl (bf rfl (aR (aT (dh c E I hc) ?_)));refine fI rfl (bf rfl (aR (aT (dh d E I hd) ?_)));exact fJ rfl (ar rfl)
theorem TK (sy:SY) (ce fu:List Int) (l:List TT) (h0:l.length<=4) (h:l.length≠4):mS (sy,ce,fu,l)=ah:=by
 unfold mS aY bL bz bC bB aZ;rcases l with _|⟨a,_|⟨b,_|⟨c,_|⟨d,_|⟨e,l⟩⟩⟩⟩⟩;all_goals first|(simp at h;done)|(exfalso;simp only[b9] at h0;omega)|simp[fR,kq,oR,r8,bcT,bcF]
theorem kdx (k:Int):k=1\/k=16\/k=2\/k=3\/k=23\/k=4\/k=22\/k=5\/((k=1)=False/\(k=16)=False/\(k=2)=False/\(k=3)=False/\(k=23)=False/\(k=4)=False/\(k=22)=False/\(k=5)=False):=by
 by_cases h:k=1\/k=16\/k=2\/k=3\/k=23\/k=4\/k=22\/k=5
 .omega
 .repeat (first|exact⟨eq_false (by omega),eq_false (by omega),eq_false (by omega),eq_false (by omega),eq_false (by omega),eq_false (by omega),eq_false (by omega),eq_false (by omega)⟩|refine Or.inr ?_)
def KR {Z:Type} (n:Nat) (I:CT) (L:List ET) (i:Nat) (u:Int) (l:List TT) (z:Z) (k:Int->(CT×SY×(Int×Int)×Int×(Int×Int×Int×Int×Int)×ET×(Int×Int)×(List Int)×(List Int)×Z×(List Int)×List (List Int))->Option (ST×ET×Bool)):Prop:=
 ∀ (F:Int->Prop) (p:Int) (sy:SY) (kd o v si:Int) (ds fs ce fu R:List Int) (T:List (List Int)) (ev:Int),
  (kd≠16->kd≠2->Ok (m8 (aK (T:=v_) I.2 (i:Int),(p,R,T,bk .i64 (ev+1)))) λy=>TH F (n+1) y.1/\(y.1.2.1.length=0\/y.1.2.2.2=bk .i64 (ev+1)))->
  (kd=16\/kd=2->TH F (n+1) (p,R,T,bk .i64 (ev+1)))->
  (∀ t',TH F (n+1) t'->(t'.2.1.length=0\/t'.2.2.2=bk .i64 (ev+1)/\(kd=16->t'.1=p))->SQ n I L ((sy,ce,fu,l.set i t'),((i:Int),kd,o,v,si,ds,fs),ai))->(i:Int)<(I.2.length:Int)->
  ∀ J,Ok (k p (I,sy,((i:Int),u),0,(0,0,0,0,0),((i:Int),kd,o,v,si,ds,fs),(J,ev),ce,fu,z,R,T)) (SQ n I L)
theorem BF {Z:Type} (N i:Nat) {M:SY×(List Int)×(List Int)×List TT->Option (Int×(List (Int×List Int))×(List Bool)×(List (Int×Int×Bool))×(List Int)×(List Int)×Z×(List Int)×List (List Int))} {pc ev:Z->Int} {k:Int->(CT×SY×(Int×Int)×Int×(Int×Int×Int×Int×Int)×ET×(Int×Int)×(List Int)×(List Int)×Z×(List Int)×List (List Int))->Option (ST×ET×Bool)} {n:Nat} (hn:n+1<=100000) (I:CT) (L:List ET) (s:ST) (t u:Int) (hc:CB I) (hs:SV n L s) (hI:Ls I L s)
 (h0:∀ sy ce fu (l:List TT),l.length<=4->l.length≠N->M (sy,ce,fu,l)=ah)
 (h1:∀ sy ce fu (l:List TT),SV n L (sy,ce,fu,l)->ce.length<=1000->fu.length<=1000->l.length=N->i<N/\∃ y,M (sy,ce,fu,l)=af y/\y.2.2.2.2.1=ce/\y.2.2.2.2.2.1=fu/\y.2.2.2.2.2.2.2.1=(aK (T:=uS) l (i:Int)).2.1/\y.2.2.2.2.2.2.2.2=(aK (T:=uS) l (i:Int)).2.2.1/\pc y.2.2.2.2.2.2.1=(aK (T:=uS) l (i:Int)).1/\ev y.2.2.2.2.2.2.1=(aK (T:=uS) l (i:Int)).2.2.2/\KR n I L i u l y.2.2.2.2.2.2.1 k):
 Qg (SG (i:Int) M pc ev k (I,s,t,u)) (SQ n I L)/\(s.2.2.2.length=N->t=(i:Int)->Ok (SG (i:Int) M pc ev k (I,s,t,u)) (SQ n I L)):=by
 by_cases hz:s.2.2.2.length=N/\t=(i:Int)
 .obtain⟨U,rfl⟩:=hz;suffices h:Ok (SG (i:Int) M pc ev k (I,s,(i:Int),u)) (SQ n I L) from ⟨.inr h,λ_ _=>h⟩
  unfold SG Ej Prod.p11 Prod.p12 aY bh bx cC dW kE Ah Cy Prod.q10 Prod.q11 Prod.q13 bL dA kD Prod.q9 ck be bB kB aF;refine Ip hn hc hs hI (λo=>Ok o (SQ n I L)) (λy h=>ar h) _ λe v sy hp hm he hr ha hq=>?_
  obtain⟨sy0,ce,fu,l⟩:=s;obtain⟨e1,kd,o,e4,site,ds,fs⟩:=e;have het:=hp.et;dsimp only at U he hr ha hq het;subst het;have vl:=hp.fs.vc.vl;have hce:=hp.fs.ce;have hfu:=hp.fs.fu;dsimp only at hce hfu;obtain⟨hiN,⟨q1,q2,q3,q4,ce',fu',z,R0,T0⟩,hcp,g1,g2,g3,g4,hpc,hve,hk⟩:=h1 sy0 ce fu l hs (by have:=vl.c;omega) (by have:=vl.f;omega) U;dsimp only at g1 g2 g3 g4 hpc hve hk;rw[g1,g2,g3,g4] at hcp;obtain⟨_,_,nmce,_,_,_,nmfu,_,_,_⟩:=id he.nm;have t1:(i:Int)<(I.2.length:Int):=hp.t1;have htf:TF (aK (T:=v_) I.2 (i:Int)) (aK (T:=uS) l (i:Int)):=hp.fs.t i (by omega);have hA:=hp.a;have Y:=hp.b;dsimp only at hA Y;have hvt:=hp.fs.vc.t _ (bJ (T:=v_) (xs:=I.2) (j:=(i:Int)) (by omega) t1);have hci:=hc.ins _ (bJ (T:=v_) (xs:=I.2) (j:=(i:Int)) (by omega) t1);have hth:TH (FQ L (i:Int)) n (aK (T:=uS) l (i:Int)):=hs.t i (by dsimp only;omega);have done:=agx hn hs hI hp hm he hr ha;have htg:=hm.tg;have hrun:=hr.r;dsimp only at done htg;have hgv:kd=3\/kd=23->FQ (L++[((i:Int),kd,o,e4,site,ds,fs)]) (i:Int) (aK (T:=uS) l (i:Int)).2.2.2:=λh3=>by
   have h2:=hrun (by omega) (by omega);have hn0:¬(fl L (i:Int)).length=0:=λh=>(htg.nw h).elim (λg=>cR (h2.symm.trans g) (by decide)) λg=>cR (h2.symm.trans g) (by decide)
   refine ⟨by rw[htg.ev];omega,Lg.last (e:=((i:Int),kd,o,e4,site,ds,fs)) ?_ htg.ev⟩;unfold tH;rcases h3 with h|h
   .rw[aQ h];rfl
   .simp[h]
  have vaA:¬kd=3->¬kd=23->¬kd=5->VA I.1 sy0 ce fu (i:Int) kd o v:=λa b c=>⟨λh=>(a h).elim,λh=>(b h).elim,λh=>(c h).elim,λ_ _ _ _ _=>by rw[Ti hq]⟩
  have apA:(rh I.1 sy0 (i:Int) kd o v).1=sy:=by rw[Ti hq]
  have apB:¬kd=18->∀ v',(rh I.1 sy0 (i:Int) kd o v').1=sy:=λh v'=>by rw[X2 _ _ _ _ _ _ u h,<-hq]
  have keep:∀ x∈(aK (T:=uS) l (i:Int)).2.2.1,TL (FQ (L++[((i:Int),kd,o,e4,site,ds,fs)]) (i:Int)) (n+1) x:=λx hx=>(hth.l x hx).mono (by omega) λy J=>⟨J.1,J.2.app _⟩
  clear g3 g4 hm hI hrun htg;revert done hgv keep;generalize FQ (L++[((i:Int),kd,o,e4,site,ds,fs)]) (i:Int)=F;generalize aK (T:=uS) l (i:Int)=th at hcp hpc hve htf hA Y hth ⊢;intro done hgv keep;refine aT hcp ?_;dsimp only;rw[hpc,hve];refine fI (aQ rfl) ?_;refine aS (by omega) t1 (aR (aS htf.p0 htf.p1 (aR ?_)));have htz:th.2.2.1.length=th.2.1.length:=by have:=htf.r;have:=htf.t;omega
  have fin:∀ (p:Int) (R:List Int) (T:List (List Int)),R.length=th.2.1.length->T.length=th.2.2.1.length->(∀ x∈T,TL F (n+1) x)->Ok (m8 (aK (T:=v_) I.2 (i:Int),(p,R,T,bk .i64 (th.2.2.2+1)))) λy=>TH F (n+1) y.1/\(y.1.2.1.length=0\/y.1.2.2.2=bk .i64 (th.2.2.2+1)):=λp R T h1 h2 h3=>by
   have a1:=hth.e0;have a2:=hth.e1;have a3:=hth.r;have a4:=hth.t;rw[ig (n:=th.2.2.2+1) (by omega) (by omega)];exact ZI (n+1) hn _ hci hvt _ ⟨by dsimp only;omega,by dsimp only;omega,h3,by dsimp only;omega,by dsimp only;omega⟩
  have mark:kd=3\/kd=23->∀ j:Int,∀ x∈cQ th.2.2.1 j [th.2.2.2],TL F (n+1) x:=λh3 j x hx=>by
   rcases CL hx with h|h
   .exact keep x h
   .rw[h];exact⟨⟨λy J=>(by cases J),trivial⟩,λy J=>by rw[aL] at J;have:=hth.e0;have:=hth.e1;rw[J];exact⟨by omega,by omega⟩,λy J=>by rw[aL] at J;rw[J];exact hgv h3⟩
  have nopark:TH F (n+1) (th.1,th.2.1,th.2.2.1,bk .i64 (th.2.2.2+1)):=by
   have a1:=hth.e0;have a2:=hth.e1;rw[ig (n:=th.2.2.2+1) (by omega) (by omega)];exact⟨hth.r,hth.t,keep,by dsimp only;omega,by dsimp only;omega⟩
  clear hp hs hc h0 h1 hcp g1 g2 hr ha hq he;generalize (aK (T:=BO) (aK (T:=v_) I.2 (i:Int)).2 th.1)=ins at hA Y ⊢;rcases kdx kd with rfl|rfl|rfl|rfl|rfl|rfl|rfl|rfl|⟨k1,k2,k3,k4,k5,k6,k7,k8⟩
  case inr.inr.inr.inr.inr.inr.inr.inr=>
   simp only[k1,k2,k3,k4,k5,k6,k7,k8,aV,bt,tj];refine hk F _ _ _ _ _ _ _ _ _ _ _ _ _ (λ_ _=>fin _ _ _ rfl rfl keep) (λh=>by rw[k2,k3] at h;exact (h.elim id id).elim) (λt' h g=>?_) t1 _;exact done v ce fu t' apA (vaA (of_eq_false k4) (of_eq_false k5) (of_eq_false k8)) (ay (of_eq_false k6)).symm (ay (of_eq_false k7)).symm h (g.imp id λh=>⟨h.1,λh2=>(of_eq_false k2 h2).elim⟩)
  all_goals simp only[aV,bt,tj]
  .refine hk F _ _ _ _ _ _ _ _ _ _ _ _ _ (λ_ _=>fin _ _ _ rfl rfl keep) (λh=>by omega) (λt' h g=>?_) t1 _;exact done v ce fu t' apA (vaA (by decide) (by decide) (by decide)) rfl rfl h (g.imp id λh=>⟨h.1,λh2=>(by cases h2)⟩)
  .refine hk F _ _ _ _ _ _ _ _ _ _ _ _ _ (λh _=>(h rfl).elim) (λ_=>nopark) (λt' h g=>?_) t1 _;exact done v ce fu t' apA (vaA (by decide) (by decide) (by decide)) rfl rfl h g
  .refine hk F _ _ _ _ _ _ _ _ _ _ _ _ _ (λ_ h=>(h rfl).elim) (λ_=>nopark) (λt' h g=>?_) t1 _;exact done v ce fu t' apA (vaA (by decide) (by decide) (by decide)) rfl rfl h (g.imp id λh=>⟨h.1,λh2=>(by cases h2)⟩)
  .obtain⟨o0,o1⟩:=nmce (.inl rfl);rw[<- hce] at o1;obtain⟨a0,a1⟩:=hA (.inl rfl);have a2:ins.2.1<(th.2.2.1.length:Int):=by rw[htz];exact a1
   refine gj (aS o0 o1 (aS o0 o1 (ar ?_)));simp only[aV,bt,tj];refine gj (aS a0 a1 (aS a0 a1 (aS a0 a2 (aS a0 a2 (ar ?_)))));refine hk F _ _ _ _ _ _ _ _ _ _ _ _ _ (λ_ _=>fin _ _ _ (bW ..) (bW ..) (mark (.inl rfl) _)) (λh=>by omega) (λt' h g=>?_) t1 _;exact done _ ce fu t' (apB (by decide) _) ⟨λ_=>rfl,λh=>(by cases h),λh=>(by cases h),λh=>(h rfl).elim⟩ rfl rfl h (g.imp id λh=>⟨h.1,λh2=>(by cases h2)⟩)
  .obtain⟨o0,o1⟩:=nmfu (.inr rfl);rw[<- hfu] at o1;obtain⟨a0,a1⟩:=hA (.inr (.inl rfl));have a2:ins.2.1<(th.2.2.1.length:Int):=by rw[htz];exact a1
   refine gj (aS o0 o1 (aS o0 o1 (ar ?_)));simp only[aV,bt,tj];refine gj (aS a0 a1 (aS a0 a1 (aS a0 a2 (aS a0 a2 (ar ?_)))));refine hk F _ _ _ _ _ _ _ _ _ _ _ _ _ (λ_ _=>fin _ _ _ (bW ..) (bW ..) (mark (.inr rfl) _)) (λh=>by omega) (λt' h g=>?_) t1 _;exact done _ ce fu t' (apB (by decide) _) ⟨λh=>(by cases h),λ_=>rfl,λh=>(by cases h),λ_ h=>(h rfl).elim⟩ rfl rfl h (g.imp id λh=>⟨h.1,λh2=>(by cases h2)⟩)
  .obtain⟨o0,o1⟩:=nmce (.inr rfl);rw[<- hce] at o1;obtain⟨a0,a1⟩:=Y (.inl rfl);refine gj (aS a0 a1 (aS a0 a1 (aS o0 o1 (aS o0 o1 (ar ?_)))));simp only[aV,bt,tj];refine hk F _ _ _ _ _ _ _ _ _ _ _ _ _ (λ_ _=>fin _ _ _ rfl rfl keep) (λh=>by omega) (λt' h g=>?_) t1 _;exact done _ _ fu t' (apB (by decide) _) ⟨λh=>(by cases h),λh=>(by cases h),λh=>(by cases h),λ_ _ _ h=>(h rfl).elim⟩ rfl rfl h (g.imp id λh=>⟨h.1,λh2=>(by cases h2)⟩)
  .obtain⟨o0,o1⟩:=nmfu (.inl rfl);rw[<- hfu] at o1;obtain⟨a0,a1⟩:=Y (.inr rfl);refine gj (aS a0 a1 (aS a0 a1 (aS o0 o1 (aS o0 o1 (ar ?_)))));simp only[aV,bt,tj];refine hk F _ _ _ _ _ _ _ _ _ _ _ _ _ (λ_ _=>fin _ _ _ rfl rfl keep) (λh=>by omega) (λt' h g=>?_) t1 _;exact done _ ce _ t' (apB (by decide) _) ⟨λh=>(by cases h),λh=>(by cases h),λh=>(by cases h),λ_ _ _ _ h=>(h rfl).elim⟩ rfl rfl h (g.imp id λh=>⟨h.1,λh2=>(by cases h2)⟩)
  .obtain⟨a0,a1⟩:=hA (.inr (.inr rfl));refine gj (aS a0 a1 (aS a0 a1 (aJ (λ_=>ar ?_) λ_=>ar ?_)));all_goals
    simp only[aV,bt,tj];refine hk F _ _ _ _ _ _ _ _ _ _ _ _ _ (λ_ _=>fin _ _ _ rfl rfl keep) (λh=>by omega) (λt' h g=>?_) t1 _;exact done _ ce fu t' (apB (by decide) _) ⟨λh=>(by cases h),λh=>(by cases h),λ_=>(by decide),λ_ _ h=>(h rfl).elim⟩ rfl rfl h (g.imp id λh=>⟨h.1,λh2=>(by cases h2)⟩)
 .refine ⟨?_,λh1 h2=>(hz ⟨h1,h2⟩).elim⟩;unfold SG Ej Prod.p11 Prod.p12 aY bh bx cC dW kE Ah Cy Prod.q10 Prod.q11 Prod.q13 bL dA kD Prod.q9 ck be bB kB aF;refine Ip hn hc hs hI (λo=>Qg o (SQ n I L)) (λy h=>.inr (ar h)) _ λe v sy hp _ _ _ _ _=>.inl ?_
  obtain⟨sy0,ce,fu,l⟩:=s;have vl:=hp.fs.vc.vl;by_cases hl:l.length=N
  .have ht:¬t=(i:Int):=λh=>hz ⟨hl,h⟩
   dsimp only;cases M (sy0,ce,fu,l) with
   |none=>rfl
   |some y=>rw[Xl,bw ht];rfl
  .show obind (M (sy0,ce,fu,l)) _=ah;rw[h0 sy0 ce fu l (by have h1:l.length=I.2.length:=hp.fs.th;have:=hp.fs.vc.tl;have:=vl.t;omega) hl];rfl
theorem BG {Z W V:Type} {n:Nat} {U:CT} {L:List ET} {i:Nat} {u:Int} {l:List TT} {z:Z} {t1:Z->List Int->List (List Int)->W} {J:W->V} {I:V->TT->List TT} (Y:∀ R T t',I (J (t1 z R T)) t'=l.set i t'):KR n U L i u l z (KG (i:Int) t1 J I):=by
 intro F p sy kd o v si ds fs ce fu R T ev fin park done ht pc;unfold KG Ej aY bh bx cC dW kE Ah Cy Prod.q10 Prod.q11 qa be iV bB aF cD;dsimp only;have done:∀ t',TH F (n+1) t'->(t'.2.1.length=0\/t'.2.2.2=bk .i64 (ev+1)/\(kd=16->t'.1=p))->SQ n U L ((sy,ce,fu,I (J (t1 z R T)) t'),((i:Int),kd,o,v,si,ds,fs),ai):=λt' h g=>by rw[Y];exact done t' h g
 by_cases h1:kd=16
 .subst h1;exact gj (gj (fJ rfl (ar (fJ rfl (ar (fI (aQ rfl) (ar (done _ (park (.inl rfl)) (.inr ⟨rfl,λ_=>rfl⟩)))))))))
 by_cases h2:kd=2
 .subst h2;exact gj (gj (fI rfl (ar (fJ rfl (ar (fI (aQ rfl) (ar (done _ (park (.inr rfl)) (.inr ⟨rfl,λh=>(by cases h)⟩)))))))))
 rw[bw h1,bw h2];exact gj (gj (fI rfl (ar (fI rfl (aS (dT i) ht (aR (ax (fin h1 h2) λy M=>ar (fI (aQ rfl) (ar (done _ M.1 (M.2.imp id λh=>⟨h,λh2=>(h1 h2).elim⟩)))))))))))
theorem Zy {n:Nat} (hn:n+1<=100000) (I:CT) (L:List ET) (s:ST) (t u:Int) (hc:CB I) (hs:SV n L s) (J:Ls I L s):Qg (mR (I,s,t,u)) (SQ n I L)/\(s.2.2.2.length=4->t=0->Ok (mR (I,s,t,u)) (SQ n I L)):=by
 refine BF 4 0 hn I L s t u hc hs J TQ λsy ce fu l hs hce hfu hl=>⟨by decide,?_⟩
 obtain⟨a,b,c,d,rfl⟩:∃ a b c d,l=[a,b,c,d]:=by
  rcases l with _|⟨a,_|⟨b,_|⟨c,_|⟨d,_|⟨e,l⟩⟩⟩⟩⟩;all_goals first|exact⟨_,_,_,_,rfl⟩|(simp at hl;done)|(exfalso;simp only[b9] at hl;omega)
 refine ⟨_,Z2 sy ce fu a b c d hs hce hfu,rfl,rfl,rfl,rfl,rfl,rfl,BG λR T t'=>rfl⟩
theorem Zx {n:Nat} (hn:n+1<=100000) (I:CT) (L:List ET) (s:ST) (t u:Int) (hc:CB I) (hs:SV n L s) (J:Ls I L s):Qg (mQ (I,s,t,u)) (SQ n I L)/\(s.2.2.2.length=4->t=1->Ok (mQ (I,s,t,u)) (SQ n I L)):=by
 refine BF 4 1 hn I L s t u hc hs J TO λsy ce fu l hs hce hfu hl=>⟨by decide,?_⟩
 obtain⟨a,b,c,d,rfl⟩:∃ a b c d,l=[a,b,c,d]:=by
  rcases l with _|⟨a,_|⟨b,_|⟨c,_|⟨d,_|⟨e,l⟩⟩⟩⟩⟩;all_goals first|exact⟨_,_,_,_,rfl⟩|(simp at hl;done)|(exfalso;simp only[b9] at hl;omega)
 refine ⟨_,Z1 sy ce fu a b c d hs hce hfu,rfl,rfl,rfl,rfl,rfl,rfl,BG λR T t'=>rfl⟩
theorem Zw {n:Nat} (hn:n+1<=100000) (I:CT) (L:List ET) (s:ST) (t u:Int) (hc:CB I) (hs:SV n L s) (J:Ls I L s):Qg (lq (I,s,t,u)) (SQ n I L)/\(s.2.2.2.length=4->t=2->Ok (lq (I,s,t,u)) (SQ n I L)):=by
 refine BF 4 2 hn I L s t u hc hs J TN λsy ce fu l hs hce hfu hl=>⟨by decide,?_⟩
 obtain⟨a,b,c,d,rfl⟩:∃ a b c d,l=[a,b,c,d]:=by
  rcases l with _|⟨a,_|⟨b,_|⟨c,_|⟨d,_|⟨e,l⟩⟩⟩⟩⟩;all_goals first|exact⟨_,_,_,_,rfl⟩|(simp at hl;done)|(exfalso;simp only[b9] at hl;omega)
 refine ⟨_,Z0 sy ce fu a b c d hs hce hfu,rfl,rfl,rfl,rfl,rfl,rfl,BG λR T t'=>rfl⟩
theorem Zv {n:Nat} (hn:n+1<=100000) (I:CT) (L:List ET) (s:ST) (t u:Int) (hc:CB I) (hs:SV n L s) (J:Ls I L s):Qg (j_ (I,s,t,u)) (SQ n I L)/\(s.2.2.2.length=4->t=3->Ok (j_ (I,s,t,u)) (SQ n I L)):=by
 refine BF 4 3 hn I L s t u hc hs J TK λsy ce fu l hs hce hfu hl=>⟨by decide,?_⟩
 obtain⟨a,b,c,d,rfl⟩:∃ a b c d,l=[a,b,c,d]:=by
  rcases l with _|⟨a,_|⟨b,_|⟨c,_|⟨d,_|⟨e,l⟩⟩⟩⟩⟩;all_goals first|exact⟨_,_,_,_,rfl⟩|(simp at hl;done)|(exfalso;simp only[b9] at hl;omega)
 refine ⟨_,ZZ sy ce fu a b c d hs hce hfu,rfl,rfl,rfl,rfl,rfl,rfl,BG λR T t'=>rfl⟩
theorem ZB {n:Nat} (hn:n+1<=100000) (I:CT) (L:List ET) (s:ST) (t u:Int) (hc:CB I) (hs:SV n L s) (J:Ls I L s):Qg (js (I,s,t,u)) (SQ n I L)/\(s.2.2.2.length=3->t=0->Ok (js (I,s,t,u)) (SQ n I L)):=by
 refine BF 3 0 hn I L s t u hc hs J TX λsy ce fu l hs hce hfu hl=>⟨by decide,?_⟩
 obtain⟨a,b,c,rfl⟩:∃ a b c,l=[a,b,c]:=by
  rcases l with _|⟨a,_|⟨b,_|⟨c,_|⟨d,_|⟨e,l⟩⟩⟩⟩⟩;all_goals first|exact⟨_,_,_,rfl⟩|(simp at hl;done)|(exfalso;simp only[b9] at hl;omega)
 refine ⟨_,Z5 sy ce fu a b c hs hce hfu,rfl,rfl,rfl,rfl,rfl,rfl,BG λR T t'=>rfl⟩
theorem ZA {n:Nat} (hn:n+1<=100000) (I:CT) (L:List ET) (s:ST) (t u:Int) (hc:CB I) (hs:SV n L s) (J:Ls I L s):Qg (iI (I,s,t,u)) (SQ n I L)/\(s.2.2.2.length=3->t=1->Ok (iI (I,s,t,u)) (SQ n I L)):=by
 refine BF 3 1 hn I L s t u hc hs J TW λsy ce fu l hs hce hfu hl=>⟨by decide,?_⟩
 obtain⟨a,b,c,rfl⟩:∃ a b c,l=[a,b,c]:=by
  rcases l with _|⟨a,_|⟨b,_|⟨c,_|⟨d,_|⟨e,l⟩⟩⟩⟩⟩;all_goals first|exact⟨_,_,_,rfl⟩|(simp at hl;done)|(exfalso;simp only[b9] at hl;omega)
 refine ⟨_,Z4 sy ce fu a b c hs hce hfu,rfl,rfl,rfl,rfl,rfl,rfl,BG λR T t'=>rfl⟩
theorem Zz {n:Nat} (hn:n+1<=100000) (I:CT) (L:List ET) (s:ST) (t u:Int) (hc:CB I) (hs:SV n L s) (J:Ls I L s):Qg (hZ (I,s,t,u)) (SQ n I L)/\(s.2.2.2.length=3->t=2->Ok (hZ (I,s,t,u)) (SQ n I L)):=by
 refine BF 3 2 hn I L s t u hc hs J TU λsy ce fu l hs hce hfu hl=>⟨by decide,?_⟩
 obtain⟨a,b,c,rfl⟩:∃ a b c,l=[a,b,c]:=by
  rcases l with _|⟨a,_|⟨b,_|⟨c,_|⟨d,_|⟨e,l⟩⟩⟩⟩⟩;all_goals first|exact⟨_,_,_,rfl⟩|(simp at hl;done)|(exfalso;simp only[b9] at hl;omega)
 refine ⟨_,Z3 sy ce fu a b c hs hce hfu,rfl,rfl,rfl,rfl,rfl,rfl,BG λR T t'=>rfl⟩
theorem ZD {n:Nat} (hn:n+1<=100000) (I:CT) (L:List ET) (s:ST) (t u:Int) (hc:CB I) (hs:SV n L s) (J:Ls I L s):Qg (gF (I,s,t,u)) (SQ n I L)/\(s.2.2.2.length=2->t=0->Ok (gF (I,s,t,u)) (SQ n I L)):=by
 refine BF 2 0 hn I L s t u hc hs J TZ λsy ce fu l hs hce hfu hl=>⟨by decide,?_⟩
 obtain⟨a,b,rfl⟩:∃ a b,l=[a,b]:=by
  rcases l with _|⟨a,_|⟨b,_|⟨c,_|⟨d,_|⟨e,l⟩⟩⟩⟩⟩;all_goals first|exact⟨_,_,rfl⟩|(simp at hl;done)|(exfalso;simp only[b9] at hl;omega)
 refine ⟨_,Z7 sy ce fu a b hs hce hfu,rfl,rfl,rfl,rfl,rfl,rfl,BG λR T t'=>rfl⟩
theorem ZC {n:Nat} (hn:n+1<=100000) (I:CT) (L:List ET) (s:ST) (t u:Int) (hc:CB I) (hs:SV n L s) (J:Ls I L s):Qg (gd (I,s,t,u)) (SQ n I L)/\(s.2.2.2.length=2->t=1->Ok (gd (I,s,t,u)) (SQ n I L)):=by
 refine BF 2 1 hn I L s t u hc hs J TY λsy ce fu l hs hce hfu hl=>⟨by decide,?_⟩
 obtain⟨a,b,rfl⟩:∃ a b,l=[a,b]:=by
  rcases l with _|⟨a,_|⟨b,_|⟨c,_|⟨d,_|⟨e,l⟩⟩⟩⟩⟩;all_goals first|exact⟨_,_,rfl⟩|(simp at hl;done)|(exfalso;simp only[b9] at hl;omega)
 refine ⟨_,Z6 sy ce fu a b hs hce hfu,rfl,rfl,rfl,rfl,rfl,rfl,BG λR T t'=>rfl⟩
theorem ZF {n:Nat} (hn:n+1<=100000) (I:CT) (L:List ET) (s:ST) (t u:Int) (hc:CB I) (hs:SV n L s) (J:Ls I L s):Qg (gf (I,s,t,u)) (SQ n I L)/\(s.2.2.2.length=1->t=0->Ok (gf (I,s,t,u)) (SQ n I L)):=by
 refine BF 1 0 hn I L s t u hc hs J T2 λsy ce fu l hs hce hfu hl=>⟨by decide,?_⟩
 obtain⟨a,rfl⟩:∃ a,l=[a]:=by
  rcases l with _|⟨a,_|⟨b,_|⟨c,_|⟨d,_|⟨e,l⟩⟩⟩⟩⟩;all_goals first|exact⟨_,rfl⟩|(simp at hl;done)|(exfalso;simp only[b9] at hl;omega)
 refine ⟨_,Z8 sy ce fu a hs hce hfu,rfl,rfl,rfl,rfl,rfl,rfl,BG λR T t'=>rfl⟩
theorem ZG {n:Nat} (hn:n+1<=100000) (c:CT) (L:List ET) (s:ST) (t u:Int) (hc:CB c) (hs:SV n L s) (Z:Ls c L s):Ok (Ap (c,s,t,u)) (SQ n c L):=by
 unfold Ap;have I:=Zy hn c L s t u hc hs Z;have J:=Zx hn c L s t u hc hs Z;have M:=Zw hn c L s t u hc hs Z;have U:=Zv hn c L s t u hc hs Z;have Y:=ZB hn c L s t u hc hs Z;have a31:=ZA hn c L s t u hc hs Z;have a32:=Zz hn c L s t u hc hs Z;have a20:=ZD hn c L s t u hc hs Z;have a21:=ZC hn c L s t u hc hs Z;have a10:=ZF hn c L s t u hc hs Z;by_cases hz:s.2.2.2.length<=4/\0<=t/\t<(s.2.2.2.length:Int)
 .obtain⟨h1,h2,h3⟩:=hz;have:(s.2.2.2.length=4/\t=0)\/(s.2.2.2.length=4/\t=1)\/(s.2.2.2.length=4/\t=2)\/(s.2.2.2.length=4/\t=3)\/(s.2.2.2.length=3/\t=0)\/(s.2.2.2.length=3/\t=1)\/(s.2.2.2.length=3/\t=2)\/(s.2.2.2.length=2/\t=0)\/(s.2.2.2.length=2/\t=1)\/(s.2.2.2.length=1/\t=0):=by omega
  rcases this with h|h|h|h|h|h|h|h|h|h
  .exact (I.2 h.1 h.2).orL
  .exact I.1.orR (J.2 h.1 h.2).orL
  .exact I.1.orR (J.1.orR (M.2 h.1 h.2).orL)
  .exact I.1.orR (J.1.orR (M.1.orR (U.2 h.1 h.2).orL))
  .exact I.1.orR (J.1.orR (M.1.orR (U.1.orR (Y.2 h.1 h.2).orL)))
  .exact I.1.orR (J.1.orR (M.1.orR (U.1.orR (Y.1.orR (a31.2 h.1 h.2).orL))))
  .exact I.1.orR (J.1.orR (M.1.orR (U.1.orR (Y.1.orR (a31.1.orR (a32.2 h.1 h.2).orL)))))
  .exact I.1.orR (J.1.orR (M.1.orR (U.1.orR (Y.1.orR (a31.1.orR (a32.1.orR (a20.2 h.1 h.2).orL))))))
  .exact I.1.orR (J.1.orR (M.1.orR (U.1.orR (Y.1.orR (a31.1.orR (a32.1.orR (a20.1.orR (a21.2 h.1 h.2).orL)))))))
  .exact I.1.orR (J.1.orR (M.1.orR (U.1.orR (Y.1.orR (a31.1.orR (a32.1.orR (a20.1.orR (a21.1.orR (a10.2 h.1 h.2)))))))))
 .refine Ok.orL ?_;unfold mR aY bh dA;refine Ip hn hc hs Z (λo=>Ok o (SQ n c L)) (λy h=>ar h) _ λe v sy hp _ _ _ _ _=>(hz ?_).elim
  have h1:s.2.2.2.length=c.2.length:=hp.fs.th;have h2:c.2.length=c.1.2.2.2.2.1.length:=hp.fs.vc.tl;have h3:c.1.2.2.2.2.1.length<=4:=hp.fs.vc.vl.t;have h4:0<=t:=hp.t0;have h5:t<(c.2.length:Int):=hp.t1;exact⟨by omega,h4,by omega⟩
theorem afp (c:CT) (s:ST) (l:List (Int×Int)) (hc:CB c) (hs:SV 0 [] s) (hI:Ls c [] s) (hl:l.length<=9223372036854775806):Ok (wA (c,s,l)) λy=>y.1.length<=400/\(∀ e∈y.1,EvF c.1 e/\ZX e)/\∃ sy ce fu,Acw c.1 y.1 sy ce fu:=by
 unfold wA aY bh dA bz bC bB aZ cK aF cD;refine qe (λx=>((l.length:Int)-x.1).toNat) (λx=>0<=x.1/\x.2.2.1=c/\SV x.2.1.length x.2.1 x.2.2.2.1/\Ls c x.2.1 x.2.2.2.1/\x.2.1.length<=400/\∀ e∈x.2.1,EvF c.1 e/\ZX e) ?_ ⟨eR _,rfl,hs,hI,by simp,λe he=>(by cases he)⟩;rintro⟨(i:Int),es,c',s',z⟩ ⟨U,e1,e2,eI,e3,I⟩;dsimp only at U e1 e2 eI e3 I;subst e1;refine aX (λx=>x.2=(es,c',s',z)/\(x.1=ai->i<(l.length:Int)/\es.length<400)) ?_ ?_
 .refine bI (λg=>ar ⟨rfl,λh=>⟨g,?_⟩⟩) λ_=>ar ⟨rfl,λh=>(by cases h)⟩
  dsimp only at h;rw[tO] at h;dsimp only[au] at h;omega
 rintro⟨b,x⟩ ⟨Z,Y⟩;dsimp only at Z Y;subst Z;refine aO (λh=>?_) λ_=>ar ⟨e3,I,_,_,_,eI.ac⟩
 obtain⟨g1,g2⟩:=Y h;refine aX (λx=>x.2.1=c'/\SV x.1.length x.1 x.2.2.1/\Ls c' x.1 x.2.2.1/\x.1.length<=400/\∀ e∈x.1,EvF c'.1 e/\ZX e) ?_ ?_
 .refine aS U g1 (aR ?_);refine ax (ZG (n:=es.length) (by omega) c' es s' _ _ hc e2 eI) λy hy=>?_
  refine aO (λh=>?_) λ_=>ar ⟨rfl,e2,eI,e3,I⟩
  obtain⟨h1,hJ,h2,h3⟩:=hy h;refine bg (by simp;omega) (by omega) (ar ⟨rfl,?_,hJ,by simp;omega,λe he=>?_⟩)
  .dsimp only;rw[bm,c6];exact h1
  .rcases bQ.1 he with he|he
   .exact I e he
   .rw[aL] at he;subst he;exact⟨h2,h3⟩
 rintro⟨es',c2,s2,z2⟩ ⟨k1,k2,kI,M,J⟩;dsimp only at k1 k2 kI M J;subst k1;refine ar ?_;dsimp only;rw[ig (n:=i+1) (by omega) (by omega)];exact⟨⟨by omega,rfl,k2,kI,M,J⟩,by omega⟩
theorem CB.vc {c:CT} (hc:CB c):VC c:=by
 obtain⟨b,h1,h2⟩:=Tr c hc.th hc.ins;rw[hc.ok] at h1;cases h1;exact h2 rfl
theorem akg (c:CT) (l:List (Int×Int)) (hc:CB c) (hl:l.length<=9223372036854775806):Ok (ze (c,l)) λy=>TR y.1:=by
 unfold ze;refine aT hc.ok (dN (λh=>(by cases h)) λ_=>?_);have hv:=hc.vc;refine ax (Ww c hc.ok hv) λs hs=>?_
 refine ax (afp c s l hc hs.1 hs.2 hl) λy I=>ar ?_
 exact⟨hv.vl.wb,hv.vl,λe he=>(I.2.1 e he).1,by have:=I.1;dsimp only;omega,λe he=>(I.2.1 e he).2,hc.wx,I.2.2⟩
theorem WG (l:List Int) (hl:l.length<=1000000):Ok (oP l) λy=>y.length=l.length:=by
 unfold oP bz bC bB aZ cK aF cD;refine bZ l.length (λi x=>x.1=(i:Int)/\x.2.length=i) ?_ ?_ ⟨rfl,rfl⟩
 .rintro i ⟨a,b⟩ hi ⟨e1,e2⟩;dsimp only at e1 e2;subst e1;refine db ?_;refine bX (aR (bX (aR (bg (by simp;omega) (by omega) (ar ?_)))));dsimp only;exact⟨gy (by omega),by simp;omega⟩
 .rintro⟨a,b⟩ ⟨e1,e2⟩;dsimp only at e1 e2;subst e1;exact dc (ar e2)
end
end Go.Proofs.YthehadcddfilhaaGreatDoor.AI
