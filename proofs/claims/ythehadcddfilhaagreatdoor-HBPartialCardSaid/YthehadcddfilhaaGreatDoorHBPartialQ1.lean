/-
  Texts of the proof, part 2 of 5: what is used to prove the statement. No condition.
-/
import Derived.Test.YthehadcddfilhaaGreatDoorHBPartialQ0
namespace Go.Proofs.YthehadcddfilhaaGreatDoor.AI
open Go.RowKit
set_option maxRecDepth 100000
set_option maxHeartbeats 4000000
set_option linter.unusedVariables false
set_option linter.unusedSimpArgs false
open _root_.Bool renaming true→ah,false→ai
open _root_.Int renaming ofNat_eq_natCast→ar,ofNat→aN,toNat→aS,reduceEq→aV,reduceNeg→bi,toNat_natCast→gq
open _root_.List renaming length→ak,replicate→aF,length_cons→bV,take→dE,range→eT,cons_append→fX,length_singleton→gf,length_nil→jE,take_succ_cons→uG,foldl_cons→D8
open _root_.Nat renaming beq→aA,blt→fR
open _root_.Option renaming some→aa,none→af,map_some→b7,getD_some→tO
open _root_.Prod renaming p2→aU,p3→bk,p4→bt,q3→bI,p5→ct,q5→cQ,q4→dh,p6→em,q6→eU,p7→ka,q7→lY,q8→pg,p8→yz,p9→Ba,p10→CM
open _root_.Sum renaming inr→bS,inl→lX
noncomputable section
abbrev Kd0:Ty:=(.st (.pr uE (.pr uE (.pr uE (.pr uE (.pr uE (.pr uE (.pr (.sl aM) (.pr uE (.sl aM))))))))))
abbrev Kd1:Ty:=(.st (.pr .bool .bool))
abbrev ZA:=((List (List Int))×(List (List Int))×(List (List Int))×(List (List Int))×(List (List Int))×(List (List Int))×(List Int)×(List (List Int))×List Int)
abbrev Yd1:=((List Int)×(List (List Int))×(List (List Int))×(List (List Int))×(List (List Int))×(List (List Int))×(List (List Int))×(List (List Int))×(List Int)×List Int)
abbrev Yd2:=(Int×gm×(List Bool)×List dg)
abbrev Yd3:=(Int×gI×gp×(List eW)×b9×b9×List (Int×Int×Int))
abbrev Yd4:=(dF×Int×Int×Int×Int×Int×(List Int)×List Int)
abbrev Yd5:=(List (Int×Int))
abbrev Yd6:=(Int×(List Bool)×List dg)
def KJ {α R:Type} [DecidableEq α] (a b:α) (r:Option R):Option R:=if a=b then r else af
theorem NR {α R:Type} [DecidableEq α] (a b:α) (r:Option R):KJ a b r=same a b r:=by unfold KJ same;by_cases h:a=b<;>simp[h]
theorem NQ {α R:Type} [DecidableEq α] {a b:α} (h:a=b) (r:Option R):KJ a b r=r:=by unfold KJ;rw[aJ h]
def jb (x:(List Int)×Int):Option (Int):=
 (jn (α:=Bool) (bu x.2 0 (aD ah) (aD (cR (aW x.1) x.2))) λI=>(bcase I (aa 0) (vO x.2 x.1 (aa (aH (T:=aM) x.1 x.2)))))
def ua (it:yp) (x:(List Int)×List Int):Option (List Int):=
 (bD (cR 0 (jZ (aW x.1) (aW x.2))&&cR (jZ (aW x.1) (aW x.2)) (jZ (aW x.1) (aW x.2))&&a_ (aS (jZ (aW x.1) (aW x.2))) 8) (it (Int×List Int) _ (λI=>(bu I.1 (aN (ak (aF (aS (jZ (aW x.1) (aW x.2))) (0:Int)))) (obind (jb (x.1,I.1)) λM=>(obind (jb (x.2,I.1)) λJ=>(ck (fB I.1 (ak I.2)) (cK ((cz I.1),(cJ I.2 I.1 (jZ M J))))))) (aD I.2))) (0,(aF (aS (jZ (aW x.1) (aW x.2))) (0:Int)))))
def xy (x:(List Int)×List Int):Option (List Int):=ua @iter x
def kP (x:(List Int)×List Int):Option (List Int):=ua @fZ x
def Mc (x:List Int):Option (List Int):=
 (bcase (aA (ak x) 0) (DR (aa ([]:List Int)) (bD (a_ (ak ([]:List Int)+ak x) 8) (aa (([]:List Int)++x)))) (bD (a_ (ak ([]:List Int)+ak x) 8) (aa (([]:List Int)++x))))
def Av (x:List Int):Option (List Int):=chk (a_ (ak x) 8) λ_=>aa x
def wa (it:yp) (x:List (List Int)):Option (List (List Int)):=
 (bD (cR 0 (aW x)&&cR (aW x) (aW x)&&a_ (aS (aW x)) 24) (it (Int×List (List Int)) _ (λI=>(bu I.1 (aW x) (vO I.1 x (obind (Av (aH (T:=(.sl aM)) x I.1)) λJ=>(ck (fB I.1 (ak I.2)) (cK ((cz I.1),(cJ I.2 I.1 J)))))) (aD I.2))) (0,(aF (aS (aW x)) ([]:List Int)))))
def An (x:List (List Int)):Option (List (List Int)):=wa @iter x
def hX (x:List (List Int)):Option (List (List Int)):=wa @fZ x
def G5 (x:List Int):Option (List Int):=
 (bcase (aA (ak x) 0) (DR (aa ([]:List Int)) (bD (a_ (ak ([]:List Int)+ak x) 8) (aa (([]:List Int)++x)))) (bD (a_ (ak ([]:List Int)+ak x) 8) (aa (([]:List Int)++x))))
def oq (x:List Int):Option (List Int):=chk (a_ (ak x) 8) λ_=>aa x
def sW (x:(List (List Int))×(List (List Int))×(List (List Int))×(List (List Int))×(List (List Int))×(List (List Int))×(List Int)×(List (List Int))×List Int):Option ((List Int)×(List (List Int))×(List (List Int))×(List (List Int))×(List (List Int))×(List (List Int))×(List (List Int))×(List (List Int))×List Int):=
 (obind (hX x.1) λy1=>(obind (hX x.2.1) λy2=>(obind (hX x.p2) λy3=>(obind (hX x.p3) λZ=>(obind (hX x.p4) λY=>(obind (hX x.p5) λU=>(obind (oq x.p6) λM=>(obind (hX x.p7) λJ=>(obind (oq x.q8) λI=>(aa (M,y1,y2,y3,Z,Y,U,J,I)))))))))))
def sA (x:Int×List (List Int)):Option ((List Int)×List (List Int)):=
 (jn (α:=Bool×List (List Int)) (bu x.1 0 (aD (ah,x.2)) (aD ((cR (aW x.2) x.1),x.2))) λI=>(bcase I.1 (aa (([]:List Int),I.2)) (ck (fB x.1 (ak I.2)) (aa ((aH (T:=(.sl aM)) I.2 x.1),I.2)))))
def sX (x:gy×(List Int)×dF×(List (List Int))×(List (List Int))×(List (List Int))×(List (List Int))×(List (List Int))×(List (List Int))×(List (List Int))×List Int):Option ((List (List Int))×gy×(List Int)×dF×(List (List Int))×(List (List Int))×(List (List Int))×(List (List Int))×(List (List Int))×(List (List Int))×(List (List Int))×List Int):=
 (bc x.1.2.1 1 (ck (fB x.1.1 (ak x.p4)) (aa ([(aH (T:=(.sl aM)) x.p4 x.1.1)],(x.1.1,x.1.2.1,x.1.p2,x.1.p3,x.1.p4,x.1.p5,x.1.q6),x.2.1,(x.p2.1,x.p2.2.1,x.p2.p2,x.p2.p3,x.p2.p4,x.p2.q5),x.p3,x.p4,x.p5,x.p6,x.p7,x.p8,x.p9,x.q10))) (bc x.1.2.1 21 (ck (fB x.1.p2 (ak x.p3)) (aa ([(aH (T:=(.sl aM)) x.p3 x.1.p2)],(x.1.1,x.1.2.1,x.1.p2,x.1.p3,x.1.p4,x.1.p5,x.1.q6),x.2.1,(x.p2.1,x.p2.2.1,x.p2.p2,x.p2.p3,x.p2.p4,x.p2.q5),x.p3,x.p4,x.p5,x.p6,x.p7,x.p8,x.p9,x.q10))) (jn (α:=Bool×gy×(List Int)×dF×(List (List Int))×(List (List Int))×(List (List Int))×(List (List Int))×(List (List Int))×(List (List Int))×(List (List Int))×List Int) (bc x.1.2.1 6 (aD ((decide ((x.1.2.1:Int)=6)),(x.1.1,x.1.2.1,x.1.p2,x.1.p3,x.1.p4,x.1.p5,x.1.q6),x.2.1,(x.p2.1,x.p2.2.1,x.p2.p2,x.p2.p3,x.p2.p4,x.p2.q5),x.p3,x.p4,x.p5,x.p6,x.p7,x.p8,x.p9,x.q10)) (aD ((decide ((x.1.2.1:Int)=10)),(x.1.1,x.1.2.1,x.1.p2,x.1.p3,x.1.p4,x.1.p5,x.1.q6),x.2.1,(x.p2.1,x.p2.2.1,x.p2.p2,x.p2.p3,x.p2.p4,x.p2.q5),x.p3,x.p4,x.p5,x.p6,x.p7,x.p8,x.p9,x.q10))) λI=>(bcase I.1 (ck (fB I.2.1.p2 (ak I.p6)) (ck (fB I.2.1.p2 (ak I.p7)) (aa ([(aH (T:=(.sl aM)) I.p6 I.2.1.p2),(aH (T:=(.sl aM)) I.p7 I.2.1.p2)],(I.2.1.1,I.2.1.2.1,I.2.1.p2,I.2.1.p3,I.2.1.p4,I.2.1.p5,I.2.1.q6),I.p2,(I.p3.1,I.p3.2.1,I.p3.p2,I.p3.p3,I.p3.p4,I.p3.q5),I.p4,I.p5,I.p6,I.p7,I.p8,I.p9,I.p10,I.q11)))) (bc x.1.2.1 8 (ck (fB I.2.1.p2 (ak I.p6)) (aa ([(aH (T:=(.sl aM)) I.p6 I.2.1.p2)],(I.2.1.1,I.2.1.2.1,I.2.1.p2,I.2.1.p3,I.2.1.p4,I.2.1.p5,I.2.1.q6),I.p2,(I.p3.1,I.p3.2.1,I.p3.p2,I.p3.p3,I.p3.p4,I.p3.q5),I.p4,I.p5,I.p6,I.p7,I.p8,I.p9,I.p10,I.q11))) (bc x.1.2.1 17 (vO I.2.1.p2 I.p3.p2 (obind (sA ((aH (T:=li) I.p3.p2 I.2.1.p2).2,I.p6)) λM=>(bD (aA (ak I.p6) (ak M.2)&&ah) (obind (sA ((aH (T:=li) I.p3.p2 I.2.1.p2).2,I.p7)) λJ=>(bD (aA (ak I.p7) (ak J.2)&&ah) (ck (fB I.2.1.1 (ak I.p10)) (aa ([M.1,J.1,(aH (T:=(.sl aM)) I.p10 I.2.1.1)],(I.2.1.1,I.2.1.2.1,I.2.1.p2,I.2.1.p3,I.2.1.p4,I.2.1.p5,I.2.1.q6),I.p2,(I.p3.1,I.p3.2.1,I.p3.p2,I.p3.p3,I.p3.p4,I.p3.q5),I.p4,I.p5,M.2,J.2,I.p8,I.p9,I.p10,I.q11)))))))) (bc x.1.2.1 3 (ck (fB I.2.1.p2 (ak I.p8)) (aa ([(aH (T:=(.sl aM)) I.p8 I.2.1.p2)],(I.2.1.1,I.2.1.2.1,I.2.1.p2,I.2.1.p3,I.2.1.p4,I.2.1.p5,I.2.1.q6),I.p2,(I.p3.1,I.p3.2.1,I.p3.p2,I.p3.p3,I.p3.p4,I.p3.q5),I.p4,I.p5,I.p6,I.p7,I.p8,I.p9,I.p10,I.q11))) (bc x.1.2.1 23 (ck (fB I.2.1.p2 (ak I.p9)) (aa ([(aH (T:=(.sl aM)) I.p9 I.2.1.p2)],(I.2.1.1,I.2.1.2.1,I.2.1.p2,I.2.1.p3,I.2.1.p4,I.2.1.p5,I.2.1.q6),I.p2,(I.p3.1,I.p3.2.1,I.p3.p2,I.p3.p3,I.p3.p4,I.p3.q5),I.p4,I.p5,I.p6,I.p7,I.p8,I.p9,I.p10,I.q11))) (bc x.1.2.1 12 (aa ([I.p2],(I.2.1.1,I.2.1.2.1,I.2.1.p2,I.2.1.p3,I.2.1.p4,I.2.1.p5,I.2.1.q6),I.p2,(I.p3.1,I.p3.2.1,I.p3.p2,I.p3.p3,I.p3.p4,I.p3.q5),I.p4,I.p5,I.p6,I.p7,I.p8,I.p9,I.p10,I.q11)) (aa (([]:List (List Int)),(I.2.1.1,I.2.1.2.1,I.2.1.p2,I.2.1.p3,I.2.1.p4,I.2.1.p5,I.2.1.q6),I.p2,(I.p3.1,I.p3.2.1,I.p3.p2,I.p3.p3,I.p3.p4,I.p3.q5),I.p4,I.p5,I.p6,I.p7,I.p8,I.p9,I.p10,I.q11)))))))))))
def yM (it:yp) (x:gI×gp×(List eW)×b9×b9×List (Int×Int×Int)):Option ZA:=
 (ck (cR 0 (aW x.p4)&&cR (aW x.p4) (aW x.p4)&&a_ (aS (aW x.p4)) 24) (ck (cR 0 (aW x.2.1)&&cR (aW x.2.1) (aW x.2.1)&&a_ (aS (aW x.2.1)) 24) (bD (cR 0 (aW x.1)&&cR (aW x.1) (aW x.1)&&a_ (aS (aW x.1)) 24) (bD (cR 0 (aW x.p3)&&cR (aW x.p3) (aW x.p3)&&a_ (aS (aW x.p3)) 24) (bD (cR 0 (aW x.p4)&&cR (aW x.p4) (aW x.p4)&&a_ (aS (aW x.p4)) 24) (bD (cR 0 (aW x.p4)&&cR (aW x.p4) (aW x.p4)&&a_ (aS (aW x.p4)) 8) (it (Int×(List (List Int))×(List (List Int))×(List (List Int))×(List (List Int))×(List (List Int))×(List (List Int))×(List (List Int))×List Int) _ (λI=>(bu I.1 (aN (ak (aF (aS (aW x.p4)) (0:Int)))) (ck (fB I.1 (ak I.q8)) (cK ((cz I.1),I.2.1,I.p2,I.p3,I.p4,I.p5,I.p6,I.p7,(cJ I.q8 I.1 (-1))))) (aD (I.2.1,I.p2,I.p3,I.p4,I.p5,I.p6,([]:List Int),I.p7,I.q8)))) (0,(aF (aS (aW x.p4)) ([]:List Int)),(aF (aS (aW x.p4)) ([]:List Int)),(aF (aS (aW x.2.1)) ([]:List Int)),(aF (aS (aW x.2.1)) ([]:List Int)),(aF (aS (aW x.1)) ([]:List Int)),(aF (aS (aW x.p3)) ([]:List Int)),(aF (aS (aW x.p4)) ([]:List Int)),(aF (aS (aW x.p4)) (0:Int))))))))))
def C7 (x:gI×gp×(List eW)×b9×b9×List (Int×Int×Int)):Option ZA:=yM @iter x
def o6 (x:gI×gp×(List eW)×b9×b9×List (Int×Int×Int)):Option ZA:=yM @fZ x
def rj (x:(List Int)×Int):Option (List Int):=
 (jn (α:=Bool) (jg 0 x.2 (aD (fE x.2 4)) (aD ai)) λM=>(jn (α:=Int) (bcase M (aD (jZ (aW x.1) (cz x.2))) (aD (aW x.1))) λI=>(bD (cR 0 I&&cR I I&&a_ (aS I) 8) (jn (α:=List Int) (jn (α:=Bool×List Int) (bcase M (ck (fB x.2 (ak (Q4 (aF (aS I) (0:Int)) x.1))) (aD ((fE (aH (T:=aM) (Q4 (aF (aS I) (0:Int)) x.1) x.2) 9223372036854775807),(Q4 (aF (aS I) (0:Int)) x.1)))) (aD (ai,(Q4 (aF (aS I) (0:Int)) x.1)))) λJ=>(bcase J.1 (ck (fB x.2 (ak J.2)) (ck (fB x.2 (ak J.2)) (aD (cJ J.2 x.2 (bg .i64 ((aH (T:=aM) J.2 x.2)+1)))))) (aD J.2))) λU=>(aa U)))))
def uZ (x:List Int):Option ((List Int)×List Int):=
 (bD (a_ (ak ([]:List Int)+ak x) 8) (aa ((([]:List Int)++x),x)))
def tW (x:List Int):Option (List Int):=obind (uZ x) λy=>KJ y.2 x (aa y.1)
def Ga (it:yp) (x:(List Int)×List Int):Option ((List Int)×List Int):=
 (bD (cR 0 (jZ (aW x.1) (aW x.2))&&cR (jZ (aW x.1) (aW x.2)) (jZ (aW x.1) (aW x.2))&&a_ (aS (jZ (aW x.1) (aW x.2))) 8) (it (Int×(List Int)×List Int) _ (λI=>(bu I.1 (aN (ak (aF (aS (jZ (aW x.1) (aW x.2))) (0:Int)))) (obind (jb (x.1,I.1)) λM=>(obind (jb (I.2.1,I.1)) λJ=>(ck (fB I.1 (ak I.2.2)) (cK ((cz I.1),I.2.1,(cJ I.2.2 I.1 (jZ M J))))))) (aD (I.2.2,I.2.1)))) (0,x.2,(aF (aS (jZ (aW x.1) (aW x.2))) (0:Int)))))
def L_ (x:(List Int)×List Int):Option ((List Int)×List Int):=Ga @iter x
def sa (x:(List Int)×List Int):Option ((List Int)×List Int):=Ga @fZ x
def Au (x:(List Int)×List Int):Option (List Int):=obind (sa x) λy=>KJ y.2 x.2 (aa y.1)
def kW (x:Int×(List (List Int))×List Int):Option ((List (List Int))×List Int):=
 (jn (α:=Bool×(List (List Int))×List Int) (jg 0 x.1 (aD ((fE x.1 (aW x.2.1)),x.2.1,x.2.2)) (aD (ai,x.2.1,x.2.2))) λI=>(bcase I.1 (ck (fB x.1 (ak I.2.1)) (obind (Au ((aH (T:=(.sl aM)) I.2.1 x.1),I.2.2)) λJ=>(ck (fB x.1 (ak I.2.1)) (aa ((cJ I.2.1 x.1 J),I.2.2))))) (aa (I.2.1,I.2.2))))
def uU (x:Int×(List Int)×(List (List Int))×(List (List Int))×(List (List Int))×(List (List Int))×(List (List Int))×(List (List Int))×(List (List Int))×(List Int)×List Int):Option Yd1:=
 (obind (tW x.q10) λI=>(ck (fB x.1 (ak x.p8)) (ck (fB x.1 (ak x.p9)) (aa (x.2.1,x.p2,x.p3,x.p4,x.p5,x.p6,x.p7,(cJ x.p8 x.1 I),(cJ x.p9 x.1 (-1)),x.q10)))))
def yL (it:yp) (x:Yd4×(List Int)×(List (List Int))×(List (List Int))×(List (List Int))×(List (List Int))×(List (List Int))×(List (List Int))×(List (List Int))×(List Int)×List Int):Option Yd1:=
 (obind (tW x.q10) λy1=>(ck (fB x.1.2.1 (ak x.p2)) (jn (α:=(List Int)×(List (List Int))×(List (List Int))×(List (List Int))×(List (List Int))×(List (List Int))×(List (List Int))×(List (List Int))×(List Int)×List Int) (bc x.1.p2 20 (obind (tW x.q10) λy3=>(ck (fB x.1.p3 (ak x.p3)) (aD (x.2.1,(cJ x.p2 x.1.2.1 y1),(cJ x.p3 x.1.p3 y3),x.p4,x.p5,x.p6,x.p7,x.p8,x.p9,x.q10)))) (jn (α:=Bool×(List Int)×(List (List Int))×(List (List Int))×(List (List Int))×(List (List Int))×(List (List Int))×(List (List Int))×(List (List Int))×(List Int)×(List Int)×dF×Int×Int×Int×Int×Int×(List Int)×List Int) (bc x.1.p2 7 (aD ((decide ((x.1.p2:Int)=7)),x.2.1,(cJ x.p2 x.1.2.1 y1),x.p3,x.p4,x.p5,x.p6,x.p7,x.p8,x.p9,x.q10,(x.1.1.1,x.1.1.2.1,x.1.1.p2,x.1.1.p3,x.1.1.p4,x.1.1.q5),x.1.2.1,x.1.p2,x.1.p3,x.1.p4,x.1.p5,x.1.p6,x.1.q7)) (aD ((decide ((x.1.p2:Int)=11)),x.2.1,(cJ x.p2 x.1.2.1 y1),x.p3,x.p4,x.p5,x.p6,x.p7,x.p8,x.p9,x.q10,(x.1.1.1,x.1.1.2.1,x.1.1.p2,x.1.1.p3,x.1.1.p4,x.1.1.q5),x.1.2.1,x.1.p2,x.1.p3,x.1.p4,x.1.p5,x.1.p6,x.1.q7))) λI=>(bcase I.1 (obind (kW (I.p14,I.p4,I.p10)) λy5=>(bD (aA (ak I.p10) (ak y5.2)&&(aA (ak I.p4) (ak y5.1)&&ah)) (aD (I.2.1,I.p2,I.p3,y5.1,I.p5,I.p6,I.p7,I.p8,I.p9,y5.2)))) (bc x.1.p2 9 (obind (kW (I.p14,I.p5,I.p10)) λy6=>(bD (aA (ak I.p10) (ak y6.2)&&(aA (ak I.p5) (ak y6.1)&&ah)) (aD (I.2.1,I.p2,I.p3,I.p4,y6.1,I.p6,I.p7,I.p8,I.p9,y6.2)))) (bc x.1.p2 16 (ck (fB I.p12 (ak I.p9)) (vO I.p14 I.p11.p2 (obind (kW ((aH (T:=li) I.p11.p2 I.p14).2,I.p4,I.p10)) λy7=>(bD (aA (ak I.p10) (ak y7.2)&&(aA (ak I.p4) (ak y7.1)&&ah)) (aD (I.2.1,I.p2,I.p3,y7.1,I.p5,I.p6,I.p7,I.p8,(cJ I.p9 I.p12 I.p14),y7.2)))))) (bc x.1.p2 4 (vO I.p14 I.p11.1 (bcase (((((aH (T:=j_) I.p11.1 I.p14).2).2).2).1) (obind (kW (I.p14,I.p6,I.p10)) λy8=>(bD (aA (ak I.p10) (ak y8.2)&&(aA (ak I.p6) (ak y8.1)&&ah)) (aD (I.2.1,I.p2,I.p3,I.p4,I.p5,y8.1,I.p7,I.p8,I.p9,y8.2)))) (aD (I.2.1,I.p2,I.p3,I.p4,I.p5,I.p6,I.p7,I.p8,I.p9,I.p10)))) (bc x.1.p2 22 (obind (kW (I.p14,I.p7,I.p10)) λy9=>(bD (aA (ak I.p10) (ak y9.2)&&(aA (ak I.p7) (ak y9.1)&&ah)) (aD (I.2.1,I.p2,I.p3,I.p4,I.p5,I.p6,y9.1,I.p8,I.p9,y9.2)))) (bc x.1.p2 13 (obind (Au (I.2.1,I.p10)) λy10=>(aD (y10,I.p2,I.p3,I.p4,I.p5,I.p6,I.p7,I.p8,I.p9,I.p10))) (bc x.1.p2 18 (jn (α:=Bool×(List Int)×(List (List Int))×(List (List Int))×(List (List Int))×(List (List Int))×(List (List Int))×(List (List Int))×(List (List Int))×(List Int)×(List Int)×Int×Int×Int×Int×Int×(List Int)×List Int) (jg 0 I.p15 (aD ((fE I.p15 (aW I.p8)),I.2.1,I.p2,I.p3,I.p4,I.p5,I.p6,I.p7,I.p8,I.p9,I.p10,I.p12,I.p13,I.p14,I.p15,I.p16,I.p17,I.q18)) (aD (ai,I.2.1,I.p2,I.p3,I.p4,I.p5,I.p6,I.p7,I.p8,I.p9,I.p10,I.p12,I.p13,I.p14,I.p15,I.p16,I.p17,I.q18))) λM=>(bcase M.1 (obind (uU (M.p14,M.2.1,M.p2,M.p3,M.p4,M.p5,M.p6,M.p7,M.p8,M.p9,M.p10)) λY=>(bD (aA (ak M.p10) (ak Y.q9)&&(aA (ak M.p9) (ak Y.p8)&&(aA (ak M.p8) (ak Y.p7)&&(aA (ak M.p7) (ak Y.p6)&&(aA (ak M.p6) (ak Y.p5)&&(aA (ak M.p5) (ak Y.p4)&&(aA (ak M.p4) (ak Y.p3)&&(aA (ak M.p3) (ak Y.p2)&&(aA (ak M.p2) (ak Y.2.1)&&ah))))))))) (aD (Y.1,Y.2.1,Y.p2,Y.p3,Y.p4,Y.p5,Y.p6,Y.p7,Y.p8,Y.q9)))) (aD (M.2.1,M.p2,M.p3,M.p4,M.p5,M.p6,M.p7,M.p8,M.p9,M.p10)))) (bc x.1.p2 19 (it (Int×(List Int)×(List (List Int))×(List (List Int))×(List (List Int))×(List (List Int))×(List (List Int))×(List (List Int))×(List (List Int))×(List Int)×(List Int)×Int×Int×Int×Int×Int×(List Int)×List Int) _ (λJ=>(bu J.1 (aW I.p9) (jn (α:=(List Int)×(List (List Int))×(List (List Int))×(List (List Int))×(List (List Int))×(List (List Int))×(List (List Int))×(List (List Int))×(List Int)×(List Int)×Int×Int×Int×Int×Int×(List Int)×List Int) (ck (fB J.1 (ak J.p9)) (bc (aH (T:=aM) J.p9 J.1) J.p13 (obind (uU (J.1,J.2.1,J.p2,J.p3,J.p4,J.p5,J.p6,J.p7,J.p8,J.p9,J.p10)) λU=>(bD (aA (ak J.p10) (ak U.q9)&&(aA (ak J.p9) (ak U.p8)&&(aA (ak J.p8) (ak U.p7)&&(aA (ak J.p7) (ak U.p6)&&(aA (ak J.p6) (ak U.p5)&&(aA (ak J.p5) (ak U.p4)&&(aA (ak J.p4) (ak U.p3)&&(aA (ak J.p3) (ak U.p2)&&(aA (ak J.p2) (ak U.2.1)&&ah))))))))) (aD (U.1,U.2.1,U.p2,U.p3,U.p4,U.p5,U.p6,U.p7,U.p8,U.q9,J.p11,J.p12,J.p13,J.p14,J.p15,J.p16,J.q17)))) (aD (J.2.1,J.p2,J.p3,J.p4,J.p5,J.p6,J.p7,J.p8,J.p9,J.p10,J.p11,J.p12,J.p13,J.p14,J.p15,J.p16,J.q17)))) λZ=>(cK ((cz J.1),Z.1,Z.2.1,Z.p2,Z.p3,Z.p4,Z.p5,Z.p6,Z.p7,Z.p8,Z.p9,Z.p10,Z.p11,Z.p12,Z.p13,Z.p14,Z.p15,Z.q16))) (aD (bS (J.2.1,J.p2,J.p3,J.p4,J.p5,J.p6,J.p7,J.p8,J.p9,J.p10))))) (0,I.2.1,I.p2,I.p3,I.p4,I.p5,I.p6,I.p7,I.p8,I.p9,I.p10,I.p12,I.p13,I.p14,I.p15,I.p16,I.p17,I.q18)) (aD (I.2.1,I.p2,I.p3,I.p4,I.p5,I.p6,I.p7,I.p8,I.p9,I.p10)))))))))))) λx2=>(aa (x2.1,x2.2.1,x2.p2,x2.p3,x2.p4,x2.p5,x2.p6,x2.p7,x2.p8,x2.q9)))))
def C6 (x:Yd4×(List Int)×(List (List Int))×(List (List Int))×(List (List Int))×(List (List Int))×(List (List Int))×(List (List Int))×(List (List Int))×(List Int)×List Int):Option Yd1:=yL @iter x
def qw (x:Yd4×(List Int)×(List (List Int))×(List (List Int))×(List (List Int))×(List (List Int))×(List (List Int))×(List (List Int))×(List (List Int))×(List Int)×List Int):Option Yd1:=yL @fZ x
def BT (it:yp) (x:dF×ZA×Int×Int×Int×Int×Int×(List Int)×List Int):Option (ZA×List Int):=
 (obind (sW (x.2.1.1,x.2.1.2.1,x.2.1.p2,x.2.1.p3,x.2.1.p4,x.2.1.p5,x.2.1.p6,x.2.1.p7,x.2.1.q8)) λU=>(ck (fB x.p2 (ak U.2.1)) (obind (sX ((x.p2,x.p3,x.p4,x.p5,x.p6,x.p7,x.q8),U.1,(x.1.1,x.1.2.1,x.1.p2,x.1.p3,x.1.p4,x.1.q5),U.2.1,U.p2,U.p3,U.p4,U.p5,U.p6,U.p7,U.q8)) λJ=>(bD (aA (ak U.q8) (ak J.q11)&&(aA (ak U.p7) (ak J.p10)&&(aA (ak U.p6) (ak J.p9)&&(aA (ak U.p5) (ak J.p8)&&(aA (ak U.p4) (ak J.p7)&&(aA (ak U.p3) (ak J.p6)&&(aA (ak U.p2) (ak J.p5)&&(aA (ak U.2.1) (ak J.p4)&&ah)))))))) (it (Int×dF×gy×(List Int)×(List Int)×(List (List Int))×(List (List Int))×(List (List Int))×(List (List Int))×(List (List Int))×(List (List Int))×(List (List Int))×List Int) _ (λI=>(bu I.1 (aW J.1) (vO I.1 J.1 (obind (kP (I.p4,(aH (T:=(.sl aM)) J.1 I.1))) λZ=>(cK ((cz I.1),(I.2.1.1,I.2.1.2.1,I.2.1.p2,I.2.1.p3,I.2.1.p4,I.2.1.q5),(I.p2.1,I.p2.2.1,I.p2.p2,I.p2.p3,I.p2.p4,I.p2.p5,I.p2.q6),I.p3,Z,I.p5,I.p6,I.p7,I.p8,I.p9,I.p10,I.p11,I.q12)))) (obind (obind (rj (I.p4,I.p2.1)) λY=>(obind (qw (((I.2.1.1,I.2.1.2.1,I.2.1.p2,I.2.1.p3,I.2.1.p4,I.2.1.q5),I.p2.1,I.p2.2.1,I.p2.p2,I.p2.p3,I.p2.p4,I.p2.p5,I.p2.q6),I.p3,I.p5,I.p6,I.p7,I.p8,I.p9,I.p10,I.p11,I.q12,Y)) λM=>(bD (aA (ak Y) (ak M.q9)&&(aA (ak I.q12) (ak M.p8)&&(aA (ak I.p11) (ak M.p7)&&(aA (ak I.p10) (ak M.p6)&&(aA (ak I.p9) (ak M.p5)&&(aA (ak I.p8) (ak M.p4)&&(aA (ak I.p7) (ak M.p3)&&(aA (ak I.p6) (ak M.p2)&&(aA (ak I.p5) (ak M.2.1)&&ah))))))))) (aa ((M.2.1,M.p2,M.p3,M.p4,M.p5,M.p6,M.1,M.p7,M.p8),M.q9))))) λr=>aa (bS r)))) (0,(J.p3.1,J.p3.2.1,J.p3.p2,J.p3.p3,J.p3.p4,J.p3.q5),(J.2.1.1,J.2.1.2.1,J.2.1.p2,J.2.1.p3,J.2.1.p4,J.2.1.p5,J.2.1.q6),J.p2,(aH (T:=(.sl aM)) U.2.1 x.p2),J.p4,J.p5,J.p6,J.p7,J.p8,J.p9,J.p10,J.q11))))))
def G0 (x:dF×ZA×Int×Int×Int×Int×Int×(List Int)×List Int):Option (ZA×List Int):=BT @iter x
def ri (x:dF×ZA×Int×Int×Int×Int×Int×(List Int)×List Int):Option (ZA×List Int):=BT @fZ x
def qB (it:yp) (x:List UInt8):Option (Bool):=
 (lt (aH (T:=(.st (.pr .str (.pr .str (.pr .str (.pr .str (.pr .str (.pr .str (.pr .str (.pr .str (.pr .str (.pr .str (.pr .str (.pr .str (.pr .str (.pr .str (.pr .str (.pr .str (.pr .str (.pr .str (.pr .str (.pr .str (.pr .str .str))))))))))))))))))))))) ([kwV]) 0) λI=>(it (Int) _ (λJ=>(bu J 22 (bD (cR 0 J&&fE J 22) (lt (aH (T:=.str) [I.1,I.2.1,I.p2,I.p3,I.p4,I.p5,I.p6,I.p7,I.p8,I.p9,I.p10,I.p11,I.p12,I.p13,I.p14,I.p15,I.p16,I.p17,I.p18,I.p19,I.p20,I.q21] J) λM=>(bcase (decide ((x:List UInt8)=M)) (aD ah) (cK (cz J))))) (aD ai))) 0))
def qi (x:List UInt8):Option (Bool):=qB @iter x
def kx (x:List UInt8):Option (Bool):=qB @fZ x
def uw (it:yp) (x:List UInt8):Option (Bool):=
 (jn (α:=Bool) (bu (aW x) 1 (aD ah) (bu 12 (aW x) (aD ah) (obind (kx x) λU=>(aD U)))) λZ=>(bcase Z (aa ai) (it (List (eW×Unit)) _ (λI=>(bcase (fR (Mf I) (ak (Ns I))) (bD (fE (yU (Ns I) (aN (Mf I))) 128) (jn (α:=List (eW×Unit)) (jn (α:=Bool×List (eW×Unit)) (jg 97 (yU (Ns I) (aN (Mf I))) (jg (yU (Ns I) (aN (Mf I))) 122 (aD (ah,[(((Ns I),(aN ((Mf I)+1))),())])) (jg 65 (yU (Ns I) (aN (Mf I))) (aD ((cR (yU (Ns I) (aN (Mf I))) 90),[(((Ns I),(aN ((Mf I)+1))),())])) (aD (ai,[(((Ns I),(aN ((Mf I)+1))),())])))) (jg 65 (yU (Ns I) (aN (Mf I))) (aD ((cR (yU (Ns I) (aN (Mf I))) 90),[(((Ns I),(aN ((Mf I)+1))),())])) (aD (ai,[(((Ns I),(aN ((Mf I)+1))),())])))) λJ=>(bcase J.1 (aD J.2) (jn (α:=Bool×List (eW×Unit)) (bu 0 (aN (Mf I)) (bc (yU (Ns I) (aN (Mf I))) 95 (aD (ah,J.2)) (jg 48 (yU (Ns I) (aN (Mf I))) (aD ((cR (yU (Ns I) (aN (Mf I))) 57),J.2)) (aD (ai,J.2)))) (aD (ai,J.2))) λM=>(bcase M.1 (aD M.2) (cK (bS ai)))))) λY=>(cK Y))) (aD ah))) ([((x,0),())]))))
def uo (x:List UInt8):Option (Bool):=uw @iter x
def nV (x:List UInt8):Option (Bool):=uw @fZ x
def wq (it:yp) (x:(List Int)×Int):Option (Int):=
 (it (Int) _ (λI=>(bu I (aW x.1) (bF aM x.1 I λJ=>(bc x.2 J (aD I) (cK (cz I)))) (aD (-1)))) 0)
def Ap (x:(List Int)×Int):Option (Int):=wq @iter x
def qx (x:(List Int)×Int):Option (Int):=wq @fZ x
def jY (x:(List Int)×Int):Option (Bool):=
 (obind (qx x) λI=>(aa (cR 0 I)))
def lP (x:(List Int)×Int×Int):Option (Bool):=
 (obind (jb (x.1,x.2.2)) λI=>(aa (cR x.2.1 I)))
def vY (x:Int×Int×Int×Int×Int×(List Int)×List Int):Option (Bool):=
 (jn (α:=Bool) (bc x.2.1 3 (aD ah) (aD (decide ((x.2.1:Int)=4)))) λI=>(aa I))
def vX (x:(dF×List gy)×Int×Int):Option (Bool):=
 (bF iK x.1.2 x.2.1 λM=>(bF iK x.1.2 x.2.2 λJ=>(jn (α:=Bool×(dF×List gy)×gy×Int×Int×Int×Int×Int×(List Int)×List Int) (bc M.1 J.1 (aD (ah,x.1,M,J)) (aD ((!decide ((M.p2:Int)=J.p2)),x.1,M,J))) λI=>(bcase I.1 (aa ai) (jn (α:=Bool×gy×Int×Int×Int×Int×Int×(List Int)×List Int) (obind (vY I.p2) λy5=>(bcase (!y5) (aD (ah,I.2.2)) (obind (vY I.q3) λZ=>(bcase (!Z) (aD (ah,I.2.2)) (bF j_ I.2.1.1.1 I.p2.p2 λY=>(aD (Y.2.2.2.1,I.2.2))))))) λU=>(bcase U.1 (aa ai) (jn (α:=Bool) (bc U.2.1.2.1 4 (aD ah) (aD (decide ((U.p3:Int)=4)))) λx8=>(aa x8))))))))
def v_ (it:yp) (x:List gy):Option Yd5:=
 (bD (cR 0 (aW x)&&cR (aW x) (aW x)&&a_ (aS (aW x)) 16) (it (Int×Yd5×List (Int×Int)) _ (λI=>(bu I.1 (aW x) (bF iK x I.1 λJ=>(ck (fB I.1 (ak I.2.2)) (cK ((cz I.1),(C9 (K:=aM) (V:=aM) J.1 (bg .i64 ((uV (K:=aM) (V:=aM) J.1 I.2.1 0)+1)) I.2.1),(cJ I.2.2 I.1 ((uV (K:=aM) (V:=aM) J.1 (C9 (K:=aM) (V:=aM) J.1 (bg .i64 ((uV (K:=aM) (V:=aM) J.1 I.2.1 0)+1)) I.2.1) 0),J.1)))))) (aD I.2.2))) (0,([]:List (Int×Int)),(aF (aS (aW x)) ((0,0):Int×Int)))))
def Am (x:List gy):Option Yd5:=v_ @iter x
def mG (x:List gy):Option Yd5:=v_ @fZ x
def rE (x:Int×Int):Option (Bool):=
 (jn (α:=Bool) (jg 0 x.1 (aD (fE x.1 x.2)) (aD ai)) λI=>(aa I))
def rF (x:dF×Int×Bool):Option (Bool):=
 (jn (α:=Bool) (obind (rE (x.2.1,(aW x.1.2.1))) λJ=>(bcase J (bF pZ x.1.2.1 x.2.1 λI=>(aD ((I.2==x.2.2) !=ai))) (aD ai))) λM=>(aa M))
def nM (it:yp) (x:List Qr):Option (b9×Bool):=
 (it (Int×List (List UInt8)) _ (λM=>(bu M.1 (aW x) (jn (α:=Int×List (List UInt8)) (bF j_ x M.1 λI=>(bD (a_ (ak M.2+ak ([I.1])) 16) (bc I.p2 0 (iO I.2.1 0 (cK (bS (([]:List (List UInt8)),ai))) (aD ((cz M.1),(M.2++([I.1]))))) (jn (α:=Bool×b9×(List UInt8)×Int×Int×Bool×Int) (bu I.p2 1 (aD (ah,(M.2++([I.1])),I)) (bu 4 I.p2 (aD (ah,(M.2++([I.1])),I)) (bcase I.p3 (aD (ah,(M.2++([I.1])),I)) (aD ((fE (bg .i64 ((aW x)-M.1)) I.p2),(M.2++([I.1])),I))))) λY=>(bcase Y.1 (cK (bS (([]:List (List UInt8)),ai))) (it (Int×b9×(List UInt8)×Int×Int×Bool×Int) _ (λJ=>(bu J.1 Y.p4 (bF j_ x (bg .i64 (M.1+J.1)) λU=>(bcase (Nt (.pr .str (.pr aM (.pr aM (.pr .bool (.pr aM .un))))) (U.1,U.2.1,U.p2,U.p3,U.q4,()) (J.p2,J.1,J.p4,J.p5,J.q6,()) !=ah) (aD (lX (bS (([]:List (List UInt8)),ai)))) (cK ((cz J.1),J.2.1,J.p2,J.1,J.q4)))) (aD (bS ((bg .i64 (M.1+J.p4)),J.2.1))))) (0,Y.2))))))) λZ=>(cK Z)) (aD (M.2,ah)))) (0,([]:List (List UInt8))))
def nI (x:List Qr):Option (b9×Bool):=nM @iter x
def gL (x:List Qr):Option (b9×Bool):=nM @fZ x
def nL (it:yp) (x:dF×List (List UInt8)):Option (Bool):=
 (bD (a_ (ak (x.2:List (List UInt8))) 16) (it (Int×dF×List (List UInt8)) _ (λJ=>(bu J.1 (aW x.1.2.1) (bF pZ x.1.2.1 J.1 λz2=>(bD (a_ (ak J.2.2+ak ([z2.1])) 16) (cK ((cz J.1),J.2.1,(J.2.2++([z2.1])))))) (obind (it (Int×dF×List (List UInt8)) _ (λI=>(bu I.1 (aW J.2.1.p2) (bF li J.2.1.p2 I.1 λZ=>(bD (a_ (ak I.2.2+ak ([Z.1])) 16) (cK ((cz I.1),I.2.1,(I.2.2++([Z.1])))))) (obind (bD (a_ (ak I.2.2+ak I.2.1.p3) 16) (bD (a_ (ak (I.2.2++I.2.1.p3)+ak I.2.1.p4) 16) (it (Int×gp×List (List UInt8)) _ (λM=>(bu M.1 (aN (ak ((I.2.2++I.2.1.p3)++I.2.1.p4))) (kK (.str) M.2.2 M.1 λU=>(jn (α:=Bool×gp×List (List UInt8)) (obind (nV U) λy8=>(bcase (!y8) (aD (ah,M.2)) (aD ((uV (K:=.str) (V:=.bool) U M.2.1 ai),M.2)))) λY=>(bcase Y.1 (aD ai) (cK ((cz M.1),(C9 (K:=.str) (V:=.bool) U ah Y.2.1),Y.2.2))))) (aD ah))) (0,([]:List ((List UInt8)×Bool)),((I.2.2++I.2.1.p3)++I.2.1.p4))))) λr=>aa (bS r)))) (0,J.2)) λr=>aa (bS r)))) (0,x)))
def nH (x:dF×List (List UInt8)):Option (Bool):=nL @iter x
def dC (x:dF×List (List UInt8)):Option (Bool):=nL @fZ x
def kj (it:yp) (x:gI×gp×(List eW)×b9×b9×List (Int×Int×Int)):Option (Bool):=
 (it ((Int×Int×Int)×gI×gp×(List eW)×b9×b9×List (Int×Int×Int)) _ (λI=>(bu I.1.2.2 (aW x.q5) (bF nO x.q5 I.1.2.2 λU=>(jn (α:=Bool×dF×Int×Int×Int) (bu U.1 I.1.1 (aD (ah,I.2,U)) (aD ((cR (aW I.p5) U.1),I.2,U))) λM=>(bcase M.1 (aD ai) (jn (α:=(Int×Int)×dF×Int×Int×Int) (bu I.1.1 M.p2 (aD ((M.p2,0),M.2)) (aD ((I.1.1,I.1.2.1),M.2))) λJ=>(iO J.p3 J.1.2 (aD ai) (cK ((J.1.1,(cz J.1.2),(cz I.1.2.2)),J.2.1))))))) (aD ah))) ((0,0,0),x))
def nG (x:gI×gp×(List eW)×b9×b9×List (Int×Int×Int)):Option (Bool):=kj @iter x
def fH (x:gI×gp×(List eW)×b9×b9×List (Int×Int×Int)):Option (Bool):=kj @fZ x
def kl (it:yp) (x:gI×gp×(List eW)×b9×b9×List (Int×Int×Int)):Option (Bool):=
 (jn (α:=Bool×gI×gp×(List eW)×b9×b9×List (Int×Int×Int)) (bu 12 (aW x.1) (aD (ah,x)) (bu 4 (aW x.2.1) (aD (ah,x)) (bu 2 (aW x.p2) (aD (ah,x)) (bu 2 (aW x.p3) (aD (ah,x)) (aD ((fE 60 (aW x.q5)),x)))))) λM=>(bcase M.1 (aa ai) (jn (α:=Bool×gI×gp×(List eW)×b9×b9×List (Int×Int×Int)) (bu (aW M.p5) 1 (aD (ah,M.2)) (aD ((fE 4 (aW M.p5)),M.2))) λJ=>(bcase J.1 (aa ai) (obind (gL J.2.1) λY=>(jn (α:=Bool×gI×gp×(List eW)×b9×b9×List (Int×Int×Int)) (bcase (!Y.2) (aD (ah,J.2)) (obind (dC (J.2,Y.1)) λy5=>(aD ((!y5),J.2)))) λU=>(bcase U.1 (aa ai) (it Yd3 _ (λI=>(bu I.1 (aW U.p3) (bF li U.p3 I.1 λZ=>(obind (rF (I.2,Z.2,ai)) λy8=>(bcase (!y8) (aD ai) (cK ((cz I.1),I.2))))) (obind (obind (fH I.2) λy9=>(aa y9)) λr=>aa (bS r)))) (0,U.2)))))))))
def nJ (x:gI×gp×(List eW)×b9×b9×List (Int×Int×Int)):Option (Bool):=kl @iter x
def dD (x:gI×gp×(List eW)×b9×b9×List (Int×Int×Int)):Option (Bool):=kl @fZ x
def ux (it:yp) (x:gI×gp×(List eW)×b9×b9×List (Int×Int×Int)):Option oz:=
 (bD (cR 0 (aW x.2.1)&&cR (aW x.2.1) (aW x.2.1)&&a_ (aS (aW x.2.1)) 32) (bD (cR 0 (aW x.p3)&&cR (aW x.p3) (aW x.p3)&&a_ (aS (aW x.p3)) 1) (bD (cR 0 (aW x.p4)&&cR (aW x.p4) (aW x.p4)&&a_ (aS (aW x.p4)) 24) (it (Int×Int×Int×gm×(List Bool)×List dg) _ (λI=>(bu I.1 (aN (ak (aF (aS (aW x.2.1)) ((0,[]):Int×List Int)))) (ck (fB I.1 (ak I.p3)) (cK ((cz I.1),I.2.1,I.p2,(cJ I.p3 I.1 ((-1),(aH (T:=dO) I.p3 I.1).2)),I.q4))) (obind (jn (α:=Int×Int×gm×(List Bool)×List dg) (bu 0 (aW I.q5) (ck (fB 0 (ak I.q5)) (aD (I.2.1,I.p2,I.p3,I.p4,(cJ I.q5 0 (1,(aH (T:=gU) I.q5 0).2))))) (aD I.2)) λJ=>(aa (J.p2,J.2.1,J.q3))) λr=>aa (bS r)))) (0,0,(-1),(aF (aS (aW x.2.1)) ((0,[]):Int×List Int)),(aF (aS (aW x.p3)) (ai:Bool)),(aF (aS (aW x.p4)) ((0,(0,ai)):Int×Int×Bool)))))))
def ur (x:gI×gp×(List eW)×b9×b9×List (Int×Int×Int)):Option oz:=ux @iter x
def nY (x:gI×gp×(List eW)×b9×b9×List (Int×Int×Int)):Option oz:=ux @fZ x
def pF (it:yp) (x:gI×gp×(List eW)×b9×b9×List (Int×Int×Int)):Option eg:=
 (obind (nY x) λM=>(bD (cR 0 0&&cR 0 (aW x.1)&&a_ (aS (aW x.1)) 8) (bD (cR 0 (aW x.p3)&&cR (aW x.p3) (aW x.p3)&&a_ (aS (aW x.p3)) 8) (bD (cR 0 (aW x.p4)&&cR (aW x.p4) (aW x.p4)&&a_ (aS (aW x.p4)) 8) (it (Int×Int×oz×(List Int)×(List Int)×List Int) _ (λI=>(bu I.1 (aW x.1) (bF j_ x.1 I.1 λJ=>(bD (a_ (ak I.p3+ak ([J.q4])) 8) (cK ((cz I.1),I.2.1,I.p2,(I.p3++([J.q4])),I.q4)))) (aD I.2.2))) (0,0,M,(aF (aS 0) (0:Int)),(aF (aS (aW x.p3)) (0:Int)),(aF (aS (aW x.p4)) (0:Int))))))))
def po (x:gI×gp×(List eW)×b9×b9×List (Int×Int×Int)):Option eg:=pF @iter x
def c4 (x:gI×gp×(List eW)×b9×b9×List (Int×Int×Int)):Option eg:=pF @fZ x
def jS (it:yp) (x:(List Bool)×Int×Int×Int×Int×Int×(List Int)×List Int):Option (Bool):=
 (it (Int) _ (λI=>(bu I 2 (bD (cR 0 I&&fE I 2) (lt (aH (T:=(.sl aM)) [x.p6,x.q7] I) λU=>(it (Int) _ (λM=>(bu M (aW U) (bF aM U M λJ=>(jn (α:=Bool) (bu J 0 (aD ah) (jg (aW x.1) J (aD ah) (bF (.bool) x.1 J λY=>(aD (!Y))))) λZ=>(bcase Z (aD (bS ai)) (cK (cz M))))) (aD (lX (cz I))))) 0))) (aD ah))) 0)
def mi (x:(List Bool)×Int×Int×Int×Int×Int×(List Int)×List Int):Option (Bool):=jS @iter x
def b_ (x:(List Bool)×Int×Int×Int×Int×Int×(List Int)×List Int):Option (Bool):=jS @fZ x
def eM (x:Int×Int):Option (Bool):=
 (jn (α:=Bool) (jg 0 x.1 (aD (fE x.1 x.2)) (aD ai)) λI=>(aa I))
def ly (x:dF×Int×Int):Option (Bool):=
 (jn (α:=Bool×gI×gp×(List eW)×b9×b9×List (Int×Int×Int)) (bc x.2.1 1 (aD ((decide ((x.2.1:Int)=1)),x.1)) (bc x.2.1 2 (aD ((decide ((x.2.1:Int)=2)),x.1)) (bc x.2.1 5 (aD ((decide ((x.2.1:Int)=5)),x.1)) (bc x.2.1 12 (aD ((decide ((x.2.1:Int)=12)),x.1)) (bc x.2.1 13 (aD ((decide ((x.2.1:Int)=13)),x.1)) (bc x.2.1 14 (aD ((decide ((x.2.1:Int)=14)),x.1)) (aD ((decide ((x.2.1:Int)=15)),x.1)))))))) λx1=>(bcase x1.1 (aa (decide ((x.2.2:Int)=(-1)))) (jn (α:=Bool×gI×gp×(List eW)×b9×b9×List (Int×Int×Int)) (bc x.2.1 3 (aD ((decide ((x.2.1:Int)=3)),x1.2)) (aD ((decide ((x.2.1:Int)=4)),x1.2))) λZ=>(bcase Z.1 (obind (eM (x.2.2,(aW Z.2.1))) λy3=>(aa y3)) (jn (α:=Bool×gI×gp×(List eW)×b9×b9×List (Int×Int×Int)) (bc x.2.1 6 (aD ((decide ((x.2.1:Int)=6)),Z.2)) (aD ((decide ((x.2.1:Int)=7)),Z.2))) λU=>(bcase U.1 (jn (α:=Bool) (obind (eM (x.2.2,(aW U.p2))) λy6=>(bcase y6 (bF pZ U.p2 x.2.2 λz7=>(aD (!z7.2))) (aD ai))) λx5=>(aa x5)) (jn (α:=Bool×gI×gp×(List eW)×b9×b9×List (Int×Int×Int)) (bc x.2.1 8 (aD ((decide ((x.2.1:Int)=8)),U.2)) (bc x.2.1 9 (aD ((decide ((x.2.1:Int)=9)),U.2)) (bc x.2.1 10 (aD ((decide ((x.2.1:Int)=10)),U.2)) (aD ((decide ((x.2.1:Int)=11)),U.2))))) λM=>(bcase M.1 (jn (α:=Bool) (obind (eM (x.2.2,(aW M.p2))) λy10=>(bcase y10 (bF pZ M.p2 x.2.2 λz11=>(aD z11.2)) (aD ai))) λx9=>(aa x9)) (jn (α:=Bool×gI×gp×(List eW)×b9×b9×List (Int×Int×Int)) (bc x.2.1 16 (aD ((decide ((x.2.1:Int)=16)),M.2)) (bc x.2.1 17 (aD ((decide ((x.2.1:Int)=17)),M.2)) (bc x.2.1 18 (aD ((decide ((x.2.1:Int)=18)),M.2)) (aD ((decide ((x.2.1:Int)=19)),M.2))))) λJ=>(bcase J.1 (obind (eM (x.2.2,(aW J.p3))) λy13=>(aa y13)) (jn (α:=Bool×gI×gp×(List eW)×b9×b9×List (Int×Int×Int)) (bc x.2.1 20 (aD ((decide ((x.2.1:Int)=20)),J.2)) (aD ((decide ((x.2.1:Int)=21)),J.2))) λI=>(bcase I.1 (obind (eM (x.2.2,(aW I.p5))) λy15=>(aa y15)) (jn (α:=Bool×gI×gp×(List eW)×b9×b9×List (Int×Int×Int)) (bc x.2.1 22 (aD ((decide ((x.2.1:Int)=22)),I.2)) (aD ((decide ((x.2.1:Int)=23)),I.2))) λY=>(bcase Y.1 (obind (eM (x.2.2,(aW Y.p4))) λy17=>(aa y17)) (aa ai)))))))))))))))
def sh (it:yp) (x:dF×gm×Int×(List Bool)×List dg):Option (Bool):=
 (jn (α:=Bool×gI×gp×(List eW)×b9×b9×List (Int×Int×Int)) (iO (aW x.2.1) (aW x.1.2.1) (aD (ah,x.1)) (iO (aW x.p3) (aW x.1.p3) (aD (ah,x.1)) (aD ((!decide (((aW x.q4):Int)=(aW x.1.p4))),x.1)))) λJ=>(bcase J.1 (aa ai) (it Yd3 _ (λI=>(bu I.1 (aW J.p3) (bF li J.p3 I.1 λM=>(obind (eM (M.2,(aW I.p2))) λU=>(bcase (!U) (aD ai) (cK ((cz I.1),I.2))))) (aD ah))) (0,J.2))))
def vT (x:dF×gm×Int×(List Bool)×List dg):Option (Bool):=sh @iter x
def jQ (x:dF×gm×Int×(List Bool)×List dg):Option (Bool):=sh @fZ x
def nX (x:dF×oz×Int×Int×Int):Option (Bool):=
 (bc x.p3 6 (bF dO x.2.1.1 x.q4 λz1=>(aa (decide ((z1.1:Int)=(-1))))) (bc x.p3 10 (jn (α:=Bool) (bF dO x.2.1.1 x.q4 λz3=>(bc z3.1 (-1) (bF dO x.2.1.1 x.q4 λz4=>(aD (decide (((aW z4.2):Int)=0)))) (aD ai))) λx2=>(aa x2)) (bc x.p3 8 (jn (α:=Bool) (bF dO x.2.1.1 x.q4 λz6=>(bc z6.1 (-1) (bF dO x.2.1.1 x.q4 λz7=>(obind (jY (z7.2,x.p2)) λy8=>(aD (!y8)))) (aD ai))) λx5=>(aa x5)) (jn (α:=Bool×dF×gm×Int×(List Bool)×List dg) (bc x.p3 7 (aD ((decide ((x.p3:Int)=7)),x.1,x.2.1)) (aD ((decide ((x.p3:Int)=11)),x.1,x.2.1))) λJ=>(bcase J.1 (bF dO J.p2 x.q4 λz10=>(aa (decide ((z10.1:Int)=x.p2)))) (bc x.p3 9 (bF dO J.p2 x.q4 λz11=>(obind (jY (z11.2,x.p2)) λy12=>(aa y12))) (bc x.p3 12 (aa (decide ((J.p3:Int)=(-1)))) (bc x.p3 13 (aa (decide ((J.p3:Int)=x.p2))) (bc x.p3 14 (bF gU J.q5 x.p2 λz13=>(aa (!z13.2.2))) (bc x.p3 15 (bF gU J.q5 x.p2 λz14=>(aa z14.2.2)) (jn (α:=Bool×dF×gm×Int×(List Bool)×List dg) (bc x.p3 16 (aD ((decide ((x.p3:Int)=16)),J.2)) (bc x.p3 18 (aD ((decide ((x.p3:Int)=18)),J.2)) (aD ((decide ((x.p3:Int)=19)),J.2)))) λI=>(bcase I.1 (bF li I.2.1.p2 x.q4 λz16=>(bF dO I.p2 z16.2 λz17=>(aa (decide ((z17.1:Int)=x.p2))))) (bc x.p3 20 (jn (α:=Bool) (iO x.q4 x.p2 (bF gU I.q5 x.q4 λZ=>(aD (decide ((Z.1:Int)=0)))) (aD ai)) λx18=>(aa x18)) (bc x.p3 21 (jn (α:=Bool) (iO x.q4 x.p2 (bF gU I.q5 x.q4 λY=>(aD (decide ((Y.1:Int)=5)))) (aD ai)) λx20=>(aa x20)) (bc x.p3 22 (bF (.bool) I.p4 x.q4 λU=>(aa (!U))) (bc x.p3 23 (bF (.bool) I.p4 x.q4 λM=>(aa M)) (aa ah)))))))))))))))))
def iM (x:dF×oz×Int×Int×Int):Option (Bool):=
 (jn (α:=Bool×dF×gm×Int×(List Bool)×List dg) (obind (jQ (x.1,x.2.1)) λy2=>(bcase (!y2) (aD (ah,x.1,x.2.1)) (obind (eM (x.p2,(aW x.1.p4))) λy3=>(bcase (!y3) (aD (ah,x.1,x.2.1)) (obind (ly (x.1,x.q3)) λZ=>(aD ((!Z),x.1,x.2.1))))))) λI=>(bcase I.1 (aa ai) (bF gU I.q5 x.p2 λJ=>(bc x.p3 1 (aa (decide ((J.1:Int)=1))) (bc x.p3 17 (jn (α:=Bool) (bc J.1 4 (bc J.2.1 x.q4 (bF li I.2.1.p2 x.q4 λY=>(bF dO I.p2 Y.2 λU=>(aD (decide ((U.1:Int)=(-1)))))) (aD ai)) (aD ai)) λx6=>(aa x6)) (jn (α:=Bool) (bc J.1 2 (obind (nX (I.2.1,I.2.2,x.2.2)) λM=>(aD M)) (aD ai)) λx9=>(aa x9)))))))
def kw (x:dF×oz×(List Int)×(List Int)×List Int):Option (Bool):=
 (jn (α:=Bool) (obind (jQ (x.1,x.2.1)) λI=>(bcase I (bc (aW x.p2) (aW x.1.1) (bc (aW x.p3) (aW x.1.p3) (aD (decide (((aW x.q4):Int)=(aW x.1.p4)))) (aD ai)) (aD ai)) (aD ai))) λJ=>(aa J))
def jh (x:dF×Int×Int×Int×Int×Int×(List Int)×List Int):Option (Bool):=
 (jn (α:=Bool×dF×Int×Int×Int×Int×Int×(List Int)×List Int) (bc x.p2 1 (aD (ah,x)) (aD ((decide ((x.p2:Int)=2)),x))) λI=>(bcase I.1 (aa (decide ((I.p6:Int)=(-1)))) (jn (α:=Bool) (jg 0 I.p6 (bu I.p6 (aW I.2.1.q5) (bF nO I.2.1.q5 I.p6 λJ=>(aD (decide ((J.1:Int)=I.p2)))) (aD ai)) (aD ai)) λM=>(aa M))))
def iX (it:yp) (x:dF×eg×Int×Int×Int×Int×Int×(List Int)×List Int):Option (Bool):=
 (jn (α:=Bool×eg×Int×Int×Int×Int×Int×(List Int)×List Int) (bc x.p3 3 (bF j_ x.1.1 x.p4 λz2=>(aD ((!decide ((z2.2.2.1:Int)=0)),x.2))) (bc x.p3 4 (bF j_ x.1.1 x.p4 λz3=>(aD ((!decide ((z3.2.2.1:Int)=0)),x.2))) (aD (ai,x.2)))) λI=>(jn (α:=eg×gy×Bool×Bool) (bc I.p3 5 (bc I.p3 4 (aD (I.2.1,I.2.2,ah,ah)) (aD (I.2.1,I.2.2,ah,(decide ((I.p3:Int)=22))))) (bc I.p3 4 (aD (I.2.1,I.2.2,I.1,ah)) (aD (I.2.1,I.2.2,I.1,(decide ((I.p3:Int)=22)))))) λx4=>(it (Int×eg×gy×Bool×Bool) _ (λJ=>(bu J.1 2 (bD (cR 0 J.1&&fE J.1 2) (lt (aH (T:=(.sl aM)) [x4.2.1.p5,x4.2.1.q6] J.1) λZ=>(jn (α:=Bool×eg×gy×Bool×Bool) (bu 0 (aW Z) (bD (cR 0 J.1&&fE J.1 2) (bD (fB J.1 2) (lt (aH (T:=.bool) [J.p3,J.q4] J.1) λz8=>(aD ((!z8),J.2))))) (aD (ai,J.2))) λx7=>(bcase x7.1 (aD ai) (it ((Int×Int)×eg×gy×Bool×Bool) _ (λM=>(bu M.1.2 (aW Z) (bF aM Z M.1.2 λU=>(jn (α:=Bool×eg×gy×Bool×Bool) (jg U M.1.1 (aD (ah,M.2)) (bF aM M.2.1.q3 M.p2.1 λz12=>(aD ((cR z12 U),M.2)))) λY=>(bcase Y.1 (aD (bS ai)) (cK ((U,(cz M.1.2)),Y.2))))) (aD (lX ((cz J.1),M.2))))) ((0,0),x7.2)))))) (aD ah))) (0,x4))))
def kT (x:dF×eg×Int×Int×Int×Int×Int×(List Int)×List Int):Option (Bool):=iX @iter x
def eJ (x:dF×eg×Int×Int×Int×Int×Int×(List Int)×List Int):Option (Bool):=iX @fZ x
def kY (it:yp) (x:eg×Int×Int×Int×Int×Int×(List Int)×List Int):Option (Bool):=
 (bc x.p2 3 (bF aM x.1.2.1 x.p3 λz1=>(aa (decide ((x.p4:Int)=z1)))) (bc x.p2 23 (bF aM x.1.p2 x.p3 λz2=>(aa (decide ((x.p4:Int)=z2)))) (bc x.p2 5 (jn (α:=Bool) (bc x.p4 0 (aD ah) (aD (decide ((x.p4:Int)=1)))) λx3=>(aa x3)) (jn (α:=Bool×eg×Int×Int×Int×Int×Int×(List Int)×List Int) (bc x.p2 4 (aD ((decide ((x.p2:Int)=4)),x)) (aD ((decide ((x.p2:Int)=22)),x))) λM=>(bcase M.1 (aa ah) (bc x.p2 18 (it ((Int×Bool×Int)×Int×Int×Int×Int×Int×(List Int)×List Int) _ (λJ=>(bu J.1.2.2 (aW M.2.1.1.q3) (jn (α:=(Int×Bool)×Int×Int×Int×Int×Int×(List Int)×List Int) (bF gU M.2.1.1.q3 J.1.2.2 λz7=>(jn (α:=Bool×Int×Int×Int×Int×Int×(List Int)×List Int) (bc z7.1 3 (aD ((decide ((z7.2.1:Int)=J.p3)),J.2)) (aD (ai,J.2))) λZ=>(bcase Z.1 (bcase J.1.2.1 (aD (((cz J.1.1),ah),Z.2)) (aD (((cz J.1.1),(decide ((Z.p4:Int)=J.1.2.2))),Z.2))) (aD ((J.1.1,J.1.2.1),Z.2))))) λx6=>(cK ((x6.1.1,x6.1.2,(cz J.1.2.2)),x6.2))) (obind (jn (α:=Bool) (bcase J.1.2.1 (aD ah) (bc J.1.1 0 (aD (decide ((J.p4:Int)=(-1)))) (aD ai))) λx9=>(aa x9)) λr=>aa (bS r)))) ((0,ai,0),M.2.2)) (bc x.p2 19 (it ((Int×Int)×Int×Int×Int×Int×Int×(List Int)×List Int) _ (λI=>(bu I.1.2 (aW M.2.1.1.q3) (jn (α:=Int×Int×Int×Int×Int×Int×(List Int)×List Int) (bF gU M.2.1.1.q3 I.1.2 λY=>(jn (α:=Bool×Int×Int×Int×Int×Int×(List Int)×List Int) (bc Y.1 3 (aD ((decide ((Y.2.1:Int)=I.p3)),I.2)) (aD (ai,I.2))) λU=>(bcase U.1 (aD ((cz I.1.1),U.2)) (aD (I.1.1,U.2))))) λx11=>(cK ((x11.1,(cz I.1.2)),x11.2))) (aD (decide ((I.p4:Int)=I.1.1))))) ((0,0),M.2.2)) (aa (decide ((M.p5:Int)=0))))))))))
def oB (x:eg×Int×Int×Int×Int×Int×(List Int)×List Int):Option (Bool):=kY @iter x
def gd (x:eg×Int×Int×Int×Int×Int×(List Int)×List Int):Option (Bool):=kY @fZ x
def lO (x:dg×Int):Option (Bool):=
 (jn (α:=Bool) (bc x.1.1 3 (aD (decide ((x.1.2.1:Int)=x.2))) (aD ai)) λI=>(aa I))
def G7 (x:List Bool):Option (List Bool):=
 (bcase (aA (ak x) 0) (DR (aa ([]:List Bool)) (bD (a_ (ak ([]:List Bool)+ak x) 1) (aa (([]:List Bool)++x)))) (bD (a_ (ak ([]:List Bool)+ak x) 1) (aa (([]:List Bool)++x))))
def Mb (x:List Bool):Option (List Bool):=chk (a_ (ak x) 1) λ_=>aa x
def Db (x:List Bool):Option (List Bool):=
 (bcase (aA (ak x) 0) (DR (aa ([]:List Bool)) (bD (a_ (ak ([]:List Bool)+ak x) 1) (aa (([]:List Bool)++x)))) (bD (a_ (ak ([]:List Bool)+ak x) 1) (aa (([]:List Bool)++x))))
def G6 (x:List Bool):Option (List Bool):=chk (a_ (ak x) 1) λ_=>aa x
def G4 (x:List dg):Option (List dg):=
 (bcase (aA (ak x) 0) (DR (aa ([]:List dg)) (bD (a_ (ak ([]:List dg)+ak x) 24) (aa (([]:List dg)++x)))) (bD (a_ (ak ([]:List dg)+ak x) 24) (aa (([]:List dg)++x))))
def Ma (x:List dg):Option (List dg):=chk (a_ (ak x) 24) λ_=>aa x
def C' (x:List dg):Option (List dg):=
 (bcase (aA (ak x) 0) (DR (aa ([]:List dg)) (bD (a_ (ak ([]:List dg)+ak x) 24) (aa (([]:List dg)++x)))) (bD (a_ (ak ([]:List dg)+ak x) 24) (aa (([]:List dg)++x))))
def G3 (x:List dg):Option (List dg):=chk (a_ (ak x) 24) λ_=>aa x
def Da (x:List Int):Option (List Int):=
 (bcase (aA (ak x) 0) (DR (aa ([]:List Int)) (bD (a_ (ak ([]:List Int)+ak x) 8) (aa (([]:List Int)++x)))) (bD (a_ (ak ([]:List Int)+ak x) 8) (aa (([]:List Int)++x))))
def xC (x:List Int):Option (List Int):=chk (a_ (ak x) 8) λ_=>aa x
def qS (it:yp) (x:gm×Int×(List Bool)×List dg):Option Yd2:=
 (bD (cR 0 (aW x.1)&&cR (aW x.1) (aW x.1)&&a_ (aS (aW x.1)) 32) (it (Int×oz×Int×List (Int×List Int)) _ (λI=>(bu I.1 (aW x.1) (bF dO x.1 I.1 λJ=>(obind (Av J.2) λY=>(ck (fB I.1 (ak I.q3)) (cK ((cz I.1),I.2.1,I.p2,(cJ I.q3 I.1 (J.1,Y))))))) (obind (obind (G6 I.2.1.p2) λU=>(obind (G3 I.2.1.q3) λM=>(aa (I.2.1.2.1,I.q3,U,M)))) λr=>aa (bS r)))) (0,x,0,(aF (aS (aW x.1)) ((0,[]):Int×List Int)))))
def uq (x:gm×Int×(List Bool)×List dg):Option Yd2:=qS @iter x
def jX (x:gm×Int×(List Bool)×List dg):Option Yd2:=qS @fZ x
def pI (it:yp) (x:(Int×Int×Int)×gm×(List Bool)×List dg):Option Yd2:=
 (it ((Int×Int)×gm×(List Bool)×(List dg)×Int) _ (λI=>(bu I.1.2 (aW x.q3) (jn (α:=Int×gm×(List Bool)×(List dg)×Int) (kK gU I.p3 I.1.2 λU=>(jn (α:=Bool×gm×(List Bool)×(List dg)×Int) (obind (lO (U,x.1.2.1)) λY=>(bcase Y (bu I.1.1 0 (aD (ah,I.2)) (aD ((decide ((I.1.2:Int)=x.1.2.2)),I.2))) (aD (ai,I.2)))) λJ=>(bcase J.1 (aD (I.1.2,J.2)) (aD (I.1.1,J.2))))) λM=>(cK ((M.1,(cz I.1.2)),M.2))) (obind (jn (α:=gm×(List Bool)×List dg) (jg 0 I.1.1 (ck (fB I.1.1 (ak I.p3)) (aD (I.2.1,I.p2,(cJ I.p3 I.1.1 (4,(aH (T:=gU) I.p3 I.1.1).2))))) (aD (I.2.1,I.p2,I.p3))) λZ=>(aa (I.1.1,Z))) λr=>aa (bS r)))) (((-1),0),x.2.1,x.p2,x.q3,x.1.1))
def sM (x:(Int×Int×Int)×gm×(List Bool)×List dg):Option Yd2:=pI @iter x
def jq (x:(Int×Int×Int)×gm×(List Bool)×List dg):Option Yd2:=pI @fZ x
def l9 (it:yp) (x:(Int×Int)×gm×(List Bool)×List dg):Option Yd2:=
 (it ((Int×Int)×gm×(List Bool)×(List dg)×Int) _ (λI=>(bu I.1.2 (aW x.q3) (jn (α:=Int×gm×(List Bool)×(List dg)×Int) (kK gU I.p3 I.1.2 λM=>(obind (lO (M,x.1.2)) λU=>(bcase U (ck (fB I.1.2 (ak I.p3)) (aD ((cz I.1.1),I.2.1,I.p2,(cJ I.p3 I.1.2 (4,(aH (T:=gU) I.p3 I.1.2).2)),I.q4))) (aD (I.1.1,I.2))))) λJ=>(cK ((J.1,(cz I.1.2)),J.2))) (aD (I.1.1,I.2.1,I.p2,I.p3)))) ((0,0),x.2.1,x.p2,x.q3,x.1.1))
def pq (x:(Int×Int)×gm×(List Bool)×List dg):Option Yd2:=l9 @iter x
def gF (x:(Int×Int)×gm×(List Bool)×List dg):Option Yd2:=l9 @fZ x
def pD (x:Int):Option (Bool):=
 (aa (!decide ((x:Int)=x)))
def uu (x:Int×Int):Option (Bool):=
 (jn (α:=Bool) (obind (pD x.1) λJ=>(bcase J (obind (pD x.2) λI=>(bcase (!I) (aD ah) (aD (fE x.1 x.2)))) (aD (fE x.1 x.2)))) λM=>(aa M))
def qu (x:Int):Option (Int):=
 (jg 4294967296 x af (jg 65536 x af (jg 256 x af (vO (bg .u8 x) ([0,1,2,2,3,3,3,3,4,4,4,4,4,4,4,4,5,5,5,5,5,5,5,5,5,5,5,5,5,5,5,5,6,6,6,6,6,6,6,6,6,6,6,6,6,6,6,6,6,6,6,6,6,6,6,6,6,6,6,6,6,6,6,6,7,7,7,7,7,7,7,7,7,7,7,7,7,7,7,7,7,7,7,7,7,7,7,7,7,7,7,7,7,7,7,7,7,7,7,7,7,7,7,7,7,7,7,7,7,7,7,7,7,7,7,7,7,7,7,7,7,7,7,7,7,7,7,7,8,8,8,8,8,8,8,8,8,8,8,8,8,8,8,8,8,8,8,8,8,8,8,8,8,8,8,8,8,8,8,8,8,8,8,8,8,8,8,8,8,8,8,8,8,8,8,8,8,8,8,8,8,8,8,8,8,8,8,8,8,8,8,8,8,8,8,8,8,8,8,8,8,8,8,8,8,8,8,8,8,8,8,8,8,8,8,8,8,8,8,8,8,8,8,8,8,8,8,8,8,8,8,8,8,8,8,8,8,8,8,8,8,8,8,8,8,8,8,8,8,8,8,8,8,8,8,8]) (aa (bg .i64 (0+(bg .i64 (yU ([0,1,2,2,3,3,3,3,4,4,4,4,4,4,4,4,5,5,5,5,5,5,5,5,5,5,5,5,5,5,5,5,6,6,6,6,6,6,6,6,6,6,6,6,6,6,6,6,6,6,6,6,6,6,6,6,6,6,6,6,6,6,6,6,7,7,7,7,7,7,7,7,7,7,7,7,7,7,7,7,7,7,7,7,7,7,7,7,7,7,7,7,7,7,7,7,7,7,7,7,7,7,7,7,7,7,7,7,7,7,7,7,7,7,7,7,7,7,7,7,7,7,7,7,7,7,7,7,8,8,8,8,8,8,8,8,8,8,8,8,8,8,8,8,8,8,8,8,8,8,8,8,8,8,8,8,8,8,8,8,8,8,8,8,8,8,8,8,8,8,8,8,8,8,8,8,8,8,8,8,8,8,8,8,8,8,8,8,8,8,8,8,8,8,8,8,8,8,8,8,8,8,8,8,8,8,8,8,8,8,8,8,8,8,8,8,8,8,8,8,8,8,8,8,8,8,8,8,8,8,8,8,8,8,8,8,8,8,8,8,8,8,8,8,8,8,8,8,8,8,8,8,8,8,8,8]) (bg .u8 x))))))))))
def sV (x:Int):Option (Int):=
 (obind (qu x) λI=>(aa I))
def jG (it:yp) (x:(Int×Int)×List Int):Option (List Int):=
 (it (Int×List Int) _ (λM=>(bu M.1 x.1.2 (it (Int×List Int) _ (λI=>(jn (α:=Bool×List Int) (bu x.1.1 I.1 (kK aM I.2 I.1 λz4=>(kK aM I.2 (bg .i64 (I.1-1)) λZ=>(obind (uu (z4,Z)) λy6=>(aD (y6,I.2))))) (aD (ai,I.2))) λJ=>(bcase J.1 (kK aM J.2 (bg .i64 (I.1-1)) λU=>(kK aM J.2 I.1 λY=>(ck (fB I.1 (ak J.2)) (ck (fB (bg .i64 (I.1-1)) (ak (cJ J.2 I.1 U))) (cK ((bg .i64 (I.1-1)),(cJ (cJ J.2 I.1 U) (bg .i64 (I.1-1)) Y))))))) (aD (lX ((cz M.1),J.2)))))) M) (aD M.2))) ((cz x.1.1),x.2))
def jF (x:(Int×Int)×List Int):Option (List Int):=jG @iter x
def fA (x:(Int×Int)×List Int):Option (List Int):=jG @fZ x
def nK (it:yp) (x:(Int×Int×Int)×List Int):Option (List Int):=
 (it ((Int×Int×Int×Bool×Bool)×List Int) _ (λI=>(jg (bg .i64 (I.1.2.1-I.1.1)) 12 (obind (fA ((I.1.1,I.1.2.1),I.2)) λJ=>(bD (aA (ak I.2) (ak J)&&ah) (aD J))) (bc I.1.p2 0 af (bcase (!I.1.p3) af af)))) ((x.1.1,x.1.2.1,x.1.2.2,ah,ah),x.2))
def nF (x:(Int×Int×Int)×List Int):Option (List Int):=nK @iter x
def iQ (x:(Int×Int×Int)×List Int):Option (List Int):=nK @fZ x
def uY (x:List Int):Option (List Int):=
 (obind (sV (bg .u64 (aW x))) λJ=>(obind (iQ ((0,(aW x),J),x)) λI=>(bD (aA (ak x) (ak I)&&ah) (aa I))))
def wu (it:yp) (x:List Int):Option (List Int):=
 (bu (aW x) 2 (aa x) (it (Int×List Int) _ (λI=>(bu I.1 (aW I.2) (kK aM I.2 I.1 λM=>(kK aM I.2 (bg .i64 (I.1-1)) λJ=>(bc M J (bD (cR 0 I.1&&fE I.1 (ak I.2)) af) (cK ((cz I.1),I.2))))) (aD I.2))) (1,x)))
def vU (x:List Int):Option (List Int):=wu @iter x
def kX (x:List Int):Option (List Int):=wu @fZ x
def oo (x:Int×Int):Option (Bool×Int):=
 (aa ((decide ((x.1:Int)=x.2)),x.2))
def tb (it:yp) (x:(List Int)×Int):Option (Int×(List Int)×Int):=
 (it (Int×(List Int)×Int) _ (λI=>(bu I.1 (aW x.1) (kK aM I.2.1 I.1 λM=>(obind (oo (M,I.2.2)) λJ=>(bcase J.1 (aD (I.1,I.2.1,J.2)) (cK ((cz I.1),I.2.1,J.2))))) (aD ((-1),I.2)))) (0,x))
def sN (x:(List Int)×Int):Option (Int×(List Int)×Int):=tb @iter x
def mI (x:(List Int)×Int):Option (Int×(List Int)×Int):=tb @fZ x
def rI (it:yp) (x:(List Int)×Int):Option (Int×List Int):=
 (obind (mI x) λJ=>(bD (aA (ak x.1) (ak J.2.1)&&ah) (bc J.1 (-1) af (it ((Int×Int)×(List Int)×Int) _ (λI=>(bu I.1.2 (aW I.2.1) (jn (α:=Int×(List Int)×Int) (kK aM I.2.1 I.1.2 λU=>(obind (oo (U,I.2.2)) λM=>(bcase (!M.1) (ck (fB I.1.1 (ak I.2.1)) (aD ((cz I.1.1),(cJ I.2.1 I.1.1 U),M.2))) (aD (I.1.1,I.2.1,M.2))))) λY=>(cK ((Y.1,(cz I.1.2)),Y.2))) (obind (ck (cR 0 I.1.1&&fE I.1.1 (ak I.2.1)) (bD (cR 0 I.1.1&&fE I.1.1 (ak (dE (aS I.1.1) I.2.1++aF (ak I.2.1-aS I.1.1) (0:Int)))) (aa (I.2.2,(dE (aS I.1.1) (dE (aS I.1.1) I.2.1++aF (ak I.2.1-aS I.1.1) (0:Int))))))) λr=>aa (bS r)))) ((J.1,(cz J.1)),J.2)))))
def rD (x:(List Int)×Int):Option (Int×List Int):=rI @iter x
def iN (x:(List Int)×Int):Option (Int×List Int):=rI @fZ x
def gG (x:dF×oz×Int×Int×Int×Int):Option (oz×Int×Bool):=
 (obind (iM (x.1,x.2.1,x.p2,x.p3,x.p4)) λy1=>(bcase (!y1) (aa ((([]:List (Int×List Int)),0,([]:List Bool),([]:List dg)),0,ai)) (obind (jX x.2.1) λJ=>(jn (α:=Int×Int×Int×gm×(List Bool)×List dg) (bc x.p3 1 (ck (fB x.p2 (ak J.q3)) (aD (0,J.1,0,J.2.1,J.p2,(cJ J.q3 x.p2 (2,(aH (T:=gU) J.q3 x.p2).2))))) (bc x.p3 2 (ck (fB x.p2 (ak J.q3)) (aD (0,J.1,0,J.2.1,J.p2,(cJ J.q3 x.p2 (5,(aH (T:=gU) J.q3 x.p2).2))))) (jn (α:=Bool×dF×Int×Int×Int×gm×(List Bool)×List dg) (bc x.p3 6 (aD ((decide ((x.p3:Int)=6)),x.1,J.1,x.p2,0,J.2)) (aD ((decide ((x.p3:Int)=10)),x.1,J.1,x.p2,0,J.2))) λY=>(bcase Y.1 (ck (fB x.p4 (ak Y.p5)) (aD (0,Y.p2,Y.p4,(cJ Y.p5 x.p4 (Y.p3,(aH (T:=dO) Y.p5 x.p4).2)),Y.q6))) (jn (α:=Bool×dF×Int×Int×Int×gm×(List Bool)×List dg) (bc x.p3 7 (aD ((decide ((x.p3:Int)=7)),Y.2)) (aD ((decide ((x.p3:Int)=11)),Y.2))) λI=>(bcase I.1 (ck (fB x.p4 (ak I.p5)) (aD (0,I.p2,I.p4,(cJ I.p5 x.p4 ((-1),(aH (T:=dO) I.p5 x.p4).2)),I.q6))) (bc x.p3 8 (kK dO I.p5 x.p4 λz6=>af) (bc x.p3 9 (kK dO I.p5 x.p4 λz7=>af) (bc x.p3 12 (aD (0,I.q3)) (bc x.p3 13 (aD (0,(-1),I.q4)) (bc x.p3 14 (ck (fB I.p3 (ak I.q7)) (aD (0,I.p2,I.p4,I.p5,I.p6,(cJ I.q7 I.p3 ((aH (T:=gU) I.q7 I.p3).1,((aH (T:=gU) I.q7 I.p3).2).1,ah))))) (bc x.p3 15 (ck (fB I.p3 (ak I.q7)) (aD (0,I.p2,I.p4,I.p5,I.p6,(cJ I.q7 I.p3 ((aH (T:=gU) I.q7 I.p3).1,((aH (T:=gU) I.q7 I.p3).2).1,ai))))) (bc x.p3 16 (bF li I.2.1.p2 x.p4 λz8=>(ck (fB z8.2 (ak I.p5)) (ck (fB I.p3 (ak I.q7)) (ck (fB I.p3 (ak (cJ I.q7 I.p3 (3,(aH (T:=gU) I.q7 I.p3).2)))) (aD (0,I.p2,I.p4,(cJ I.p5 z8.2 ((-1),(aH (T:=dO) I.p5 z8.2).2)),I.p6,(cJ (cJ I.q7 I.p3 (3,(aH (T:=gU) I.q7 I.p3).2)) I.p3 ((aH (T:=gU) (cJ I.q7 I.p3 (3,(aH (T:=gU) I.q7 I.p3).2)) I.p3).1,x.p4,((aH (T:=gU) (cJ I.q7 I.p3 (3,(aH (T:=gU) I.q7 I.p3).2)) I.p3).2).2)))))))) (bc x.p3 17 (bF li I.2.1.p2 x.p4 λz9=>(ck (fB z9.2 (ak I.p5)) (ck (fB I.p3 (ak I.q7)) (ck (fB I.p3 (ak (cJ I.q7 I.p3 (2,(aH (T:=gU) I.q7 I.p3).2)))) (aD (0,I.p2,I.p4,(cJ I.p5 z9.2 (I.p3,(aH (T:=dO) I.p5 z9.2).2)),I.p6,(cJ (cJ I.q7 I.p3 (2,(aH (T:=gU) I.q7 I.p3).2)) I.p3 ((aH (T:=gU) (cJ I.q7 I.p3 (2,(aH (T:=gU) I.q7 I.p3).2)) I.p3).1,0,((aH (T:=gU) (cJ I.q7 I.p3 (2,(aH (T:=gU) I.q7 I.p3).2)) I.p3).2).2)))))))) (bc x.p3 18 (obind (jq ((I.p2,x.q4),I.q5)) λU=>(bD (aA (ak I.q7) (ak U.q3)&&(aA (ak I.p6) (ak U.p2)&&(aA (ak I.p5) (ak U.2.1)&&ah))) (aD (U.1,I.p2,I.p4,U.2)))) (bc x.p3 19 (obind (gF ((I.p2,x.p4),I.q5)) λM=>(bD (aA (ak I.q7) (ak M.q3)&&(aA (ak I.p6) (ak M.p2)&&(aA (ak I.p5) (ak M.2.1)&&ah))) (aD (M.1,I.p2,I.p4,M.2)))) (bc x.p3 20 (ck (fB x.p4 (ak I.q7)) (aD (0,I.p2,I.p4,I.p5,I.p6,(cJ I.q7 x.p4 (1,(aH (T:=gU) I.q7 x.p4).2))))) (bc x.p3 22 (ck (fB x.p4 (ak I.p6)) (aD (0,I.p2,I.p4,I.p5,(cJ I.p6 x.p4 ah),I.q7))) (aD (0,I.p2,I.q4)))))))))))))))))))) λZ=>(aa ((Z.p3,Z.2.1,Z.q4),Z.1,ah))))))
def mF (x:gm×Int×(List Bool)×List dg):Option (Yd6×(Int×Int×Int)×(List Int)×(List Int)×List Int):=
 (bD (cR 0 (aW x.1)&&cR (aW x.1) (aW x.1)&&a_ (aS (aW x.1)) 32&&decide (((aW x.1):Int)=3)) (jn (α:=oz×Int×(Int×Int×Int)×(List Int)×(List Int)×List Int) (bu 0 (aW x.1) (bF dO x.1 0 λI=>(obind (oq I.2) λU=>(bu 1 (aW x.1) (bF dO x.1 1 λM=>(obind (oq M.2) λy5=>(bu 2 (aW x.1) (bF dO x.1 2 λz6=>(obind (oq z6.2) λy7=>(bu 3 (aW x.1) (bF dO x.1 3 λz8=>(obind (oq z8.2) λy9=>af)) (aD (x,0,(I.1,M.1,z6.1),U,y5,y7))))) (aD (x,0,(I.1,M.1,0),U,y5,([]:List Int)))))) (aD (x,0,(I.1,0,0),U,([]:List Int),([]:List Int)))))) (aD (x,0,(0,0,0),([]:List Int),([]:List Int),([]:List Int)))) λJ=>(obind (Mb J.1.p2) λZ=>(obind (Ma J.1.q3) λY=>(aa ((J.1.2.1,Z,Y),J.2.2))))))
def kA (x:dF×oz×Int×Int×Int×Int):Option (oz×Int×Bool):=
 (obind (iM (x.1,x.2.1,x.p2,x.p3,x.p4)) λy1=>(bcase (!y1) (aa ((([]:List (Int×List Int)),0,([]:List Bool),([]:List dg)),0,ai)) (obind (mF x.2.1) λM=>(jn (α:=Int×Yd6×Int×((Int×List Int)×(Int×List Int)×Int)×Bool×List Int) (bc x.p3 1 (vO x.p2 M.1.2.2 af) (bc x.p3 2 (vO x.p2 M.1.2.2 af) (jn (α:=Bool×dF×Yd6×Int×Int×(Int×Int×Int)×(List Int)×(List Int)×List Int) (bc x.p3 6 (aD ((decide ((x.p3:Int)=6)),x.1,M.1,x.p2,0,M.2)) (aD ((decide ((x.p3:Int)=10)),x.1,M.1,x.p2,0,M.2))) λJ=>(bcase J.1 af (jn (α:=Bool×dF×Yd6×Int×Int×(Int×(List Int)×Int×(List Int)×Int)×List Int) (bc x.p3 7 (aD ((decide ((x.p3:Int)=7)),J.2.1,J.p2,J.p3,J.p4,(J.p5.1,J.p6,J.p5.2.1,J.p7,J.p5.2.2),J.q8)) (aD ((decide ((x.p3:Int)=11)),J.2.1,J.p2,J.p3,J.p4,(J.p5.1,J.p6,J.p5.2.1,J.p7,J.p5.2.2),J.q8))) λI=>(bcase I.1 af (bc x.p3 8 (bc x.p4 0 af (bc x.p4 1 af (bc x.p4 2 (bD (a_ (ak I.q6+ak ([I.p3])) 8) (obind (uY (I.q6++([I.p3]))) λY=>(bD (aA (ak (I.q6++([I.p3]))) (ak Y)&&ah) (obind (kX Y) λZ=>(bD (aA (ak Y) (ak Z)&&ah) (aD (0,I.p2,I.p4,((I.p5.1,I.p5.2.1),(I.p5.p2,I.p5.p3),I.p5.q4),ah,Z))))))) af))) (bc x.p3 9 (bc x.p4 0 af (bc x.p4 1 af (bc x.p4 2 (obind (iN (I.q6,I.p3)) λy8=>(bD (aA (ak I.q6) (ak I.q6)&&ah) (aD (0,I.p2,I.p4,((I.p5.1,I.p5.2.1),(I.p5.p2,I.p5.p3),I.p5.q4),ai,y8.2)))) af))) (bc x.p3 12 (aD (0,(I.p3,I.p2.2),I.p4,((I.p5.1,I.p5.2.1),(I.p5.p2,I.p5.p3),I.p5.q4),ah,I.q6)) (bc x.p3 13 (aD (0,((-1),I.p2.2),I.p4,((I.p5.1,I.p5.2.1),(I.p5.p2,I.p5.p3),I.p5.q4),ah,I.q6)) (bc x.p3 14 (vO I.p3 I.p2.2.2 af) (bc x.p3 15 (vO I.p3 I.p2.2.2 af) (bc x.p3 16 af (bc x.p3 17 af (bc x.p3 18 af (bc x.p3 19 af (bc x.p3 20 (vO x.p4 I.p2.2.2 af) (bc x.p3 22 (vO x.p4 I.p2.2.1 af) (aD (0,I.p2,I.p4,((I.p5.1,I.p5.2.1),(I.p5.p2,I.p5.p3),I.p5.q4),ah,I.q6)))))))))))))))))))) λU=>(aa (([U.p3.1,U.p3.2.1,(U.p3.2.2,U.q5)],U.2.1),U.1,ah))))))
def qO (x:dF×oz×Int×Int×Int×Int):Option (oz×Int×Bool):=orE (gG x) (kA x)
def fw (x:dF×eg×Int×Int×Int×Int×Int×(List Int)×List Int):Option (eg×Bool):=
 (jn (α:=Bool×dF×eg×gy×Int) (obind (kw (x.1,x.2.1)) λy2=>(bcase (!y2) (aD (ah,x.1,x.2.1,x.2.2,0)) (bu x.p2 0 (aD (ah,x.1,x.2.1,x.2.2,0)) (jg (aW x.1.p4) x.p2 (aD (ah,x.1,x.2.1,x.2.2,0)) (bu x.p3 1 (aD (ah,x.1,x.2.1,x.2.2,0)) (aD ((fE 23 x.p3),x.1,x.2.1,x.2.2,0))))))) λM=>(bcase M.1 (aa (((([]:List (Int×List Int)),0,([]:List Bool),([]:List dg)),([]:List Int),([]:List Int),([]:List Int)),ai)) (jn (α:=Bool×dF×eg×gy×Int) (obind (iM (M.2.1,M.p2.1,M.p3.1,M.p3.2.1,M.p3.p2)) λy4=>(bcase (!y4) (aD (ah,M.2)) (obind (jh (M.2.1,M.p3)) λy5=>(bcase (!y5) (aD (ah,M.2)) (obind (eJ (M.2.1,M.p2,M.p3)) λy6=>(bcase (!y6) (aD (ah,M.2)) (obind (gd (M.p2,M.p3)) λy7=>(aD ((!y7),M.2))))))))) λx3=>(bcase x3.1 (aa (((([]:List (Int×List Int)),0,([]:List Bool),([]:List dg)),([]:List Int),([]:List Int),([]:List Int)),ai)) (jn (α:=Int×dF×eg×gy×Int) (bc x3.p3.2.1 18 (aD (x3.p3.p3,x3.2)) (aD ((-1),x3.2))) λI=>(obind (qO (I.2.1,I.p2.1,I.p3.1,I.p3.2.1,I.p3.p2,I.1)) λy9=>(bcase (!y9.2.2) (aa (((([]:List (Int×List Int)),0,([]:List Bool),([]:List dg)),([]:List Int),([]:List Int),([]:List Int)),ai)) (obind (xC I.p2.2.1) λY=>(obind (xC I.p2.p2) λU=>(obind (oq I.p2.q3) λZ=>(jn (α:=gy×Int×oz×(List Int)×(List Int)×List Int) (bc I.p3.2.1 4 (ck (fB I.p3.p2 (ak Y)) (aD (I.p3,I.q4,y9.1,(cJ Y I.p3.p2 I.p3.p3),U,Z))) (bc I.p3.2.1 22 (ck (fB I.p3.p2 (ak U)) (aD (I.p3,I.q4,y9.1,Y,(cJ U I.p3.p2 I.p3.p3),Z))) (aD (I.p3,I.q4,y9.1,Y,U,Z)))) λJ=>(kK aM J.q5 J.1.1 λz14=>(ck (fB J.1.1 (ak J.q5)) (aa ((J.p2,J.p3,J.p4,(cJ J.q5 J.1.1 (cz z14))),ah)))))))))))))))
def kZ (it:yp) (x:dF×List gy):Option (Int×Int):=
 (bu 400 (aW x.2) (aa (0,2)) (obind (dD x.1) λy1=>(bcase (!y1) (aa (0,1)) (obind (c4 x.1) λy2=>(bD (cR 0 (aW x.1.p4)&&cR (aW x.1.p4) (aW x.1.p4)&&a_ (aS (aW x.1.p4)) 24&&decide (((aW x.1.p4):Int)=1)) (it (Int×(dF×List gy)×eg×List Bool) _ (λJ=>(bu J.1 (aW x.2) (bF iK x.2 J.1 λM=>(obind (fw (J.2.1.1,J.p2,M)) λU=>(jn (α:=Bool×(dF×List gy)×eg×gy×eg×List Bool) (bc M.1 0 (bcase (!U.2) (aD (ah,J.2.1,J.p2,(0,M.2),U.1,J.q3)) (obind (b_ (J.q3,0,M.2)) λZ=>(aD ((!Z),J.2.1,J.p2,(0,M.2),U.1,J.q3)))) af) λI=>(bcase I.1 (aD (J.1,12)) (jn (α:=(dF×List gy)×eg×eg×List Bool) (bc I.p3.1 0 (bc I.p3.2.1 3 (bD (a_ (ak I.q5+ak ([ah])) 1) (aD (I.2.1,I.p2,I.p4,(I.q5++([ah]))))) (bD (a_ (ak I.q5+ak ([(decide ((I.p3.2.1:Int)=23))])) 1) (aD (I.2.1,I.p2,I.p4,(I.q5++([(decide ((I.p3.2.1:Int)=23))])))))) af) λY=>(cK ((cz J.1),Y.1,Y.2.2))))))) (aD (0,0)))) (0,x,y2,([]:List Bool))))))))
def oF (x:dF×List gy):Option (Int×Int):=kZ @iter x
def dU (x:dF×List gy):Option (Int×Int):=kZ @fZ x
def jv (it:yp) (x:dF×List gy):Option (Int×Int):=
 (bu 400 (aW x.2) (aa (0,2)) (obind (dD x.1) λy1=>(bcase (!y1) (aa (0,1)) (obind (c4 x.1) λy2=>(bD (cR 0 (aW x.1.p4)&&cR (aW x.1.p4) (aW x.1.p4)&&a_ (aS (aW x.1.p4)) 24&&decide (((aW x.1.p4):Int)=2)) (it (Int×(dF×List gy)×eg×(List Bool)×List Bool) _ (λJ=>(bu J.1 (aW x.2) (bF iK x.2 J.1 λM=>(obind (fw (J.2.1.1,J.p2,M)) λU=>(jn (α:=Bool×(dF×List gy)×eg×gy×eg×(List Bool)×List Bool) (bc M.1 0 (bcase (!U.2) (aD (ah,J.2.1,J.p2,(0,M.2),U.1,J.q3)) (obind (b_ (J.p3,0,M.2)) λy7=>(aD ((!y7),J.2.1,J.p2,(0,M.2),U.1,J.q3)))) (bc M.1 1 (bcase (!U.2) (aD (ah,J.2.1,J.p2,(1,M.2),U.1,J.q3)) (obind (b_ (J.q4,1,M.2)) λZ=>(aD ((!Z),J.2.1,J.p2,(1,M.2),U.1,J.q3)))) af)) λI=>(bcase I.1 (aD (J.1,12)) (jn (α:=(dF×List gy)×eg×eg×(List Bool)×List Bool) (bc I.p3.1 0 (bc I.p3.2.1 3 (bD (a_ (ak I.p5+ak ([ah])) 1) (aD (I.2.1,I.p2,I.p4,(I.p5++([ah])),I.q6))) (bD (a_ (ak I.p5+ak ([(decide ((I.p3.2.1:Int)=23))])) 1) (aD (I.2.1,I.p2,I.p4,(I.p5++([(decide ((I.p3.2.1:Int)=23))])),I.q6)))) (bc I.p3.1 1 (bc I.p3.2.1 3 (bD (a_ (ak I.q6+ak ([ah])) 1) (aD (I.2.1,I.p2,I.p4,I.p5,(I.q6++([ah]))))) (bD (a_ (ak I.q6+ak ([(decide ((I.p3.2.1:Int)=23))])) 1) (aD (I.2.1,I.p2,I.p4,I.p5,(I.q6++([(decide ((I.p3.2.1:Int)=23))])))))) af)) λY=>(cK ((cz J.1),Y.1,Y.2.2))))))) (aD (0,0)))) (0,x,y2,([]:List Bool),([]:List Bool))))))))
def oE (x:dF×List gy):Option (Int×Int):=jv @iter x
def c5 (x:dF×List gy):Option (Int×Int):=jv @fZ x
def ju (it:yp) (x:dF×List gy):Option (Int×Int):=
 (bu 400 (aW x.2) (aa (0,2)) (obind (dD x.1) λy1=>(bcase (!y1) (aa (0,1)) (obind (c4 x.1) λy2=>(bD (cR 0 (aW x.1.p4)&&cR (aW x.1.p4) (aW x.1.p4)&&a_ (aS (aW x.1.p4)) 24&&decide (((aW x.1.p4):Int)=3)) (it (Int×(dF×List gy)×eg×(List Bool)×(List Bool)×List Bool) _ (λJ=>(bu J.1 (aW x.2) (bF iK x.2 J.1 λM=>(obind (fw (J.2.1.1,J.p2,M)) λU=>(jn (α:=Bool×(dF×List gy)×eg×gy×eg×(List Bool)×(List Bool)×List Bool) (bc M.1 0 (bcase (!U.2) (aD (ah,J.2.1,J.p2,(0,M.2),U.1,J.q3)) (obind (b_ (J.p3,0,M.2)) λy7=>(aD ((!y7),J.2.1,J.p2,(0,M.2),U.1,J.q3)))) (bc M.1 1 (bcase (!U.2) (aD (ah,J.2.1,J.p2,(1,M.2),U.1,J.q3)) (obind (b_ (J.p4,1,M.2)) λy8=>(aD ((!y8),J.2.1,J.p2,(1,M.2),U.1,J.q3)))) (bc M.1 2 (bcase (!U.2) (aD (ah,J.2.1,J.p2,(2,M.2),U.1,J.q3)) (obind (b_ (J.q5,2,M.2)) λZ=>(aD ((!Z),J.2.1,J.p2,(2,M.2),U.1,J.q3)))) af))) λI=>(bcase I.1 (aD (J.1,12)) (jn (α:=(dF×List gy)×eg×eg×(List Bool)×(List Bool)×List Bool) (bc I.p3.1 0 (bc I.p3.2.1 3 (bD (a_ (ak I.p5+ak ([ah])) 1) (aD (I.2.1,I.p2,I.p4,(I.p5++([ah])),I.q6))) (bD (a_ (ak I.p5+ak ([(decide ((I.p3.2.1:Int)=23))])) 1) (aD (I.2.1,I.p2,I.p4,(I.p5++([(decide ((I.p3.2.1:Int)=23))])),I.q6)))) (bc I.p3.1 1 (bc I.p3.2.1 3 (bD (a_ (ak I.p6+ak ([ah])) 1) (aD (I.2.1,I.p2,I.p4,I.p5,(I.p6++([ah])),I.q7))) (bD (a_ (ak I.p6+ak ([(decide ((I.p3.2.1:Int)=23))])) 1) (aD (I.2.1,I.p2,I.p4,I.p5,(I.p6++([(decide ((I.p3.2.1:Int)=23))])),I.q7)))) (bc I.p3.1 2 (bc I.p3.2.1 3 (bD (a_ (ak I.q7+ak ([ah])) 1) (aD (I.2.1,I.p2,I.p4,I.p5,I.p6,(I.q7++([ah]))))) (bD (a_ (ak I.q7+ak ([(decide ((I.p3.2.1:Int)=23))])) 1) (aD (I.2.1,I.p2,I.p4,I.p5,I.p6,(I.q7++([(decide ((I.p3.2.1:Int)=23))])))))) af))) λY=>(cK ((cz J.1),Y.1,Y.2.2))))))) (aD (0,0)))) (0,x,y2,([]:List Bool),([]:List Bool),([]:List Bool))))))))
def oD (x:dF×List gy):Option (Int×Int):=ju @iter x
def dz (x:dF×List gy):Option (Int×Int):=ju @fZ x
def jt (it:yp) (x:dF×List gy):Option (Int×Int):=
 (bu 400 (aW x.2) (aa (0,2)) (obind (dD x.1) λy1=>(bcase (!y1) (aa (0,1)) (obind (c4 x.1) λy2=>(bD (cR 0 (aW x.1.p4)&&cR (aW x.1.p4) (aW x.1.p4)&&a_ (aS (aW x.1.p4)) 24&&decide (((aW x.1.p4):Int)=4)) (it (Int×(dF×List gy)×eg×(List Bool)×(List Bool)×(List Bool)×List Bool) _ (λJ=>(bu J.1 (aW x.2) (bF iK x.2 J.1 λM=>(obind (fw (J.2.1.1,J.p2,M)) λU=>(jn (α:=Bool×(dF×List gy)×eg×gy×eg×(List Bool)×(List Bool)×(List Bool)×List Bool) (bc M.1 0 (bcase (!U.2) (aD (ah,J.2.1,J.p2,(0,M.2),U.1,J.q3)) (obind (b_ (J.p3,0,M.2)) λy7=>(aD ((!y7),J.2.1,J.p2,(0,M.2),U.1,J.q3)))) (bc M.1 1 (bcase (!U.2) (aD (ah,J.2.1,J.p2,(1,M.2),U.1,J.q3)) (obind (b_ (J.p4,1,M.2)) λy8=>(aD ((!y8),J.2.1,J.p2,(1,M.2),U.1,J.q3)))) (bc M.1 2 (bcase (!U.2) (aD (ah,J.2.1,J.p2,(2,M.2),U.1,J.q3)) (obind (b_ (J.p5,2,M.2)) λy9=>(aD ((!y9),J.2.1,J.p2,(2,M.2),U.1,J.q3)))) (bc M.1 3 (bcase (!U.2) (aD (ah,J.2.1,J.p2,(3,M.2),U.1,J.q3)) (obind (b_ (J.q6,3,M.2)) λZ=>(aD ((!Z),J.2.1,J.p2,(3,M.2),U.1,J.q3)))) af)))) λI=>(bcase I.1 (aD (J.1,12)) (jn (α:=(dF×List gy)×eg×eg×(List Bool)×(List Bool)×(List Bool)×List Bool) (bc I.p3.1 0 (bc I.p3.2.1 3 (bD (a_ (ak I.p5+ak ([ah])) 1) (aD (I.2.1,I.p2,I.p4,(I.p5++([ah])),I.q6))) (bD (a_ (ak I.p5+ak ([(decide ((I.p3.2.1:Int)=23))])) 1) (aD (I.2.1,I.p2,I.p4,(I.p5++([(decide ((I.p3.2.1:Int)=23))])),I.q6)))) (bc I.p3.1 1 (bc I.p3.2.1 3 (bD (a_ (ak I.p6+ak ([ah])) 1) (aD (I.2.1,I.p2,I.p4,I.p5,(I.p6++([ah])),I.q7))) (bD (a_ (ak I.p6+ak ([(decide ((I.p3.2.1:Int)=23))])) 1) (aD (I.2.1,I.p2,I.p4,I.p5,(I.p6++([(decide ((I.p3.2.1:Int)=23))])),I.q7)))) (bc I.p3.1 2 (bc I.p3.2.1 3 (bD (a_ (ak I.p7+ak ([ah])) 1) (aD (I.2.1,I.p2,I.p4,I.p5,I.p6,(I.p7++([ah])),I.q8))) (bD (a_ (ak I.p7+ak ([(decide ((I.p3.2.1:Int)=23))])) 1) (aD (I.2.1,I.p2,I.p4,I.p5,I.p6,(I.p7++([(decide ((I.p3.2.1:Int)=23))])),I.q8)))) (bc I.p3.1 3 (bc I.p3.2.1 3 (bD (a_ (ak I.q8+ak ([ah])) 1) (aD (I.2.1,I.p2,I.p4,I.p5,I.p6,I.p7,(I.q8++([ah]))))) (bD (a_ (ak I.q8+ak ([(decide ((I.p3.2.1:Int)=23))])) 1) (aD (I.2.1,I.p2,I.p4,I.p5,I.p6,I.p7,(I.q8++([(decide ((I.p3.2.1:Int)=23))])))))) af)))) λY=>(cK ((cz J.1),Y.1,Y.2.2))))))) (aD (0,0)))) (0,x,y2,([]:List Bool),([]:List Bool),([]:List Bool),([]:List Bool))))))))
def oC (x:dF×List gy):Option (Int×Int):=jt @iter x
def dT (x:dF×List gy):Option (Int×Int):=jt @fZ x
def lZ (x:dF×List gy):Option (Int×Int):=orE (dT x) (orE (dz x) (orE (c5 x) (dU x)))
def wg (it:yp) (x:dF×List gy):Option ((List (List Int))×Int):=
 (obind (lZ x) λY=>(iO Y.2 0 (aa (([]:List (List Int)),12)) (obind (o6 x.1) λU=>(bD (cR 0 (aW x.2)&&cR (aW x.2) (aW x.2)&&a_ (aS (aW x.2)) 24) (it (Int×(dF×List gy)×ZA×List (List Int)) _ (λI=>(bu I.1 (aW x.2) (bF iK x.2 I.1 λM=>(obind (ri (I.2.1.1,I.p2,M)) λJ=>(ck (fB I.1 (ak I.q3)) (cK ((cz I.1),I.2.1,J.1,(cJ I.q3 I.1 J.2)))))) (aD (I.q3,0)))) (0,x,U,(aF (aS (aW x.2)) ([]:List Int))))))))
def Ao (x:dF×List gy):Option ((List (List Int))×Int):=wg @iter x
def mH (x:dF×List gy):Option ((List (List Int))×Int):=wg @fZ x
def Dt (it:yp) (x:dF×List gy):Option (Yd5×Int):=
 (obind (mH x) λY=>(iO Y.2 0 (aa (([]:List (Int×Int)),Y.2)) (obind (mG x.2) λy2=>(it (Int×(dF×List gy)×List (Int×Int)) _ (λJ=>(bu J.1 (aW x.2) (it (Int×(dF×List gy)×List (Int×Int)) _ (λI=>(bu I.1 J.1 (jn (α:=(dF×List gy)×List (Int×Int)) (jn (α:=Bool×(dF×List gy)×List (Int×Int)) (obind (vX (I.2.1,I.1,J.1)) λy7=>(bcase y7 (bF (.sl aM) Y.1 J.1 λz8=>(bF ir y2 I.1 λZ=>(obind (lP (z8,Z)) λU=>(aD ((!U),I.2))))) (aD (ai,I.2)))) λM=>(bcase M.1 (bD (a_ (ak M.2.2+ak ([(I.1,J.1)])) 16) (aD (M.2.1,(M.2.2++([(I.1,J.1)]))))) (aD M.2))) λx5=>(cK ((cz I.1),x5))) (aD (lX ((cz J.1),I.2))))) (0,J.2)) (aD (J.2.2,0)))) (0,x,([]:List (Int×Int)))))))
def C8 (x:dF×List gy):Option (Yd5×Int):=Dt @iter x
def sB (x:dF×List gy):Option (Yd5×Int):=Dt @fZ x
def MA (it:yp) (x:Unit):Option dF:=
 (it Yd3 _ (λJ=>(bu J.1 (aN (ak ([[109,97,105,110],[116,49],[116,50],[116,51]]))) (it Yd3 _ (λI=>(bu I.1 6 (bD (a_ (ak I.q6+ak ([(J.1,I.1,(bg .i64 ((bg .i64 ((bg .i64 (10*J.1))+I.1))+1)))])) 24) (cK ((cz I.1),I.2.1,I.p2,I.p3,I.p4,I.p5,(I.q6++([(J.1,I.1,(bg .i64 ((bg .i64 ((bg .i64 (10*J.1))+I.1))+1)))]))))) (aD (lX ((cz J.1),I.2))))) (0,J.2)) (aD J.2))) (0,[([120],0,0,ai,0),([121],0,0,ai,1),([118],0,0,ah,0),([113],0,2,ai,0),([113],1,2,ai,0)],[([109],ai),([110],ai),([114],ah)],[([99],0)],[[102]],[[109,97,105,110],[116,49],[116,50],[116,51]],([]:List (Int×Int×Int))))
def L9 (x:Unit):Option dF:=MA @iter x
def BA (x:Unit):Option dF:=MA @fZ x
def vW (x:Bool):Option (dF×List gy):=
 (obind (BA ()) λI=>(jn (α:=dF×List gy) (bcase x (kK iK ([(0,1,(-1),0,(-1),([]:List Int),([]:List Int)),(0,20,1,0,0,([]:List Int),([]:List Int)),(1,1,(-1),0,(-1),([]:List Int),([]:List Int)),(0,6,0,0,0,([]:List Int),([]:List Int)),(0,4,0,1,0,([]:List Int),([]:List Int)),(0,7,0,0,0,([]:List Int),([]:List Int)),(1,6,0,0,6,([]:List Int),([]:List Int)),(1,4,0,2,6,([]:List Int),([]:List Int))]) 0 λz3=>(kK iK ([(0,1,(-1),0,(-1),([]:List Int),([]:List Int)),(0,20,1,0,0,([]:List Int),([]:List Int)),(1,1,(-1),0,(-1),([]:List Int),([]:List Int)),(0,6,0,0,0,([]:List Int),([]:List Int)),(0,4,0,1,0,([]:List Int),([]:List Int)),(0,7,0,0,0,([]:List Int),([]:List Int)),(1,6,0,0,6,([]:List Int),([]:List Int)),(1,4,0,2,6,([]:List Int),([]:List Int))]) 1 λZ=>(kK iK ([(0,1,(-1),0,(-1),([]:List Int),([]:List Int)),(0,20,1,0,0,([]:List Int),([]:List Int)),(1,1,(-1),0,(-1),([]:List Int),([]:List Int)),(0,6,0,0,0,([]:List Int),([]:List Int)),(0,4,0,1,0,([]:List Int),([]:List Int)),(0,7,0,0,0,([]:List Int),([]:List Int)),(1,6,0,0,6,([]:List Int),([]:List Int)),(1,4,0,2,6,([]:List Int),([]:List Int))]) 2 λY=>(kK iK ([(0,1,(-1),0,(-1),([]:List Int),([]:List Int)),(0,20,1,0,0,([]:List Int),([]:List Int)),(1,1,(-1),0,(-1),([]:List Int),([]:List Int)),(0,6,0,0,0,([]:List Int),([]:List Int)),(0,4,0,1,0,([]:List Int),([]:List Int)),(0,7,0,0,0,([]:List Int),([]:List Int)),(1,6,0,0,6,([]:List Int),([]:List Int)),(1,4,0,2,6,([]:List Int),([]:List Int))]) 6 λU=>(kK iK ([(0,1,(-1),0,(-1),([]:List Int),([]:List Int)),(0,20,1,0,0,([]:List Int),([]:List Int)),(1,1,(-1),0,(-1),([]:List Int),([]:List Int)),(0,6,0,0,0,([]:List Int),([]:List Int)),(0,4,0,1,0,([]:List Int),([]:List Int)),(0,7,0,0,0,([]:List Int),([]:List Int)),(1,6,0,0,6,([]:List Int),([]:List Int)),(1,4,0,2,6,([]:List Int),([]:List Int))]) 4 λM=>(kK iK ([(0,1,(-1),0,(-1),([]:List Int),([]:List Int)),(0,20,1,0,0,([]:List Int),([]:List Int)),(1,1,(-1),0,(-1),([]:List Int),([]:List Int)),(0,6,0,0,0,([]:List Int),([]:List Int)),(0,4,0,1,0,([]:List Int),([]:List Int)),(0,7,0,0,0,([]:List Int),([]:List Int)),(1,6,0,0,6,([]:List Int),([]:List Int)),(1,4,0,2,6,([]:List Int),([]:List Int))]) 7 λJ=>(aD (I,[z3,Z,Y,U,M,J])))))))) (aD (I,[(0,1,(-1),0,(-1),([]:List Int),([]:List Int)),(0,20,1,0,0,([]:List Int),([]:List Int)),(1,1,(-1),0,(-1),([]:List Int),([]:List Int)),(0,6,0,0,0,([]:List Int),([]:List Int)),(0,4,0,1,0,([]:List Int),([]:List Int)),(0,7,0,0,0,([]:List Int),([]:List Int)),(1,6,0,0,6,([]:List Int),([]:List Int)),(1,4,0,2,6,([]:List Int),([]:List Int))]))) λx2=>(aa x2)))
def r9 (x:Unit):Option (Bool):=
 (obind (vW ai) λY=>(obind (sB Y) λM=>(obind (vW ah) λU=>(obind (sB U) λI=>(jn (α:=Bool) (bc M.2 0 (bc I.2 0 (bc (aW M.1) 0 (bc (aW I.1) 1 (bF ir I.1 0 λJ=>(aD (Nt (.pr aM (.pr aM .un)) (J.1,J.2,()) (4,5,()) !=ai))) (aD ai)) (aD ai)) (aD ai)) (aD ai)) λZ=>(aa Z))))))
def xk:Nat:=1000000000
def jl (a b:List Int):List Int:=(eT (max a.length b.length)).map λi=>jZ (a.getD i 0) (b.getD i 0)
theorem yJ (a b:List Int):(jl a b).length=max a.length b.length:=by simp[jl]
theorem Df (a b:List Int) (i:Nat):(jl a b).getD i 0=jZ (a.getD i 0) (b.getD i 0):=by
 unfold jl;simp only[ax,a8];by_cases h:i<max a.length b.length
 .rw[Ff h];rfl
 .rw[bM (by simp only[kQ];omega),bM (l:=a) (by omega),bM (l:=b) (by omega)];rfl
theorem Jp (c:List Int) (i:Nat):jb (c,(i:Int))=aa (c.getD i 0):=by
 unfold jb bu vO aW aD;simp only[];rw[xJ (by omega)];simp only[dV,lV];by_cases h:i<c.length
 .rw[X_ (by simp;omega)];simp only[dV];rw[cB (cY h),s_];rfl
 .rw[qb (by simp;omega)];simp only[dB];rw[ax,bM (by omega)];rfl
theorem abr (a b:List Int) (U:a.length<=xk) (hb:b.length<=xk):kP (a,b)=aa (jl a b):=by
 unfold xk at U hb;unfold kP ua ck bu bD aW cK aD cz;have hm:max a.length b.length<=1000000000:=by omega
 rw[cB (by simp only[xH];rw[qb (by omega),qb (by omega),vN (by simp;omega) (by simp;omega)];rfl)];simp only[xH,gq,ep];have:=xF (σ:=Int×List Int) (R:=List Int) (max a.length b.length) (by omega) (λi=>((i:Int),(eT (max a.length b.length)).map λk=>if k<i then jZ (a.getD k 0) (b.getD k 0) else 0)) (f:=(λI=>(bcase (fE I.1 (aN (max a.length b.length))) (obind (jb (a,I.1)) λM=>(obind (jb (b,I.1)) λJ=>(chk (fB I.1 (ak I.2)) λ_=>(chk (fB I.1 (ak I.2)) λ_=>(aa (lX ((bg .i64 (I.1+1)),(cJ I.2 I.1 (jZ M J))))))))) (aa (bS I.2))))) (r:=jl a b) ?_ ?_
 .refine Eq.trans ?_ this;congr 1;simp only[Int.natCast_zero,vJ,dR,aB,zZ];apply dk<;>simp
 .intro i hi;simp only[];rw[vb (by simp;omega),dB,Jp,Jp,dv,dv,cB (cY (by simpa using hi)),cB (cY (by simpa using hi)),qf hi (by omega),fO];congr 3;apply dk
  .simp
  .intro k h1 h2;simp only[b8,kQ] at h2;simp only[tQ,pU,mR];by_cases e:i=k
   .subst e;simp
   .by_cases h:k<i
    .rw[aC e,aJ h,aJ (by omega)]
    .rw[aC e,aC h,aC (by omega)]
 .simp only[];rw[xJ (by simp),dV];congr 2;unfold jl;apply ph;intro k hk;rw[aJ (mQ.1 hk)]
theorem WP (a b:List Int) (U:a.length<=xk) (hb:b.length<=xk):sa (a,b)=aa (jl a b,b):=by
 unfold xk at U hb;unfold sa Ga ck bu bD aW cK aD cz;have hm:max a.length b.length<=1000000000:=by omega
 rw[cB (by simp only[xH];rw[qb (by omega),qb (by omega),vN (by simp;omega) (by simp;omega)];rfl)];simp only[xH,gq,ep];have:=xF (σ:=Int×List Int×List Int) (R:=List Int×List Int) (max a.length b.length) (by omega) (λi=>((i:Int),b,(eT (max a.length b.length)).map λk=>if k<i then jZ (a.getD k 0) (b.getD k 0) else 0)) (f:=(λI=>(bcase (fE I.1 (aN (max a.length b.length))) (obind (jb (a,I.1)) λM=>(obind (jb (I.2.1,I.1)) λJ=>(chk (fB I.1 (ak I.2.2)) λ_=>(chk (fB I.1 (ak I.2.2)) λ_=>(aa (lX ((bg .i64 (I.1+1)),I.2.1,(cJ I.2.2 I.1 (jZ M J))))))))) (aa (bS (I.2.2,I.2.1)))))) (r:=(jl a b,b)) ?_ ?_
 .refine Eq.trans ?_ this;congr 1;simp only[Int.natCast_zero,vJ,dR,aB,zZ];apply dk<;>simp
 .intro i hi;simp only[];rw[vb (by simp;omega),dB,Jp,Jp,dv,dv,cB (cY (by simpa using hi)),cB (cY (by simpa using hi)),qf hi (by omega),fO];congr 4;apply dk
  .simp
  .intro k h1 h2;simp only[b8,kQ] at h2;simp only[tQ,pU,mR];by_cases e:i=k
   .subst e;simp
   .by_cases h:k<i
    .rw[aC e,aJ h,aJ (by omega)]
    .rw[aC e,aC h,aC (by omega)]
 .simp only[];rw[xJ (by simp),dV];congr 3;unfold jl;apply ph;intro k hk;rw[aJ (mQ.1 hk)]
theorem QI (a b:List Int) (I:a.length<=xk) (hb:b.length<=xk):Au (a,b)=aa (jl a b):=by
 unfold Au;rw[WP a b I hb,dv];exact NQ rfl _
def tk (c:List Int) (t:Nat):List Int:=(c++aF (t+1-c.length) 0).set t (c.getD t 0+1)
theorem KC (c:List Int) (t:Nat):(tk c t).length=max c.length (t+1):=by simp[tk];omega
theorem agf (c:List Int) (n i:Nat):(c++aF n 0).getD i 0=c.getD i 0:=by
 simp only[ax];by_cases h:i<c.length
 .rw[bK h]
 .rw[bX (by omega),bM (l:=c) (by omega),pV];split<;>rfl
theorem Gr (c:List Int) (t i:Nat):(tk c t).getD i 0=if i=t then c.getD t 0+1 else c.getD i 0:=by
 unfold tk;rw[ax,rY];by_cases h:t=i
 .subst h;rw[aJ rfl,aJ (by simp;omega),aJ rfl];rfl
 .rw[aC h,aC (λe=>h e.symm),<-ax,agf]
theorem YA (c:List Int) (n:Nat) (h:c.length<=n):Q4 (aF n 0) c=c++aF (n-c.length) 0:=by
 unfold Q4;rw[ep,fI h,List.drop_replicate]
theorem ab6 (c:List Int) (t:Nat) (hc:c.length<=xk) (ht:t<4) (h0:0<=c.getD t 0) (h1:c.getD t 0<9223372036854775807):rj (c,(t:Int))=aa (tk c t):=by
 unfold xk at hc;unfold rj ck jg bD aW aD cz;simp only[];rw[qb (by omega),dB,lV,vb (by omega)];simp only[dB,lV];have e1:jZ (aN c.length) (bg .i64 ((t:Int)+1))=((max c.length (t+1):Nat):Int):=by
  rw[qf ht (by omega)];exact xH _ _
 rw[e1];rw[cB (by rw[qb (by omega),qb (by omega),vN (by simp;omega) (by simp;omega)];rfl)];rw[gq];have e2:Q4 (aF (max c.length (t+1)) (0:Int)) c=c++aF (t+1-c.length) 0:=by
  rw[YA c _ (by omega)];rw[show max c.length (t+1)-c.length=t+1-c.length from by omega]
 rw[e2];have hl:t<(c++aF (t+1-c.length) (0:Int)).length:=by simp;omega
 rw[cB (cY hl),cB (cY hl),lV];have e3:aH (T:=.int .i64) (c++aF (t+1-c.length) (0:Int)) (t:Int)=c.getD t 0:=by
  rw[s_];exact agf c _ t
 simp only[];rw[e3,vb h1,dB,cB (cY hl),cB (cY hl),cB (cY hl),cB (cY hl),lV,aby (by omega) (by omega),fO];rfl
theorem QZ (c:List Int) (hc:c.length<=xk):Av c=aa c:=by
 unfold xk at hc;unfold Av;rw[cB (vN (by omega) (by omega))]
theorem LH (c:List Int) (hc:c.length<=xk):tW c=aa c:=by
 unfold xk at hc;unfold tW uZ bD;rw[cB (vN (by simp;omega) (by simp;omega)),dv];exact NQ rfl _
theorem LI (c:List Int) (hc:c.length<=xk):oq c=aa c:=QZ c hc
def GL (l:List (List Int)):Prop:=l.length<=xk/\∀ c∈l,c.length<=xk
abbrev HTp:Type:=List (List Int)×List (List Int)×List (List Int)×List (List Int)×List (List Int)×List (List Int)×List Int×List (List Int)×List Int
def GH (h:HTp):Prop:=GL h.1/\GL h.2.1/\GL h.2.2.1/\GL h.2.2.2.1/\GL h.2.2.2.2.1/\GL h.2.2.2.2.2.1/\h.2.2.2.2.2.2.1.length<=xk/\GL h.2.2.2.2.2.2.2.1/\h.2.2.2.2.2.2.2.2.length<=xk
theorem HH {l:List (List Int)} {i:Nat} (h:i<l.length):l.getD i []∈l:=by
 rw[ax,ay h];exact tR h
theorem GL.at {l:List (List Int)} (h:GL l) (i:Nat):(l.getD i []).length<=xk:=by
 by_cases hi:i<l.length
 .exact h.2 _ (HH hi)
 .rw[ax,bM (by omega)];simp
theorem V_ (g:List Int->Option (List Int)) (l:List (List Int)) (hl:l.length<=xk) (hg:∀ c∈l,g c=aa c):
 fZ (σ:=Int×List (List Int)) (λI=>(bcase (fE I.1 (aN (ak l))) (chk (fB I.1 (ak l)) λ_=>(obind (g (aH (T:=(.sl (.int .i64))) l I.1)) λJ=>(chk (fB I.1 (ak I.2)) λ_=>(chk (fB I.1 (ak I.2)) λ_=>(aa (lX ((bg .i64 (I.1+1)),(cJ I.2 I.1 J)))))))) (aa (bS I.2)))) (0,(aF (aS (aN (ak l))) ([]:List Int)))=aa l:=by
 unfold xk at hl;have:=xF (σ:=Int×List (List Int)) (R:=List (List Int)) l.length (by omega) (λi=>((i:Int),(eT l.length).map λk=>if k<i then l.getD k [] else [])) (f:=(λI=>(bcase (fE I.1 (aN (ak l))) (chk (fB I.1 (ak l)) λ_=>(obind (g (aH (T:=(.sl (.int .i64))) l I.1)) λJ=>(chk (fB I.1 (ak I.2)) λ_=>(chk (fB I.1 (ak I.2)) λ_=>(aa (lX ((bg .i64 (I.1+1)),(cJ I.2 I.1 J)))))))) (aa (bS I.2))))) (r:=l) ?_ ?_
 .refine Eq.trans ?_ this;congr 1;simp only[Int.natCast_zero,vJ,dR,aB,zZ,ar,gq];apply dk<;>simp
 .intro i hi;simp only[];rw[vb (by simp;omega),dB,cB (cY hi),s_,show (l.getD i (Ty.zero (.sl (.int .i64))))=l.getD i [] from rfl,hg _ (HH hi),dv,cB (cY (by simpa using hi)),cB (cY (by simpa using hi)),qf hi (by omega),fO];congr 3;apply dk
  .simp
  .intro k h1 h2;simp only[b8,kQ] at h2;simp only[tQ,pU,mR];by_cases e:i=k
   .subst e;simp
   .by_cases h:k<i
    .rw[aC e,aJ h,aJ (by omega)]
    .rw[aC e,aC h,aC (by omega)]
 .simp only[];rw[xJ (by simp),dV];congr 2;apply dk
  .simp
  .intro k h1 h2;simp only[pU,mR];rw[aJ h2,ax,ay h2];rfl
theorem qF (l:List (List Int)) (h:GL l):hX l=aa l:=by
 have hl:=h.1;unfold xk at hl;unfold hX wa ck bu vO bD aW cK aD cz;rw[cB (by rw[qb (by simp),qb (by omega),vN (by simp;omega) (by simp;omega)];rfl)];exact V_ Av l h.1 λc hc=>QZ c (h.2 c hc)
theorem Wa (h:HTp) (g:GH h):sW h=aa (h.2.2.2.2.2.2.1,h.1,h.2.1,h.2.2.1,h.2.2.2.1,h.2.2.2.2.1,h.2.2.2.2.2.1,h.2.2.2.2.2.2.2.1,h.2.2.2.2.2.2.2.2):=by
 obtain⟨g1,g2,g3,Z,Y,U,M,J,I⟩:=g;unfold sW aU bk bt ct em ka pg;rw[qF _ g1,dv,qF _ g2,dv,qF _ g3,dv,qF _ Z,dv,qF _ Y,dv,qF _ U,dv,LI _ M,dv,qF _ J,dv,LI _ I,dv]
abbrev CQ:Type:=List (List UInt8×Int×Int×Bool×Int)×List (List UInt8×Bool)×List (List UInt8×Int)×List (List UInt8)×List (List UInt8)×List (Int×Int×Int)
def h0 (w:CQ):HTp:=(aF w.2.2.2.2.1.length [],aF w.2.2.2.2.1.length [],aF w.2.1.length [],aF w.2.1.length [],aF w.1.length [],aF w.2.2.2.1.length [],[],aF w.2.2.2.2.1.length [],aF w.2.2.2.2.1.length (-1))
theorem Y8 (w:CQ) (h1:w.1.length<=xk) (h2:w.2.1.length<=xk) (M:w.2.2.2.1.length<=xk) (J:w.2.2.2.2.1.length<=xk):o6 w=aa (h0 w):=by
 unfold xk at h1 h2 M J;have c:∀ n b:Nat,n<=1000000000->b<=24->(cR 0 (aN n)&&cR (aN n) (aN n)&&a_ (aS (aN n)) b)=ah:=λn b hn hb=>by
  have:n*b<=n*24:=Nat.mul_le_mul_left n hb;rw[qb (by simp),qb (by omega),vN (by simp;omega) (by simp;omega)];rfl
 unfold o6 yM aU bk bt ct em ka pg ck bu bD aW cK aD cz;rw[cB (c _ 24 J (by omega)),cB (c _ 24 J (by omega)),cB (c _ 24 h2 (by omega)),cB (c _ 24 h2 (by omega)),cB (c _ 24 h1 (by omega)),cB (c _ 24 M (by omega)),cB (c _ 24 J (by omega)),cB (c _ 8 J (by omega))];simp only[ar,gq,ep];have:=xF (σ:=Int×(List (List Int))×(List (List Int))×(List (List Int))×(List (List Int))×(List (List Int))×(List (List Int))×(List (List Int))×List Int) (R:=HTp) w.2.2.2.2.1.length (by omega) (λi=>((i:Int),aF w.2.2.2.2.1.length [],aF w.2.2.2.2.1.length [],aF w.2.1.length [],aF w.2.1.length [],aF w.1.length [],aF w.2.2.2.1.length [],aF w.2.2.2.2.1.length [],(eT w.2.2.2.2.1.length).map λk=>if k<i then -1 else 0)) (f:=(λI=>(bcase (fE I.1 (w.2.2.2.2.1.length:Int)) (chk (fB I.1 (ak I.2.2.2.2.2.2.2.2)) λ_=>(chk (fB I.1 (ak I.2.2.2.2.2.2.2.2)) λ_=>(aa (lX ((bg .i64 (I.1+1)),I.2.1,I.2.2.1,I.2.2.2.1,I.2.2.2.2.1,I.2.2.2.2.2.1,I.2.2.2.2.2.2.1,I.2.2.2.2.2.2.2.1,(cJ I.2.2.2.2.2.2.2.2 I.1 (-1))))))) (aa (bS (I.2.1,I.2.2.1,I.2.2.2.1,I.2.2.2.2.1,I.2.2.2.2.2.1,I.2.2.2.2.2.2.1,([]:List Int),I.2.2.2.2.2.2.2.1,I.2.2.2.2.2.2.2.2)))))) (r:=h0 w) ?_ ?_
 .refine Eq.trans ?_ this;congr 1;simp only[Int.natCast_zero,vJ,dR,aB,zZ];apply dk<;>simp
 .intro i hi;simp only[];rw[vb (by omega),dB,cB (cY (by simpa using hi)),cB (cY (by simpa using hi)),qf hi (by omega),fO];congr 3;simp only[aB,zZ];apply dk
  .simp
  .intro k h1 h2;simp only[b8,kQ] at h2;simp only[tQ,pU,mR];by_cases e:i=k
   .subst e;simp
   .by_cases h:k<i
    .rw[aC e,aJ h,aJ (by omega)]
    .rw[aC e,aC h,aC (by omega)]
 .simp only[];rw[xJ (by omega),dV];unfold h0;congr 3;simp only[aB,zZ];apply dk
  .simp
  .intro k h1 h2;simp only[ep] at h2;simp only[pU,mR,List.getElem_replicate];rw[aJ h2]
theorem xI (x y:Int):jZ x y=max x y:=by
 unfold jZ;by_cases h:x<y
 .rw[vb h,aJ rfl];omega
 .rw[xJ (by omega)];simp;omega
theorem Vl {a b:List Int} (hl:a.length=b.length) (h:∀ i,a.getD i 0=b.getD i 0):a=b:=by
 apply dk hl;intro i h1 h2;have:=h i;simpa[ax,ay h1,ay h2] using this
def En (n:Int) (c:List Int):Prop:=c.length<=4/\∀ i,0<=c.getD i 0/\c.getD i 0<=n
theorem En.nil {n:Int} (h:0<=n):En n []:=⟨by simp,λi=>by simp;exact h⟩
theorem En.mono {n m:Int} {c:List Int} (h:En n c) (hm:n<=m):En m c:=⟨h.1,λi=>⟨(h.2 i).1,Int.le_trans (h.2 i).2 hm⟩⟩
theorem En.jl {n:Int} {a b:List Int} (I:En n a) (hb:En n b):En n (jl a b):=⟨by rw[yJ];have:=I.1;have:=hb.1;omega,λi=>by
 rw[Df];obtain⟨h1,h2⟩:=I.2 i;obtain⟨M,J⟩:=hb.2 i;unfold jZ;split<;>exact⟨by assumption,by assumption⟩⟩
theorem En.tk {n:Int} {c:List Int} {t:Nat} (h:En n c) (ht:t<4):En (n+1) (tk c t):=⟨by rw[KC];have:=h.1;omega,λi=>by
 rw[Gr];obtain⟨h1,h2⟩:=h.2 i;obtain⟨J,I⟩:=h.2 t;split<;>omega⟩
def zW (n:Int) (l:List (List Int)):Prop:=∀ i,En n (l.getD i [])
theorem zW.mono {n m:Int} {l:List (List Int)} (h:zW n l) (hm:n<=m):zW m l:=λi=>(h i).mono hm
theorem zW.set {n:Int} {l:List (List Int)} (h:zW n l) {c:List Int} (hc:En n c) (j:Nat):zW n (l.set j c):=λi=>by
 rw[ax,rY];by_cases e:j=i
 .subst e;rw[aJ rfl];split
  .exact hc
  .have:=h j;simp only[ax] at this;rename_i hj;rw[bM (by omega)] at this;exact this
 .rw[aC e,<-ax];exact h i
theorem zW.repl {n:Int} (h:0<=n) (k:Nat):zW n (aF k []):=λi=>by
 rw[ax,pV];split<;>exact En.nil h
structure HS where
 T:List (List Int)
 S:List (List Int)
 L:List (List Int)
 R:List (List Int)
 C:List (List Int)
 F:List (List Int)
 X:List Int
 N:List (List Int)
 W:List Int
def HS.t (h:HS):HTp:=(h.T,h.S,h.L,h.R,h.C,h.F,h.X,h.N,h.W)
structure EV where
 th:Nat
 k:Nat
 ob:Nat
 va:Int
abbrev WTc:=List (List UInt8×Int)
def Zw (I:WTc) (o:Nat):Nat:=((I.getD o ([],0)).2).toNat
def Xi (I:List (List UInt8×Int×Int×Bool×Int)) (o:Nat):Bool:=(I.getD o ([],0,0,ai,0)).2.2.2.1
def Ac (w:CQ) (h:HS) (e:EV):List (List Int):=
 if e.k=1 then [h.S.getD e.th []]
 else if e.k=21 then [h.T.getD e.ob []]
 else if e.k=6\/e.k=10 then [h.L.getD e.ob [],h.R.getD e.ob []]
 else if e.k=8 then [h.L.getD e.ob []]
 else if e.k=17 then [h.L.getD (Zw w.2.2.1 e.ob) [],h.R.getD (Zw w.2.2.1 e.ob) [],h.N.getD e.th []]
 else if e.k=3 then [h.C.getD e.ob []]
 else if e.k=23 then [h.F.getD e.ob []]
 else if e.k=12 then [h.X]
 else []
def IU (w:CQ) (h:HS) (e:EV):List Int:=tk ((Ac w h e).foldl jl (h.T.getD e.th [])) e.th
def jat (l:List (List Int)) (i:Nat) (c:List Int):List (List Int):=l.set i (jl (l.getD i []) c)
def Be (p:Nat->Bool) (c:List Int) (h:HS):HS:={h with N:=h.N.mapIdx λu x=>if p u then c else x,W:=h.W.mapIdx λu x=>if p u then -1 else x}
def tJ (w:CQ) (h:HS) (e:EV) (c:List Int):HS:=
 let h:={h with T:=h.T.set e.th c}
 if e.k=20 then {h with S:=h.S.set e.ob c}
 else if e.k=7\/e.k=11 then {h with L:=jat h.L e.ob c}
 else if e.k=9 then {h with R:=jat h.R e.ob c}
 else if e.k=16 then {h with L:=jat h.L (Zw w.2.2.1 e.ob) c,W:=h.W.set e.th e.ob}
 else if e.k=4 then (if Xi w.1 e.ob then {h with C:=jat h.C e.ob c} else h)
 else if e.k=22 then {h with F:=jat h.F e.ob c}
 else if e.k=13 then {h with X:=jl h.X c}
 else if e.k=18 then (if 0<=e.va/\e.va<h.N.length then {h with N:=h.N.set e.va.toNat c,W:=h.W.set e.va.toNat (-1)} else h)
 else if e.k=19 then Be (λu=>decide (h.W.getD u 0=(e.ob:Int))) c h
 else h
def ND (w:CQ) (h:HS) (e:EV):HS×List Int:=(tJ w h e (IU w h e),IU w h e)
structure EOK (w:CQ) (h:HS) (e:EV):Prop where
 th4:e.th<4
 th:e.th<h.T.length
 k1:1<=e.k
 k2:e.k<=23
 sp:e.k=20\/e.k=21->e.ob<h.T.length
 lk:6<=e.k/\e.k<=11->e.ob<h.L.length
 cd:e.k=16\/e.k=17->e.ob<w.2.2.1.length/\0<=(w.2.2.1.getD e.ob ([],0)).2/\Zw w.2.2.1 e.ob<h.L.length
 ce:e.k=3\/e.k=4->e.ob<h.C.length/\e.ob<w.1.length
 fu:e.k=22\/e.k=23->e.ob<h.F.length
structure TE (n:Int) (h:HS):Prop where
 n0:0<=n
 n1:n<=1000000
 T:zW n h.T
 S:zW n h.S
 L:zW n h.L
 R:zW n h.R
 C:zW n h.C
 F:zW n h.F
 X:En n h.X
 N:zW n h.N
 lT:h.T.length<=1000
 lS:h.S.length=h.T.length
 lN:h.N.length=h.T.length
 lW:h.W.length=h.T.length
 lL:h.L.length<=1000
 lR:h.R.length=h.L.length
 lC:h.C.length<=1000
 lF:h.F.length<=1000
theorem En.lb {n:Int} {c:List Int} (h:En n c):c.length<=xk:=by have:=h.1;unfold xk;omega
theorem zW.GL {n:Int} {l:List (List Int)} (h:zW n l) (hl:l.length<=1000):GL l:=⟨by unfold xk;omega,λc hc=>by
 obtain⟨i,hi⟩:=eO hc;have:=(h i).lb
 rwa [ax,hi] at this⟩
theorem TE.GH {n:Int} {h:HS} (o:TE n h):GH h.t:=
 ⟨o.T.GL o.lT,o.S.GL (by rw[o.lS];exact o.lT),o.L.GL o.lL,o.R.GL (by rw[o.lR];exact o.lL),o.C.GL o.lC,o.F.GL o.lF,o.X.lb,o.N.GL (by rw[o.lN];exact o.lT),by show h.W.length<=xk;have:=o.lT;rw[o.lW];unfold xk;omega⟩
theorem En.join {n:Int} {a b:List Int} (I:En n a) (hb:En n b):kP (a,b)=aa (AI.jl a b):=abr a b I.lb hb.lb
theorem Re {n:Int} {w:CQ} {h:HS} (o:TE n h) (e:EV):∀ c∈Ac w h e,En n c:=by
 intro c hc;unfold Ac at hc;repeat' (split at hc)
 all_goals simp only[bh,cj,fM] at hc
 .subst hc;exact o.S _
 .subst hc;exact o.T _
 .rcases hc with rfl|rfl
  .exact o.L _
  .exact o.R _
 .subst hc;exact o.L _
 .rcases hc with rfl|rfl|rfl
  .exact o.L _
  .exact o.R _
  .exact o.N _
 .subst hc;exact o.C _
 .subst hc;exact o.F _
 .subst hc;exact o.X
theorem BW {n:Int}:∀ (l:List (List Int)) (c:List Int),En n c->(∀ x∈l,En n x)->En n (l.foldl jl c)
 |[],_,hc,_=>hc
 |x::r,c,hc,h=>BW r _ (hc.jl (h x (dG ..))) λy I=>h y (cO _ I)
theorem YF {n:Int} {w:CQ} {h:HS} (o:TE n h) {e:EV} (he:e.th<4):En (n+1) (IU w h e):=(BW _ _ (o.T _) (Re o e)).tk he
theorem zW.jat {n:Int} {l:List (List Int)} {c:List Int} (h:zW n l) (hc:En n c) (i:Nat):zW n (jat l i c):=h.set ((h i).jl hc) i
theorem zW.mapIdx {n:Int} {l:List (List Int)} {c:List Int} (h:zW n l) (hc:En n c) (p:Nat->Bool):zW n (l.mapIdx λu x=>if p u then c else x):=λi=>by
 rw[ax,List.getElem?_mapIdx];have:=h i;rw[ax] at this;cases I:l[i]? with
 |none=>rw[I] at this;exact this
 |some x=>
  rw[I] at this;simp only[b7,tO];split
  .exact hc
  .exact this
theorem aad {n:Int} {w:CQ} {h:HS} (o:TE n h) (hn:n+1<=1000000) {e:EV} {c:List Int} (hc:En (n+1) c):TE (n+1) (tJ w h e c):=by
 have m:n<=n+1:=by omega
 have oT:zW (n+1) (h.T.set e.th c):=(o.T.mono m).set hc _;have b:TE (n+1) {h with T:=h.T.set e.th c}:=⟨by have:=o.n0;omega,hn,oT,o.S.mono m,o.L.mono m,o.R.mono m,o.C.mono m,o.F.mono m,o.X.mono m,o.N.mono m,by simpa using o.lT,by simpa using o.lS,by simpa using o.lN,by simpa using o.lW,o.lL,o.lR,o.lC,o.lF⟩
 unfold tJ;simp only[];repeat' split
 .exact {b with S:=(o.S.mono m).set hc _,lS:=by simpa using b.lS}
 .exact {b with L:=(o.L.mono m).jat hc _,lL:=by simpa[jat] using b.lL,lR:=by simpa[jat] using b.lR}
 .exact {b with R:=(o.R.mono m).jat hc _,lR:=by simpa[jat] using b.lR}
 .exact {b with L:=(o.L.mono m).jat hc _,lL:=by simpa[jat] using b.lL,lR:=by simpa[jat] using b.lR,lW:=by simpa using b.lW}
 .exact {b with C:=(o.C.mono m).jat hc _,lC:=by simpa[jat] using b.lC}
 .exact b
 .exact {b with F:=(o.F.mono m).jat hc _,lF:=by simpa[jat] using b.lF}
 .exact {b with X:=(o.X.mono m).jl hc}
 .exact {b with N:=(o.N.mono m).set hc _,lN:=by simpa using b.lN,lW:=by simpa using b.lW}
 .exact b
 .exact {b with N:=(o.N.mono m).mapIdx hc _,lN:=by simpa[Be] using b.lN,lW:=by simpa[Be] using b.lW}
 .exact b
theorem Xu {n:Int} {w:CQ} {h:HS} (o:TE n h) (hn:n+1<=1000000) {e:EV} (he:e.th<4):TE (n+1) (ND w h e).1:=aad o hn (YF o he)
theorem YR {a b:Nat} (h:a=b):aA a b=ah:=by subst h;exact qK a
theorem Pb (l:List (List Int)) (i:Nat) (h:i<l.length):sA ((i:Int),l)=aa (l.getD i [],l):=by
 unfold sA ck bu aW aD;simp only[];rw[xJ (by omega)];simp only[dV,lV];rw[X_ (by simp;omega)];simp only[dV];rw[cB (cY h),cB (cY h),qC]
theorem sD {n:Int} (l:List (List Int)) (i:Nat) (c:List Int) (h:i<l.length) (hl:zW n l) (hc:En n c):kW ((i:Int),l,c)=aa (jat l i c,c):=by
 unfold kW ck jg aW aD;simp only[];rw[qb (by omega)];simp only[dB,lV];rw[vb (by simp;omega)];simp only[dB];rw[cB (cY h),cB (cY h),qC,QI _ _ (hl i).lb hc.lb,dv,cB (cY h),cB (cY h),fO];rfl
theorem qz (l:List (List Int)) (i:Nat) (c:List Int):(jat l i c).length=l.length:=by simp[jat]
theorem TQ {n:Int} (h:HS) (u:Nat) (c:List Int) (h1:u<h.N.length) (h2:u<h.W.length) (hc:En n c):uU ((u:Int),h.X,h.T,h.S,h.L,h.R,h.C,h.F,h.N,h.W,c)=aa (h.X,h.T,h.S,h.L,h.R,h.C,h.F,h.N.set u c,h.W.set u (-1),c):=by
 unfold uU aU bk bt ct em ka yz Ba Prod.q10 ck;simp only[];rw[LH c hc.lb,dv,cB (cY h1),cB (cY h1),cB (cY h2),cB (cY h2),fO,fO]
theorem Uu (I:WTc) (i:Nat):aH (T:=.st (.pr .str (.int .i64))) I (i:Int)=I.getD i ([],0):=s_ (T:=.st (.pr .str (.int .i64))) I i
theorem aa5 (I:List (List UInt8×Int×Int×Bool×Int)) (i:Nat):aH (T:=.st (.pr .str (.pr (.int .i64) (.pr (.int .i64) (.pr .bool (.int .i64)))))) I (i:Int)=I.getD i ([],0,0,ai,0):=s_ (T:=.st (.pr .str (.pr (.int .i64) (.pr (.int .i64) (.pr .bool (.int .i64)))))) I i
abbrev ETp:Type:=Int×Int×Int×Int×Int×List Int×List Int
structure EvT (e:EV) (x:ETp):Prop where
 th:x.1=(e.th:Int)
 k:x.2.1=(e.k:Int)
 ob:e.k∈[3,4,6,7,8,9,10,11,16,17,18,19,20,21,22,23]->x.2.2.1=(e.ob:Int)
 va:x.2.2.2.1=e.va
theorem Um {k:Nat} {z:Int} (I:z=(k:Int)) (h1:1<=k) (h2:k<=23):(k=1/\z=1)\/(k=2/\z=2)\/(k=3/\z=3)\/(k=4/\z=4)\/(k=5/\z=5)\/(k=6/\z=6)\/(k=7/\z=7)\/(k=8/\z=8)\/(k=9/\z=9)\/(k=10/\z=10)\/(k=11/\z=11)\/(k=12/\z=12)\/(k=13/\z=13)\/(k=14/\z=14)\/(k=15/\z=15)\/(k=16/\z=16)\/(k=17/\z=17)\/(k=18/\z=18)\/(k=19/\z=19)\/(k=20/\z=20)\/(k=21/\z=21)\/(k=22/\z=22)\/(k=23/\z=23):=by
 have h:k=1\/k=2\/k=3\/k=4\/k=5\/k=6\/k=7\/k=8\/k=9\/k=10\/k=11\/k=12\/k=13\/k=14\/k=15\/k=16\/k=17\/k=18\/k=19\/k=20\/k=21\/k=22\/k=23:=by omega
 subst I;rcases h with rfl|rfl|rfl|rfl|rfl|rfl|rfl|rfl|rfl|rfl|rfl|rfl|rfl|rfl|rfl|rfl|rfl|rfl|rfl|rfl|rfl|rfl|rfl<;>simp
theorem Tl (a:Nat):(aA a a&&ah)=ah:=by rw[YR rfl];rfl
theorem Y7 {n:Int} {w:CQ} {h:HS} (o:TE n h) {e:EV} (ok:EOK w h e) {x:ETp} (hx:EvT e x):sX (x,h.X,w,h.T,h.S,h.L,h.R,h.C,h.F,h.N,h.W)=aa (Ac w h e,x,h.X,w,h.T,h.S,h.L,h.R,h.C,h.F,h.N,h.W):=by
 obtain⟨x1,x2,M,x4,x5,x6,x7⟩:=x;obtain⟨w1,w2,U,w4,w5,w6⟩:=w;obtain⟨th,k,ob,va⟩:=e;obtain⟨q1,Y,q3,q4⟩:=hx;simp only at q1 Y q3 q4;subst q1 q4;have t1:=ok.th;simp only at t1;have fS:fB (th:Int) h.S.length=ah:=cY (by rw[o.lS];exact t1);have fN:fB (th:Int) h.N.length=ah:=cY (by rw[o.lN];exact t1);have fT:k=21->fB (ob:Int) h.T.length=ah/\M=(ob:Int):=λe=>by
  subst e;have:=ok.sp (.inr rfl);exact⟨cY this,q3 (by decide)⟩
 have fL:(k=6\/k=10\/k=8)->fB (ob:Int) h.L.length=ah/\fB (ob:Int) h.R.length=ah/\M=(ob:Int):=λe=>by
  have h1:ob<h.L.length:=ok.lk (by rcases e with rfl|rfl|rfl<;>(simp only[];omega));exact⟨cY h1,cY (by rw[o.lR];exact h1),q3 (by rcases e with rfl|rfl|rfl<;>decide)⟩
 have fC:k=3->fB (ob:Int) h.C.length=ah/\M=(ob:Int):=λe=>by
  subst e;have:=(ok.ce (.inl rfl)).1;exact⟨cY this,q3 (by decide)⟩
 have fF:k=23->fB (ob:Int) h.F.length=ah/\M=(ob:Int):=λe=>by
  subst e;have:=ok.fu (.inr rfl);exact⟨cY this,q3 (by decide)⟩
 unfold sX Ac CM aU bk bt ct em ka yz Ba Prod.q10 Prod.q11 cQ eU ck bc vO bD aD;rcases Um Y ok.k1 ok.k2 with ⟨e,e'⟩|⟨e,e'⟩|⟨e,e'⟩|⟨e,e'⟩|⟨e,e'⟩|⟨e,e'⟩|⟨e,e'⟩|⟨e,e'⟩|⟨e,e'⟩|⟨e,e'⟩|⟨e,e'⟩|⟨e,e'⟩|⟨e,e'⟩|⟨e,e'⟩|⟨e,e'⟩|⟨e,e'⟩|⟨e,e'⟩|⟨e,e'⟩|⟨e,e'⟩|⟨e,e'⟩|⟨e,e'⟩|⟨e,e'⟩|⟨e,e'⟩<;>clear Y<;>subst e<;>subst e'
 case inr.inr.inr.inr.inr.inr.inr.inr.inr.inr.inr.inr.inr.inr.inr.inr.inl=>
  have q3:=q3 (by decide);subst q3;obtain⟨d1,d2,Z⟩:=ok.cd (.inr rfl);simp only at d1 d2 Z;have d4:Zw U ob<h.R.length:=by rw[o.lR];exact Z
  have e1:(U.getD ob ([],0)).2=((Zw U ob:Nat):Int):=by unfold Zw;omega
  simp only[aV,cZ,dI,dB,dV,lV,cB,cY d1,Uu,e1,Pb _ _ Z,Pb _ _ d4,dv,Tl,fN,qC];rfl
 case inr.inr.inl=>
  obtain⟨I,rfl⟩:=fC rfl;simp only[aV,cZ,dI,dB,dV,lV,cB,I,qC];rfl
 case inr.inr.inr.inr.inr.inr.inr.inr.inr.inr.inr.inr.inr.inr.inr.inr.inr.inr.inr.inr.inr.inr=>
  obtain⟨I,rfl⟩:=fF rfl;simp only[aV,cZ,dI,dB,dV,lV,cB,I,qC];rfl
 case inr.inr.inr.inr.inr.inr.inr.inr.inr.inr.inr.inr.inr.inr.inr.inr.inr.inr.inr.inr.inl=>
  obtain⟨I,rfl⟩:=fT rfl;simp only[aV,cZ,dI,dB,dV,lV,cB,I,qC];rfl
 case inl=>
  simp only[aV,cZ,dI,dB,dV,lV,cB,fS,qC];rfl
 case inr.inr.inr.inr.inr.inl=>
  obtain⟨I,J,rfl⟩:=fL (by decide);simp only[aV,cZ,dI,dB,dV,lV,cB,I,J,qC];rfl
 case inr.inr.inr.inr.inr.inr.inr.inr.inr.inl=>
  obtain⟨I,J,rfl⟩:=fL (by decide);simp only[aV,cZ,dI,dB,dV,lV,cB,I,J,qC];rfl
 case inr.inr.inr.inr.inr.inr.inr.inl=>
  obtain⟨I,J,rfl⟩:=fL (by decide);simp only[aV,cZ,dI,dB,dV,lV,cB,I,J,qC];rfl
 all_goals
  simp only[aV,cZ,dI,dB,dV,lV];rfl
theorem K2 {σ R:Type} {f:σ->Option (σ⊕R)} {x0:σ} {r:R} (n:Nat) (hn:n<18446744073709551616) (st:Nat->σ) (I:x0=st 0) (h0:∀ i,i<n->f (st i)=aa (.inl (st (i+1)))) (h1:f (st n)=aa (.inr r)):fZ f x0=aa r:=by
 subst I;exact xF n hn st h0 h1
def Jt {α:Type} (p:Nat->Bool) (c:α) (u:Nat) (l:List α):List α:=l.mapIdx λk x=>if decide (k<u)&&p k then c else x
theorem Xf {α:Type} (p:Nat->Bool) (c:α) (l:List α):Jt p c 0 l=l:=by
 unfold Jt;apply dk
 .simp
 .intro i h1 h2;simp
theorem Gn {α:Type} (p:Nat->Bool) (c:α) (u:Nat) (l:List α):(Jt p c u l).length=l.length:=by simp[Jt]
theorem Ny {α:Type} (p:Nat->Bool) (c:α) (u:Nat) (l:List α) (h:l.length<=u):Jt p c u l=l.mapIdx λk x=>if p k then c else x:=by
 unfold Jt;apply dk
 .simp
 .intro i h1 h2;simp only[List.length_mapIdx] at h1;simp only[List.getElem_mapIdx];rw[show decide (i<u)=ah from aP (by omega)];rfl
theorem TN {α:Type} (p:Nat->Bool) (c:α) (u:Nat) (l:List α) (hp:p u=ah):(Jt p c u l).set u c=Jt p c (u+1) l:=by
 unfold Jt;apply dk
 .simp
 .intro i h1 h2;simp only[tQ,List.getElem_mapIdx];by_cases e:u=i
  .subst e;simp[hp]
  .rw[aC e];by_cases h:i<u
   .rw[aP h,aP (show i<u+1 by omega)]
   .rw[bL h,bL (show ¬i<u+1 by omega)]
theorem Nx {α:Type} (p:Nat->Bool) (c:α) (u:Nat) (l:List α) (hp:p u=ai):Jt p c u l=Jt p c (u+1) l:=by
 unfold Jt;apply dk
 .simp
 .intro i h1 h2;simp only[List.getElem_mapIdx];by_cases e:u=i
  .subst e;simp[hp]
  .by_cases h:i<u
   .rw[aP h,aP (show i<u+1 by omega)]
   .rw[bL h,bL (show ¬i<u+1 by omega)]
theorem ad5 (p:Nat->Bool) (c:Int) (u:Nat) (l:List Int):(Jt p c u l).getD u 0=l.getD u 0:=by
 unfold Jt;rw[ax,List.getElem?_mapIdx,ax];cases l[u]? with
 |none=>rfl
 |some x=>simp
def HS.e (h:HS) (c:List Int):List Int×List (List Int)×List (List Int)×List (List Int)×List (List Int)×List (List Int)×List (List Int)×List (List Int)×List Int×List Int:=(h.X,h.T,h.S,h.L,h.R,h.C,h.F,h.N,h.W,c)
theorem Yv {n:Int} {w:CQ} {h:HS} (o:TE n h) (hn:n+1<=1000000) {e:EV} (ok:EOK w h e) {x:ETp} (hx:EvT e x) {c:List Int} (hc:En (n+1) c):qw ((w,x),h.e c)=aa ((tJ w h e c).e c):=by
 obtain⟨x1,x2,x3,I,x5,x6,x7⟩:=x;obtain⟨M,w2,U,w4,w5,w6⟩:=w;obtain⟨th,k,ob,va⟩:=e;obtain⟨q1,q2,q3,q4⟩:=hx;simp only at q1 q2 q3 q4;subst q1 q4;have t1:=ok.th;simp only at t1;have m:n<=n+1:=by omega
 have fT:fB (th:Int) h.T.length=ah:=cY t1;have fW:fB (th:Int) h.W.length=ah:=cY (by rw[o.lW];exact t1);have J:=LH c hc.lb;unfold qw yL HS.e CM Prod.p11 Prod.p12 Prod.p13 Prod.p14 Prod.p15 Prod.p16 Prod.p17 aU bk bt ct em ka yz Ba Prod.q10 Prod.q16 Prod.q17 Prod.q18 cQ lY Prod.q9 ck bc bu jg vO bD aW cK aD cz;rcases Um q2 ok.k1 ok.k2 with ⟨e,e'⟩|⟨e,e'⟩|⟨e,e'⟩|⟨e,e'⟩|⟨e,e'⟩|⟨e,e'⟩|⟨e,e'⟩|⟨e,e'⟩|⟨e,e'⟩|⟨e,e'⟩|⟨e,e'⟩|⟨e,e'⟩|⟨e,e'⟩|⟨e,e'⟩|⟨e,e'⟩|⟨e,e'⟩|⟨e,e'⟩|⟨e,e'⟩|⟨e,e'⟩|⟨e,e'⟩|⟨e,e'⟩|⟨e,e'⟩|⟨e,e'⟩<;>clear q2<;>subst e<;>subst e'
 case inr.inr.inr.inr.inr.inr.inr.inr.inr.inr.inr.inr.inr.inr.inr.inr.inr.inr.inr.inl=>
  obtain rfl:=q3 (by decide);have f:fB (ob:Int) h.S.length=ah:=cY (by rw[o.lS];exact ok.sp (.inl rfl));simp only[aV,cZ,dI,dB,dV,lV,dv,cB,J,fT,f,fO];rfl
 case inr.inr.inr.inr.inr.inr.inl=>
  obtain rfl:=q3 (by decide);have f:ob<h.L.length:=ok.lk (by simp only[];omega);simp only[aV,cZ,dI,dB,dV,lV,dv,cB,J,fT,fO,sD _ _ _ f (o.L.mono m) hc,qz,Tl];rfl
 case inr.inr.inr.inr.inr.inr.inr.inr.inr.inr.inl=>
  obtain rfl:=q3 (by decide);have f:ob<h.L.length:=ok.lk (by simp only[];omega);simp only[aV,cZ,dI,dB,dV,lV,dv,cB,J,fT,fO,sD _ _ _ f (o.L.mono m) hc,qz,Tl];rfl
 case inr.inr.inr.inr.inr.inr.inr.inr.inl=>
  obtain rfl:=q3 (by decide);have f:ob<h.R.length:=by rw[o.lR];exact ok.lk (by simp only[];omega)
  simp only[aV,cZ,dI,dB,dV,lV,dv,cB,J,fT,fO,sD _ _ _ f (o.R.mono m) hc,qz,Tl];rfl
 case inr.inr.inr.inr.inr.inr.inr.inr.inr.inr.inr.inr.inr.inr.inr.inl=>
  obtain rfl:=q3 (by decide);obtain⟨Z,d2,d3⟩:=ok.cd (.inl rfl);simp only at Z d2 d3;have e1:(U.getD ob ([],0)).2=((Zw U ob:Nat):Int):=by unfold Zw;omega
  simp only[aV,cZ,dI,dB,dV,lV,dv,cB,J,fT,fW,fO,cY Z,Uu,e1,sD _ _ _ d3 (o.L.mono m) hc,qz,Tl];rfl
 case inr.inr.inr.inl=>
  obtain rfl:=q3 (by decide);obtain⟨Z,d2⟩:=ok.ce (.inr rfl);simp only at Z d2;simp only[aV,cZ,dI,dB,dV,lV,dv,cB,J,fT,fO,cY d2,aa5];cases hv:(M.getD ob ([],0,0,ai,0)).2.2.2.1 with
  |true=>
   simp only[dB,dv,cB,sD _ _ _ Z (o.C.mono m) hc,qz,Tl,lV];have Y:tJ (M,w2,U,w4,w5,w6) h ⟨th,4,ob,I⟩ c=if Xi M ob then {h with T:=h.T.set th c,C:=jat h.C ob c} else {h with T:=h.T.set th c}:=rfl
   rw[Y,show Xi M ob=ah from hv];rfl
  |false=>
   simp only[dV,lV];have Y:tJ (M,w2,U,w4,w5,w6) h ⟨th,4,ob,I⟩ c=if Xi M ob then {h with T:=h.T.set th c,C:=jat h.C ob c} else {h with T:=h.T.set th c}:=rfl
   rw[Y,show Xi M ob=ai from hv];rfl
 case inr.inr.inr.inr.inr.inr.inr.inr.inr.inr.inr.inr.inr.inr.inr.inr.inr.inr.inr.inr.inr.inl=>
  obtain rfl:=q3 (by decide);have f:ob<h.F.length:=ok.fu (.inl rfl);simp only[aV,cZ,dI,dB,dV,lV,dv,cB,J,fT,fO,sD _ _ _ f (o.F.mono m) hc,qz,Tl];rfl
 case inr.inr.inr.inr.inr.inr.inr.inr.inr.inr.inr.inr.inl=>
  simp only[aV,cZ,dI,dB,dV,lV,dv,cB,J,fT,fO,QI _ _ (o.X.mono m).lb hc.lb];rfl
 case inr.inr.inr.inr.inr.inr.inr.inr.inr.inr.inr.inr.inr.inr.inr.inr.inr.inl=>
  simp only[aV,cZ,dI,dB,dV,lV,dv,cB,J,fT,fO];have Y:tJ (M,w2,U,w4,w5,w6) h ⟨th,18,ob,I⟩ c=if 0<=I/\I<h.N.length then {h with T:=h.T.set th c,N:=h.N.set I.toNat c,W:=h.W.set I.toNat (-1)} else {h with T:=h.T.set th c}:=rfl
  rw[Y];by_cases h0:0<=I
  .by_cases h1:I<h.N.length
   .rw[qb h0];simp only[dB,lV];rw[vb (show I<aN h.N.length from h1)];obtain⟨v,rfl⟩:∃ v:Nat,I=(v:Int):=⟨I.toNat,by omega⟩
    have v1:v<h.N.length:=by omega
    have v2:v<h.W.length:=by rw[o.lW,<-o.lN];exact v1
    have:=TQ {h with T:=h.T.set th c} v c v1 v2 hc;simp only[] at this;simp only[dB,this,dv,rB,cB,YR rfl,kh,lV];rw[aJ ⟨h0,h1⟩];rfl
   .rw[qb h0];simp only[dB,lV];rw[xJ (show aN h.N.length<=I from AX.1 h1)];simp only[dV,lV];rw[aC (λq=>h1 q.2)]
  .rw[X_ (by omega)];simp only[dV,lV];rw[aC (λq=>h0 q.1)]
 case inr.inr.inr.inr.inr.inr.inr.inr.inr.inr.inr.inr.inr.inr.inr.inr.inr.inr.inl=>
  obtain rfl:=q3 (by decide);simp only[aV,cZ,dI,dB,dV,lV,dv,cB,J,fT,fO];rw[K2 (r:=bS (h.X,h.T.set th c,h.S,h.L,h.R,h.C,h.F,Jt (λu=>decide (h.W.getD u 0=(ob:Int))) c h.W.length h.N,Jt (λu=>decide (h.W.getD u 0=(ob:Int))) (-1) h.W.length h.W,c)) h.W.length (by have:=o.lW;have:=o.lT;omega)
   (λi=>((i:Int),h.X,h.T.set th c,h.S,h.L,h.R,h.C,h.F,Jt (λu=>decide (h.W.getD u 0=(ob:Int))) c i h.N,Jt (λu=>decide (h.W.getD u 0=(ob:Int))) (-1) i h.W,c,(th:Int),(19:Int),(ob:Int),I,x5,x6,x7)) ?_ ?_ ?_]
  .simp only[lV];rw[Ny _ _ _ h.W (bQ _),Ny _ _ _ h.N (by rw[o.lN,o.lW];exact bQ _)];rfl
  .simp only[Xf];rfl
  .intro i hi;simp only[];have hN:i<(Jt (λu=>decide (h.W.getD u 0=(ob:Int))) c i h.N).length:=by rw[Gn,o.lN,<-o.lW];exact hi
   have hW:i<(Jt (λu=>decide (h.W.getD u 0=(ob:Int))) (-1) i h.W).length:=by rw[Gn];exact hi
   rw[vb (by simp;omega),dB,cB (cY hW),cB (cY hW),adm,ad5];have ws:=qf hi (show h.W.length<=1099511627776 by have:=o.lW;have:=o.lT;omega);by_cases hp:h.W.getD i 0=(ob:Int)
   .rw[aP hp,dB];have:=TQ {h with T:=h.T.set th c,N:=Jt (λu=>decide (h.W.getD u 0=(ob:Int))) c i h.N,W:=Jt (λu=>decide (h.W.getD u 0=(ob:Int))) (-1) i h.W} i c hN hW hc;simp only[] at this;rw[this,dv,cB (by simp only[rB,YR rfl,kh]),lV,ws,TN _ _ _ _ (aP hp),TN _ _ _ _ (aP hp)]
   .rw[bL hp,dV,lV,ws,<-Nx _ _ _ _ (bL hp),<-Nx _ _ _ _ (bL hp)]
  .simp only[];rw[xJ (by simp),dV]
 all_goals
  simp only[aV,cZ,dI,dB,dV,lV,dv,cB,J,fT,fO];rfl
theorem Sd (l:List (List Int)) (c:List Int) (i:Nat) (hi:i<l.length):(l.take (i+1)).foldl jl c=jl ((l.take i).foldl jl c) (l.getD i []):=by
 rw[List.take_add_one,fk,ay hi,ax,ay hi];rfl
theorem NH (w:CQ) (h:HS) (e:EV):(Ac w h e).length<=3:=by
 unfold Ac;repeat' split
 all_goals simp
theorem adv {n:Int} {w:CQ} {h:HS} (o:TE n h) (e:EV) (i:Nat):0<=((Ac w h e).foldl jl (h.T.getD e.th [])).getD i 0/\((Ac w h e).foldl jl (h.T.getD e.th [])).getD i 0<9223372036854775807:=by
 have:=(BW _ _ (o.T e.th) (Re (w:=w) o e)).2 i;have:=o.n1;omega
theorem Es (w:CQ) (h:HS) (e:EV) (c:List Int):(tJ w h e c).T.length=h.T.length/\(tJ w h e c).S.length=h.S.length/\(tJ w h e c).L.length=h.L.length/\(tJ w h e c).R.length=h.R.length/\(tJ w h e c).C.length=h.C.length/\(tJ w h e c).F.length=h.F.length/\(tJ w h e c).N.length=h.N.length/\(tJ w h e c).W.length=h.W.length:=by
 unfold tJ;simp only[];repeat' split
 all_goals simp[jat,Be]
theorem ab9 {n:Int} {w:CQ} {h:HS} (o:TE n h) (hn:n+1<=1000000) {e:EV} (ok:EOK w h e) {x:ETp} (hx:EvT e x):ri (w,h.t,x)=aa ((ND w h e).1.t,(ND w h e).2):=by
 have s2:=Y7 o ok hx;have hce:En (n+1) (IU w h e):=YF o ok.th4;have en:=Yv o hn ok hx hce;have cp:=Wa h.t o.GH;have sl:=NH w h e;have sE:=Re (w:=w) o e;have hlen:=Es w h e (IU w h e);obtain⟨x1,x2,x3,x4,x5,x6,x7⟩:=x;obtain⟨Z,Y,U,M,J,I⟩:=w;have t1:=hx.th;simp only at t1;subst t1;unfold HS.t at cp;simp only[] at cp;have fT:fB (e.th:Int) h.T.length=ah:=cY ok.th;unfold ri BT HS.t CM Prod.p11 aU bk bt ct em ka yz Ba Prod.q11 Prod.q12 cQ eU pg Prod.q9 ck bu vO bD aW cK cz;simp only[];rw[cp,dv];simp only[];rw[cB fT,cB fT,s2,dv];simp only[];rw[cB (by simp only[YR rfl,kh])];refine K2 (Ac (Z,Y,U,M,J,I) h e).length (by omega) (λi=>((i:Int),(Z,Y,U,M,J,I),((e.th:Int),x2,x3,x4,x5,x6,x7),h.X,((Ac (Z,Y,U,M,J,I) h e).take i).foldl jl (h.T.getD e.th []),h.T,h.S,h.L,h.R,h.C,h.F,h.N,h.W)) ?_ ?_ ?_
 .simp only[qC,List.take_zero,List.foldl_nil];rfl
 .intro i hi;simp only[];rw[vb (by simp;omega),dB,cB (cY hi),qC,(BW _ _ (o.T e.th) (λy hy=>sE y (iT hy))).join (sE _ (HH hi)),dv,qf hi (by omega),Sd _ _ _ hi]
 .simp only[];rw[xJ (by simp),dV,fI (bQ _)];have hl:=adv (w:=(Z,Y,U,M,J,I)) o e e.th;rw[ab6 _ e.th (BW _ _ (o.T e.th) sE).lb ok.th4 hl.1 hl.2,dv];unfold HS.e at en;unfold IU at en hlen;rw[en,dv];simp only[];rw[cB (by rw[hlen.1,hlen.2.1,hlen.2.2.1,hlen.2.2.2.1,hlen.2.2.2.2.1,hlen.2.2.2.2.2.1,hlen.2.2.2.2.2.2.1,hlen.2.2.2.2.2.2.2];simp only[YR rfl,kh])];rfl
abbrev uI:Ty:=(.st (.pr (.int .i64) (.sl (.st (.pr (.int .i64) (.pr (.int .i64) (.pr (.int .i64) (.pr (.int .i64) (.pr (.int .i64) (.int .i64))))))))))
abbrev Aa:Ty:=(.st (.pr (.int .i64) (.pr (.int .i64) (.pr (.int .i64) (.pr (.int .i64) (.pr (.int .i64) (.int .i64)))))))
abbrev tF:Ty:=(.st (.pr (.int .i64) (.pr (.sl (.int .i64)) (.pr (.sl (.sl (.int .i64))) (.int .i64)))))
abbrev xp:Ty:=(.st (.pr .str (.pr (.int .i64) (.pr (.sl .str) (.sl .sm)))))
abbrev tDc:Ty:=(.st (.pr (.int .i64) (.pr (.int .i64) (.pr .str (.pr (.int .i64) (.pr (.int .i64) .str))))))
abbrev tE:Ty:=(.st (.pr (.int .i64) (.pr (.int .i64) (.pr (.int .i64) (.pr (.int .i64) (.pr (.int .i64) (.pr (.sl (.int .i64)) (.sl (.int .i64)))))))))
abbrev Rc:Ty:=(.st (.pr .str .bool))
abbrev NA:Ty:=(.st (.pr .str (.pr (.int .i64) (.pr (.int .i64) (.pr .bool (.int .i64))))))
abbrev wJ:Ty:=(.st (.pr (.int .i64) (.pr (.int .i64) (.int .i64))))
abbrev Q2:Ty:=(.st (.pr .str (.int .i64)))
abbrev yT:Ty:=(.st (.pr (.int .i64) (.sl (.int .i64))))
abbrev jB:Ty:=(.st (.pr (.int .i64) (.pr (.int .i64) .bool)))
def Ok {R:Type} (o:Option R) (Q:R->Prop):Prop:=∃ y,o=aa y/\Q y
theorem Ok.mono {R:Type} {o:Option R} {Q Q':R->Prop} (h:Ok o Q) (hq:∀ y,Q y->Q' y):Ok o Q':=by obtain⟨y,h1,h2⟩:=h;exact⟨y,h1,hq y h2⟩
theorem al {R:Type} {y:R} {Q:R->Prop} (h:Q y):Ok (aa y) Q:=⟨y,rfl,h⟩
theorem agi {R:Type} {o:Option R} {y:R} {Q:R->Prop} (e:o=aa y) (h:Q y):Ok o Q:=⟨y,e,h⟩
theorem ba {R:Type} {b:Bool} {k:Option R} {Q:R->Prop} (h:b=ah) (hk:Ok k Q):Ok (chk b λ_=>k) Q:=by subst h;exact hk
theorem aO {R:Type} {b:Bool} {t f:Option R} {Q:R->Prop} (ht:b=ah->Ok t Q) (hf:b=ai->Ok f Q):Ok (bcase b t f) Q:=by
 cases b with
 |true=>exact ht rfl
 |false=>exact hf rfl
theorem fg {R:Type} {b:Bool} {t f:Option R} {Q:R->Prop} (h:b=ah) (ht:Ok t Q):Ok (bcase b t f) Q:=by subst h;exact ht
theorem fy {R:Type} {b:Bool} {t f:Option R} {Q:R->Prop} (h:b=ai) (hf:Ok f Q):Ok (bcase b t f) Q:=by subst h;exact hf
theorem aw {α R:Type} {o:Option α} {k:α->Option R} {P:α->Prop} {Q:R->Prop} (h:Ok o P) (hk:∀ x,P x->Ok (k x) Q):Ok (obind o k) Q:=by
 obtain⟨x,rfl,I⟩:=h;exact hk x I
theorem aT {α R:Type} {o:Option α} {k:α->Option R} {x:α} {Q:R->Prop} (h:o=aa x) (hk:Ok (k x) Q):Ok (obind o k) Q:=by subst h;exact hk
theorem aR {α R:Type} {x:α} {k:α->Option R} {Q:R->Prop} (h:Ok (k x) Q):Ok (lt x k) Q:=h
theorem aX {α R:Type} {o:Option (R⊕α)} {k:α->Option R} {Q:R->Prop} (P:α->Prop) (h:Ok o λr=>match r with|.inl r=>Q r|.inr x=>P x) (hk:∀ x,P x->Ok (k x) Q):Ok (jn o k) Q:=by
 obtain⟨r,rfl,hr⟩:=h;cases r with
 |inl r=>exact⟨r,rfl,hr⟩
 |inr x=>exact hk x hr
theorem gE {α R:Type} {o:Option (R⊕α)} {k:α->Option R} {Q:R->Prop} (h:Ok o λr=>match r with|.inl r=>Q r|.inr x=>Ok (k x) Q):Ok (jn o k) Q:=aX (λx=>Ok (k x) Q) h λ_ h=>h
theorem ZV {α R:Type} {a b:α} {r:Option R} {Q:R->Prop} (e:a=b) (h:Ok r Q):Ok (same a b r) Q:=by unfold same;rw[aJ e];exact h
theorem pl {σ R:Type} {f:σ->Option (σ⊕R)} {Q:R->Prop} (μ:σ->Nat) (I:σ->Prop) (h:∀ x,I x->Ok (f x) λr=>match r with|.inl y=>I y/\μ y<μ x|.inr r=>Q r) {x:σ} (J:I x):Ok (iter f x) Q:=by
 have key:∀ n x,μ x<n->I x->∃ m r,iterN f m x=aa r/\Q r:=by
  intro n;induction n with
  |zero=>intro x hm;omega
  |succ n M=>
   intro x hm J;obtain⟨r,h1,h2⟩:=h x J;cases r with
   |inl y=>
    obtain⟨m,r,Y,U⟩:=M y (by have:=h2.2;omega) h2.1;exact⟨m+1,r,by rw[iterN,h1];exact Y,U⟩
   |inr r=>exact⟨1,r,by rw[iterN,h1],h2⟩
 obtain⟨m,r,h1,h2⟩:=key (μ x+1) x (AW _) J;exact⟨r,xE h1,h2⟩
theorem cf {σ R:Type} {f:σ->Option (σ⊕R)} {Q:R->Prop} (n:Nat) (I:Nat->σ->Prop) (h0:∀ i x,i<n->I i x->Ok (f x) λr=>match r with|.inl y=>I (i+1) y|.inr r=>Q r) (h1:∀ x,I n x->Ok (f x) λr=>match r with|.inl _=>False|.inr r=>Q r) {x:σ} (U:I 0 x):Ok (iter f x) Q:=by
 have key:∀ m i x,i+m=n->I i x->∃ k r,iterN f k x=aa r/\Q r:=by
  intro m;induction m with
  |zero=>
   intro i x hi U;have:i=n:=by omega
   subst this;obtain⟨r,M,J⟩:=h1 x U;cases r with
   |inl y=>exact J.elim
   |inr r=>exact⟨1,r,by rw[iterN,M],J⟩
  |succ m Y=>
   intro i x hi U;obtain⟨r,M,J⟩:=h0 i x (by omega) U;cases r with
   |inl y=>
    obtain⟨k,r,g3,Z⟩:=Y (i+1) y (by omega) J;exact⟨k+1,r,by rw[iterN,M];exact g3,Z⟩
   |inr r=>exact⟨1,r,by rw[iterN,M],J⟩
 obtain⟨m,r,M,J⟩:=key n 0 x (by omega) U;exact⟨r,xE M,J⟩
def itQ {σ R:Type} (f:σ->Option (σ⊕R)) (Q:R->Prop):σ⊕R->Prop
 |.inl y=>Ok (iter f y) Q
 |.inr r=>Q r
def jnQ {α R:Type} (k:α->Option R) (Q:R->Prop):R⊕α->Prop
 |.inl r=>Q r
 |.inr x=>Ok (k x) Q
theorem ZU {σ R:Type} {f:σ->Option (σ⊕R)} {x:σ} {Q:R->Prop} (h:Ok (f x) (itQ f Q)):Ok (iter f x) Q:=by
 obtain⟨r,h1,h2⟩:=h;cases r with
 |inr r=>exact⟨r,xE (n:=1) (by rw[iterN,h1]),h2⟩
 |inl y=>
  obtain⟨z,I,J⟩:=h2;unfold iter at I;split at I
  .exact⟨z,xE (n:=_+1) (by rw[iterN,h1];exact I),J⟩
  .cases I
theorem Uh {σ R:Type} {f:σ->Option (σ⊕R)} {y:σ} {Q:R->Prop} (h:Ok (iter f y) Q):Ok (aa (.inl y)) (itQ f Q):=⟨_,rfl,h⟩
theorem Ug {σ R:Type} {f:σ->Option (σ⊕R)} {r:R} {Q:R->Prop} (h:Ok (aa r) Q):Ok (aa (.inr r)) (itQ f Q):=by
 obtain⟨_,h1,h2⟩:=h;cases h1;exact⟨_,rfl,h2⟩
theorem Ue {α R:Type} {o:Option (R⊕α)} {k:α->Option R} {Q:R->Prop} (h:Ok o (jnQ k Q)):Ok (jn o k) Q:=by
 obtain⟨r,rfl,hr⟩:=h;cases r with
 |inl r=>exact⟨r,rfl,hr⟩
 |inr x=>exact hr
theorem Uf {α R:Type} {r:R} {k:α->Option R} {Q:R->Prop} (h:Ok (aa r) Q):Ok (aa (.inl r)) (jnQ k Q):=by
 obtain⟨_,h1,h2⟩:=h;cases h1;exact⟨_,rfl,h2⟩
theorem Ud {α R:Type} {x:α} {k:α->Option R} {Q:R->Prop} (h:Ok (k x) Q):Ok (aa (.inr x)) (jnQ k Q):=⟨_,rfl,h⟩
def oQ {α R:Type} (k:α->Option R) (Q:R->Prop) (x:α):Prop:=Ok (k x) Q
theorem N9 {α R:Type} {o:Option α} {k:α->Option R} {Q:R->Prop} (h:Ok o (oQ k Q)):Ok (obind o k) Q:=aw h λ_ h=>h
theorem N8 {α R:Type} {x:α} {k:α->Option R} {Q:R->Prop} (h:Ok (k x) Q):Ok (aa x) (oQ k Q):=⟨_,rfl,h⟩
theorem Z9 {j:Int} {n:Nat}:fB j n=ah↔0<=j/\j<n:=by simp[fB,cR,fE]
theorem F6 {a b:Int}:cR a b=ah↔a<=b:=by simp[cR]
theorem sg {a b:Int}:fE a b=ah↔a<b:=by simp[fE]
theorem fP {a b:Int}:fE a b=ai↔b<=a:=by simp[fE]
theorem kC {a b:Int}:cR a b=ai↔b<a:=by simp[cR]
theorem Vb {n b:Nat}:a_ n b=ah↔n<=1099511627776/\n*b<=1099511627776:=by simp[a_]
theorem cE {R:Type} {o:Option R} {v:R} (h:Ok o (·=v)):o=aa v:=by obtain⟨y,h1,h2⟩:=h;rw[h1,h2]
section steps
variable {R:Type} {k t f:Option R} {Q:R->Prop}
theorem aQ {j:Int} {n:Nat} (h0:0<=j) (h1:j<n) (hk:Ok k Q):Ok (chk (fB j n) λ_=>k) Q:=ba (Z9.2 ⟨h0,h1⟩) hk
theorem bf {n b:Nat} (h0:n<=1073741824) (h1:b<=1024) (hk:Ok k Q):Ok (chk (a_ n b) λ_=>k) Q:=
 ba (Vb.2 ⟨by omega,c7 (Nat.mul_le_mul h0 h1) (by omega)⟩) hk
theorem db {a b:Bool} (h:Ok (chk a λ_=>chk b λ_=>k) Q):Ok (chk (a&&b) λ_=>k) Q:=by
 cases a with
 |true=>exact h
 |false=>obtain⟨y,h,_⟩:=h;cases h
theorem ey {a b:Int} (h:a<=b) (hk:Ok k Q):Ok (chk (cR a b) λ_=>k) Q:=ba (F6.2 h) hk
theorem yG {a b:Int} (h:a<b) (hk:Ok k Q):Ok (chk (fE a b) λ_=>k) Q:=ba (sg.2 h) hk
theorem Ui {p:Prop} {i:Decidable p} (h:p) (hk:Ok k Q):Ok (chk (decide p) λ_=>k) Q:=ba (aP h) hk
theorem xw {p:Prop} {i:Decidable p} (h:¬p) (hk:Ok k Q):Ok (chk (!decide p) λ_=>k) Q:=ba (by simp[h]) hk
theorem kS {a b:Nat} (h:a=b) (hk:Ok k Q):Ok (chk (aA a b) λ_=>k) Q:=ba (by subst h;exact qK a) hk
theorem zo (hk:Ok k Q):Ok (chk ah λ_=>k) Q:=hk
theorem bA {a b:Int} (ht:a<b->Ok t Q) (hf:b<=a->Ok f Q):Ok (bcase (fE a b) t f) Q:=aO (λh=>ht (sg.1 h)) (λh=>hf (fP.1 h))
theorem e_ {a b:Int} (ht:a<=b->Ok t Q) (hf:b<a->Ok f Q):Ok (bcase (cR a b) t f) Q:=aO (λh=>ht (F6.1 h)) (λh=>hf (kC.1 h))
theorem aI {p:Prop} {i:Decidable p} (ht:p->Ok t Q) (hf:¬p->Ok f Q):Ok (bcase (decide p) t f) Q:=aO (λh=>ht (bm h)) (λh=>hf (Q5 h))
theorem bZ {p:Prop} {i:Decidable p} (ht:¬p->Ok t Q) (hf:p->Ok f Q):Ok (bcase (!decide p) t f) Q:=aO (λh=>ht (by simpa using h)) (λh=>hf (by simpa using h))
theorem dW {b:Bool} (ht:b=ai->Ok t Q) (hf:b=ah->Ok f Q):Ok (bcase (!b) t f) Q:=aO (λh=>ht (by simpa using h)) (λh=>hf (by simpa using h))
theorem N_ (ht:Ok t Q):Ok (bcase ah t f) Q:=ht
theorem fh (hf:Ok f Q):Ok (bcase ai t f) Q:=hf
theorem cw {j:Int} {n:Nat} (hk:Ok k Q) (h0:0<=j:=by first|omega|(dsimp only;omega)) (h1:j<n:=by first|omega|(dsimp only;omega)):Ok (chk (fB j n) λ_=>k) Q:=aQ h0 h1 hk
theorem dl {a b:Int} (ht:Ok t Q) (h:a<b:=by first|omega|(dsimp only[ar];omega)):Ok (bcase (fE a b) t f) Q:=bA (λ_=>ht) λg=>cX h (AX.2 g)
theorem dc {a b:Int} (hf:Ok f Q) (h:b<=a:=by first|omega|(dsimp only[ar];omega)):Ok (bcase (fE a b) t f) Q:=bA (λg=>cX g (AX.2 h)) λ_=>hf
end steps
theorem p_:(∀ (p:Prop) [Decidable p],(decide p=ah)=p)/\(∀ p:Prop,(True\/p)=True)/\(∀ p:Prop,(p\/True)=True)/\(∀ p:Prop,(True->p)=p)/\(∀ p:Prop,(True/\p)=p)/\∀ p:Prop,(p/\True)=p:=⟨λ_=>bP,true_or,or_true,λ_=>true_implies _,zZ,and_true⟩
theorem rR:(∀ i:Decidable True,@decide True i=ah)/\(∀ i:Decidable False,@decide False i=ai)/\(∀ {R:Type} (t f:Option R),bcase ah t f=t)/\(∀ {R:Type} (t f:Option R),bcase ai t f=f)/\(∀ {α R:Type} (x:α) (k:α->Option R),jn (aa (.inr x)) k=k x)/\(∀ {α R:Type} (r:R) (k:α->Option R),jn (aa (.inl r)) k=aa r)/\(∀ {α R:Type} (x:α) (k:α->Option R),obind (aa x) k=k x)/\(∀ {α R:Type} (x:α) (k:α->Option R),lt x k=k x)/\(!ah)=ai/\(!ai)=ah:=⟨dI,cZ,λ_ _=>rfl,λ_ _=>rfl,λ_ _=>rfl,λ_ _=>rfl,λ_ _=>rfl,λ_ _=>rfl,rfl,rfl⟩
structure IM (p q:Prop):Prop where
 h:p->q
inductive OS {R:Type}:Option R->(R->Prop)->Prop where
 |cand {a b:Bool} {k:Option R} {Q:R->Prop} (h:Ok (chk a λ_=>chk b λ_=>k) Q):OS (chk (a&&b) λ_=>k) Q
 |fB {j:Int} {n:Nat} {k:Option R} {Q:R->Prop} (h0:0<=j) (h1:j<n) (hk:Ok k Q):OS (chk (fB j n) λ_=>k) Q
 |room {n b:Nat} {k:Option R} {Q:R->Prop} (h0:n<=1073741824) (h1:b<=1024) (hk:Ok k Q):OS (chk (a_ n b) λ_=>k) Q
 |cile {a b:Int} {k:Option R} {Q:R->Prop} (h:a<=b) (hk:Ok k Q):OS (chk (cR a b) λ_=>k) Q
 |cilt {a b:Int} {k:Option R} {Q:R->Prop} (h:a<b) (hk:Ok k Q):OS (chk (fE a b) λ_=>k) Q
 |cdec {p:Prop} {i:Decidable p} {k:Option R} {Q:R->Prop} (h:p) (hk:Ok k Q):OS (chk (decide p) λ_=>k) Q
 |cndec {p:Prop} {i:Decidable p} {k:Option R} {Q:R->Prop} (h:¬p) (hk:Ok k Q):OS (chk (!decide p) λ_=>k) Q
 |cbeq {a b:Nat} {k:Option R} {Q:R->Prop} (h:a=b) (hk:Ok k Q):OS (chk (aA a b) λ_=>k) Q
 |cT {k:Option R} {Q:R->Prop} (hk:Ok k Q):OS (chk ah λ_=>k) Q
 |lt {α:Type} {x:α} {k:α->Option R} {Q:R->Prop} (h:Ok (k x) Q):OS (lt x k) Q
 |b1 {t f:Option R} {Q:R->Prop} (h:Ok t Q):OS (bcase ah t f) Q
 |b0 {t f:Option R} {Q:R->Prop} (h:Ok f Q):OS (bcase ai t f) Q
 |fE {a b:Int} {t f:Option R} {Q:R->Prop} (ht:IM (a<b) (Ok t Q)) (hf:IM (b<=a) (Ok f Q)):OS (bcase (fE a b) t f) Q
 |cR {a b:Int} {t f:Option R} {Q:R->Prop} (ht:IM (a<=b) (Ok t Q)) (hf:IM (b<a) (Ok f Q)):OS (bcase (cR a b) t f) Q
 |dec {p:Prop} {i:Decidable p} {t f:Option R} {Q:R->Prop} (ht:IM p (Ok t Q)) (hf:IM (¬p) (Ok f Q)):OS (bcase (decide p) t f) Q
 |ndec {p:Prop} {i:Decidable p} {t f:Option R} {Q:R->Prop} (ht:IM (¬p) (Ok t Q)) (hf:IM p (Ok f Q)):OS (bcase (!decide p) t f) Q
 |not {b:Bool} {t f:Option R} {Q:R->Prop} (ht:IM (b=ai) (Ok t Q)) (hf:IM (b=ah) (Ok f Q)):OS (bcase (!b) t f) Q
 |bcase {b:Bool} {t f:Option R} {Q:R->Prop} (ht:IM (b=ah) (Ok t Q)) (hf:IM (b=ai) (Ok f Q)):OS (bcase b t f) Q
 |jc {α:Type} {o:Option (R⊕α)} {k:α->Option R} {Q:R->Prop} (h:Ok o λr=>match r with|.inl r=>Q r|.inr x=>Ok (k x) Q):OS (jn o k) Q
 |some {y:R} {Q:R->Prop} (h:Q y):OS (aa y) Q
theorem OS.ok {R:Type} {o:Option R} {Q:R->Prop} (h:OS o Q):Ok o Q:=by
 cases h with
 |cand h=>exact db h
 |fB a b h=>exact aQ a b h
 |room a b h=>exact bf a b h
 |cile a h=>exact ey a h
 |cilt a h=>exact yG a h
 |cdec a h=>exact Ui a h
 |cndec a h=>exact xw a h
 |cbeq a h=>exact kS a h
 |cT h=>exact h
 |lt h=>exact h
 |b1 h=>exact h
 |b0 h=>exact h
 |fE a b=>exact bA a.h b.h
 |cR a b=>exact e_ a.h b.h
 |dec a b=>exact aI a.h b.h
 |ndec a b=>exact bZ a.h b.h
 |not a b=>exact dW a.h b.h
 |bcase a b=>exact aO a.h b.h
 |jc h=>
  obtain⟨r,e,h⟩:=h;exact gE ⟨r,e,by cases r<;>exact h⟩
 |some h=>exact al h
theorem Zz {R:Type} (t f:Option R):bcase ah t f=t:=rfl
theorem YS {R:Type} (t f:Option R):bcase ai t f=f:=rfl
theorem jnr {α R:Type} (x:α) (k:α->Option R):jn (aa (.inr x)) k=k x:=rfl
theorem Uj {α R:Type} (x:α) (k:α->Option R):obind (aa x) k=k x:=rfl
theorem Ha {k:Int}:k=1\/k=2\/k=3\/k=4\/k=5\/k=6\/k=7\/k=8\/k=9\/k=10\/k=11\/k=12\/k=13\/k=14\/k=15\/k=16\/k=17\/k=18\/k=19\/k=20\/k=21\/k=22\/k=23\/((∀ j:Int,1<=j->j<=23->(k=j)=False)/\(k<1\/23<k)):=by
 by_cases h:1<=k/\k<=23
 .omega
 .have:(∀ j:Int,1<=j->j<=23->(k=j)=False)/\(k<1\/23<k):=⟨λj h1 h2=>eq_false (by omega),by omega⟩
  repeat (first|exact this|refine Or.inr ?_)
theorem ie {n:Int} (h0: -9223372036854775808<=n) (h1:n<=9223372036854775807):bg .i64 n=n:=by
 rw[FX];unfold Kz;simp[cR,h0,h1]
theorem gK {i:Nat} (h:i<9223372036854775807):bg .i64 ((i:Int)+1)=((i+1:Nat):Int):=by rw[ie (by omega) (by omega)];omega
theorem xh {T:Ty} (xs:List T.den) (i:Nat):aH xs (i:Int)=xs.getD i T.zero:=by unfold aH;simp
theorem My (xs:List Int) (i:Nat):aH (T:=.int .i64) xs (i:Int)=xs.getD i 0:=xh (T:=.int .i64) xs i
theorem bH {T:Ty} {xs:List T.den} {j:Int} (h0:0<=j) (h1:j<xs.length):aH xs j∈xs:=by
 unfold aH;rw[ax,ay (by omega)];exact tR _
theorem bU {α:Type} (xs:List α) (j:Int) (x:α):(cJ xs j x).length=xs.length:=by unfold cJ;simp
theorem Bk {α:Type} {xs:List α} {j:Int} {x y:α} (h:y∈cJ xs j x):y∈xs\/y=x:=List.mem_or_eq_of_mem_set h
abbrev WT:Type:=List (List UInt8×Int×Int×Bool×Int)×List (List UInt8×Bool)×List (List UInt8×Int)×List (List UInt8)×List (List UInt8)×List (Int×Int×Int)
abbrev SY:Type:=List (Int×List Int)×Int×List Bool×List (Int×Int×Bool)
theorem X7 (a b:Int):py (a,b)=aa (decide (0<=a/\a<b)):=by
 refine cE ?_;unfold py jg aD;with_reducible repeat' first|(refine OS.ok ?_;constructor)|refine IM.mk λ_=>?_
 .by_cases h:a<b<;>simp[*,fE]
 .simp;omega
theorem TD (l:List Int) (n:Int) (hl:l.length<=1000000):pA (l,n)=aa (l.contains n):=by
 refine cE ?_;unfold pA bc bu bF aW cK aD cz;refine cf l.length (λi x=>x=(i:Int)/\∀ k,k<i->l.getD k 0≠n) ?_ ?_ ⟨rfl,λk hk=>by omega⟩
 .rintro i x hi ⟨rfl,I⟩;with_reducible repeat' first|(refine OS.ok ?_;constructor)|refine IM.mk λ_=>?_
  all_goals try simp only[ar,p_] at*
  .omega
  .omega
  .rename_i h;rw[My] at h;show ah=_
   symm
   rw[rO,<-h,ax,ay hi];exact tR _
  .rename_i h;rw[My] at h;refine ⟨gK (by omega),λk hk=>?_⟩;rcases bW k i with h1|h1
   .exact I k h1
   .rw[show k=i by omega];exact h
  .omega
 .rintro x ⟨rfl,I⟩;with_reducible repeat' first|(refine OS.ok ?_;constructor)|refine IM.mk λ_=>?_
  all_goals try simp only[ar,p_] at*
  .omega
  .omega
  .omega
  .omega
  .symm
   rw[Bool.eq_false_iff];intro hc;rw[rO] at hc;obtain⟨k,hk,he⟩:=List.getElem_of_mem hc;exact I k hk (by rw[ax,ay hk];exact he)
theorem hZ {T:Ty} {xs:List T.den} {p:T.den->Prop} (h:∀ k:Nat,k<ak xs->p (aH xs (k:Int))):∀ c∈xs,p c:=λc hc=>by
 obtain⟨k,hk,he⟩:=List.getElem_of_mem hc;have:=h k hk;rw[xh,ax,ay hk,tO,he] at this;exact this
theorem Nq (w:WT) (s:SY) (hw:w.2.2.1.length<=1000000):Ok (qm (w,s)) λb=>b=ah->(∀ c∈w.2.2.1,0<=c.2/\c.2<w.2.1.length)/\s.1.length=w.2.1.length/\s.2.2.1.length=w.2.2.2.1.length/\s.2.2.2.length=w.2.2.2.2.1.length:=by
 unfold qm aU bk bt cQ bc bu bF aW cK aD cz;refine cf w.2.2.1.length (λi x=>x.1=(i:Int)/\x.2=(w,s)/\∀ k:Nat,k<i->0<=(aH (T:=Q2) w.2.2.1 (k:Int)).2/\(aH (T:=Q2) w.2.2.1 (k:Int)).2<w.2.1.length) ?_ ?_ ⟨rfl,rfl,λk hk=>by omega⟩
 .rintro i ⟨Y,U⟩ hi ⟨J,I,M⟩;dsimp only at J I;subst J;subst I;with_reducible repeat' first|(refine OS.ok ?_;constructor)|refine IM.mk λ_=>?_
  all_goals try simp only[ar,p_] at*
  all_goals first|omega|skip
  .intro h;cases h
  .intro h;cases h
  .refine ⟨gK (by omega),λk hk=>?_⟩;rcases bW k i with h1|h1
   .exact M k h1
   .rename_i h2 Z;rw[show k=i by omega];exact⟨h2,Z⟩
 .rintro⟨Y,U⟩ ⟨J,I,M⟩;dsimp only at J I;subst J;subst I;with_reducible repeat' first|(refine OS.ok ?_;constructor)|refine IM.mk λ_=>?_
  all_goals try simp only[ar,p_] at*
  all_goals first|omega|skip
  refine aw (P:=λb=>b=ah->s.1.length=w.2.1.length/\s.2.2.1.length=w.2.2.2.1.length/\s.2.2.2.length=w.2.2.2.2.1.length) ?_ ?_
  .with_reducible repeat' first|(refine OS.ok ?_;constructor)|refine IM.mk λ_=>?_
   all_goals try simp only[ar,p_] at*
   .intro h;omega
   .intro h;cases h
   .intro h;cases h
  .intro b hb;with_reducible repeat' first|(refine OS.ok ?_;constructor)|refine IM.mk λ_=>?_
   exact λh=>⟨hZ (T:=Q2) M,hb h⟩
structure NM (w:WT) (k o:Int):Prop where
 k1:1<=k
 k2:k<=23
 ce:k=3\/k=4->0<=o/\o<w.1.length
 lk:6<=k/\k<=11->0<=o/\o<w.2.1.length
 cd:16<=k/\k<=19->0<=o/\o<w.2.2.1.length
 th:k=20\/k=21->0<=o/\o<w.2.2.2.2.1.length
 fu:k=22\/k=23->0<=o/\o<w.2.2.2.1.length
 no:k=1\/k=2\/k=5\/(12<=k/\k<=15)->o= -1
 mu:k=6\/k=7->(aH (T:=Rc) w.2.1 o).2=ai
 rw:8<=k/\k<=11->(aH (T:=Rc) w.2.1 o).2=ah
theorem XS (w:WT) (k o:Int):Ok (sR (w,k,o)) λb=>b=ah->NM w k o:=by
 unfold sR aU bk bt ct bc bF aW aD;rcases @Ha k with rfl|rfl|rfl|rfl|rfl|rfl|rfl|rfl|rfl|rfl|rfl|rfl|rfl|rfl|rfl|rfl|rfl|rfl|rfl|rfl|rfl|rfl|rfl|⟨hk,I⟩
 case inr.inr.inr.inr.inr.inr.inr.inr.inr.inr.inr.inr.inr.inr.inr.inr.inr.inr.inr.inr.inr.inr.inr=>
  simp only[hk 1 (by decide) (by decide),hk 2 (by decide) (by decide),hk 3 (by decide) (by decide),hk 4 (by decide) (by decide),hk 5 (by decide) (by decide),hk 6 (by decide) (by decide),hk 7 (by decide) (by decide),hk 8 (by decide) (by decide),hk 9 (by decide) (by decide),hk 10 (by decide) (by decide),hk 11 (by decide) (by decide),hk 12 (by decide) (by decide),hk 13 (by decide) (by decide),hk 14 (by decide) (by decide),hk 15 (by decide) (by decide),hk 16 (by decide) (by decide),hk 17 (by decide) (by decide),hk 18 (by decide) (by decide),hk 19 (by decide) (by decide),hk 20 (by decide) (by decide),hk 21 (by decide) (by decide),hk 22 (by decide) (by decide),hk 23 (by decide) (by decide),aV,bi,rR];exact al λh=>by cases h
 all_goals simp only[aV,bi,rR,X7]
 all_goals with_reducible repeat' first|(refine OS.ok ?_;constructor)|refine IM.mk λ_=>?_
 all_goals try simp only[ar,p_] at*
 all_goals first|omega|(intro h;cases h;done)|(intro h;constructor<;>first|omega|(intro h2;first|omega|(simpa using h)))
structure SB (n:Nat) (s:SY):Prop where
 n1:n<=100000
 lk:s.1.length<=1000
 rd:∀ l∈s.1,l.2.length<=n
 dn:s.2.2.1.length<=1000
 th:s.2.2.2.length<=1000
structure EN (w:WT) (s:SY) (t k o:Int):Prop where
 nm:NM w k o
 t0:0<=t
 t1:t<w.2.2.2.2.1.length
 cd:∀ c∈w.2.2.1,0<=c.2/\c.2<w.2.1.length
 e1:s.1.length=w.2.1.length
 e2:s.2.2.1.length=w.2.2.2.1.length
 e3:s.2.2.2.length=w.2.2.2.2.1.length
structure U3 (w:WT) (s:SY) (t k o:Int):Prop where
 b:k=1->(aH (T:=jB) s.2.2.2 t).1=1
 wk:k=17->(aH (T:=jB) s.2.2.2 t).1=4/\(aH (T:=jB) s.2.2.2 t).2.1=o/\(aH (T:=yT) s.1 (aH (T:=Q2) w.2.2.1 o).2).1= -1
 r:k≠1->k≠17->(aH (T:=jB) s.2.2.2 t).1=2
 aq:k=6\/k=8\/k=10->(aH (T:=yT) s.1 o).1= -1
 wr:k=10->(aH (T:=yT) s.1 o).2.length=0
 ra:k=8->(aH (T:=yT) s.1 o).2.contains t=ai
 rl:k=7\/k=11->(aH (T:=yT) s.1 o).1=t
 rr:k=9->(aH (T:=yT) s.1 o).2.contains t=ah
 xb:k=12->s.2.1= -1
 xe:k=13->s.2.1=t
 ab:k=14->(aH (T:=jB) s.2.2.2 t).2.2=ai
 ae:k=15->(aH (T:=jB) s.2.2.2 t).2.2=ah
 nt:k=16\/k=18\/k=19->(aH (T:=yT) s.1 (aH (T:=Q2) w.2.2.1 o).2).1=t
 sp:k=20->¬o=t/\(aH (T:=jB) s.2.2.2 o).1=0
 jo:k=21->¬o=t/\(aH (T:=jB) s.2.2.2 o).1=5
 se:k=22->aH (T:=.bool) s.2.2.1 o=ai
 ge:k=23->aH (T:=.bool) s.2.2.1 o=ah
theorem Jn {n:Nat} (w:WT) (s:SY) (hs:SB n s) (hw:w.2.2.1.length<=1000) (t k o:Int):Ok (jO (w,s,t,k,o)) λb=>b=ah->EN w s t k o/\U3 w s t k o:=by
 unfold jO aU bk bt bI dh cQ bc iO bF aW aD;refine aX (λx=>x.2=(w,s)/\(x.1=ai->EN w s t k o)) ?_ ?_
 .refine aw (Nq w s (by omega)) λb hb=>?_
  with_reducible repeat' first|(refine OS.ok ?_;constructor)|refine IM.mk λ_=>?_
  .exact⟨rfl,λh=>by cases h⟩
  .simp only[X7,Uj];with_reducible repeat' first|(refine OS.ok ?_;constructor)|refine IM.mk λ_=>?_
   .exact⟨rfl,λh=>by cases h⟩
   .refine aw (XS w k o) λc hc=>?_
    with_reducible repeat' first|(refine OS.ok ?_;constructor)|refine IM.mk λ_=>?_
    all_goals try simp only[ar,p_] at*
    rename_i h1 h2;obtain⟨f1,f2,Z,Y⟩:=hb h1;exact λh=>⟨hc (by simpa using h),by omega,by omega,f1,f2,Z,Y⟩
 .rintro⟨x1,x2⟩ ⟨I,J⟩;dsimp only at I J;subst I;refine aO (λh=>al λh=>by cases h) (λh=>?_);have he:=J h;obtain⟨nm,t0,t1,cd,e1,e2,e3⟩:=id he;obtain⟨_,_,ce,lk,cn,th,fu⟩:=nm;have hm:16<=k/\k<=19->0<=(aH (T:=Q2) w.2.2.1 o).2/\(aH (T:=Q2) w.2.2.1 o).2<w.2.1.length:=λh=>cd _ (bH (cn h).1 (cn h).2)
  have U:6<=k/\k<=11->pA ((aH (T:=yT) s.1 o).2,t)=aa ((aH (T:=yT) s.1 o).2.contains t):=λh=>TD _ _ (by
   have:=hs.rd _ (bH (T:=yT) (lk h).1 (by have:=(lk h).2;omega));have:=hs.n1;omega)
  rcases @Ha k with rfl|rfl|rfl|rfl|rfl|rfl|rfl|rfl|rfl|rfl|rfl|rfl|rfl|rfl|rfl|rfl|rfl|rfl|rfl|rfl|rfl|rfl|rfl|⟨hk,M⟩
  case inr.inr.inr.inr.inr.inr.inr.inr.inr.inr.inr.inr.inr.inr.inr.inr.inr.inr.inr.inr.inr.inr.inr=>omega
  all_goals simp only[aV,bi,rR]
  all_goals with_reducible repeat' first|(refine OS.ok ?_;constructor)|refine IM.mk λ_=>?_
  all_goals try simp only[U (by omega),Uj]
  all_goals with_reducible repeat' first|(refine OS.ok ?_;constructor)|refine IM.mk λ_=>?_
  all_goals try simp only[ar,p_] at*
  all_goals first|omega|(intro h;cases h;done)|exact (hm ⟨by decide,by decide⟩).1|(rw [e1];exact (hm ⟨by decide,by decide⟩).2)|(intro h;refine ⟨he,?_⟩;constructor<;>first|omega|(intros;first|omega|assumption|(simpa using h)|exact⟨by assumption,by first|assumption|exact⟨by assumption,by assumption⟩⟩))|(refine ⟨he,?_⟩;constructor<;>first|omega|(intros;first|omega|assumption))
def lw:List Int->Int->List Int
 |[],n=>[n]
 |x::r,n=>if x<n then x::lw r n else if x=n then x::r else n::x::r
theorem C2 (n:Int):∀ (i:Nat) (l:List Int),i<=l.length->(∀ k,k<i->l.getD k 0<n)->lw l n=l.take i++lw (l.drop i) n
 |0,l,_,_=>by simp
 |i+1,[],h,_=>by simp at h
 |i+1,x::r,h,hk=>by
  have h0:=hk 0 (by omega);simp at h0;have:=C2 n i r (by simpa using h) (λk I=>by have:=hk (k+1) (by omega);simpa using this);rw[lw,aJ h0,this,uG,uH,fX]
theorem D' (n:Int):∀ l:List Int,(lw l n).length<=l.length+1
 |[]=>by simp[lw]
 |x::r=>by
  have:=D' n r;rw[lw];split
  .simp;omega
  .split<;>simp
theorem GF {n y:Int}:∀ {l:List Int},y∈lw l n↔y=n\/y∈l
 |[]=>by simp[lw]
 |x::r=>by
  have:=GF (n:=n) (y:=y) (l:=r);rw[lw];split
  .simp[this];constructor
   .rintro (h|h|h)<;>simp[h]
   .rintro (h|h|h)<;>simp[h]
  .split
   .rename_i h;subst h;simp
   .simp
def FO:List Int->Prop
 |[]=>True
 |x::r=>(∀ y∈r,x<y)/\FO r
theorem N5 {n:Int}:∀ {l:List Int},FO l->FO (lw l n)
 |[],_=>by simp[lw,FO]
 |x::r,h=>by
  rw[lw];split
  .rename_i J;refine ⟨λy I=>?_,N5 h.2⟩;rcases GF.1 I with rfl|I
   .exact J
   .exact h.1 y I
  .split
   .exact h
   .rename_i h1 h2;refine ⟨λy I=>?_,h⟩;rcases bh.1 I with rfl|I
    .omega
    .have:=h.1 y I;omega
theorem Y' (l:List Int) (n:Int) (hl:l.length<=1000000):uT (l,n)=aa (lw l n):=by
 refine cE ?_;unfold uT bu bD bF aW cK aD cz;have fin:∀ i:Nat,i<=l.length->(∀ k,k<i->l.getD k 0<n)->(i<l.length->¬l.getD i 0<n/\l.getD i 0≠n)->l.take i++[n]++l.drop i=lw l n:=λi hi hk hn=>by
  rw[C2 n i l hi hk];cases hd:l.drop i with
  |nil=>simp[lw]
  |cons y r=>
   have hlt:i<l.length:=by
    rcases bW i l.length with h|h
    .exact h
    .rw[List.drop_eq_nil_of_le h] at hd;cases hd
   have J:l.getD i 0=y:=by
    rw[ax,<-List.head?_drop,hd];rfl
   obtain⟨h1,h2⟩:=hn hlt;rw[J] at h1 h2;rw[lw,aC h1,aC h2];simp
 refine cf l.length (λi x=>x=(i:Int)/\∀ k,k<i->l.getD k 0<n) ?_ ?_ ⟨rfl,λk hk=>by omega⟩
 .rintro i x hi ⟨rfl,I⟩;by_cases hlt:l.getD i 0<n
  .with_reducible repeat' first|(refine OS.ok ?_;constructor)|refine IM.mk λ_=>?_
   all_goals try simp only[ar,p_] at*
   all_goals first|omega|skip
   .refine ⟨gK (by omega),λk hk=>?_⟩;rcases bW k i with h1|h1
    .exact I k h1
    .rw[show k=i by omega];exact hlt
   .rename_i h;exact cX hlt (AX.2 h)
  .have key:l.getD i 0=n->lw l n=l:=λhe=>by
    rw[C2 n i l (by omega) I];cases hd:l.drop i with
    |nil=>have:=gA ak hd;simp at this;omega
    |cons y r=>
     have J:l.getD i 0=y:=by rw[ax,<-List.head?_drop,hd];rfl
     rw[J] at he;rw[lw,aC (by omega),aJ he,<-hd,zY]
   with_reducible repeat' first|(refine OS.ok ?_;constructor)|refine IM.mk λ_=>?_
   all_goals try simp only[ar,p_] at*
   all_goals first|omega|skip
   .rename_i h;exact cX h hlt
   .refine aw (P:=λr=>r=lw l n) ?_ λr hr=>al hr
    with_reducible repeat' first|(refine OS.ok ?_;constructor)|refine IM.mk λ_=>?_
    all_goals try simp only[ar,p_] at*
    all_goals first|omega|skip
    .rename_i h;exact (key h).symm
    .simp;omega
    .simp;omega
    .simp;omega
    .rename_i h;simpa using fin i (by omega) I (λ_=>⟨hlt,h⟩)
 .rintro x ⟨rfl,I⟩;with_reducible repeat' first|(refine OS.ok ?_;constructor)|refine IM.mk λ_=>?_
  all_goals try simp only[ar,p_] at*
  all_goals first|omega|skip
  refine aw (P:=λr=>r=lw l n) ?_ λr hr=>al hr
  with_reducible repeat' first|(refine OS.ok ?_;constructor)|refine IM.mk λ_=>?_
  all_goals try simp only[ar,p_] at*
  all_goals first|omega|skip
  .simp;omega
  .simp;omega
  .simp;omega
  .simpa using fin l.length (by omega) I (λh=>by omega)
def vL (a b:List Int):List Int:=b.foldl lw (a.foldl lw [])
theorem vg:∀ (b acc:List Int),(b.foldl lw acc).length<=acc.length+b.length
 |[],acc=>by simp
 |x::r,acc=>by
  have:=vg r (lw acc x);have:=D' x acc;rw[D8,bV];omega
theorem HM:∀ {b acc:List Int},FO acc->FO (b.foldl lw acc)
 |[],_,h=>h
 |x::r,acc,h=>by rw[D8];exact HM (N5 h)
theorem HL {y:Int}:∀ {b acc:List Int},y∈b.foldl lw acc↔y∈acc\/y∈b
 |[],acc=>by simp
 |x::r,acc=>by
  rw[D8,HL,GF];simp;constructor
  .rintro ((h|h)|h)<;>simp[h]
  .rintro (h|h|h)<;>simp[h]
theorem Nz (a b:List Int):FO (vL a b):=HM (HM trivial)
theorem Gq {a b:List Int} {y:Int}:y∈vL a b↔y∈a\/y∈b:=by unfold vL;rw[HL,HL];simp
theorem Xk (a b:List Int):(vL a b).length<=a.length+b.length:=by
 have:=vg b (a.foldl lw []);have:=vg a [];unfold vL;simp at *;omega
theorem K7 {b acc:List Int} {i:Nat} (hi:i<b.length):(b.take (i+1)).foldl lw acc=lw ((b.take i).foldl lw acc) (b.getD i 0):=by
 rw[oh hi,fk,ax,ay hi];rfl
theorem Qw (a b:List Int) (M:a.length<=400000) (hb:b.length<=400000):qn (a,b)=aa (vL a b):=by
 refine cE ?_;unfold qn bu bF aW cK aD cz;refine cf a.length (λi x=>x.2=(i:Int)/\x.1=(a.take i).foldl lw []) ?_ ?_ ⟨rfl,rfl⟩
 .rintro i ⟨J,I⟩ hi ⟨h1,h2⟩;dsimp only at h1 h2;subst h1;subst h2;have hl:((a.take i).foldl lw []).length<=1000000:=by have:=vg (a.take i) [];have:=pi i a;simp at *;omega
  with_reducible repeat' first|(refine OS.ok ?_;constructor)|refine IM.mk λ_=>?_
  all_goals try simp only[ar,p_] at*
  all_goals first|omega|skip
  refine aT (Y' _ _ hl) (al ?_);dsimp only;refine ⟨gK (by omega),?_⟩;rw[My,K7 hi]
 .rintro⟨J,I⟩ ⟨h1,h2⟩;dsimp only at h1 h2;subst h1;subst h2;rw[cL];have hla:=vg a [];with_reducible repeat' first|(refine OS.ok ?_;constructor)|refine IM.mk λ_=>?_
  all_goals try simp only[ar,p_] at*
  all_goals first|omega|skip
  refine aw (P:=λr=>r=vL a b) ?_ λr hr=>al hr
  refine cf b.length (λi x=>x.2=(i:Int)/\x.1=(b.take i).foldl lw (a.foldl lw [])) ?_ ?_ ⟨rfl,rfl⟩
  .rintro i ⟨J,I⟩ hi ⟨h1,h2⟩;dsimp only at h1 h2;subst h1;subst h2;have hl:((b.take i).foldl lw (a.foldl lw [])).length<=1000000:=by have:=vg (b.take i) (a.foldl lw []);have:=pi i b;simp at *;omega
   with_reducible repeat' first|(refine OS.ok ?_;constructor)|refine IM.mk λ_=>?_
   all_goals try simp only[ar,p_] at*
   all_goals first|omega|skip
   refine aT (Y' _ _ hl) (al ?_);dsimp only;refine ⟨gK (by omega),?_⟩;rw[My,K7 hi]
  .rintro⟨J,I⟩ ⟨h1,h2⟩;dsimp only at h1 h2;subst h1;subst h2;rw[cL];with_reducible repeat' first|(refine OS.ok ?_;constructor)|refine IM.mk λ_=>?_
   all_goals try simp only[ar,p_] at*
   all_goals first|omega|rfl
def Jx (c:Int) (x:Int×Int×Bool):Bool:=decide (x.1=3)&&decide (x.2.1=c)
def wl (th:List (Int×Int×Bool)) (c:Int):Nat->List Int
 |0=>[]
 |i+1=>if Jx c (aH (T:=jB) th (i:Int)) then wl th c i++[(i:Int)] else wl th c i
theorem um (th:List (Int×Int×Bool)) (c:Int):∀ i,(wl th c i).length<=i
 |0=>bQ _
 |i+1=>by have:=um th c i;rw[wl];split<;>simp<;>omega
theorem ul {th:List (Int×Int×Bool)} {c u:Int}:∀ {i:Nat},u∈wl th c i↔0<=u/\u<i/\Jx c (aH (T:=jB) th u)=ah
 |0=>by simp[wl];omega
 |i+1=>by
  have I:= @ul th c u i;rw[wl];by_cases hu:u=(i:Int)
  .subst hu;split
   .rename_i h;simp[h];omega
   .rename_i h;rw[I];simp[h]
  .split
   .rw[bR,I,aK];constructor
    .rintro (h|h)
     .exact⟨h.1,by omega,h.2.2⟩
     .exact cX h hu
    .intro h;exact .inl ⟨h.1,by omega,h.2.2⟩
   .rw[I];constructor
    .intro h;exact⟨h.1,by omega,h.2.2⟩
    .intro h;exact⟨h.1,by omega,h.2.2⟩
theorem ag7 {th:List (Int×Int×Bool)} {c:Int} {i:Nat} (h1:(aH (T:=jB) th (i:Int)).1=3) (h2:(aH (T:=jB) th (i:Int)).2.1=c):wl th c (i+1)=wl th c i++[(i:Int)]:=by
 rw[wl,aJ];unfold Jx;rw[h1,h2];simp
theorem ac0 {th:List (Int×Int×Bool)} {c:Int} {i:Nat} (h1:¬(aH (T:=jB) th (i:Int)).1=3):wl th c (i+1)=wl th c i:=by
 rw[wl,aC];unfold Jx;rw[bL h1];simp
theorem abz {th:List (Int×Int×Bool)} {c:Int} {i:Nat} (h1:¬(aH (T:=jB) th (i:Int)).2.1=c):wl th c (i+1)=wl th c i:=by
 rw[wl,aC];unfold Jx;rw[bL h1];simp
theorem Ts (s:SY) (c:Int) (hs:s.2.2.2.length<=1000):mZ (s,c)=aa (wl s.2.2.2 c s.2.2.2.length):=by
 refine cE ?_;unfold mZ bI bc bu bD bF aW cK aD cz;refine cf s.2.2.2.length (λi x=>x=((i:Int),s,wl s.2.2.2 c i)) ?_ ?_ rfl
 .rintro i x hi rfl;have hl:=um s.2.2.2 c i;with_reducible repeat' first|(refine OS.ok ?_;constructor)|refine IM.mk λ_=>?_
  all_goals try simp only[ar,p_] at*
  all_goals first|omega|skip
  all_goals first|(simp;omega)|skip
  .rename_i h1 h2;rw[ag7 h1 h2,gK (by omega)]
  .rename_i h1 h2;rw[abz h2,gK (by omega)]
  .rename_i h1;rw[ac0 h1,gK (by omega)]
 .rintro x rfl;with_reducible repeat' first|(refine OS.ok ?_;constructor)|refine IM.mk λ_=>?_
  all_goals try simp only[ar,p_] at*
  all_goals first|omega|rfl
def wo (l:List Int) (n:Int):List Int:=l.filter λx=> !decide (x=n)
theorem Q6 (l:List Int) (n:Int) (hl:l.length<=1000000):px (l,n)=aa (wo l n):=by
 refine cE ?_;unfold px bu iO bD bF aW cK aD cz;refine cf l.length (λi x=>x=((i:Int),wo (l.take i) n)) ?_ ?_ rfl
 .rintro i x hi rfl;have hq:(wo (l.take i) n).length<=i:=c7 (List.length_filter_le ..) (pi ..);have ht:wo (l.take (i+1)) n=if aH (T:=.int .i64) l (i:Int)=n then wo (l.take i) n else wo (l.take i) n++[aH (T:=.int .i64) l (i:Int)]:=by
   unfold wo;rw[oh hi,List.filter_append,My,ax,ay hi];by_cases h:l[i]=n<;>simp[h]
  with_reducible repeat' first|(refine OS.ok ?_;constructor)|refine IM.mk λ_=>?_
  all_goals try simp only[ar,p_] at*
  all_goals first|omega|skip
  .simp;omega
  .rename_i h;rw[ht,aC h,gK (by omega)]
  .rename_i h;rw[ht,aJ h,gK (by omega)]
 .rintro x rfl;with_reducible repeat' first|(refine OS.ok ?_;constructor)|refine IM.mk λ_=>?_
  all_goals try simp only[ar,p_] at*
  all_goals first|omega|(rw [cL])
theorem nB {T:Ty} {xs:List T.den} {i:Nat} (hi:i<ak xs):dE (i+1) xs=dE i xs++[aH xs (i:Int)]:=by
 rw[oh hi,xh,ax,ay hi];rfl
theorem pS {n:Nat} (s:SY) (hs:SB n s):g_ s=aa (s.2.1,s.1,s.2.2.1,s.2.2.2):=by
 refine cE ?_;obtain⟨s1,s2,J,I⟩:=s;have hn:=hs.n1;have Y:=hs.lk;have U:=hs.dn;have M:=hs.th;dsimp only at Y U M;unfold g_ aU bk bt bI cQ bu bD bF aW cK aD cz;with_reducible repeat' first|(refine OS.ok ?_;constructor)|refine IM.mk λ_=>?_
 all_goals try simp only[ar,p_] at*
 .simp;omega
 .omega
 .simp;omega
 .omega
 refine cf s1.length (λi x=>x=((i:Int),(s1,s2,J,I),0,s2,s1.take i,J,I)) ?_ ?_ ?_
 .rintro i x hi rfl;have hg:=hs.rd _ (bH (T:=yT) (xs:=s1) (j:=(i:Int)) (by omega) (by omega));with_reducible repeat' first|(refine OS.ok ?_;constructor)|refine IM.mk λ_=>?_
  all_goals try simp only[ar,p_] at*
  all_goals first|omega|skip
  .simp;omega
  .simp;omega
  .rw[gK (by omega),nB (T:=yT) hi];rfl
 .rintro x rfl;with_reducible repeat' first|(refine OS.ok ?_;constructor)|refine IM.mk λ_=>?_
  all_goals try simp only[ar,p_] at*
  all_goals first|omega|skip
  simp
 .simp
theorem Fc (s:SY) (c:Int) (hs:s.2.2.2.length<=1000):ji ((s.2.1,c),s.1,s.2.2.1,s.2.2.2)=aa (wl s.2.2.2 c s.2.2.2.length):=by
 refine cE ?_;unfold ji;refine aw (P:=λy=>y=(wl s.2.2.2 c s.2.2.2.length,s.1,s.2.2.1,s.2.2.2)) ?_ λy I=>by subst I;exact ZV rfl (al rfl)
 unfold lH aU bk bt bI cQ bc bu bD kK aW cK aD cz;refine cf s.2.2.2.length (λi x=>x=((i:Int),s.1,s.2.2.1,s.2.2.2,s.2.1,wl s.2.2.2 c i)) ?_ ?_ rfl
 .rintro i x hi rfl;have hl:=um s.2.2.2 c i;with_reducible repeat' first|(refine OS.ok ?_;constructor)|refine IM.mk λ_=>?_
  all_goals try simp only[ar,p_] at*
  all_goals first|omega|skip
  all_goals first|(simp;omega)|skip
  .rename_i h1 h2;rw[ag7 h1 h2,gK (by omega)]
  .rename_i h1 h2;rw[abz h2,gK (by omega)]
  .rename_i h1;rw[ac0 h1,gK (by omega)]
 .rintro x rfl;with_reducible repeat' first|(refine OS.ok ?_;constructor)|refine IM.mk λ_=>?_
  all_goals try simp only[ar,p_] at*
  all_goals first|omega|rfl
structure AP (n:Nat) (s y:SY):Prop where
 a1:y.1.length=s.1.length
 a2:y.2.2.1.length=s.2.2.1.length
 a3:y.2.2.2.length=s.2.2.2.length
 rd:∀ l∈y.1,l.2.length<=n+1
theorem AP.toSB {n:Nat} {s y:SY} (h:AP n s y) (hs:SB n s) (hn:n+1<=100000):SB (n+1) y:=
 ⟨hn,by rw[h.a1];exact hs.lk,h.rd,by rw[h.a2];exact hs.dn,by rw[h.a3];exact hs.th⟩
theorem AP.same {n:Nat} {s:SY} (hs:SB n s) (x:Int) (d:List Bool) (t:List (Int×Int×Bool)) (hd:d.length=s.2.2.1.length) (ht:t.length=s.2.2.2.length):AP n s (s.1,x,d,t):=
 ⟨rfl,hd,ht,λl hl=>ic (hs.rd l hl)⟩
theorem AP.set {n:Nat} {s:SY} (hs:SB n s) (j a:Int) (r:List Int) (hr:r.length<=n+1) (x:Int) (d:List Bool) (t:List (Int×Int×Bool)) (hd:d.length=s.2.2.1.length) (ht:t.length=s.2.2.2.length):AP n s (cJ s.1 j (a,r),x,d,t):=
 ⟨bU _ _ _,hd,ht,λl hl=>by
   rcases Bk hl with h|rfl
   .exact ic (hs.rd l h)
   .exact hr⟩
def AY (th:List (Int×Int×Bool)) (t st:Int):List (Int×Int×Bool):=cJ th t (st,(aH (T:=jB) th t).2)
def owP (lk:List (Int×List Int)) (o t:Int):List (Int×List Int):=cJ lk o (t,(aH (T:=yT) lk o).2)
def rdP (lk:List (Int×List Int)) (o:Int) (l:List Int):List (Int×List Int):=cJ lk o ((aH (T:=yT) lk o).1,l)
def cdP (th:List (Int×Int×Bool)) (t c:Int):List (Int×Int×Bool):=cJ th t ((aH (T:=jB) th t).1,c,(aH (T:=jB) th t).2.2)
def atP (th:List (Int×Int×Bool)) (t:Int) (b:Bool):List (Int×Int×Bool):=cJ th t ((aH (T:=jB) th t).1,(aH (T:=jB) th t).2.1,b)
def Fk (th:List (Int×Int×Bool)) (l:List Int):List (Int×Int×Bool):=l.foldl (λx u=>AY x u 4) th
def AM (l:List Int) (u:Int):Int:=if l.length=0 then -1 else if l.contains u then u else aH (T:=.int .i64) l 0
def muP (w:WT) (o:Int):Int:=(aH (T:=Q2) w.2.2.1 o).2
def uz (w:WT) (s:SY) (t k o u:Int):SY×Int:=
 if k=1 then ((s.1,s.2.1,s.2.2.1,AY s.2.2.2 t 2),0)
 else if k=2 then ((s.1,s.2.1,s.2.2.1,AY s.2.2.2 t 5),0)
 else if k=6\/k=10 then ((owP s.1 o t,s.2),0)
 else if k=7\/k=11 then ((owP s.1 o (-1),s.2),0)
 else if k=8 then ((rdP s.1 o (vL (aH (T:=yT) s.1 o).2 [t]),s.2),0)
 else if k=9 then ((rdP s.1 o (wo (aH (T:=yT) s.1 o).2 t),s.2),0)
 else if k=12 then ((s.1,t,s.2.2),0)
 else if k=13 then ((s.1,-1,s.2.2),0)
 else if k=14 then ((s.1,s.2.1,s.2.2.1,atP s.2.2.2 t ah),0)
 else if k=15 then ((s.1,s.2.1,s.2.2.1,atP s.2.2.2 t ai),0)
 else if k=16 then ((owP s.1 (muP w o) (-1),s.2.1,s.2.2.1,cdP (AY s.2.2.2 t 3) t o),0)
 else if k=17 then ((owP s.1 (muP w o) t,s.2.1,s.2.2.1,cdP (AY s.2.2.2 t 2) t 0),0)
 else if k=18 then (if (wl s.2.2.2 o s.2.2.2.length).length=0 then (s,-1) else ((s.1,s.2.1,s.2.2.1,AY s.2.2.2 (AM (wl s.2.2.2 o s.2.2.2.length) u) 4),AM (wl s.2.2.2 o s.2.2.2.length) u))
 else if k=19 then ((s.1,s.2.1,s.2.2.1,Fk s.2.2.2 (wl s.2.2.2 o s.2.2.2.length)),((wl s.2.2.2 o s.2.2.2.length).length:Int))
 else if k=20 then ((s.1,s.2.1,s.2.2.1,AY s.2.2.2 o 1),0)
 else if k=22 then ((s.1,s.2.1,cJ s.2.2.1 o ah,s.2.2.2),0)
 else (s,0)
theorem F4 (l:List Int):∀ th,(Fk th l).length=th.length:=by
 induction l with
 |nil=>intro th;rfl
 |cons x r I=>intro th;unfold Fk;rw[D8];exact (I _).trans (bU ..)
theorem XT {th:List (Int×Int×Bool)} {l:List Int} {i:Nat} (hi:i<l.length):Fk th (l.take (i+1))=AY (Fk th (l.take i)) (aH (T:=.int .i64) l (i:Int)) 4:=by
 unfold Fk;rw[oh hi,fk,My,ax,ay hi];rfl
theorem Q0 {n:Nat} (w:WT) (s:SY) (hs:SB n s) (U:w.2.2.1.length<=1000) (t k o u:Int):Ok (oH (w,s,t,k,o,u)) λy=>(y.2.2=ah->EN w s t k o/\U3 w s t k o/\AP n s y.1/\(y.1,y.2.1)=uz w s t k o u)/\(y.2.2=ai->y.1=([],0,[],[]))/\(jO (w,s,t,k,o)=aa ah->y.2.2=ah):=by
 unfold oH aU bk bt ct bI dh cQ eU ck bc bu bF kK aW cK aD cz;obtain⟨b,J,hb⟩:=Jn w s hs U t k o;refine aT J ?_;refine dW (λh=>al ⟨λh=>(by cases h),λ_=>rfl,λh2=>(by rw[J,h] at h2;cases h2)⟩) (λh=>?_);obtain⟨he,hry⟩:=hb h;refine aT (pS s hs) ?_;suffices hmain:Ok _ _ from aX (λx=>AP n s (x.2.2.2.1,x.2.1,x.2.2.2.2)/\((x.2.2.2.1,x.2.1,x.2.2.2.2),x.1)=uz w s t k o u) hmain λx M=>al ⟨λ_=>⟨he,hry,M⟩,λh=>(by cases h),λ_=>rfl⟩
 obtain⟨nm,t0,t1,cd,e1,e2,e3⟩:=id he;obtain⟨_,_,ce,lk,cn,th,fu⟩:=nm;have hn:=hs.n1;have hlk:=hs.lk;have hm:16<=k/\k<=19->0<=(aH (T:=Q2) w.2.2.1 o).2/\(aH (T:=Q2) w.2.2.1 o).2<w.2.1.length:=λh=>cd _ (bH (cn h).1 (cn h).2)
 have hr:∀ j:Int,0<=j->j<s.1.length->(aH (T:=yT) s.1 j).2.length<=n:=λj h0 h1=>hs.rd _ (bH (T:=yT) h0 h1)
 rcases @Ha k with rfl|rfl|rfl|rfl|rfl|rfl|rfl|rfl|rfl|rfl|rfl|rfl|rfl|rfl|rfl|rfl|rfl|rfl|rfl|rfl|rfl|rfl|rfl|⟨hk,Y⟩
 case inr.inr.inr.inr.inr.inr.inr.inr.inr.inr.inr.inr.inr.inr.inr.inr.inr.inr.inr.inr.inr.inr.inr=>omega
 all_goals simp only[aV,bi,rR]
 all_goals with_reducible repeat' first|(refine OS.ok ?_;constructor)|refine IM.mk λ_=>?_
 all_goals try simp only[ar,p_] at*
 all_goals try rw[bU]
 all_goals first|omega|exact (hm ⟨by decide,by decide⟩).1|exact e1▸(hm ⟨by decide,by decide⟩).2|exact⟨AP.same hs _ _ _ rfl rfl,rfl⟩|exact⟨AP.same hs _ _ _ rfl (bU _ _ _),rfl⟩|exact⟨AP.same hs _ _ _ (bU _ _ _) rfl,rfl⟩|skip
 all_goals try exact⟨AP.set hs _ _ _ (ic (hr o (by omega) (by omega))) _ _ _ rfl rfl,rfl⟩
 .have:=hr o (by omega) (by omega);refine aT (Qw _ _ (c7 this (by have:=hs.n1;omega)) (by simp)) ?_;with_reducible repeat' first|(refine OS.ok ?_;constructor)|refine IM.mk λ_=>?_
  all_goals try simp only[ar,p_] at*
  all_goals first|omega|skip
  exact⟨AP.set hs _ _ _ (by have:=Xk (aH (T:=yT) s.1 o).2 [t];simp at this;omega) _ _ _ rfl rfl,rfl⟩
 .have:=hr o (by omega) (by omega);have hl:(wo (aH (T:=yT) s.1 o).2 t).length<=(aH (T:=yT) s.1 o).2.length:=List.length_filter_le ..;refine aT (Q6 _ _ (by omega)) ?_;with_reducible repeat' first|(refine OS.ok ?_;constructor)|refine IM.mk λ_=>?_
  all_goals try simp only[ar,p_] at*
  all_goals first|omega|skip
  exact⟨AP.set hs _ _ _ (c7 hl (by omega)) _ _ _ rfl rfl,rfl⟩
 .exact⟨AP.set hs _ _ _ (ic (hr _ (hm ⟨by decide,by decide⟩).1 (by rw[e1];exact (hm ⟨by decide,by decide⟩).2))) _ _ _ rfl (by rw[bU,bU]),rfl⟩
 .exact⟨AP.set hs _ _ _ (ic (hr _ (hm ⟨by decide,by decide⟩).1 (by rw[e1];exact (hm ⟨by decide,by decide⟩).2))) _ _ _ rfl (by rw[bU,bU]),rfl⟩
 .refine aT (Fc s o hs.th) ?_;have hth:=hs.th;have hll:=um s.2.2.2 o s.2.2.2.length;have hml:∀ u∈wl s.2.2.2 o s.2.2.2.length,0<=u/\u<s.2.2.2.length:=λu hu=>⟨(ul.1 hu).1,(ul.1 hu).2.1⟩
  have hap:uz w s t 18 o u=if (wl s.2.2.2 o s.2.2.2.length).length=0 then (s,-1) else ((s.1,s.2.1,s.2.2.1,AY s.2.2.2 (AM (wl s.2.2.2 o s.2.2.2.length) u) 4),AM (wl s.2.2.2 o s.2.2.2.length) u):=rfl
  unfold AM at hap;revert hll hml hap;generalize wl s.2.2.2 o s.2.2.2.length=l;intro hll hml hap;with_reducible repeat' first|(refine OS.ok ?_;constructor)|refine IM.mk λ_=>?_
  all_goals try simp only[ar,p_] at*
  all_goals first|omega|skip
  .have I:=hml _ (bH (T:=.int .i64) (xs:=l) (j:=0) (by omega) (by omega));rw[aC (by omega),aC (by omega)] at hap;simp only[TD l u (by omega),Uj];refine aO (λhc=>?_) λhc=>?_
   .have hu:=hml u (rO.1 hc);rw[hc,aJ rfl] at hap;refine al (aQ hu.1 hu.2 (aQ hu.1 hu.2 (al ⟨AP.same hs _ _ _ rfl (bU ..),?_⟩)));rw[hap];rfl
   .rw[hc,aC (by decide)] at hap;refine al (aQ I.1 I.2 (aQ I.1 I.2 (al ⟨AP.same hs _ _ _ rfl (bU ..),?_⟩)));rw[hap];rfl
  .rw[aJ (by omega)] at hap;exact⟨AP.same hs _ _ _ rfl rfl,hap.symm⟩
 .refine aT (Fc s o hs.th) ?_;have hth:=hs.th;have hll:=um s.2.2.2 o s.2.2.2.length;have hml:∀ u∈wl s.2.2.2 o s.2.2.2.length,0<=u/\u<s.2.2.2.length:=λu hu=>⟨(ul.1 hu).1,(ul.1 hu).2.1⟩
  have hap:uz w s t 19 o u=((s.1,s.2.1,s.2.2.1,Fk s.2.2.2 (wl s.2.2.2 o s.2.2.2.length)),((wl s.2.2.2 o s.2.2.2.length).length:Int)):=rfl;rw[hap];clear hap;generalize wl s.2.2.2 o s.2.2.2.length=l at hll hml ⊢;refine cf l.length (λi x=>x=((i:Int),s.2.1,0,s.1,s.2.2.1,Fk s.2.2.2 (l.take i))) ?_ ?_ rfl
  .rintro i x hi rfl;have I:=hml _ (bH (T:=.int .i64) (xs:=l) (j:=(i:Int)) (by omega) (by omega));have hq:=F4 (l.take i) s.2.2.2;with_reducible repeat' first|(refine OS.ok ?_;constructor)|refine IM.mk λ_=>?_
   all_goals try simp only[ar,p_] at*
   all_goals first|omega|skip
   rw[gK (by omega),XT hi];rfl
  .rintro x rfl;rw[cL];with_reducible repeat' first|(refine OS.ok ?_;constructor)|refine IM.mk λ_=>?_
   all_goals try simp only[ar,p_] at*
   all_goals first|omega|skip
   exact AP.same hs _ _ _ rfl (F4 ..)
abbrev SN:Type:=SY×List Int×List Int×List Int
abbrev ET:Type:=Int×Int×Int×Int×Int×List Int×List Int
theorem agm (a b:Int):By (a,b)=aa (decide (0<=a/\a<b)):=X7 a b
structure NB (n:Nat) (s:SN):Prop where
 sb:SB n s.1
 c:s.2.1.length<=1000
 f:s.2.2.1.length<=1000
 k:s.2.2.2.length<=1000
structure SP (n:Nat) (s y:SN):Prop where
 ap:AP n s.1 y.1
 c:y.2.1.length=s.2.1.length
 f:y.2.2.1.length=s.2.2.1.length
 k:y.2.2.2.length=s.2.2.2.length
theorem SP.NB {n:Nat} {s y:SN} (h:SP n s y) (hs:NB n s) (hn:n+1<=100000):NB (n+1) y:=
 ⟨h.ap.toSB hs.sb hn,by rw[h.c];exact hs.c,by rw[h.f];exact hs.f,by rw[h.k];exact hs.k⟩
def ZM:SN:=(([],0,[],[]),[],[],[])
structure F16 (w:WT) (s:SN):Prop where
 c:s.2.1.length=w.1.length
 f:s.2.2.1.length=w.2.2.2.1.length
 k:s.2.2.2.length=w.2.2.2.2.1.length
theorem WR (w:WT) (s:SN) (I:w.2.2.1.length<=1000):Ok (uO (w,s)) λb=>b=ah->F16 w s:=by
 unfold uO aU bk bt dh bc aW aD;refine gE (aw (Nq w s.1 (by omega)) λb hb=>?_);with_reducible repeat' first|(refine OS.ok ?_;constructor)|refine IM.mk λ_=>?_
 all_goals try simp only[ar,p_] at*
 all_goals first|(intro h;constructor<;>omega)|(intro h;cases h;done)
theorem US:∀ (l:List Int),(∀ k:Nat,k+1<l.length->l.getD k 0<l.getD (k+1) 0)->FO l
 |[],_=>trivial
 |[x],_=>⟨λy M=>(by cases M),trivial⟩
 |x::y::r,h=>by
  have J:=US (y::r) λk hk=>by have:=h (k+1) (by simpa using hk);simpa using this
  have h0:=h 0 (by simp);simp at h0;refine ⟨λz I=>?_,J⟩;rcases bh.1 I with rfl|I
  .exact h0
  .have:=J.1 z I;omega
structure AN (c:Int) (l:List Int):Prop where
 a:FO l
 m:∀ x:Int,x∈l->1<=x/\x<c
theorem GZ (l:List Int) (c:Int) (hl:l.length<=1000000000):Ok (mX (l,c)) λb=>b=ah->AN c l:=by
 unfold mX bu jg bF aW cK aD cz;refine cf l.length (λi x=>x=(i:Int)/\(∀ k:Nat,k<i->1<=aH (T:=.int .i64) l (k:Int)/\aH (T:=.int .i64) l (k:Int)<c)/\∀ k:Nat,k+1<i->l.getD k 0<l.getD (k+1) 0) ?_ ?_ ⟨rfl,λk hk=>by omega,λk hk=>by omega⟩
 .rintro i x hi ⟨rfl,I,J⟩;have M:0<(i:Int)->bg .i64 ((i:Int)-1)=((i-1:Nat):Int):=λh=>by rw[ie (by omega) (by omega)];omega
  have hq:(0<i->l.getD (i-1) 0<l.getD i 0)->1<=aH (T:=.int .i64) l (i:Int)/\aH (T:=.int .i64) l (i:Int)<c->bg .i64 ((i:Int)+1)=((i+1:Nat):Int)/\(∀ k:Nat,k<i+1->1<=aH (T:=.int .i64) l (k:Int)/\aH (T:=.int .i64) l (k:Int)<c)/\∀ k:Nat,k+1<i+1->l.getD k 0<l.getD (k+1) 0:=λg1 Z=>by
   refine ⟨gK (by omega),λk hk=>?_,λk hk=>?_⟩
   .rcases bW k i with h1|h1
    .exact I k h1
    .rw[show k=i by omega];exact Z
   .rcases bW (k+1) i with h1|h1
    .exact J k h1
    .have:=g1 (by omega);rw[show k=i-1 by omega,show i-1+1=i by omega];exact this
  with_reducible repeat' first|(refine OS.ok ?_;constructor)|refine IM.mk λ_=>?_
  all_goals try simp only[ar,p_] at*
  all_goals first|omega|(intro h;cases h;done)|(rw [M (by omega)];omega)|skip
  .rename_i h1 h2 Y U;rw[M Y,My,My] at U;exact hq (λ_=>U) ⟨by omega,by omega⟩
  .exact hq (λh=>by omega) ⟨by omega,by omega⟩
 .rintro x ⟨rfl,I,J⟩;with_reducible repeat' first|(refine OS.ok ?_;constructor)|refine IM.mk λ_=>?_
  all_goals try simp only[ar,p_] at*
  all_goals first|omega|skip
  exact⟨US l λk hk=>J k hk,hZ (T:=.int .i64) I⟩
structure VA (w:WT) (sy:SY) (ce fu:List Int) (t k o v:Int):Prop where
 ld:k=3->v=aH (T:=.int .i64) ce o
 gt:k=23->v=aH (T:=.int .i64) fu o
 br:k=5->v=0\/v=1
 el:¬k=3->¬k=23->¬k=5->¬k=4->¬k=22->v=(uz w sy t k o v).2
theorem ite2 {c:Prop} [Decidable c] {a b:SY×Int} (I:a.2=0) (hb:b.2=0):(if c then a else b).2=0:=by by_cases h:c<;>simp[h,I,hb]
theorem aco (w:WT) (sy:SY) (t k o u:Int) (h1:¬k=18) (h2:¬k=19):(uz w sy t k o u).2=0:=by
 unfold uz;rw[aC h1,aC h2];repeat (first|exact rfl|refine ite2 rfl ?_)
theorem UW (w:WT) (sy:SY) (t k o u I:Int) (h1:¬k=18):uz w sy t k o u=uz w sy t k o I:=by
 unfold uz;rw[aC h1,aC h1]
theorem I7 (w:WT) (sy:SY) (t o u:Int):uz w sy t 18 o u=if (wl sy.2.2.2 o sy.2.2.2.length).length=0 then (sy,-1) else ((sy.1,sy.2.1,sy.2.2.1,AY sy.2.2.2 (AM (wl sy.2.2.2 o sy.2.2.2.length) u) 4),AM (wl sy.2.2.2 o sy.2.2.2.length) u):=rfl
theorem ae1 (w:WT) (sy:SY) (t o u:Int):(uz w sy t 19 o u).2=((wl sy.2.2.2 o sy.2.2.2.length).length:Int):=rfl
theorem Xj {n:Nat} (w:WT) (s:SN) (hs:NB n s) (hf:F16 w s) (e:ET) (he:EN w s.1 e.1 e.2.1 e.2.2.1):Ok (sO (s,e)) λb=>b=ah->VA w s.1 s.2.1 s.2.2.1 e.1 e.2.1 e.2.2.1 e.2.2.2.1:=by
 obtain⟨t,k,o,v,si,de,fr⟩:=e;obtain⟨s1,s2,s3,s4⟩:=s;obtain⟨nm,t0,t1,cd,e1,e2,e3⟩:=he;obtain⟨_,_,ce,lk,cn,th,fu,_,_,_⟩:=nm;obtain⟨f1,f2,f3⟩:=hf;have hth:=hs.sb.th;dsimp only at*
 unfold sO aU bk bt ct bI bc bu jg bF aW aD;have hW:=Ts s1 o hth;have hWl:=um s1.2.2.2 o s1.2.2.2.length;refine aI (λh=>?_) λn3=>?_
 .have h:k=3:=h;obtain⟨Z,Y⟩:=ce (.inl h);exact aQ Z (by rw[f1];exact Y) (aR (al λh2=>⟨λ_=>bm h2,λI=>by omega,λI=>by omega,λI=>(I h).elim⟩))
 refine aI (λh=>?_) λJ=>?_
 .have h:k=23:=h;obtain⟨Z,Y⟩:=fu (.inr h);exact aQ Z (by rw[f2];exact Y) (aR (al λh2=>⟨λI=>by omega,λ_=>bm h2,λI=>by omega,λ_ I=>(I h).elim⟩))
 refine aI (λh=>?_) λn5=>?_
 .have h:k=5:=h;exact gE (aI (λh2=>al (al λ_=>⟨λI=>by omega,λI=>by omega,λ_=>.inl h2,λ_ _ I=>(I h).elim⟩)) λ_=>al (al λh2=>⟨λI=>by omega,λI=>by omega,λ_=>.inr (bm h2),λ_ _ I=>(I h).elim⟩))
 refine aX (λx=>x.2=((s1,s2,s3,s4),t,k,o,v,si,de,fr)/\(x.1=ah->k=4\/k=22)) (aI (λh=>al ⟨rfl,λ_=>.inl h⟩) λ_=>al ⟨rfl,λh=>.inr (bm h)⟩) ?_;rintro⟨b,x⟩ ⟨e,hb⟩;dsimp only at e hb;subst e;refine aO (λh=>al λ_=>⟨λI=>(n3 I).elim,λI=>(J I).elim,λI=>(n5 I).elim,λ_ _ _ h4 h5=>(hb h).elim (λh=>(h4 h).elim) λh=>(h5 h).elim⟩) λ_=>?_
 have fin:v=(uz w s1 t k o v).2->VA w s1 s2 s3 t k o v:=λh=>⟨λI=>(n3 I).elim,λI=>(J I).elim,λI=>(n5 I).elim,λ_ _ _ _ _=>h⟩
 refine aI (λh=>?_) λU=>?_
 .have h:k=18:=h;subst h;rw[I7] at fin;refine aT hW ?_;revert fin hWl;generalize wl s1.2.2.2 o s1.2.2.2.length=l;intro hWl fin;refine aI (λh=>al λh2=>fin ?_) λh=>?_
  .dsimp only[ar] at h;rw[aJ (by omega)];exact bm h2
  .dsimp only[ar] at h;have hne:¬l.length=0:=by omega
   refine gE (e_ (λ_=>bA (λ_=>?_) λ_=>al (al λh=>(by cases h))) λ_=>al (al λh=>(by cases h)));refine aT (TD _ _ (by omega)) (al (al λh2=>fin ?_));rw[aC hne];unfold AM;rw[aC hne,aJ h2]
 refine aI (λh=>?_) λM=>?_
 .have h:k=19:=h;subst h;exact aT hW (al λh2=>fin (bm h2))
 exact al λh2=>fin (by rw[aco _ _ _ _ _ _ U M];exact bm h2)
structure S16 (w:WT) (s:SN) (e:ET):Prop where
 rd:U3 w s.1 e.1 e.2.1 e.2.2.1
 s1:e.2.1=1\/e.2.1=2->e.2.2.2.2.1= -1
 s2:¬(e.2.1=1\/e.2.1=2)->0<=e.2.2.2.2.1/\e.2.2.2.2.1<w.2.2.2.2.2.length/\(aH (T:=wJ) w.2.2.2.2.2 e.2.2.2.2.1).1=e.1
 de:0<e.2.2.2.2.2.1.length->e.2.1=5\/(e.2.1=3\/e.2.1=4)/\¬(aH (T:=NA) w.1 e.2.2.1).2.2.1=0
 fr:0<e.2.2.2.2.2.2.length->e.2.1=4\/e.2.1=22
 nd:AN (aH (T:=.int .i64) s.2.2.2 e.1) e.2.2.2.2.2.1
 nf:AN (aH (T:=.int .i64) s.2.2.2 e.1) e.2.2.2.2.2.2
 va:VA w s.1 s.2.1 s.2.2.1 e.1 e.2.1 e.2.2.1 e.2.2.2.1
def Wh (ce:List Int) (e:ET):List Int:=if e.2.1=4 then cJ ce e.2.2.1 e.2.2.2.1 else ce
def Xc (fu:List Int) (e:ET):List Int:=if e.2.1=22 then cJ fu e.2.2.1 e.2.2.2.1 else fu
def Zv (w:WT) (s:SN) (e:ET):SN:=((uz w s.1 e.1 e.2.1 e.2.2.1 e.2.2.2.1).1,Wh s.2.1 e,Xc s.2.2.1 e,cJ s.2.2.2 e.1 (bg .i64 (aH (T:=.int .i64) s.2.2.2 e.1+1)))
theorem DX {n:Nat} (w:WT) (s:SN) (hs:NB n s) (hw:w.2.2.1.length<=1000) (e:ET) (hd:e.2.2.2.2.2.1.length<=1000000000) (hf:e.2.2.2.2.2.2.length<=1000000000):Ok (qk (w,s,e)) λy=>(y.2=ah->EN w s.1 e.1 e.2.1 e.2.2.1/\SP n s y.1/\S16 w s e/\y.1=Zv w s e)/\(y.2=ai->y.1=ZM):=by
 have Z:∀ {Q:SN×Bool->Prop},Q (ZM,ai)->Ok (aa (ZM,ai)) Q:=λh=>al h
 have z0:((ZM,ai).2=ah->EN w s.1 e.1 e.2.1 e.2.2.1/\SP n s (ZM,ai).1/\S16 w s e/\(ZM,ai).1=Zv w s e)/\((ZM,ai).2=ai->(ZM,ai).1=ZM):=⟨λh=>(by cases h),λ_=>rfl⟩
 unfold qk aU bk bt ct em bI dh cQ eU lY ck bc bu iO bD bF kK aW cK aD cz;refine aX (λx=>x.2=(w,s,e,0)/\(x.1=ai->F16 w s/\(EN w s.1 e.1 e.2.1 e.2.2.1/\U3 w s.1 e.1 e.2.1 e.2.2.1)/\jO (w,s.1,e.1,e.2.1,e.2.2.1)=aa ah)) ?_ ?_
 .refine aw (WR w s hw) λb hb=>?_
  with_reducible repeat' first|(refine OS.ok ?_;constructor)|refine IM.mk λ_=>?_
  .exact⟨rfl,λh=>(by cases h)⟩
  simp only[agm,Uj];with_reducible repeat' first|(refine OS.ok ?_;constructor)|refine IM.mk λ_=>?_
  .exact⟨rfl,λh=>(by cases h)⟩
  .exact⟨rfl,λh=>(by cases h)⟩
  .exact⟨rfl,λh=>(by cases h)⟩
  obtain⟨c,hc0,hc⟩:=Jn w s.1 hs.sb hw e.1 e.2.1 e.2.2.1;refine aT hc0 (al ⟨rfl,λh=>?_⟩);have h:c=ah:=by simpa using h
  exact⟨hb (by assumption),hc h,h▸hc0⟩
 rintro⟨J,M⟩ ⟨I,hx⟩;dsimp only at I hx;subst I;refine aO (λ_=>Z z0) λh1=>?_
 obtain⟨hF,⟨hE,hR⟩,hEn⟩:=hx h1;clear hx h1;refine aX (λx=>x=(w,s,e,0)/\(e.2.1=1\/e.2.1=2->e.2.2.2.2.1= -1)/\(¬(e.2.1=1\/e.2.1=2)->0<=e.2.2.2.2.1/\e.2.2.2.2.1<w.2.2.2.2.2.length/\(aH (T:=wJ) w.2.2.2.2.2 e.2.2.2.2.1).1=e.1)) ?_ ?_
 .refine aX (λx=>x.2=(w,s,e,0)/\(x.1=ah->e.2.1=1\/e.2.1=2)/\(x.1=ai->¬(e.2.1=1\/e.2.1=2))) ?_ ?_
  .refine aI (λh=>al ⟨rfl,λ_=>.inl h,λh=>(by cases h)⟩) λh=>al ⟨rfl,λh2=>.inr (bm h2),λh2=>?_⟩
   have:=Q5 h2;exact λY=>Y.elim h this
  rintro⟨J,M⟩ ⟨I,hy1,hy2⟩;dsimp only at I hy1 hy2;subst I;refine aO (λhk=>?_) λhk=>?_
  .exact bZ (λ_=>al z0) λh=>al ⟨rfl,λ_=>h,λY=>(Y (hy1 hk)).elim⟩
  .refine aX (λx=>x.2=(w,s,e,0)/\(x.1=ai->0<=e.2.2.2.2.1/\e.2.2.2.2.1<w.2.2.2.2.2.length/\(aH (T:=wJ) w.2.2.2.2.2 e.2.2.2.2.1).1=e.1)) ?_ ?_
   .simp only[agm,Uj];refine bZ (λ_=>al ⟨rfl,λh=>(by cases h)⟩) λh=>aQ h.1 h.2 (aR (al ⟨rfl,λh2=>⟨h.1,h.2,?_⟩⟩))
    simpa using h2
   rintro⟨J,M⟩ ⟨I,Z⟩;dsimp only at I Z;subst I;exact aO (λ_=>al z0) λh=>al ⟨rfl,λY=>((hy2 hk) Y).elim,λ_=>Z h⟩
 rintro x ⟨rfl,hS1,hS2⟩;obtain⟨nm,t0,t1,cd,e1,e2,e3⟩:=id hE;obtain⟨_,_,ce,lk,cn,th,fu,_,_,_⟩:=nm;obtain⟨f1,f2,f3⟩:=id hF;refine aX (λx=>x.2=(w,s,e,0)/\(x.1=ah->e.2.1=3\/e.2.1=4)) ?_ ?_
 .with_reducible repeat' first|(refine OS.ok ?_;constructor)|refine IM.mk λ_=>?_
  .exact⟨rfl,λ_=>.inl (by assumption)⟩
  .exact⟨rfl,λh=>.inr (bm h)⟩
 rintro⟨J,M⟩ ⟨I,U⟩;dsimp only at I U;subst I;refine aX (λx=>x.2=(w,s,e,0)/\(x.1=ai->0<e.2.2.2.2.2.1.length->e.2.1=5\/(e.2.1=3\/e.2.1=4)/\¬(aH (T:=NA) w.1 e.2.2.1).2.2.1=0)) ?_ ?_
 .refine bA (λ_=>bZ (λ_=>aO (λh=>?_) λ_=>al ⟨rfl,λh=>(by cases h)⟩) λh5=>al ⟨rfl,λ_ _=>.inl h5⟩) λh=>al ⟨rfl,λ_ h2=>?_⟩
  .refine aQ (ce (U h)).1 (ce (U h)).2 (aR (al ⟨rfl,λh2 _=>.inr ⟨U h,?_⟩⟩));simpa using h2
  .dsimp only[ar] at h;omega
 rintro⟨J,M⟩ ⟨I,hDe⟩;dsimp only at I hDe;subst I;refine aO (λ_=>Z z0) λhde=>?_
 refine aX (λx=>x.2=(w,s,e,0)/\(x.1=ai->0<e.2.2.2.2.2.2.length->e.2.1=4\/e.2.1=22)) ?_ ?_
 .refine bA (λ_=>bZ (λ_=>al ⟨rfl,λh _=>.inr (by simpa using h)⟩) λh4=>al ⟨rfl,λ_ _=>.inl h4⟩) λh=>al ⟨rfl,λ_ h2=>?_⟩
  dsimp only[ar] at h;omega
 rintro⟨J,M⟩ ⟨I,hFr⟩;dsimp only at I hFr;subst I;refine aO (λ_=>Z z0) λhfr=>?_
 have hk:=hs.k;have hc:=hs.c;have hfu:=hs.f;refine aX (λx=>x.2=(w,s,e,0)/\(x.1=ai->AN (aH (T:=.int .i64) s.2.2.2 e.1) e.2.2.2.2.2.1/\AN (aH (T:=.int .i64) s.2.2.2 e.1) e.2.2.2.2.2.2/\VA w s.1 s.2.1 s.2.2.1 e.1 e.2.1 e.2.2.1 e.2.2.2.1)) ?_ ?_
 .have hv:=Xj w s hs hF e hE;refine aQ t0 (by rw[f3];exact t1) (aR (aw (GZ _ _ hd) λb hb=>?_));refine dW (λ_=>al ⟨rfl,λh=>(by cases h)⟩) λb1=>?_
  refine aQ t0 (by rw[f3];exact t1) (aR (aw (GZ _ _ hf) λb hb2=>?_));refine dW (λ_=>al ⟨rfl,λh=>(by cases h)⟩) λb2=>?_
  exact aw hv λb hb3=>al ⟨rfl,λh=>⟨hb b1,hb2 b2,hb3 (by simpa using h)⟩⟩
 rintro⟨J,M⟩ ⟨I,hNum⟩;dsimp only at I hNum;subst I;refine aO (λ_=>Z z0) λhnu=>?_
 obtain⟨hN1,hN2,hVA⟩:=hNum hnu;have hS:S16 w s e:=⟨hR,hS1,hS2,hDe hde,hFr hfr,hN1,hN2,hVA⟩
 refine bf (by simp;omega) (by omega) (bf (by simp;omega) (by omega) (bf (by simp;omega) (by omega) ?_));refine aX (λx=>x.2=(w,s,e,0,0,s.2.1,s.2.2.1,s.2.2.2)/\uz w s.1 e.1 e.2.1 e.2.2.1 x.1=uz w s.1 e.1 e.2.1 e.2.2.1 e.2.2.2.1) ?_ ?_
 .exact aI (λ_=>al ⟨rfl,rfl⟩) λh=>al ⟨rfl,UW _ _ _ _ _ _ _ h⟩
 rintro⟨J,M⟩ ⟨I,hxu⟩;dsimp only at I hxu;subst I;refine aw (Q0 w s.1 hs.sb hw e.1 e.2.1 e.2.2.1 J) λy hy=>?_
 obtain⟨_,_,hap,hyq⟩:=hy.1 (hy.2.2 hEn);rw[hxu] at hyq;refine aX (λx=>x.1=e/\x.2.2.1=y.1/\x.2.2.2.1=Wh s.2.1 e/\x.2.2.2.2=(s.2.2.1,s.2.2.2)) ?_ ?_
 .unfold Wh;refine aI (λh=>?_) λh=>al ⟨rfl,rfl,(aC h).symm,rfl⟩
  have hc4:=ce (.inr h);with_reducible repeat' first|(refine OS.ok ?_;constructor)|refine IM.mk λ_=>?_
  all_goals try simp only[ar,p_] at*
  all_goals first|omega|exact (aJ h).symm
 rintro⟨J,M,x3,x4,x5,x6⟩ ⟨h1,h2,Y,h4⟩;simp only[aB] at h1 h2 Y h4;obtain⟨rfl,rfl⟩:=h4;subst h1;subst h2;subst Y;refine aX (λx=>x.1=J/\x.2.2.1=y.1/\x.2.2.2.1=Wh s.2.1 J/\x.2.2.2.2.1=Xc s.2.2.1 J/\x.2.2.2.2.2=s.2.2.2) ?_ ?_
 .unfold Xc;refine aI (λh=>?_) λh=>al ⟨rfl,rfl,rfl,(aC h).symm,rfl⟩
  have hc4:=fu (.inl h);with_reducible repeat' first|(refine OS.ok ?_;constructor)|refine IM.mk λ_=>?_
  all_goals try simp only[ar,p_] at*
  all_goals first|omega|exact (aJ h).symm
 rintro⟨J,M,x3,x4,x5,x6⟩ ⟨h1,h2,h4,h5,h6⟩;simp only at h1 h2 h4 h5 h6;subst h1;subst h2;subst h4;subst h5;subst h6;have l1:(Wh s.2.1 J).length=s.2.1.length:=by unfold Wh;split<;>simp[bU]
 have l2:(Xc s.2.2.1 J).length=s.2.2.1.length:=by unfold Xc;split<;>simp[bU]
 with_reducible repeat' first|(refine OS.ok ?_;constructor)|refine IM.mk λ_=>?_
 all_goals try simp only[ar,p_] at*
 all_goals first|omega|skip
 exact⟨⟨hE,⟨hap,l1,l2,by rw[bU]⟩,hS,by unfold Zv;rw[<- hyq]⟩,λh=>(by cases h)⟩
theorem QH:Ok (jW ()) λl=>l.length=22:=by
 unfold jW;with_reducible repeat' first|(refine OS.ok ?_;constructor)|refine IM.mk λ_=>?_
 all_goals rfl
theorem Np (s:List UInt8):Ok (jp s) λ_=>True:=by
 unfold jp bu bF aW cK aD cz;refine aw QH λl hl=>?_
 refine cf l.length (λi x=>x=(i:Int)) ?_ ?_ rfl
 .rintro i x hi rfl;with_reducible repeat' first|(refine OS.ok ?_;constructor)|refine IM.mk λ_=>?_
  all_goals try simp only[ar,p_] at*
  all_goals first|omega|exact gK (by omega)
 .rintro x rfl;with_reducible repeat' first|(refine OS.ok ?_;constructor)|refine IM.mk λ_=>?_
  all_goals try simp only[ar,p_] at*
  all_goals omega
theorem LC (c:Int):Ok (kO c) λ_=>True:=by
 unfold kO jg aD;with_reducible repeat' first|(refine OS.ok ?_;constructor)|refine IM.mk λ_=>?_
 all_goals exact trivial
theorem X5 (c:Int):Ok (oL c) λ_=>True:=by
 unfold oL qr jg aD;refine gE (aw (LC c) λ_ _=>?_);with_reducible repeat' first|(refine OS.ok ?_;constructor)|refine IM.mk λ_=>?_
 all_goals try exact trivial
 refine aw (P:=λ_=>True) ?_ λ_ _=>?_
 .with_reducible repeat' first|(refine OS.ok ?_;constructor)|refine IM.mk λ_=>?_
  all_goals exact trivial
 .with_reducible repeat' first|(refine OS.ok ?_;constructor)|refine IM.mk λ_=>?_
  all_goals exact trivial
theorem ia (s:List UInt8):Ok (eR s) λ_=>True:=by
 unfold eR bu vO aW cK aD cz;refine aX (λb=>b=ai->s.length<=12) ?_ ?_
 .with_reducible repeat' first|(refine OS.ok ?_;constructor)|refine IM.mk λ_=>?_
  .exact λh=>(by cases h)
  .exact λh=>(by cases h)
  .omega
  .simp only[ar] at *;omega
  refine aw (LC _) λ_ _=>?_
  with_reducible repeat' first|(refine OS.ok ?_;constructor)|refine IM.mk λ_=>?_
  .exact λh=>(by cases h)
  refine aw (Np _) λ_ _=>al λ_=>?_
  simp only[ar] at *;omega
 .rintro b hb;refine aO (λ_=>al trivial) λh=>?_
  have hb:=hb h;refine cf s.length (λi x=>x=(i:Int)) ?_ ?_ rfl
  .rintro i x hi rfl;with_reducible repeat' first|(refine OS.ok ?_;constructor)|refine IM.mk λ_=>?_
   all_goals try simp only[ar,p_] at*
   all_goals first|omega|skip
   refine aw (X5 _) λ_ _=>?_
   with_reducible repeat' first|(refine OS.ok ?_;constructor)|refine IM.mk λ_=>?_
   .exact trivial
   .exact gK (by omega)
  .rintro x rfl;with_reducible repeat' first|(refine OS.ok ?_;constructor)|refine IM.mk λ_=>?_
   all_goals try simp only[ar,p_] at*
   all_goals first|omega|exact trivial
theorem xd (l:List (List UInt8)) (s:List UInt8) (hl:l.length<=1000000000):Ok (iH (l,s)) λr=> -1<=r/\r<l.length/\(0<=r->aH (T:=.str) l r=s)/\(r<0->s∉l):=by
 unfold iH bu bF aW cK aD cz;refine cf l.length (λi x=>x=(i:Int)/\∀ k:Nat,k<i->aH (T:=.str) l (k:Int)≠s) ?_ ?_ ⟨rfl,λk hk=>by omega⟩
 .rintro i x hi ⟨rfl,I⟩;with_reducible repeat' first|(refine OS.ok ?_;constructor)|refine IM.mk λ_=>?_
  all_goals try simp only[ar,p_] at*
  all_goals first|omega|skip
  .exact⟨by omega,by omega,λ_=>by assumption,λh=>by omega⟩
  .refine ⟨gK (by omega),λk hk=>?_⟩;rcases bW k i with h1|h1
   .exact I k h1
   .rw[show k=i by omega];assumption
 .rintro x ⟨rfl,I⟩;with_reducible repeat' first|(refine OS.ok ?_;constructor)|refine IM.mk λ_=>?_
  all_goals try simp only[ar,p_] at*
  all_goals first|omega|skip
  exact⟨by omega,by omega,λh=>by omega,λ_ h=>hZ (T:=.str) (p:=λc=>c≠s) I s h rfl⟩
structure VL (w:WT):Prop where
 c:w.1.length<=12
 l:w.2.1.length<=4
 d:w.2.2.1.length<=2
 f:w.2.2.2.1.length<=2
 t0:1<=w.2.2.2.2.1.length
 t:w.2.2.2.2.1.length<=4
 s:w.2.2.2.2.2.length<=60
theorem XQ (w:WT) (h:VL w):Ok (oI w) λy=>y.1.length<=100:=by
 obtain⟨I,U,M,w4,Z,Y⟩:=w;obtain⟨h1,h2,h3,h4,_,h5,h6⟩:=h;dsimp only at*
 unfold oI aU bk bt ct dh lY bc bu iO bD bF aW cK aD cz;refine pl (λx=>((I.length:Int)-x.1).toNat) (λx=>x.2.1=(I,U,M,w4,Z,Y)/\0<=x.1/\x.1<=(I.length:Int)/\(x.2.2.length:Int)<=x.1) ?_ ⟨rfl,by simp,by simp,by simp⟩;rintro⟨x1,x2,x3⟩ ⟨e,g1,g2,g3⟩;dsimp only at e g1 g2 g3;subst e;refine bA (λg4=>?_) λg4=>?_
 .dsimp only[ar] at g4;refine aX (λx=>x.2.1=(I,U,M,w4,Z,Y)/\x1<x.1/\x.1<=(I.length:Int)/\(x.2.2.length:Int)<=x.1) ?_ ?_
  .refine cw (aR (bf (by simp;omega) (by omega) ?_));refine aI (λ_=>?_) λ_=>?_
   .with_reducible repeat' first|(refine OS.ok ?_;constructor)|refine IM.mk λ_=>?_
    .exact kG _
    .rw[ie (by omega) (by omega)];exact⟨rfl,by dsimp only;omega,by dsimp only;omega,by simp;omega⟩
   .generalize hz:aH _ x1=z;obtain⟨z1,(z2:Int),(J:Int),z4,z5⟩:=z;dsimp only;refine aX (λx=>x.2=((I,U,M,w4,Z,Y),x3++[z1],z1,z2,J,z4,z5)/\(x.1=ai->1<=J/\J<=4/\x1+J<=I.length)) ?_ ?_
    .with_reducible repeat' first|(refine OS.ok ?_;constructor)|refine IM.mk λ_=>?_
     .exact⟨rfl,λh=>(by cases h)⟩
     .exact⟨rfl,λh=>(by cases h)⟩
     .refine ⟨rfl,λh=>?_⟩;dsimp only[ar] at*
      rw[ie (by omega) (by omega),fP] at h;omega
    .rintro⟨b,y⟩ ⟨e,hb⟩;dsimp only at e hb;subst e;refine aO (λ_=>al (kG _)) λh=>?_
     obtain⟨q1,q2,q3⟩:=hb h;refine pl (λx=>(J-x.1).toNat) (λx=>x.2=((I,U,M,w4,Z,Y),x3++[z1],z1,z2,J,z4,z5)/\0<=x.1/\x.1<=J) ?_ ⟨rfl,by simp,by dsimp only;omega⟩;rintro⟨k,y⟩ ⟨e,k0,k1⟩;dsimp only at e k0 k1;subst e;refine bA (λk2=>?_) λk2=>?_
     .dsimp only at k2;have e1:bg .i64 (x1+k)=x1+k:=ie (by omega) (by omega);refine aQ (by dsimp only;rw[e1];omega) (by dsimp only;rw[e1];omega) (aR ?_);refine aX (λx=>x.2=((I,U,M,w4,Z,Y),x3++[z1],z1,z2,J,z4,z5)) ?_ ?_
      .with_reducible repeat' first|(refine OS.ok ?_;constructor)|refine IM.mk λ_=>?_
       all_goals rfl
      .rintro⟨b,y⟩ e;dsimp only at e;subst e;refine aO (λ_=>al (kG _)) λ_=>al ?_
       dsimp only;rw[ie (by omega) (by omega)];exact⟨⟨rfl,by omega,by omega⟩,by omega⟩
     .dsimp only at k2;refine al ?_;dsimp only;rw[ie (by omega) (by omega)];exact⟨rfl,by omega,by omega,by simp;omega⟩
  .rintro⟨y1,y2,y3⟩ ⟨e,g5,g6,g7⟩;dsimp only at e g5 g6 g7;subst e;refine al ⟨⟨rfl,by dsimp only;omega,g6,g7⟩,?_⟩;dsimp only;omega
 .dsimp only[ar] at g4;refine aw (P:=λy=>y.1.length<=100) ?_ λy hy=>al hy
  refine cf U.length (λi x=>x.1=(i:Int)/\x.2.1=(I,U,M,w4,Z,Y)/\x.2.2.length<=12+i) ?_ ?_ ⟨rfl,rfl,by dsimp only;omega⟩
  .rintro i ⟨a,b,c⟩ hi ⟨e1,e2,e3⟩;dsimp only at e1 e2 e3;subst e1;subst e2;with_reducible repeat' first|(refine OS.ok ?_;constructor)|refine IM.mk λ_=>?_
   all_goals try simp only[ar,p_] at*
   all_goals first|omega|(simp;omega)|skip
   exact⟨gK (by omega),by simp;omega⟩
  .rintro⟨a,b,c⟩ ⟨e1,e2,e3⟩;dsimp only at e1 e2 e3;subst e1;subst e2;refine bA (λg4=>(by dsimp only[ar] at g4;omega)) λ_=>?_
   refine aw (P:=λy=>y.1.length<=100) ?_ λy hy=>al hy
   refine cf M.length (λi x=>x.1=(i:Int)/\x.2.1=(I,U,M,w4,Z,Y)/\x.2.2.length<=16+i) ?_ ?_ ⟨rfl,rfl,by dsimp only;omega⟩
   .rintro i ⟨a,b,c⟩ hi ⟨e1,e2,e3⟩;dsimp only at e1 e2 e3;subst e1;subst e2;with_reducible repeat' first|(refine OS.ok ?_;constructor)|refine IM.mk λ_=>?_
    all_goals try simp only[ar,p_] at*
    all_goals first|omega|(simp;omega)|skip
    exact⟨gK (by omega),by simp;omega⟩
   .rintro⟨a,b,c⟩ ⟨e1,e2,e3⟩;dsimp only at e1 e2 e3;subst e1;subst e2;refine bA (λg4=>(by dsimp only[ar] at g4;omega)) λ_=>?_
    refine aw (P:=λy=>y.1.length<=100) ?_ λy hy=>al hy
    with_reducible repeat' first|(refine OS.ok ?_;constructor)|refine IM.mk λ_=>?_
    all_goals try simp only[ar,p_] at*
    all_goals first|omega|(simp;omega)
def Q3 (T:Int) (o:Option (Int×Int)) (s:Int×Int×Int):Option (Int×Int):=
 match o with
 |none=>af
 |some (t,n)=>if s.1=t/\s.2.1=n then aa (t,n+1) else if t<s.1/\s.1<T/\s.2.1=0 then aa (s.1,1) else af
def Jv (T:Int) (l:List (Int×Int×Int)):Option (Int×Int):=l.foldl (Q3 T) (aa (0,0))
def Y_ (w:WT):Prop:=Jv w.2.2.2.2.1.length w.2.2.2.2.2≠af
theorem Gv {T:Int} {l:List (Int×Int×Int)} {i:Nat} (hi:i<l.length):Jv T (l.take (i+1))=Q3 T (Jv T (l.take i)) (aH (T:=wJ) l (i:Int)):=by
 rw[nB (T:=wJ) hi];unfold Jv;rw[fk];rfl
theorem zS (w:WT):Ok (gP w) λb=>b=ah->VL w/\Y_ w:=by
 unfold gP aU bk bt ct cQ eU bc bu jg iO bD bF aW cK aD cz;refine aX (λx=>x.2=w/\(x.1=ai->VL w)) ?_ ?_
 .with_reducible repeat' first|(refine OS.ok ?_;constructor)|refine IM.mk λ_=>?_
  all_goals first|exact⟨rfl,λh=>(by cases h)⟩|skip
  dsimp only[ar] at*
  refine ⟨rfl,λh=>?_⟩;rw[fP] at h;constructor<;>omega
 rintro⟨b,x⟩ ⟨e,hb⟩;dsimp only at e hb;subst e;refine aO (λ_=>al λh=>(by cases h)) λh=>?_
 have hv:=hb h;refine aw (XQ _ hv) λy hy=>?_
 refine dW (λ_=>al λh=>(by cases h)) λ_=>?_
 obtain⟨w1,w2,U,Z,J,I⟩:=x;have h6:=hv.s;have h3:=hv.d;dsimp only at h6 h3;refine cf y.1.length (λi x=>x.1=(i:Int)/\x.2=(w1,w2,U,Z,J,I)) ?_ ?_ ⟨rfl,rfl⟩
 .rintro i ⟨a,b⟩ hi ⟨e1,e2⟩;dsimp only at e1 e2;subst e1;subst e2;refine bA (λY=>?_) λY=>(by dsimp only[ar] at Y;omega)
  refine aX (λx=>x.2=(w1,w2,U,Z,J,I)) ?_ ?_
  .refine cw (aR (aw (ia _) λ_ _=>?_));refine dW (λ_=>al rfl) λ_=>?_
   with_reducible repeat' first|(refine OS.ok ?_;constructor)|refine IM.mk λ_=>?_
   all_goals try simp only[ar,p_] at*
   all_goals first|omega|skip
   refine aw (xd _ _ (by simp;omega)) λ_ _=>al rfl
  .rintro⟨a,b⟩ e;dsimp only at e;subst e;with_reducible repeat' first|(refine OS.ok ?_;constructor)|refine IM.mk λ_=>?_
   .exact λh=>(by cases h)
   .dsimp only;exact⟨gK (by omega),rfl⟩
 rintro⟨a,b⟩ ⟨e1,e2⟩;dsimp only at e1 e2;subst e1;subst e2;refine bA (λY=>(by dsimp only[ar] at Y;omega)) λ_=>?_
 refine aw (P:=λb=>b=ah->VL (w1,w2,U,Z,J,I)/\Y_ (w1,w2,U,Z,J,I)) ?_ λy hy=>al hy
 refine cf U.length (λi x=>x.1=(i:Int)/\x.2=(w1,w2,U,Z,J,I)) ?_ ?_ ⟨rfl,rfl⟩
 .rintro i ⟨a,b⟩ hi ⟨e1,e2⟩;dsimp only at e1 e2;subst e1;subst e2;refine bA (λY=>?_) λY=>(by dsimp only[ar] at Y;omega)
  refine cw (aR ?_);refine aX (λx=>x.2=(w1,w2,U,Z,J,I)) ?_ ?_
  .with_reducible repeat' first|(refine OS.ok ?_;constructor)|refine IM.mk λ_=>?_
   all_goals try simp only[ar,p_] at*
   all_goals first|omega|rfl
  .rintro⟨a,b⟩ e;dsimp only at e;subst e;with_reducible repeat' first|(refine OS.ok ?_;constructor)|refine IM.mk λ_=>?_
   .exact λh=>(by cases h)
   .dsimp only;exact⟨gK (by omega),rfl⟩
 rintro⟨a,b⟩ ⟨e1,e2⟩;dsimp only at e1 e2;subst e1;subst e2;refine bA (λY=>(by dsimp only[ar] at Y;omega)) λ_=>?_
 refine aw (P:=λb=>b=ah->VL (w1,w2,U,Z,J,I)/\Y_ (w1,w2,U,Z,J,I)) ?_ λy hy=>al hy
 refine cf I.length (λi x=>x.1=(i:Int)/\x.2=(w1,w2,U,Z,J,I)/\Jv J.length (I.take i)=aa (if i=0 then (0,0) else ((aH (T:=wJ) I ((i-1:Nat):Int)).1,(aH (T:=wJ) I ((i-1:Nat):Int)).2.1+1))/\(¬i=0->(0:Int)<=(aH (T:=wJ) I ((i-1:Nat):Int)).2.1/\(i:Int)>(aH (T:=wJ) I ((i-1:Nat):Int)).2.1)) ?_ ?_ ⟨rfl,rfl,rfl,λh=>(h rfl).elim⟩
 .rintro i ⟨a,b⟩ hi ⟨e1,e2,e3,hpb⟩;dsimp only at e1 e2;subst e1;subst e2;have hw:¬(i:Int)=0->bg .i64 ((i:Int)-1)=((i-1:Nat):Int):=λh=>by rw[ie (by omega) (by omega)];omega
  have hnx:=Gv (T:=J.length) hi;rw[e3] at hnx;clear e3;refine bA (λY=>?_) λY=>(by dsimp only[ar] at Y;omega)
  refine aX (λx=>x=(w1,w2,U,Z,J,I)/\Jv J.length (I.take (i+1))=aa (((aH (T:=wJ) I (i:Int)).1,(aH (T:=wJ) I (i:Int)).2.1+1))/\(0:Int)<=(aH (T:=wJ) I (i:Int)).2.1/\((i+1:Nat):Int)>(aH (T:=wJ) I (i:Int)).2.1) ?_ ?_
  .refine cw (aR ?_);rw[hnx];generalize hz:aH (T:=wJ) I (i:Int)=z;obtain⟨(z1:Int),(z2:Int),(z3:Int)⟩:=z;dsimp only;refine aX (λx=>x.2=((w1,w2,U,Z,J,I),z1,z2,z3)/\(x.1=ai->0<=z1/\z1<J.length)) ?_ ?_
   .refine bA (λ_=>al ⟨rfl,λh=>(by cases h)⟩) λg=>al ⟨rfl,λh=>⟨g,?_⟩⟩
    rw[kC] at h;exact h
   rintro⟨c,y⟩ ⟨e,hzr⟩;dsimp only at e hzr;subst e;refine aO (λ_=>al λh=>(by cases h)) λhzb=>?_
   obtain⟨z0,zT⟩:=hzr hzb;refine aX (λx=>x.2=((w1,w2,U,Z,J,I),z1,z2,z3)/\(x.1=ah->i=0\/¬(aH (T:=wJ) I ((i-1:Nat):Int)).1=z1)/\(x.1=ai->¬(i:Int)=0/\(aH (T:=wJ) I ((i-1:Nat):Int)).1=z1)) ?_ ?_
   .refine aI (λh=>al ⟨rfl,λ_=>.inl (by have h:((i:Nat):Int)=0:=h;omega),λh=>(by cases h)⟩) λh=>?_
    rw[hw h];refine cw (aR (al ⟨rfl,λh2=>.inr (by simpa using h2),λh2=>⟨h,by simpa using h2⟩⟩))
   rintro⟨c,y⟩ ⟨e,hc1,hc⟩;dsimp only at e hc1 hc;subst e;refine aO (λhct=>?_) λhcf=>?_
   .refine aX (λx=>x.2=(w1,w2,U,Z,J,I)/\(x.1=ai->z2=0/\(¬i=0->((aH (T:=wJ) I ((i-1:Nat):Int)).1:Int)<z1))) ?_ ?_
    .refine bZ (λ_=>al ⟨rfl,λh=>(by cases h)⟩) λhz2=>?_
     refine bA (λh=>?_) λM=>al ⟨rfl,λ_=>⟨hz2,λh=>by have M:((i:Nat):Int)<=0:=M;omega⟩⟩
     have h:(0:Int)<((i:Nat):Int):=h;rw[hw (by omega)];refine cw (aR (al ⟨rfl,λh2=>⟨hz2,λh3=>?_⟩⟩));rw[fP] at h2;have h4:=(hc1 hct).resolve_left h3;have h2:(aH (T:=wJ) I ((i-1:Nat):Int)).1<=z1:=h2;exact Int.lt_iff_le_and_ne.2 ⟨h2,h4⟩
    rintro⟨c,y⟩ ⟨e,hy⟩;dsimp only at e hy;subst e;refine aO (λ_=>al λh=>(by cases h)) λh=>al ⟨rfl,?_⟩
    obtain⟨q1,q2⟩:=hy h;have q1:z2=0:=q1;subst q1;refine ⟨?_,eP 0,by show _>(0:Int);omega⟩;unfold Q3;by_cases M:i=0
    .subst M;rw[aJ rfl];dsimp only;by_cases hz1:z1=0
     .subst hz1;rfl
     .rw[aC (λh=>hz1 h.1),aJ ⟨by omega,zT,rfl⟩];rfl
    .have:=q2 M;rw[aC M];dsimp only;rw[aC (λh=>by omega),aJ ⟨this,zT,rfl⟩];rfl
   .obtain⟨M,hpr⟩:=hc hcf;rw[hw M];refine cw (aR ?_);refine bZ (λ_=>al λh=>(by cases h)) λh=>al ⟨rfl,?_⟩
    obtain⟨b0,b1⟩:=hpb (by omega);have h:z2=bg .i64 ((aH (T:=wJ) I ((i-1:Nat):Int)).2.1+1):=h;rw[ie (by omega) (by omega)] at h;refine ⟨?_,by omega,by omega⟩;rw[aC (by omega)];unfold Q3;dsimp only;rw[aJ ⟨hpr.symm,h⟩,hpr,h]
  .rintro x ⟨rfl,hx,hx2⟩;refine al ?_;dsimp only;refine ⟨gK (by omega),rfl,?_,λ_=>hx2⟩;rw[aC (by omega)];exact hx
 .rintro⟨a,b⟩ ⟨e1,e2,e3,_⟩;dsimp only at e1 e2;subst e1;subst e2;refine bA (λY=>(by dsimp only[ar] at Y;omega)) λ_=>?_
  rw[cL] at e3;exact al λ_=>⟨hv,by unfold Y_;dsimp only;rw[e3];simp⟩
def rZ (e:ET):Bool:=decide (e.2.1=3)||decide (e.2.1=23)
def fl (l:List ET) (t:Int):List Bool:=(l.filter λe=>decide (e.1=t)).map rZ
def Jl (l:List ET) (t y:Int):Prop:=0<=y/\(fl l t).getD y.toNat ai=ah
theorem td (l m:List ET) (t:Int):fl (l++m) t=fl l t++fl m t:=by unfold fl;rw[List.filter_append,cI]
theorem xQ {e:ET} {t:Int} (h:e.1=t):fl [e] t=[rZ e]:=by unfold fl;simp[h]
theorem vh {e:ET} {t:Int} (h:¬e.1=t):fl [e] t=[]:=by unfold fl;simp[h]
theorem Jl.app {l:List ET} {t y:Int} (h:Jl l t y) (m:List ET):Jl (l++m) t y:=by
 obtain⟨h0,h1⟩:=h;refine ⟨h0,?_⟩;rw[td];rw[ax] at h1 ⊢;rcases bW y.toNat (fl l t).length with g|g
 .rw[bK g];exact h1
 .rw[bM g] at h1;cases h1
theorem Jl.lt {l:List ET} {t y:Int} (h:Jl l t y):y<(fl l t).length:=by
 obtain⟨h0,h1⟩:=h;rcases bW y.toNat (fl l t).length with g|g
 .omega
 .rw[ax,bM g] at h1;cases h1
theorem Jl.last {l:List ET} {e:ET} {y:Int} (h:rZ e=ah) (I:y=(fl l e.1).length):Jl (l++[e]) e.1 y:=by
 subst I;refine ⟨by omega,?_⟩;rw[td,xQ rfl,ax,bX (by simp),h];simp
theorem Ux (l:List ET) (t:Int):(fl l t).length<=l.length:=by unfold fl;rw[b8];exact List.length_filter_le ..
structure SCx (w:WT) (l:List ET) (sy:SY) (ce fu:List Int) (e:ET):Prop where
 en:EN w sy e.1 e.2.1 e.2.2.1
 rd:U3 w sy e.1 e.2.1 e.2.2.1
 s1:e.2.1=1\/e.2.1=2->e.2.2.2.2.1= -1
 s2:¬(e.2.1=1\/e.2.1=2)->0<=e.2.2.2.2.1/\e.2.2.2.2.1<w.2.2.2.2.2.length/\(aH (T:=wJ) w.2.2.2.2.2 e.2.2.2.2.1).1=e.1
 de:0<e.2.2.2.2.2.1.length->e.2.1=5\/(e.2.1=3\/e.2.1=4)/\¬(aH (T:=NA) w.1 e.2.2.1).2.2.1=0
 fr:0<e.2.2.2.2.2.2.length->e.2.1=4\/e.2.1=22
 nd:AN (fl l e.1).length e.2.2.2.2.2.1
 nf:AN (fl l e.1).length e.2.2.2.2.2.2
 rd1:∀ y∈e.2.2.2.2.2.1,Jl l e.1 y
 rd2:∀ y∈e.2.2.2.2.2.2,Jl l e.1 y
 va:VA w sy ce fu e.1 e.2.1 e.2.2.1 e.2.2.2.1
def Xq:Nat->List (Int×Int×Bool)
 |0=>[]
 |n+1=>(1,0,ai)::aF n (0,0,ai)
def Nr (w:WT):SY:=(aF w.2.1.length (-1,[]),-1,aF w.2.2.2.1.length ai,Xq w.2.2.2.2.1.length)
def YJ (w:WT):List Int:=w.1.map λc=>c.2.2.2.2
def Zx (w:WT):List Int:=aF w.2.2.2.1.length 0
inductive ZD (w:WT):List ET->SY->List Int->List Int->Prop
 |nil:ZD w [] (Nr w) (YJ w) (Zx w)
 |snoc {l:List ET} {sy:SY} {ce fu:List Int} {e:ET} (h:ZD w l sy ce fu) (hs:SCx w l sy ce fu e):ZD w (l++[e]) (uz w sy e.1 e.2.1 e.2.2.1 e.2.2.2.1).1 (Wh ce e) (Xc fu e)
theorem Xo (i:Nat):Xq (i+2)=Xq (i+1)++[(0,0,ai)]:=by
 show (1,0,ai)::aF (i+1) (0,0,ai)=(1,0,ai)::aF i (0,0,ai)++[(0,0,ai)]
 rw[CO,fX]
theorem LS:∀ n,(Xq n).length=n
 |0=>rfl
 |n+1=>by simp[Xq]
theorem Jd (w:WT) (h:VL w):ql w=aa (Nr w):=by
 obtain⟨w1,I,Z,J,U,Y⟩:=w;obtain⟨h1,h2,h3,h4,_,h5,h6⟩:=h;dsimp only at*
 refine cE ?_;unfold ql aU bk bt ct dh cQ eU bc bu bD aW cK aD cz;refine cf I.length (λi x=>x.1=(i:Int)/\x.2.1=(w1,I,Z,J,U,Y)/\x.2.2.2=(-1,aF i (-1,[]))) ?_ ?_ ⟨rfl,rfl,rfl⟩
 .rintro i ⟨a,b,c,d,e⟩ hi ⟨e1,e2,e3⟩;simp only[aB] at e1 e2 e3;obtain⟨rfl,rfl⟩:=e3;subst e1;subst e2;with_reducible repeat' first|(refine OS.ok ?_;constructor)|refine IM.mk λ_=>?_
  all_goals try simp only[ar,p_] at*
  all_goals first|omega|(simp;omega)|skip
  exact⟨gK (by omega),by rw[CO]⟩
 rintro⟨a,b,c,d,e⟩ ⟨e1,e2,e3⟩;simp only[aB] at e1 e2 e3;obtain⟨rfl,rfl⟩:=e3;subst e1;subst e2;refine bA (λM=>(by dsimp only[ar] at M;omega)) λ_=>?_
 refine aw (P:=λs=>s=Nr (w1,I,Z,J,U,Y)) ?_ λy hy=>al hy
 refine cf J.length (λi x=>x.1=(i:Int)/\x.2.1=(w1,I,Z,J,U,Y)/\x.2.2.2=(-1,aF I.length (-1,[]),aF i ai)) ?_ ?_ ⟨rfl,rfl,rfl⟩
 .rintro i ⟨a,b,c,d,e',f⟩ hi ⟨e1,e2,e3⟩;simp only[aB] at e1 e2 e3;obtain⟨rfl,rfl,rfl⟩:=e3;subst e1;subst e2;with_reducible repeat' first|(refine OS.ok ?_;constructor)|refine IM.mk λ_=>?_
  all_goals try simp only[ar,p_] at*
  all_goals first|omega|(simp;omega)|skip
  exact⟨gK (by omega),by rw[CO]⟩
 rintro⟨a,b,c,d,e',f⟩ ⟨e1,e2,e3⟩;simp only[aB] at e1 e2 e3;obtain⟨rfl,rfl,rfl⟩:=e3;subst e1;subst e2;refine bA (λM=>(by dsimp only[ar] at M;omega)) λ_=>?_
 refine aw (P:=λs=>s=Nr (w1,I,Z,J,U,Y)) ?_ λy hy=>al hy
 refine cf U.length (λi x=>x.1=(i:Int)/\x.2.1=(w1,I,Z,J,U,Y)/\x.2.2.2=(-1,aF I.length (-1,[]),aF J.length ai,Xq i)) ?_ ?_ ⟨rfl,rfl,rfl⟩
 .rintro i ⟨a,b,c,d,e'',f',g⟩ hi ⟨e1,e2,e3⟩;simp only[aB] at e1 e2 e3;obtain⟨rfl,rfl,rfl,rfl⟩:=e3;subst e1;subst e2;have hl:=LS i;refine bA (λ_=>?_) λM=>(by dsimp only[ar] at M;omega)
  refine gE (aI (λh0=>al ?_) λh0=>al ?_)
  .have h0:((i:Nat):Int)=0:=h0;have h0:i=0:=by omega
   subst h0;exact bf (by simp[Xq]) (by omega) (al ⟨rfl,rfl,rfl⟩)
  .have h0:¬((i:Nat):Int)=0:=h0;obtain⟨j,rfl⟩:∃ j,i=j+1:=⟨i-1,by omega⟩
   refine bf (by dsimp only;rw[hl];simp;omega) (by omega) (al ⟨gK (by omega),rfl,?_⟩);dsimp only;rw[Xo]
 rintro⟨a,b,c,d,e'',f',g⟩ ⟨e1,e2,e3⟩;simp only[aB] at e1 e2 e3;obtain⟨rfl,rfl,rfl,rfl⟩:=e3;subst e1;subst e2;refine bA (λM=>(by dsimp only[ar] at M;omega)) λ_=>al rfl
theorem Ri {w:WT} (h:VL w):SB 0 (Nr w):=by
 obtain⟨h1,h2,U,M,_,J,I⟩:=h;refine ⟨by omega,by simp[Nr];omega,λl hl=>?_,by simp[Nr];omega,by simp[Nr,LS];omega⟩;rw[vI hl];simp
theorem Jc (w:WT) (h:VL w):mj w=aa (Nr w,YJ w,Zx w,aF w.2.2.2.2.1.length 0):=by
 have hs:=Jd w h;have hd:(Nr w)=Nr w:=rfl;obtain⟨I,Z,Y,M,J,U⟩:=w;obtain⟨h1,h2,h3,h4,_,h5,h6⟩:=h;dsimp only at*
 refine cE ?_;unfold mj aU bk bt bI cQ bu bD bF aW cK aD cz;refine aT hs ?_;with_reducible repeat' first|(refine OS.ok ?_;constructor)|refine IM.mk λ_=>?_
 all_goals try simp only[ar,p_] at*
 all_goals first|omega|skip
 refine cf I.length (λi x=>x.1=(i:Int)/\x.2.1=(I,Z,Y,M,J,U)/\x.2.2.2=(Nr (I,Z,Y,M,J,U),(I.take i).map (λc=>c.2.2.2.2),aF M.length 0,aF J.length 0)) ?_ ?_ ⟨rfl,rfl,rfl⟩
 .rintro i ⟨a,b,c,d,e,f,g⟩ hi ⟨e1,e2,e3⟩;simp only[aB] at e1 e2 e3;obtain⟨rfl,rfl,rfl,rfl⟩:=e3;subst e1;subst e2;with_reducible repeat' first|(refine OS.ok ?_;constructor)|refine IM.mk λ_=>?_
  all_goals try simp only[ar,p_] at*
  all_goals first|omega|(simp;omega)|skip
  exact⟨gK (by omega),by rw[nB (T:=NA) hi,cI];rfl⟩
 rintro⟨a,b,c,d,e,f,g⟩ ⟨e1,e2,e3⟩;simp only[aB] at e1 e2 e3;obtain⟨rfl,rfl,rfl,rfl⟩:=e3;subst e1;subst e2;refine bA (λg4=>(by dsimp only[ar] at g4;omega)) λ_=>al ?_
 rw[cL];rfl
theorem Tv (w:WT) (h:VL w):Ok (mj w) λs=>NB 0 s/\s.2.1.length=w.1.length/\s.2.2.1.length=w.2.2.2.1.length/\s.2.2.2.length=w.2.2.2.2.1.length:=
 agi (Jc w h) ⟨⟨Ri h,by have:=h.c;simp[YJ];omega,by have:=h.f;simp[Zx];omega,by have:=h.t;simp;omega⟩,by simp[YJ],by simp[Zx],by simp⟩
theorem N0 (l:List ET) (i t:Int) (I:List Int) (hl:l.length<=1000000000) (hi:0<=i/\i<=l.length) (hn:I.length<=1000000000):Ok (qj (l,i,t,I)) λb=>b=ah->∀ y∈I,Jl (l.take i.toNat) t y:=by
 unfold qj aU bI bc bu iO bF aW cK aD cz;refine cf I.length (λk x=>x=(k:Int)/\∀ j:Nat,j<k->Jl (l.take i.toNat) t (aH (T:=.int .i64) I (j:Int))) ?_ ?_ ⟨rfl,λj hj=>(by omega)⟩
 .rintro k x hk ⟨rfl,Y⟩;refine bA (λM=>?_) λM=>(by dsimp only[ar] at M;omega)
  refine pl (λx=>(i-x.2.2).toNat) (λx=>0<=x.2.2/\x.2.2<=i/\x.1=((fl (l.take x.2.2.toNat) t).length:Int)/\(x.2.1=ah->Jl (l.take x.2.2.toNat) t (aH (T:=.int .i64) I (k:Int)))) ?_ ⟨by simp,hi.1,by simp[fl],λh=>(by cases h)⟩;rintro⟨a,b,(c:Int)⟩ ⟨U,c1,Z,hb⟩;dsimp only at U c1 Z hb;subst Z;obtain⟨c,rfl⟩:∃ n:Nat,c=(n:Int):=⟨c.toNat,by omega⟩
  rw[gq] at hb;dsimp only;rw[gq];have hfl:=Ux (l.take c) t;have htl:=pi c l;refine bA (λJ=>?_) λJ=>?_
  .have J:(c:Int)<i:=J;have htk:l.take (c+1)=l.take c++[aH (T:=tE) l (c:Int)]:=nB (T:=tE) (by omega);refine aX (λy=>y.1=((fl (l.take (c+1)) t).length:Int)/\(y.2=ah->Jl (l.take (c+1)) t (aH (T:=.int .i64) I (k:Int)))) ?_ ?_
   .rw[htk,td];refine aQ U (by first|omega|(dsimp only;omega)) (aR ?_);refine bZ (λhne=>al ⟨by rw[vh hne];simp,λh=>(hb h).app _⟩) λhe=>?_
    have he:(aH (T:=tE) l (c:Int)).1=t:=he;refine aX (λy=>y=ah->Jl (l.take c++[aH (T:=tE) l (c:Int)]) t (aH (T:=.int .i64) I (k:Int))) ?_ λy hy=>al ⟨?_,hy⟩
    .refine aO (λh=>al λ_=>(hb h).app _) λ_=>?_
     refine aQ (by omega) (by first|omega|(dsimp only;omega)) (aR ?_);refine aI (λhn=>?_) λ_=>al λh=>(by cases h)
     have hq:rZ (aH (T:=tE) l (c:Int))=ah->Jl (l.take c++[aH (T:=tE) l (c:Int)]) t (aH (T:=.int .i64) I (k:Int)):=λh=>by
      rw[<- he] at hn ⊢;exact Jl.last h hn.symm
     refine aQ U (by first|omega|(dsimp only;omega)) (aR ?_);refine aI (λh=>al λ_=>hq (by unfold rZ;rw[aP h];rfl)) λ_=>?_
     exact aQ U (by first|omega|(dsimp only;omega)) (aR (al λh=>hq (by unfold rZ;rw[h];simp)))
    .dsimp only;rw[xQ he,gK (by omega)];simp
   .rintro⟨p,q⟩ ⟨hp,hq⟩;refine al ?_;dsimp only at hp hq ⊢;rw[gK (by omega),gq];exact⟨⟨by omega,by omega,hp,hq⟩,by omega⟩
  .refine aw (P:=λr=>match r with|.inl y=>y=((k+1:Nat):Int)/\∀ j:Nat,j<k+1->Jl (l.take i.toNat) t (aH (T:=.int .i64) I (j:Int))|.inr r=>r=ah->∀ y∈I,Jl (l.take i.toNat) t y) ?_ λr hr=>al ?_
   .refine dW (λ_=>al λh=>(by cases h)) λh=>al ⟨gK (by omega),λj hj=>?_⟩
    rcases bW j k with h1|h1
    .exact Y j h1
    .have:=hb h;have hci:c=i.toNat:=by have J:i<=(c:Int):=J;omega
     rw[show j=k by omega,<-hci];exact this
   .cases r with
    |inl y=>exact hr
    |inr r=>exact hr
 .rintro x ⟨rfl,Y⟩;refine bA (λM=>(by dsimp only[ar] at M;omega)) λ_=>al λ_=>hZ (T:=.int .i64) Y
def CN (l:List ET) (c:List Int):Prop:=∀ t:Int,0<=t->t<c.length->aH (T:=.int .i64) c t=((fl l t).length:Int)
theorem sF {T:Ty} (xs:List T.den) (j k:Int) (x:T.den) (hj:0<=j) (I:j<xs.length) (hk:0<=k):aH (cJ xs j x) k=if k=j then x else aH xs k:=by
 unfold aH cJ;rw[ax,ax,rY];by_cases h:k=j
 .subst h;rw[aJ rfl,aJ rfl,aJ (by omega)];rfl
 .rw[aC (by omega),aC h]
theorem CN.next {l:List ET} {c:List Int} (h:CN l c) (e:ET) (h0:0<=e.1) (h1:e.1<c.length) (hl:l.length<1000000):CN (l++[e]) (cJ c e.1 (bg .i64 (aH (T:=.int .i64) c e.1+1))):=λt t0 t1=>by
 rw[bU] at t1;have:=Ux l e.1;rw[sF (T:=.int .i64) _ _ _ _ h0 h1 t0,td];split
 .rename_i h2;subst h2;rw[xQ rfl,h _ h0 h1,gK (by omega)];simp
 .rename_i h2;rw[vh λI=>h2 I.symm,h _ t0 t1];simp
structure EvF (w:WT) (e:ET):Prop where
 nm:NM w e.2.1 e.2.2.1
 t0:0<=e.1
 t1:e.1<w.2.2.2.2.1.length
 cd:∀ c∈w.2.2.1,0<=c.2/\c.2<w.2.1.length
theorem Zo (w:WT) (l:List ET) (hd:∀ e∈l,e.2.2.2.2.2.1.length<=1000000000/\e.2.2.2.2.2.2.length<=1000000000):Ok (sP (w,l)) λy=>y.2=0->(VL w/\Y_ w)/\(∀ e∈l,EvF w e)/\∃ sy ce fu,ZD w l sy ce fu:=by
 unfold sP ct bI eU bu bF aW cK aD cz;refine bA (λ_=>al λh=>(by cases h)) λhl=>?_
 dsimp only[ar] at hl;refine aw (zS w) λb hb=>?_
 refine dW (λ_=>al λh=>(by cases h)) λh=>?_
 obtain⟨hv,hsv⟩:=hb h;refine aT (Jc w hv) ?_;have hs:NB 0 (Nr w,YJ w,Zx w,aF w.2.2.2.2.1.length 0):=⟨Ri hv,by have:=hv.c;simp[YJ];omega,by have:=hv.f;simp[Zx];omega,by have:=hv.t;simp;omega⟩
 have hw:w.2.2.1.length<=1000:=by have:=hv.d;omega
 refine cf l.length (λi x=>x.1=(i:Int)/\x.2.1=(w,l)/\NB i x.2.2/\(∀ k:Nat,k<i->EvF w (aH (T:=tE) l (k:Int)))/\ZD w (l.take i) x.2.2.1 x.2.2.2.1 x.2.2.2.2.1/\CN (l.take i) x.2.2.2.2.2/\x.2.2.2.2.2.length=w.2.2.2.2.1.length) ?_ ?_ ⟨rfl,rfl,hs,λk hk=>(by omega),.nil,λt t0 t1=>?_,by simp⟩
 .rintro i ⟨a,b,s⟩ hi ⟨e1,e2,e3,Y,U,e6,Z⟩;dsimp only at e1 e2 e3 Y U e6 Z;subst e1;subst e2;refine bA (λI=>?_) λI=>(by dsimp only[ar] at I;omega)
  refine cw (aR ?_);have hmem:=bH (T:=tE) (xs:=l) (j:=(i:Int)) (by omega) (by omega);obtain⟨d1,d2⟩:=hd _ hmem;refine aw (DX w s e3 hw _ d1 d2) λy hy=>?_
  refine aX (λx=>x.2.1=(w,l)/\x.2.2.2=y.1/\(x.1=ai->y.2=ah/\(∀ z∈(aH (T:=tE) l (i:Int)).2.2.2.2.2.1,Jl (l.take i) (aH (T:=tE) l (i:Int)).1 z)/\∀ z∈(aH (T:=tE) l (i:Int)).2.2.2.2.2.2,Jl (l.take i) (aH (T:=tE) l (i:Int)).1 z)) ?_ ?_
  .refine dW (λ_=>al ⟨rfl,rfl,λh=>(by cases h)⟩) λh=>?_
   refine aw (N0 l _ _ _ (by omega) ⟨by dsimp only;omega,by dsimp only;omega⟩ d1) λb1 hr1=>?_
   refine dW (λ_=>al ⟨rfl,rfl,λh=>(by cases h)⟩) λhb1=>?_
   refine aw (N0 l _ _ _ (by omega) ⟨by dsimp only;omega,by dsimp only;omega⟩ d2) λb2 hr2=>al ⟨rfl,rfl,λhb2=>⟨h,hr1 hb1,hr2 (by simpa using hb2)⟩⟩
  .rintro⟨c,p,q,r⟩ ⟨f1,f2,f3⟩;dsimp only at f1 f2 f3;subst f1;subst f2;refine aO (λ_=>al λh=>(by cases h)) λh=>?_
   obtain⟨f4,r1,r2⟩:=f3 h;obtain⟨J,g2,M,I⟩:=hy.1 f4;refine al ?_;dsimp only;have htk:l.take (i+1)=l.take i++[aH (T:=tE) l (i:Int)]:=nB (T:=tE) hi;have hc:=e6 _ J.t0 (by rw[Z];exact J.t1);have hnx:=gA Prod.fst I;have hac:=U.snoc (e:=aH (T:=tE) l (i:Int)) ⟨J,M.rd,M.s1,M.s2,M.de,M.fr,by rw[<- hc];exact M.nd,by rw[<- hc];exact M.nf,r1,r2,M.va⟩;refine ⟨gK (by omega),rfl,g2.NB e3 (by omega),λk hk=>?_,by rw[htk,I];exact hac,by rw[htk,I];exact e6.next _ J.t0 (by rw[Z];exact J.t1) (by rw[bC];omega),by rw[I];unfold Zv;rw[bU];exact Z⟩;rcases bW k i with h1|h1
   .exact Y k h1
   .rw[show k=i by omega];exact⟨J.nm,J.t0,J.t1,J.cd⟩
 .rintro⟨a,b,s⟩ ⟨e1,e2,e3,Y,U,_⟩;dsimp only at e1 e2 e3 Y U;subst e1;subst e2;rw[cL] at U;refine bA (λI=>(by dsimp only[ar] at I;omega)) λ_=>al λ_=>⟨⟨hv,hsv⟩,hZ (T:=tE) Y,_,_,_,U⟩
 .rw[ep] at t1;obtain⟨t,rfl⟩:∃ n:Nat,t=(n:Int):=⟨t.toNat,by omega⟩
  rw[My,ax,pV];split<;>simp[fl]
structure TP (t:List Int×Int):Prop where
 l0:t.1.length<=9223372036854775807
 by_:∀ x∈t.1,0<=x/\x<=255
 a0:0<=t.2
 a1:t.2<=t.1.length
structure tM (t t':List Int×Int):Prop where
 e:t'.1=t.1
 m:t.2<=t'.2
 p:TP t'
theorem tM.refl {t:List Int×Int} (h:TP t):tM t t:=⟨rfl,eP _,h⟩
theorem tM.trans {a b c:List Int×Int} (h:tM a b) (g:tM b c):tM a c:=⟨g.e.trans h.e,Int.le_trans h.m g.m,g.p⟩
theorem fU (n:Int) (t:List Int×Int) (h:TP t):Ok (bp (n,t)) λy=>tM t y.2/\0<=y.1/\(1<=n->y.1<n)/\(t.2<t.1.length->1<=n->t.2<y.2.2):=by
 obtain⟨L,a⟩:=t;have U:=h;obtain⟨l0,hb,a0,a1⟩:=h;dsimp only at l0 hb a0 a1;unfold bp jg bD bF aW aD cz;refine aX (λx=>x.2=(L,a)/\(x.1=ah->a=L.length\/n<1)/\(x.1=ai->a<L.length/\1<=n)) ?_ ?_
 .refine e_ (λh=>al ⟨rfl,λ_=>?_,λh=>(by cases h)⟩) λh=>al ⟨rfl,λh2=>?_,λh2=>?_⟩
  .dsimp only[ar] at h;omega
  .rw[sg] at h2;exact .inr h2
  .rw[fP] at h2;dsimp only[ar] at h h2;omega
 rintro⟨b,x⟩ ⟨e,h1,h2⟩;dsimp only at e h1 h2;subst e;refine aO (λh=>al ⟨tM.refl U,eP _,λM=>(by dsimp only;omega),λM Z=>?_⟩) λh=>?_
 .have:=h1 h;dsimp only at M;omega
 obtain⟨J,Y⟩:=h2 h;refine aR ?_;have e1:bg .i64 (a+1)=a+1:=ie (by omega) (by omega);dsimp only;rw[e1,ie (n:=a+1-1) (by omega) (by omega),show a+1-1=a by omega];have I:=hb _ (bH (T:=.int .u8) (xs:=L) (j:=a) a0 J);refine aQ a0 J (aR ?_);generalize (aH _ a)=z at I;have I:0<=z/\z<=255:=I;rw[ie (n:=z) (by omega) (by omega)];refine xw (by omega) (al ?_);dsimp only;refine ⟨⟨rfl,by dsimp only;omega,⟨l0,hb,by dsimp only;omega,by dsimp only;omega⟩⟩,Int.tmod_nonneg _ I.1,λ_=>?_,λ_ _=>by omega⟩;exact Int.tmod_lt_of_pos _ (by omega)
theorem Q9 (s:SY) (hs:s.2.2.2.length<=1000) (y:List Int×List Int×List Int):Ok (ky (s,y)) λl=>l.length<=s.2.2.2.length:=by
 unfold ky bI bc bu bD bF aW cK aD cz;refine cf s.2.2.2.length (λi x=>x.1=(i:Int)/\x.2.length<=i) ?_ ?_ ⟨rfl,by simp⟩
 .rintro i ⟨a,b⟩ hi ⟨e1,e2⟩;dsimp only at e1 e2;subst e1;with_reducible repeat' first|(refine OS.ok ?_;constructor)|refine IM.mk λ_=>?_
  all_goals try simp only[ar,p_] at*
  all_goals first|omega|(simp;omega)|skip
  .exact⟨gK (by omega),by simp;omega⟩
  .exact⟨gK (by omega),by omega⟩
 .rintro⟨a,b⟩ ⟨e1,e2⟩;dsimp only at e1 e2;subst e1;refine bA (λI=>(by dsimp only[ar] at I;omega)) λ_=>al e2
theorem Vi (k u:Int) (t:List Int×Int) (h:TP t):Ok (nW ((k,u),t)) λy=>tM t y.2/\(k=3\/k=4->0<=y.1/\y.1<5):=by
 unfold nW bc kK aD cz;rcases @Ha k with rfl|rfl|rfl|rfl|rfl|rfl|rfl|rfl|rfl|rfl|rfl|rfl|rfl|rfl|rfl|rfl|rfl|rfl|rfl|rfl|rfl|rfl|rfl|⟨hk,J⟩
 case inr.inr.inr.inr.inr.inr.inr.inr.inr.inr.inr.inr.inr.inr.inr.inr.inr.inr.inr.inr.inr.inr.inr=>
  simp only[hk 1 (by decide) (by decide),hk 2 (by decide) (by decide),hk 3 (by decide) (by decide),hk 4 (by decide) (by decide),hk 5 (by decide) (by decide),hk 6 (by decide) (by decide),hk 7 (by decide) (by decide),hk 8 (by decide) (by decide),hk 9 (by decide) (by decide),hk 10 (by decide) (by decide),hk 11 (by decide) (by decide),hk 12 (by decide) (by decide),hk 13 (by decide) (by decide),hk 14 (by decide) (by decide),hk 15 (by decide) (by decide),hk 16 (by decide) (by decide),hk 17 (by decide) (by decide),hk 18 (by decide) (by decide),hk 19 (by decide) (by decide),hk 20 (by decide) (by decide),hk 21 (by decide) (by decide),hk 22 (by decide) (by decide),hk 23 (by decide) (by decide),aV,bi,rR];exact al ⟨tM.refl h,λh=>(by first|omega|(simp at h;done)|(rcases h with h|h<;>cases h;done))⟩
 all_goals simp only[aV,bi,rR]
 all_goals first
  |exact al ⟨tM.refl h,λh=>(by first|omega|(simp at h;done)|(rcases h with h|h<;>cases h;done))⟩
  |exact aw (fU 2 t h) λy I=>al ⟨I.1,λh=>(by first|omega|(simp at h;done)|(rcases h with h|h<;>cases h;done))⟩
  |exact aw (fU 3 t h) λy I=>al ⟨I.1,λh=>(by first|omega|(simp at h;done)|(rcases h with h|h<;>cases h;done))⟩
  |skip
 all_goals
  refine aw (fU 8 t h) λy I=>?_
  have h1:=I.2.1;have h2:=I.2.2.1 (by omega);refine aQ h1 (by simp;omega) (aQ h1 (by simp;omega) (aR (al ⟨I.1,λ_=>?_⟩)));have:∀ z:Int,z∈([0,0,0,1,1,2,3,4]:List Int)->0<=z/\z<5:=by decide
  exact this _ (bH (T:=.int .i64) h1 (by simp;omega))
structure SZ (n:Nat) (s:SN):Prop where
 nb:NB n s
 c:s.2.1.length=5
 f:s.2.2.1.length=1
 k:s.2.2.2.length=4
theorem SZ.step {n:Nat} {s y:SN} (h:SZ n s) (hp:SP n s y) (hn:n+1<=100000):SZ (n+1) y:=
 ⟨hp.NB h.nb hn,by rw[hp.c];exact h.c,by rw[hp.f];exact h.f,by rw[hp.k];exact h.k⟩
theorem U9 {n:Nat} (s:SN) (hs:SZ n s) (k o:Int) (M:k=3->0<=o/\o<5) (t:List Int×Int) (h:TP t):Ok (pt ((s,k,o),t)) λy=>tM t y.2:=by
 obtain⟨s1,s2,Y,U⟩:=s;have hc:=hs.c;have hf:=hs.f;have hth:=hs.nb.sb.th;dsimp only at hc hf hth;have J:=Q9 s1 hth (s2,Y,U);unfold pt aU bc bu bF aW aD;rcases @Ha k with rfl|rfl|rfl|rfl|rfl|rfl|rfl|rfl|rfl|rfl|rfl|rfl|rfl|rfl|rfl|rfl|rfl|rfl|rfl|rfl|rfl|rfl|rfl|⟨hk,Z⟩
 case inr.inr.inr.inr.inr.inr.inr.inr.inr.inr.inr.inr.inr.inr.inr.inr.inr.inr.inr.inr.inr.inr.inr=>
  simp only[hk 1 (by decide) (by decide),hk 2 (by decide) (by decide),hk 3 (by decide) (by decide),hk 4 (by decide) (by decide),hk 5 (by decide) (by decide),hk 6 (by decide) (by decide),hk 7 (by decide) (by decide),hk 8 (by decide) (by decide),hk 9 (by decide) (by decide),hk 10 (by decide) (by decide),hk 11 (by decide) (by decide),hk 12 (by decide) (by decide),hk 13 (by decide) (by decide),hk 14 (by decide) (by decide),hk 15 (by decide) (by decide),hk 16 (by decide) (by decide),hk 17 (by decide) (by decide),hk 18 (by decide) (by decide),hk 19 (by decide) (by decide),hk 20 (by decide) (by decide),hk 21 (by decide) (by decide),hk 22 (by decide) (by decide),hk 23 (by decide) (by decide),aV,bi,rR];exact al (tM.refl h)
 all_goals simp only[aV,bi,rR]
 all_goals first
  |exact al (tM.refl h)
  |exact aw (fU 2 t h) λy I=>al I.1
  |exact aw (fU 3 t h) λy I=>al I.1
  |exact aw J λy I=>al (tM.refl h)
  |exact aQ (by decide) (by omega) (aR (al (tM.refl h)))
  |exact aQ (M rfl).1 (by have:=(M rfl).2;omega) (aR (al (tM.refl h)))
  |skip
 refine aw J λl hl=>?_
 refine bA (λh1=>?_) λ_=>al (tM.refl h)
 refine aw (fU _ t h) λy I=>?_
 dsimp only[ar] at h1;have h2:=I.2.2.1 (by dsimp only[ar];omega);exact aQ I.2.1 h2 (aR (al I.1))
theorem ZL (t:List Int×Int) (h:TP t) (r:List Int) (hr:r.length<=1000000):Ok (gh (t,r)) λy=>y.1.length<=r.length/\tM t y.2.1/\y.2.2=r:=by
 unfold gh aU bI bu jg bD kK aW cK aD cz;refine cf r.length (λi x=>x.1=(i:Int)/\tM t x.2.1/\x.2.2.1=r/\x.2.2.2.length<=i) ?_ ?_ ⟨rfl,tM.refl h,rfl,by simp⟩
 .rintro i ⟨a,b,c,d⟩ hi ⟨e1,e2,e3,U⟩;dsimp only at e1 e2 e3 U;subst e1;subst e3;refine bA (λM=>?_) λM=>(by dsimp only[ar] at M;omega)
  refine aX (λx=>tM t x.1/\x.2.1=c/\x.2.2.length<=i+1) ?_ ?_
  .refine cw (cw (aR ?_));refine aX (λx=>tM t x.2.1/\x.2.2=(c,d)) ?_ ?_
   .refine aO (λ_=>?_) λ_=>al ⟨e2,rfl⟩
    exact aw (fU 2 b e2.p) λy Z=>al ⟨e2.trans Z.1,rfl⟩
   .rintro⟨p,q,u⟩ ⟨I,J⟩;dsimp only at I J;subst J;refine aO (λ_=>?_) λ_=>al ⟨I,rfl,by dsimp only;omega⟩
    exact bf (by simp;omega) (by omega) (al ⟨I,rfl,by simp;omega⟩)
  .rintro⟨p,q,u⟩ ⟨I,J,Y⟩;dsimp only at I J Y;subst J;refine al ?_;dsimp only;exact⟨gK (by omega),I,rfl,Y⟩
 .rintro⟨a,b,c,d⟩ ⟨e1,e2,e3,U⟩;dsimp only at e1 e2 e3 U;subst e1;subst e3;refine bA (λM=>(by dsimp only[ar] at M;omega)) λ_=>al ⟨U,e2,rfl⟩
theorem X0:r8 ()=aa [3,3,3,3,3,4,4,4,4,4,5,5,5,6,6,6,7,7,7,8,9,10,11,12,13,14,14,15,16,16,17,17,18,18,19,20,1,1,2,21,22,23,23]:=rfl
abbrev RR:Type:=List Int×List Int×List Int×List Int
structure RB4 (m:Nat) (r:RR):Prop where
 r0:r.1.length<=m
 r1:r.2.1.length<=m
 r2:r.2.2.1.length<=m
 r3:r.2.2.2.length<=m
theorem Yq {n:Nat} (s:SN) (hs:SZ n s) (w:WT) (hw:w.1.length=5) (t:List Int×Int) (h:TP t) (r:RR) (hr:RB4 1000000 r):Ok (pu ((s,w),t,r)) λy=>tM t y.2.1/\y.2.2=r/\(t.2<t.1.length->t.2<y.2.1.2)/\y.1.2.2.2.2.2.1.length<=1000000/\y.1.2.2.2.2.2.2.length<=1000000:=by
 obtain⟨r0,r1,r2,r3⟩:=r;obtain⟨h0,h1,h2,h3⟩:=hr;dsimp only at h0 h1 h2 h3;unfold pu CM Prod.p11 Prod.p12 aU bk bt ct em ka yz Ba Prod.q11 Prod.q12 cQ eU bc bD bF aW aD;refine aw (fU 4 t h) λy hy=>?_
 refine aT X0 ?_;refine aw (fU _ y.2 hy.1.p) λz hz=>?_
 obtain⟨y1,yt⟩:=y;obtain⟨z1,zt⟩:=z;obtain⟨ty,yy0,yy1,yy2⟩:=hy;obtain⟨tz,zz0,zz1,_⟩:=hz;dsimp only at ty yy0 yy1 yy2 tz zz0 zz1;have yy1:=yy1 (by decide);have hzl:=zz1 (by decide);refine aQ zz0 hzl (aR ?_);generalize (aH _ z1)=k;refine aw (fU 6 zt tz.p) λv hv=>?_
 obtain⟨v1,vt⟩:=v;have tv:=hv.1;dsimp only at tv;have tt:=(ty.trans tz).trans tv;have hadv:t.2<t.1.length->t.2<vt.2:=λh=>by
  have:=yy2 h (by decide);have:=tz.m;have:=tv.m;omega
 refine aX (λx=>x.1=vt/\x.2.1=r0/\x.2.2.1=r1/\x.2.2.2.1=r2/\x.2.2.2.2.1=r3/\x.2.2.2.2.2.1=s/\x.2.2.2.2.2.2.1=w) ?_ ?_
 .refine aX (λx=>x.2.1=vt/\x.2.2.1=r0/\x.2.2.2.1=r1/\x.2.2.2.2.1=r2/\x.2.2.2.2.2.1=r3/\x.2.2.2.2.2.2.1=s/\x.2.2.2.2.2.2.2.1=w) ?_ ?_
  .with_reducible repeat' first|(refine OS.ok ?_;constructor)|refine IM.mk λ_=>?_
   all_goals exact⟨rfl,rfl,rfl,rfl,rfl,rfl,rfl⟩
  .rintro⟨p,q⟩ hq;dsimp only at hq;with_reducible repeat' first|(refine OS.ok ?_;constructor)|refine IM.mk λ_=>?_
   all_goals exact hq
 rintro⟨x1,x2,x3,x4,x5,x6,x7,x8,x9,x10⟩ ⟨J,Y,f3,f4,f5,f6,U⟩;dsimp only at J Y f3 f4 f5 f6 U;subst J;subst Y;subst f3;subst f4;subst f5;subst f6;subst U;refine aw (Vi _ _ _ tv.p) λo Z=>?_
 obtain⟨o1,ot⟩:=o;obtain⟨to,Z⟩:=Z;dsimp only at to Z;refine aw (U9 _ hs _ _ (λhk=>Z (.inl hk)) _ to.p) λq hq=>?_
 obtain⟨q1,qt⟩:=q;dsimp only at hq;have M:=(tt.trans to).trans hq;have hadv2:t.2<t.1.length->t.2<qt.2:=λh=>by have:=hadv h;have:=to.m;have:=hq.m;omega
 have row:∀ (T:List Int×Int) (c:List Int) {R:Type} (k:List Int×((List Int×Int)×List Int)->Option R) (Q:R->Prop),tM t T->c.length<=1000000->(∀ v T',tM T T'->v.length<=1000000->Ok (k (v,T',c)) Q)->Ok (obind (gh (T,c)) k) Q:=λT c R k Q I hc hk=>by
  refine aw (ZL T I.p c hc) λy hy=>?_
  obtain⟨a,b,d⟩:=y;obtain⟨g1,g2,g3⟩:=hy;dsimp only at g1 g2 g3;subst g3;exact hk a b g2 (by omega)
 refine aX (λx=>tM t x.1/\(t.2<t.1.length->t.2<x.1.2)/\x.2.1=x2/\x.2.2.1=x3/\x.2.2.2.1=x4/\x.2.2.2.2.1=x5/\x.2.2.2.2.2.2.2.2.2.2.2.length<=1000000) ?_ ?_
 .refine aX (λx=>x.2.1=qt/\x.2.2.1=x2/\x.2.2.2.1=x3/\x.2.2.2.2.1=x4/\x.2.2.2.2.2.1=x5) ?_ ?_
  .refine aI (λ_=>al ⟨rfl,rfl,rfl,rfl,rfl⟩) λ_=>?_
   refine aI (λhk=>?_) λ_=>aI (λhk=>?_) λ_=>al ⟨rfl,rfl,rfl,rfl,rfl⟩
   .exact aQ (Z (.inl hk)).1 (by dsimp only;rw[hw];exact (Z (.inl hk)).2) (aR (al ⟨rfl,rfl,rfl,rfl,rfl⟩))
   .exact aQ (Z (.inr hk)).1 (by dsimp only;rw[hw];exact (Z (.inr hk)).2) (aR (al ⟨rfl,rfl,rfl,rfl,rfl⟩))
  .rintro⟨b,p1,p2,p3,p4,p5,p6⟩ ⟨J,Y,f3,f4,f5⟩;dsimp only at J Y f3 f4 f5;subst J;subst Y;subst f3;subst f4;subst f5;refine aO (λ_=>?_) λ_=>al ⟨M,hadv2,rfl,rfl,rfl,rfl,by simp⟩
   have adv3:∀ T',tM p1 T'->t.2<t.1.length->t.2<T'.2:=λT' I h=>by have:=hadv2 h;have:=I.m;omega
   refine aI (λ_=>?_) λ_=>aI (λ_=>?_) λ_=>aI (λ_=>?_) λ_=>aI (λ_=>?_) λ_=>?_
   .refine row p1 p2 _ _ M h0 λv T' I hv=>?_
    refine db (kS rfl (zo ?_));exact al ⟨M.trans I,adv3 T' I,rfl,rfl,rfl,rfl,hv⟩
   .refine row p1 p3 _ _ M h1 λv T' I hv=>?_
    refine db (kS rfl (zo ?_));exact al ⟨M.trans I,adv3 T' I,rfl,rfl,rfl,rfl,hv⟩
   .refine row p1 p4 _ _ M h2 λv T' I hv=>?_
    refine db (kS rfl (zo ?_));exact al ⟨M.trans I,adv3 T' I,rfl,rfl,rfl,rfl,hv⟩
   .refine row p1 p5 _ _ M h3 λv T' I hv=>?_
    refine db (kS rfl (zo ?_));exact al ⟨M.trans I,adv3 T' I,rfl,rfl,rfl,rfl,hv⟩
   .omega
 rintro⟨u1,u2,u3,u4,u5,u6,u7,u8,u9,u10,u11,u12⟩ ⟨J,Y,f3,f4,f5,f6,U⟩;dsimp only at J Y f3 f4 f5 f6 U;subst f3;subst f4;subst f5;subst f6;refine aX (λx=>tM t x.1/\(t.2<t.1.length->t.2<x.1.2)/\x.2.1=u2/\x.2.2.1=u3/\x.2.2.2.1=u4/\x.2.2.2.2.1=u5/\x.2.2.2.2.2.2.2.2.2.2.2.1.length<=1000000/\x.2.2.2.2.2.2.2.2.2.2.2.2.length<=1000000) ?_ ?_
 .refine aX (λx=>x.2=(u1,u2,u3,u4,u5,u6,u7,u8,u9,u10,u11,u12)) ?_ ?_
  .with_reducible repeat' first|(refine OS.ok ?_;constructor)|refine IM.mk λ_=>?_
   all_goals rfl
  .rintro⟨b,x⟩ e;dsimp only at e;subst e;refine aO (λ_=>?_) λ_=>al ⟨J,Y,rfl,rfl,rfl,rfl,U,by simp⟩
   have adv3:∀ T',tM u1 T'->t.2<t.1.length->t.2<T'.2:=λT' I h=>by have:=Y h;have:=I.m;omega
   refine aI (λ_=>?_) λ_=>aI (λ_=>?_) λ_=>aI (λ_=>?_) λ_=>aI (λ_=>?_) λ_=>?_
   .refine row u1 u2 _ _ J h0 λv T' I hv=>?_
    refine db (kS rfl (zo ?_));exact al ⟨J.trans I,adv3 T' I,rfl,rfl,rfl,rfl,U,hv⟩
   .refine row u1 u3 _ _ J h1 λv T' I hv=>?_
    refine db (kS rfl (zo ?_));exact al ⟨J.trans I,adv3 T' I,rfl,rfl,rfl,rfl,U,hv⟩
   .refine row u1 u4 _ _ J h2 λv T' I hv=>?_
    refine db (kS rfl (zo ?_));exact al ⟨J.trans I,adv3 T' I,rfl,rfl,rfl,rfl,U,hv⟩
   .refine row u1 u5 _ _ J h3 λv T' I hv=>?_
    refine db (kS rfl (zo ?_));exact al ⟨J.trans I,adv3 T' I,rfl,rfl,rfl,rfl,U,hv⟩
   .omega
 rintro⟨a1,a2,a3,a4,a5,a6,a7⟩ ⟨g1,g2,g3,g4,g5,g6,g7,g8⟩;dsimp only at g1 g2 g3 g4 g5 g6 g7 g8;subst g3;subst g4;subst g5;subst g6;exact al ⟨g1,rfl,g2,g7,g8⟩
def WS (e:ET):Prop:=e.2.2.2.2.2.1.length<=1000000/\e.2.2.2.2.2.2.length<=1000000
theorem ZR {m:Nat} (hm:m<=1000) (s:SN) (hs:SZ m s) (w:WT) (hw:w.1.length=5) (hwt:w.2.2.2.2.1.length=4) (hwc:w.2.2.1.length<=1000) (n:Int) (hn:n<=60) (t:List Int×Int) (h:TP t):Ok (q_ ((s,w,n,ai),t)) λy=>(∀ e∈y.1,WS e)/\y.1.length<=60:=by
 unfold q_ aU bk bt ct em ka yz Ba Prod.q10 bI cQ eU lY pg Prod.q9 bc bu bD bF aW cK aD;refine db (db (db (ey (by dsimp only[ar];omega) (ey (eP _) (bf (by dsimp only[ar];omega) (by omega) (Ui (by dsimp only[ar];omega) ?_))))));refine aX (λx=>x=(t,s,w,[],[],[],[])) ⟨_,rfl,rfl⟩ ?_;rintro x rfl;refine pl (λx=>((t.1.length:Int)-x.1.2).toNat) (λx=>tM t x.1/\x.2.2.1=w/\SZ (m+x.2.2.2.1.length) x.2.1/\x.2.2.2.1.length<=60/\(∀ e∈x.2.2.2.1,WS e)/\RB4 x.2.2.2.1.length x.2.2.2.2) ?_ ⟨tM.refl h,rfl,(by simpa using hs),by simp,λe he=>(by cases he),⟨by simp,by simp,by simp,by simp⟩⟩;rintro⟨I,s,w',out,r⟩ ⟨i1,i2,U,i4,i5,i6⟩;dsimp only at i1 i2 U i4 i5 i6;subst i2;refine aX (λx=>x.2=(I,s,w',out,r)/\(x.1=ah->out.length<60/\I.2<I.1.length)) ?_ ?_
 .refine bA (λh1=>al ⟨rfl,λh2=>?_⟩) λ_=>al ⟨rfl,λh=>(by cases h)⟩
  rw[sg] at h2;dsimp only[ar] at h1 h2;exact⟨by omega,h2⟩
 rintro⟨b,x⟩ ⟨e,hb⟩;dsimp only at e hb;subst e;refine aO (λh1=>?_) λ_=>al ⟨i5,i4⟩
 obtain⟨ho,ht⟩:=hb h1;obtain⟨q0,q1,q2,q3⟩:=id i6;refine aX (λx=>tM I x.1/\I.2<x.1.2/\x.2.2.1=w'/\SZ (m+x.2.2.2.1.length) x.2.1/\x.2.2.2.1.length<=60/\(∀ e∈x.2.2.2.1,WS e)/\RB4 x.2.2.2.1.length x.2.2.2.2) ?_ ?_
 .refine aw (Yq s U w' hw I i1.p r ⟨by omega,by omega,by omega,by omega⟩) λy hy=>?_
  obtain⟨ev,tp',r'⟩:=y;obtain⟨j1,j2,j3,M,J⟩:=hy;dsimp only at j1 j2 j3 M J;subst j2;have j3:=j3 ht;refine db (kS rfl (db (kS rfl (db (kS rfl (db (kS rfl (zo ?_))))))));refine aw (DX w' s U.nb hwc ev (by omega) (by omega)) λz hz=>?_
  refine dW (λ_=>al ⟨j1,j3,rfl,U,i4,i5,i6⟩) λh2=>?_
  obtain⟨z1,z2⟩:=z;obtain⟨hE,hS,_⟩:=hz.1 h2;have hS2:=U.step hS (by omega);refine aX (λx=>x.1=tp'/\x.2.2.1=w'/\x.2.2.2.1=out/\WS x.2.2.2.2.1/\x.2.2.2.2.2.1=z1/\RB4 (out.length+1) x.2.2.2.2.2.2) ?_ ?_
  .refine aX (λx=>x.2=(tp',s,w',out,ev,z1,r')) ?_ ?_
   .refine aI (λ_=>al rfl) λ_=>al rfl
   .rintro⟨b,x⟩ e;dsimp only at e;subst e;have hk:=U.k;obtain⟨ev1,ev2⟩:=ev;have t0:=hE.t0;have t1:=hE.t1;rw[hwt] at t1;dsimp only at t0 t1;refine aO (λ_=>?_) λ_=>al ⟨rfl,rfl,rfl,⟨M,J⟩,rfl,⟨by dsimp only;omega,by dsimp only;omega,by dsimp only;omega,by dsimp only;omega⟩⟩
    refine aI (λ_=>?_) λ_=>aI (λ_=>?_) λ_=>aI (λ_=>?_) λ_=>aI (λ_=>?_) λ_=>?_
    .exact aQ (by decide) (by dsimp only;omega) (aR (bf (by simp;omega) (by omega) (al ⟨rfl,rfl,rfl,⟨M,J⟩,rfl,⟨by simp;omega,by dsimp only;omega,by dsimp only;omega,by dsimp only;omega⟩⟩)))
    .exact aQ (by decide) (by dsimp only;omega) (aR (bf (by simp;omega) (by omega) (al ⟨rfl,rfl,rfl,⟨M,J⟩,rfl,⟨by dsimp only;omega,by simp;omega,by dsimp only;omega,by dsimp only;omega⟩⟩)))
    .exact aQ (by decide) (by dsimp only;omega) (aR (bf (by simp;omega) (by omega) (al ⟨rfl,rfl,rfl,⟨M,J⟩,rfl,⟨by dsimp only;omega,by dsimp only;omega,by simp;omega,by dsimp only;omega⟩⟩)))
    .exact aQ (by decide) (by dsimp only;omega) (aR (bf (by simp;omega) (by omega) (al ⟨rfl,rfl,rfl,⟨M,J⟩,rfl,⟨by dsimp only;omega,by dsimp only;omega,by dsimp only;omega,by simp;omega⟩⟩)))
    .dsimp only at *;omega
  .rintro⟨x1,x2,x3,x4,x5,x6,x7⟩ ⟨k1,k2,k3,k4,Z,Y⟩;dsimp only at k1 k2 k3 k4 Z Y;subst k1;subst k2;subst k3;subst Z;refine bf (by simp;omega) (by omega) (al ⟨j1,j3,rfl,?_,by simp;omega,λe he=>?_,?_⟩)
   .dsimp only;rw[bn,gf,<-rC];exact hS2
   .rcases bR.1 he with he|he
    .exact i5 e he
    .rw[aK] at he;subst he;exact k4
   .dsimp only;rw[bn,gf];exact Y
 rintro⟨tp',s',w'',out',r'⟩ ⟨k1,k2,k3,k4,Z,Y,k7⟩;dsimp only at k1 k2 k3 k4 Z Y k7;have e1:=i1.e;have a1:=k1.p.a1;have e2:=k1.e;refine al ⟨⟨i1.trans k1,k3,k4,Z,Y,k7⟩,?_⟩;dsimp only;rw[e2,e1] at a1;omega
def C0:List (List UInt8×Int×Int×Bool×Int):=[([120],0,0,ai,0),([121],0,0,ai,1),([118],0,0,ah,0),([113],0,2,ai,0),([113],1,2,ai,0)]
def Fd:List (List UInt8×Bool):=[([109],ai),([110],ai),([114],ah)]
def Ky:List (List UInt8×Int):=[([99],0)]
def QL:List (List UInt8):=[[102]]
def uJ:List (List UInt8):=[[109,97,105,110],[116,49],[116,50],[116,51]]
structure WX (w:WT):Prop where
 c:w.1=C0
 l:w.2.1=Fd
 d:w.2.2.1=Ky
 f:w.2.2.2.1=QL
 t:∃ n,1<=n/\n<=4/\w.2.2.2.2.1=uJ.take n
 s:w.2.2.2.2.2.length<=60
 v:Y_ w
structure W0 (w:WT):Prop where
 c:w.1.length=5
 l:w.2.1.length=3
 d:w.2.2.1.length=1
 f:w.2.2.2.1.length=1
 t:w.2.2.2.2.1.length=4
 s:w.2.2.2.2.2.length<=24
 x:WX w
theorem W0.vl {w:WT} (h:W0 w):VL w:=⟨by rw[h.c];decide,by rw[h.l];decide,by rw[h.d];decide,by rw[h.f];decide,by rw[h.t];decide,by rw[h.t];decide,by have:=h.s;omega⟩
def XP (i j:Nat):Int×Int:=if j=0 then (if i=0 then (0,0) else ((i:Int)-1,6)) else (i,j)
theorem T5 {T:Int} {l:List (Int×Int×Int)} {s:Int×Int×Int}:Jv T (l++[s])=Q3 T (Jv T l) s:=by unfold Jv;rw[fk];rfl
theorem Qt:Ok (mW ()) W0:=by
 unfold mW aU bk bt ct eU bu bD cK aD cz;refine cf 4 (λi x=>x.1=(i:Int)/\x.2.1=C0/\x.2.2.1=Fd/\x.2.2.2.1=Ky/\x.2.2.2.2.1=QL/\x.2.2.2.2.2.1=uJ/\x.2.2.2.2.2.2.length<=6*i/\Jv 4 x.2.2.2.2.2.2=aa (XP i 0)) ?_ ?_ ⟨rfl,rfl,rfl,rfl,rfl,rfl,by simp,rfl⟩
 .rintro i ⟨a,w1,w2,w3,w4,w5,w6⟩ hi ⟨e1,e2,e3,Z,Y,I,e7,U⟩;dsimp only at e1 e2 e3 Z Y I e7 U;subst e1;have hl5:w5.length=4:=by rw[I];rfl
  refine bA (λ_=>?_) λg=>(by dsimp only[ar] at g;simp at g;omega)
  refine cf 6 (λj x=>x.1=(j:Int)/\x.2.1=w1/\x.2.2.1=w2/\x.2.2.2.1=w3/\x.2.2.2.2.1=w4/\x.2.2.2.2.2.1=w5/\x.2.2.2.2.2.2.length<=6*i+j/\Jv 4 x.2.2.2.2.2.2=aa (XP i j)) ?_ ?_ ⟨rfl,rfl,rfl,rfl,rfl,rfl,by dsimp only;omega,U⟩
  .rintro j ⟨b,v1,v2,v3,v4,v5,v6⟩ hj ⟨d1,d2,d3,d4,d5,d6,d7,d8⟩;dsimp only at d1 d2 d3 d4 d5 d6 d7 d8;subst d1;refine dl ?_;refine bf (by simp;omega) (by omega) (al ?_);dsimp only;refine ⟨gK (by omega),d2,d3,d4,d5,d6,by simp;omega,?_⟩;rw[T5,d8];by_cases J:j=0
   .subst J;by_cases M:i=0
    .subst M;rfl
    .rw[show XP i 0=((i:Int)-1,6) by unfold XP;simp[M],show XP i (0+1)=((i:Int),1) by unfold XP;simp];unfold Q3;dsimp only;rw[aC (λh=>by have:=h.1;omega),aJ ⟨by omega,by omega,rfl⟩]
   .rw[show XP i j=((i:Int),(j:Int)) by unfold XP;simp[J],show XP i (j+1)=((i:Int),(j:Int)+1) by unfold XP;simp];unfold Q3;dsimp only;rw[aJ ⟨rfl,rfl⟩]
  .rintro⟨b,v1,v2,v3,v4,v5,v6⟩ ⟨d1,d2,d3,d4,d5,d6,d7,d8⟩;dsimp only at d1 d2 d3 d4 d5 d6 d7 d8;subst d1;subst d2;subst d3;subst d4;subst d5;subst d6;refine dc (al ?_);dsimp only;refine ⟨gK (by omega),e2,e3,Z,Y,I,by omega,?_⟩;rw[d8];unfold XP;simp
 .rintro⟨a,w1,w2,w3,w4,w5,w6⟩ ⟨e1,e2,e3,Z,Y,I,e7,U⟩;dsimp only at e1 e2 e3 Z Y I e7 U;subst e1;subst e2;subst e3;subst Z;subst Y;subst I;refine bA (λg=>(by dsimp only[ar] at g;simp[uJ] at g)) λ_=>al ?_
  refine ⟨rfl,rfl,rfl,rfl,rfl,by dsimp only;omega,rfl,rfl,rfl,rfl,⟨4,by decide,by decide,rfl⟩,by dsimp only;omega,?_⟩;unfold Y_;show Jv 4 w6≠af;rw[U];simp
theorem SZ.mono {n m:Nat} {s:SN} (h:SZ n s) (hnm:n<=m) (hm:m<=100000):SZ m s:=
 ⟨⟨⟨hm,h.nb.sb.lk,λl hl=>c7 (h.nb.sb.rd l hl) hnm,h.nb.sb.dn,h.nb.sb.th⟩,h.nb.c,h.nb.f,h.nb.k⟩,h.c,h.f,h.k⟩
theorem Tu (w:WT) (I:W0 w):Ok (mj w) λs=>SZ 0 s:=by
 refine (Tv w I.vl).mono λs hs=>⟨hs.1,?_,?_,?_⟩
 .rw[hs.2.1,I.c]
 .rw[hs.2.2.1,I.f]
 .rw[hs.2.2.2,I.t]
structure WB (w:WT):Prop where
 c:w.1.length<=12
 l:w.2.1.length<=4
 d:w.2.2.1.length<=2
 f:w.2.2.2.1.length<=2
 t:w.2.2.2.2.1.length<=4
 s:w.2.2.2.2.2.length<=60
theorem VL.wb {w:WT} (h:VL w):WB w:=⟨h.c,h.l,h.d,h.f,h.t,h.s⟩
structure TR (y:WT×List ET):Prop where
 wb:WB y.1
 vl:VL y.1
 ev:∀ e∈y.2,EvF y.1 e
 len:y.2.length<=400
 ls:∀ e∈y.2,WS e
 wx:WX y.1
 ac:∃ sy ce fu,ZD y.1 y.2 sy ce fu
theorem Gw (L:List Int) (n:Int) (hl:L.length<=9223372036854775807) (hb:∀ x∈L,0<=x/\x<=255):Ok (pw (L,n)) TR:=by
 unfold pw aU bk bt dh cQ bu jg iO bD kK aW cK aD cz;refine aX (λx=>x.length<=600/\∀ z∈x,0<=z/\z<=255) ?_ ?_
 .refine bA (λg=>?_) λg=>?_
  .dsimp only[ar] at g;refine db (ey (by omega) (ey (by dsimp only;omega) (al ⟨by dsimp only;rw[bC];simp;omega,λz I=>hb z (iT I)⟩)))
  .dsimp only[ar] at g;exact al ⟨by dsimp only;omega,hb⟩
 rintro L' ⟨hL,hB⟩;refine aw Qt λw J=>?_
 have hvl:=J.vl;refine aw (Tu w J) λs hs=>?_
 refine aw (fU 3 (L',0) ⟨by dsimp only;omega,hB,by dsimp only;omega,by dsimp only;omega⟩) λy hy=>?_
 obtain⟨y1,yt⟩:=y;obtain⟨ty,yy0,yy1,_⟩:=hy;have yy1:=yy1 (by decide);dsimp only at ty yy0 yy1;have ew:bg .i64 (1+y1)=1+y1:=ie (by omega) (by omega);refine pl (λx=>(1+y1+1-x.1).toNat) (λx=>1<=x.1/\x.1<=2+y1/\x.2.1=yt/\x.2.2.1=w/\x.2.2.2.1=s/\((x.2.2.2.2.length:Nat):Int)<=2*x.1/\∀ e∈x.2.2.2.2,WS e) ?_ ⟨by dsimp only;omega,by dsimp only;omega,rfl,rfl,rfl,by simp,λe he=>?_⟩
 .rintro⟨a,t,w',s',es⟩ ⟨e1,e2,e3,e4,e5,e6,e7⟩;dsimp only at e1 e2 e3 e4 e5 e6 e7;subst e3;subst e4;subst e5;refine e_ (λg=>?_) λg=>?_
  .dsimp only at g;rw[ew] at g;refine bf (by simp;omega) (by omega) (al ?_);dsimp only;rw[ie (n:=a+1) (by omega) (by omega)];refine ⟨⟨by omega,by omega,rfl,rfl,rfl,by simp;omega,λe he=>?_⟩,by omega⟩;rcases bR.1 he with he|he
   .exact e7 e he
   .simp only[bh,cj,fM] at he;rcases he with he|he<;>subst he<;>exact⟨by simp,by simp⟩
  .refine aw (P:=TR) ?_ λr hr=>al hr
   refine cf es.length (λi x=>x.1=(i:Int)/\TP x.2.1/\x.2.2.1=w'/\SZ i x.2.2.2.1/\x.2.2.2.2.1=es/\x.2.2.2.2.2.length<=i/\∀ e∈x.2.2.2.2.2,WS e) ?_ ?_ ⟨rfl,ty.p,rfl,hs,rfl,by simp,λe he=>(by cases he)⟩
   .rintro i ⟨b,t,w',s',es',out⟩ hi ⟨d1,U,Z,M,Y,d6,d7⟩;dsimp only at d1 U Z M Y d6 d7;subst d1;subst Z;subst Y;refine dl ?_;refine aX (λx=>TP x.1/\x.2.1=w'/\SZ (i+1) x.2.2.1/\x.2.2.2.1=es'/\x.2.2.2.2.length<=i+1/\∀ e∈x.2.2.2.2,WS e) ?_ ?_
    .refine cw (cw (aR ?_));have I:=e7 _ (bH (T:=.st (.pr (.int .i64) (.pr (.int .i64) (.pr (.int .i64) (.pr (.int .i64) (.pr (.int .i64) (.pr (.sl (.int .i64)) (.sl (.int .i64))))))))) (xs:=es') (j:=(i:Int)) (by omega) (by omega));revert I;generalize (aH _ _)=z;intro I;refine aw (DX w' s' M.nb (by rw[J.d];decide) z (by have:=I.1;omega) (by have:=I.2;omega)) λv hv=>?_
     refine aO (λh=>?_) λh=>al ⟨U,rfl,M.mono (by omega) (by omega),rfl,by dsimp only;omega,d7⟩
     refine bf (by simp;omega) (by omega) (al ⟨U,rfl,M.step (hv.1 h).2.1 (by omega),rfl,by simp;omega,λe he=>?_⟩);rcases bR.1 he with he|he
     .exact d7 e he
     .rw[aK] at he;subst he;exact I
    .rintro⟨t,w'',s'',es'',out'⟩ ⟨f1,f2,f3,f4,f5,f6⟩;dsimp only at f1 f2 f3 f4 f5 f6;refine al ?_;dsimp only;exact⟨gK (by omega),f1,f2,f3,f4,f5,f6⟩
   .rintro⟨b,t,w',s',es',out⟩ ⟨d1,U,Z,M,Y,d6,d7⟩;dsimp only at d1 U Z M Y d6 d7;subst d1;subst Z;subst Y;refine dc ?_;refine aw (P:=TR) ?_ λr hr=>al hr
    have hmin:Fp (jZ n 0) 60<=60:=by
     unfold Fp;split
     .omega
     .rename_i h;simp[fE] at h;exact h
    refine aw (ZR (by omega) s' M w' J.c J.t (by rw[J.d];decide) _ hmin t U) λv hv=>?_
    refine bf (by have:=hv.2;dsimp only;omega) (by omega) ?_;have hall:∀ e∈out++v.1,WS e:=λe he=>by
     rcases bR.1 he with he|he
     .exact d7 e he
     .exact hv.1 e he
    refine aw (Zo w' (out++v.1) λe he=>by have:=hall e he;exact⟨by have:=this.1;omega,by have:=this.2;omega⟩) λc hc=>?_
    refine bZ (λ_=>?_) λh=>?_
    .exact aw Qt λu hu=>al ⟨hu.vl.wb,hu.vl,λe he=>(by cases he),by simp,λe he=>(by cases he),hu.x,_,_,_,.nil⟩
    .exact al ⟨(hc h).1.1.wb,(hc h).1.1,(hc h).2.1,by have:=hv.2;simp;omega,hall,J.x,(hc h).2.2⟩
 .rw[aK] at he;subst he;exact⟨by simp,by simp⟩
abbrev IT:Type:=Int×Int×Int×Int×Int×Int
abbrev CT:Type:=WT×List (Int×List IT)
theorem qQ (a b:Int):iV (a,b)=aa (decide (0<=a/\a<b)):=by
 refine cE ?_;unfold iV jg aD;with_reducible repeat' first|(refine OS.ok ?_;constructor)|refine IM.mk λ_=>?_
 .by_cases h:a<b<;>simp[*,fE]
 .simp;omega
theorem DY (k:Int):oX k=aa (decide (1<=k/\k<=5)):=by
 refine cE ?_;unfold oX jg aD;with_reducible repeat' first|(refine OS.ok ?_;constructor)|refine IM.mk λ_=>?_
 .by_cases h:k<=5<;>simp[*,cR]
 .simp;omega
def iw (i:IT):List Int:=
 if i.1=1\/i.1=6\/i.1=10\/i.1=27 then [i.2.1]
 else if i.1=2\/i.1=3 then [i.2.1,i.2.2.1]
 else if i.1=4 then [i.2.1,i.2.2.1,i.2.2.2.1]
 else if i.1=7 then [i.2.1,i.2.2.2.1]
 else if i.1=8\/i.1=26 then [i.2.2.1]
 else if i.1=9 then [i.2.2.1,i.2.2.2.1]
 else []
theorem sq (i:IT):jm i=aa (iw i):=by
 obtain⟨I,i2⟩:=i;unfold jm iw aU bk bt bc aD;by_cases h1:I=1
 .subst h1;rfl
 by_cases h2:I=6
 .subst h2;rfl
 by_cases h3:I=10
 .subst h3;rfl
 by_cases h4:I=27
 .subst h4;rfl
 by_cases h5:I=2
 .subst h5;rfl
 by_cases h6:I=3
 .subst h6;rfl
 by_cases Z:I=4
 .subst Z;rfl
 by_cases Y:I=7
 .subst Y;rfl
 by_cases U:I=8
 .subst U;rfl
 by_cases M:I=26
 .subst M;rfl
 by_cases J:I=9
 .subst J;rfl
 simp only[h1,h2,h3,h4,h5,h6,Z,Y,U,M,J,cZ,YS,jnr,fM,dR]
theorem Br (z:IT):(iw z).length<=3:=by
 unfold iw
 (repeat' split)<;>simp
theorem XZ (l:List IT) (a:Int) (hl:l.length<=1000000):Ok (oJ (l,a)) λ_=>True:=by
 unfold oJ bc bu jg bF aW cK aD cz;refine pl (λx=>((l.length:Int)+1-x.2).toNat) (λx=>0<=x.2/\x.2<=(l.length:Int)+1) ?_ ⟨by dsimp only;omega,by dsimp only;omega⟩;rintro⟨(a:Int),(n:Int)⟩ ⟨h0,h1⟩;dsimp only at h0 h1;refine e_ (λg=>?_) λ_=>al trivial
 dsimp only[ar] at g;refine aX (λ_=>True) ?_ λb _=>al ?_
 .refine aX (λb=>b=ai->0<=a/\a<(l.length:Int)) ?_ ?_
  .refine bA (λ_=>al λh=>(by cases h)) λI=>al λh=>?_
   rw[kC] at h;dsimp only[ar] at h I;exact⟨I,h⟩
  .intro b hb;refine aO (λ_=>al trivial) λh=>?_
   obtain⟨q0,J⟩:=hb h;refine aQ q0 (by dsimp only;omega) (aR ?_);refine aT (DY _) ?_;refine dW (λ_=>al trivial) λ_=>?_
   refine aQ q0 (by dsimp only;omega) (aR ?_);refine aI (λ_=>?_) λ_=>al trivial
   exact aQ q0 (by dsimp only;omega) (aR (al trivial))
 .dsimp only;rw[ie (by omega) (by omega)];exact⟨⟨by omega,by omega⟩,by omega⟩
structure AR (w:WT) (b n:Int):Prop where
 b0:0<=b
 b1:b<w.1.length
 ix:(aH (T:=NA) w.1 b).2.1=0
 sz:¬(aH (T:=NA) w.1 b).2.2.1=0
 sn:(aH (T:=NA) w.1 b).2.2.1=n
theorem Qm (w:WT) (b n:Int):Ok (mE (w,b,n)) λr=>r=ah->AR w b n:=by
 unfold mE bc iO bF aW aD;refine gE ?_;refine aT (qQ _ _) ?_;refine aI (λh=>?_) λ_=>al (al λh=>(by cases h))
 refine aQ h.1 h.2 (aR (aI (λh1=>?_) λ_=>al (al λh=>(by cases h))));refine aQ h.1 h.2 (aR (bZ (λh2=>?_) λ_=>al (al λh=>(by cases h))));exact aQ h.1 h.2 (aR (al (al λI=>⟨h.1,h.2,h1,h2,bm I⟩)))
theorem Rr (w:WT) (i:IT):Ok (kV (w,i)) λb=>b=ah->(i.1=7->AR w i.2.2.1 i.2.2.2.2.1)/\(i.1=9->AR w i.2.1 i.2.2.2.2.1):=by
 have I:∀ {b:Bool},¬i.1=7->¬i.1=9->b=ah->(i.1=7->AR w i.2.2.1 i.2.2.2.2.1)/\(i.1=9->AR w i.2.1 i.2.2.2.2.1):=λh1 h2 _=>⟨λh=>(h1 h).elim,λh=>(h2 h).elim⟩
 unfold kV aU bk bt ct em bc jg bF aW aD;simp only[qQ,Uj];refine aI (λU=>?_) λ_=>?_
 .refine aX (λ_=>True) ?_ λ_ _=>al (I (by have U:i.1=6:=U;omega) (by have U:i.1=6:=U;omega))
  refine aI (λh=>?_) λ_=>al trivial
  exact aQ h.1 h.2 (aR (al trivial))
 refine aI (λJ=>?_) λ_=>?_
 .refine aX (λ_=>True) ?_ λ_ _=>al (I (by have J:i.1=8:=J;omega) (by have J:i.1=8:=J;omega))
  refine aI (λh=>?_) λ_=>al trivial
  exact aQ h.1 h.2 (aR (al trivial))
 refine aI (λM=>?_) λY=>?_
 .exact aw (Qm _ _ _) λ_ h=>al λh2=>⟨λ_=>h h2,λh9=>by have M:i.1=7:=M;omega⟩
 refine aI (λh9=>?_) λZ=>?_
 .exact aw (Qm _ _ _) λ_ h=>al λh2=>⟨λM=>(Y M).elim,λ_=>h h2⟩
 have I:∀ {b:Bool},b=ah->(i.1=7->AR w i.2.2.1 i.2.2.2.2.1)/\(i.1=9->AR w i.2.1 i.2.2.2.2.1):=I Y Z;refine aX (λx=>x.2=(w,i)) (aI (λ_=>al rfl) λ_=>al rfl) ?_;rintro⟨b,x⟩ e;dsimp only at e;subst e;refine aO (λ_=>?_) λ_=>?_
 .refine aX (λ_=>True) ?_ λ_ _=>al I
  refine aI (λh=>?_) λ_=>al trivial
  exact aQ h.1 h.2 (aR (al trivial))
 refine aX (λx=>x.2=(w,i)) (aI (λ_=>al rfl) λ_=>aI (λ_=>al rfl) λ_=>aI (λ_=>al rfl) λ_=>al rfl) ?_;rintro⟨b,x⟩ e;dsimp only at e;subst e;refine aO (λ_=>?_) λ_=>?_
 .refine aX (λ_=>True) ?_ λ_ _=>al I
  refine aI (λh=>?_) λ_=>al trivial
  exact aQ h.1 h.2 (aR (al trivial))
 refine aX (λx=>x.2=(w,i)) (aI (λ_=>al rfl) λ_=>aI (λ_=>al rfl) λ_=>al rfl) ?_;rintro⟨b,x⟩ e;dsimp only at e;subst e;refine aO (λ_=>al I) λ_=>?_
 refine aX (λx=>x.2=(w,i)) (aI (λ_=>al rfl) λ_=>al rfl) ?_;rintro⟨b,x⟩ e;dsimp only at e;subst e;with_reducible repeat' first|(refine OS.ok ?_;constructor)|refine IM.mk λ_=>?_
 all_goals exact I
structure VI (n:Int) (i:IT):Prop where
 o1:1<=i.1
 o2:i.1<=28
 r:∀ j∈iw i,0<=j/\j<n
structure VT (t:Int×List IT):Prop where
 r0:0<=t.1
 r1:t.1<=32
 i:∀ i∈t.2,VI t.1 i
structure VJ (w:WT) (k:Int) (i:IT):Prop where
 a7:i.1=7->AR w i.2.2.1 i.2.2.2.2.1
 a9:i.1=9->AR w i.2.1 i.2.2.2.2.1
 se:i.1=28->i.2.2.2.2.2= -1
 si:¬i.1=28->0<=i.2.2.2.2.2/\i.2.2.2.2.2<w.2.2.2.2.2.length/\(aH (T:=wJ) w.2.2.2.2.2 i.2.2.2.2.2).1=k
theorem Gp (w:WT) (k:Int) (c:Int×List IT) (hc:c.2.length<=1000000):Ok (hP (w,k,c)) λb=>b=ah->VT c/\∀ i∈c.2,VJ w k i:=by
 unfold hP aU bk bt ct bI cQ pg bc bu iO bF aW cK aD cz;refine aX (λx=>x.2=(w,c)/\(x.1=ai->0<=c.1/\c.1<=32)) ?_ ?_
 .refine bA (λ_=>al ⟨rfl,λh=>(by cases h)⟩) λh0=>bA (λ_=>al ⟨rfl,λh=>(by cases h)⟩) λh1=>al ⟨rfl,λ_=>⟨h0,h1⟩⟩
 rintro⟨b,x⟩ ⟨e,hb⟩;dsimp only at e hb;subst e;refine aO (λ_=>al λh=>(by cases h)) λh=>?_
 obtain⟨r0,r1⟩:=hb h;refine cf c.2.length (λi x=>x.1=(i:Int)/\x.2=(w,c)/\∀ q:Nat,q<i->VI c.1 (aH (T:=Aa) c.2 (q:Int))/\VJ w k (aH (T:=Aa) c.2 (q:Int))) ?_ ?_ ⟨rfl,rfl,λk hk=>by omega⟩
 .rintro i ⟨a,x⟩ hi ⟨e1,e2,e3⟩;dsimp only at e1 e2 e3;subst e1;subst e2;refine dl ?_;refine cw (aR ?_);generalize Y:(aH _ _)=z;refine aX (λx=>x.2=(w,c,z)/\(x.1=ai->(1<=z.1/\z.1<=28)/\(z.1=7->AR w z.2.2.1 z.2.2.2.2.1)/\(z.1=9->AR w z.2.1 z.2.2.2.2.1))) ?_ ?_
  .refine bA (λ_=>al ⟨rfl,λh=>(by cases h)⟩) λh0=>bA (λ_=>al ⟨rfl,λh=>(by cases h)⟩) λh1=>?_
   refine aO (λ_=>al ⟨rfl,λh=>(by cases h)⟩) λ_=>?_
   refine aw (Rr w z) λy Z=>?_
   refine dW (λ_=>al ⟨rfl,λh=>(by cases h)⟩) λhyt=>?_
   exact aw (XZ c.2 _ hc) λy _=>al ⟨rfl,λ_=>⟨⟨h0,h1⟩,Z hyt⟩⟩
  rintro⟨b,x⟩ ⟨e,hb⟩;dsimp only at e hb;subst e;refine aO (λ_=>al λh=>(by cases h)) λh=>?_
  obtain⟨⟨o1,o2⟩,a7,a9⟩:=hb h;refine aX (λx=>x.2=(w,c,z)/\(x.1=ai->(z.1=28->z.2.2.2.2.2= -1)/\(¬z.1=28->0<=z.2.2.2.2.2/\z.2.2.2.2.2<w.2.2.2.2.2.length/\(aH (T:=wJ) w.2.2.2.2.2 z.2.2.2.2.2).1=k))) ?_ ?_
  .simp only[qQ,Uj];refine aI (λI=>?_) λI=>?_
   .refine bZ (λ_=>al ⟨rfl,λh=>(by cases h)⟩) λhm=>?_
    exact bZ (λh=>(h I).elim) λ_=>al ⟨rfl,λ_=>⟨λ_=>hm,λh=>(h I).elim⟩⟩
   .refine bZ (λ_=>?_) λh=>(I h).elim
    refine bZ (λ_=>al ⟨rfl,λh=>(by cases h)⟩) λh=>?_
    exact aQ h.1 h.2 (aR (al ⟨rfl,λh2=>⟨λh3=>(I h3).elim,λ_=>⟨h.1,h.2,by simpa using h2⟩⟩⟩))
  rintro⟨b,x⟩ ⟨e,hsi⟩;dsimp only at e hsi;subst e;refine aO (λ_=>al λh=>(by cases h)) λhbs=>?_
  obtain⟨se,si⟩:=hsi hbs;refine aX (λx=>x.2=(w,c,z)) ?_ ?_
  .simp only[qQ,Uj];with_reducible repeat' first|(refine OS.ok ?_;constructor)|refine IM.mk λ_=>?_
   all_goals rfl
  rintro⟨b,x⟩ e;dsimp only at e;subst e;refine aO (λ_=>al λh=>(by cases h)) λ_=>?_
  refine aT (sq z) ?_;refine cf (iw z).length (λj x=>x.1=(j:Int)/\x.2=(w,c)/\∀ k:Nat,k<j->0<=aH (T:=.int .i64) (iw z) (k:Int)/\aH (T:=.int .i64) (iw z) (k:Int)<c.1) ?_ ?_ ⟨rfl,rfl,λk hk=>by omega⟩
  .rintro j ⟨a,x⟩ hj ⟨U,M,J⟩;dsimp only at U M J;subst U;subst M;refine dl ?_;refine cw (aR ?_);refine aT (qQ _ _) ?_;refine bZ (λ_=>al λh=>(by cases h)) λh=>al ?_
   dsimp only at h ⊢;have hj32:(iw z).length<=3:=Br z;refine ⟨gK (by omega),rfl,λk hk=>?_⟩;rcases bW k j with h1|h1
   .exact J k h1
   .rw[show k=j by omega];exact h
  .rintro⟨a,x⟩ ⟨U,M,J⟩;dsimp only at U M J;subst U;subst M;refine dc (al ?_);dsimp only;refine ⟨gK (by omega),rfl,λk hk=>?_⟩;rcases bW k i with h1|h1
   .exact e3 k h1
   .rw[show k=i by omega,Y];exact⟨⟨o1,o2,hZ (T:=.int .i64) J⟩,⟨a7,a9,se,si⟩⟩
 .rintro⟨a,x⟩ ⟨e1,e2,e3⟩;dsimp only at e1 e2 e3;subst e1;subst e2;refine dc (al λ_=>⟨⟨r0,r1,hZ (T:=Aa) (p:=VI c.1) λq hq=>(e3 q hq).1⟩,hZ (T:=Aa) (p:=VJ w k) λq hq=>(e3 q hq).2⟩)
structure VC (c:CT):Prop where
 vl:VL c.1
 tl:c.2.length=c.1.2.2.2.2.1.length
 t:∀ t∈c.2,VT t
 sv:Y_ c.1
 j:∀ k:Nat,k<c.2.length->∀ i∈(aH (T:=uI) c.2 (k:Int)).2,VJ c.1 (k:Int) i
structure CB (c:CT):Prop where
 th:c.2.length<=1000000
 ins:∀ t∈c.2,t.2.length<=1000000
 rg:∀ t∈c.2,1<=t.1
 wx:WX c.1
 ok:jk c=aa ah
theorem Qv (c:CT) (h1:c.2.length<=1000000) (h2:∀ t∈c.2,t.2.length<=1000000):Ok (jk c) λb=>b=ah->VC c:=by
 obtain⟨w,l⟩:=c;dsimp only at h1 h2;unfold jk bt bu bF aW cK aD cz;refine aX (λx=>x.2=(w,l)/\(x.1=ai->(VL w/\Y_ w)/\l.length=w.2.2.2.2.1.length)) ?_ ?_
 .refine aw (zS w) λb hb=>?_
  refine dW (λ_=>al ⟨rfl,λh=>(by cases h)⟩) λh=>al ⟨rfl,λM=>⟨hb h,?_⟩⟩
  simp at M;omega
 rintro⟨b,x⟩ ⟨e,I⟩;dsimp only at e I;subst e;refine aO (λ_=>al λh=>(by cases h)) λh=>?_
 obtain⟨⟨hv,hsv⟩,hl⟩:=I h;refine cf l.length (λi x=>x.1=(i:Int)/\x.2=(w,l)/\∀ k:Nat,k<i->VT (aH (T:=uI) l (k:Int))/\∀ q∈(aH (T:=uI) l (k:Int)).2,VJ w (k:Int) q) ?_ ?_ ⟨rfl,rfl,λk hk=>by omega⟩
 .rintro i ⟨a,x⟩ hi ⟨e1,e2,e3⟩;dsimp only at e1 e2 e3;subst e1;subst e2;refine dl ?_;refine cw (aR ?_);have hm:=bH (T:=uI) (xs:=l) (j:=(i:Int)) (by omega) (by omega);revert hm;generalize J:(aH (T:=uI) l (i:Int))=z;intro hm;refine aw (Gp w _ z (h2 z hm)) λb hb=>?_
  refine dW (λ_=>al λh=>(by cases h)) λh=>al ?_
  dsimp only;refine ⟨gK (by omega),rfl,λk hk=>?_⟩;rcases bW k i with h1|h1
  .exact e3 k h1
  .rw[show k=i by omega,J];exact hb h
 .rintro⟨a,x⟩ ⟨e1,e2,e3⟩;dsimp only at e1 e2 e3;subst e1;subst e2;refine dc (al λ_=>⟨hv,hl,hZ (T:=uI) (p:=VT) λk hk=>(e3 k hk).1,hsv,λk hk=>(e3 k hk).2⟩)
abbrev TT:Type:=Int×List Int×List (List Int)×Int
structure TL (F:Int->Prop) (E:Nat) (l:List Int):Prop where
 a:FO l
 m:∀ y∈l,0<=y/\y<(E:Int)
 f:∀ y∈l,F y
theorem Nc:∀ (l:List Int) (lo hi:Int),FO l->(∀ y∈l,lo<=y/\y<hi)->(l.length:Int)<=max 0 (hi-lo)
 |[],lo,hi,_,_=>by simp;omega
 |x::r,lo,hi,h,hm=>by
  have h1:=hm x (dG ..);have h2:=Nc r (x+1) hi h.2 λy I=>⟨by have:=h.1 y I;omega,(hm y (cO _ I)).2⟩
  rw[bV];omega
variable {F:Int->Prop}
theorem TL.len {E:Nat} {l:List Int} (h:TL F E l):l.length<=E:=by
 have:=Nc l 0 E h.a h.m;omega
theorem TL.nil (E:Nat):TL F E []:=⟨trivial,λy I=>(by cases I),λy I=>(by cases I)⟩
theorem TL.uni {E:Nat} {a b:List Int} (J:TL F E a) (hb:TL F E b):TL F E (vL a b):=
 ⟨Nz a b,λy I=>by
   rcases Gq.1 I with h|h
   .exact J.m y h
   .exact hb.m y h,λy I=>(Gq.1 I).elim (J.f y) (hb.f y)⟩
theorem TL.mono {E M:Nat} {J:Int->Prop} {l:List Int} (h:TL F E l) (hf:E<=M) (U:∀ y,F y->J y):TL J M l:=⟨h.a,λy I=>⟨(h.m y I).1,by have:=(h.m y I).2;omega⟩,λy I=>U y (h.f y I)⟩
structure TH (F:Int->Prop) (E:Nat) (s:TT):Prop where
 r:s.2.1.length<=32
 t:s.2.2.1.length<=32
 l:∀ l∈s.2.2.1,TL F E l
 e0:0<=s.2.2.2
 e1:s.2.2.2<=(E:Int)
theorem TH.zero (E:Nat):TH F E (0,[],[],0):=⟨by simp,by simp,λl hl=>(by cases hl),by simp,by simp⟩
theorem TH.mono {E J:Nat} {I:Int->Prop} {s:TT} (h:TH F E s) (hf:E<=J) (M:∀ y,F y->I y):TH I J s:=⟨h.r,h.t,λl hl=>(h.l l hl).mono hf M,h.e0,by have:=h.e1;omega⟩
theorem cW (s:TT) (E:Nat) (Y:E<=100000) (h:TH F E s):ca s=aa ((s.1,s.2.2.2),s.2.1,s.2.2.1):=by
 obtain⟨h1,h2,U,h4,Z⟩:=h;refine cE ?_;unfold ca aU bk bt bI cQ bu bD bF aW cK aD cz;refine bf (by simp;omega) (by omega) ?_;refine cf s.2.2.1.length (λi x=>x.1=(i:Int)/\x.2.1=s/\x.2.2.2.1=(s.1,s.2.2.2)/\x.2.2.2.2.1=s.2.1/\x.2.2.2.2.2=s.2.2.1.take i) ?_ ?_ ⟨rfl,rfl,rfl,rfl,rfl⟩
 .rintro i ⟨a,b,c,d,e,f⟩ hi ⟨e1,e2,e3,J,I⟩;dsimp only at e1 e2 e3 J I;subst e1;subst e2;subst I;refine dl ?_;refine cw (aR ?_);have M:=(U _ (bH (T:=.sl (.int .i64)) (xs:=b.2.2.1) (j:=(i:Int)) (by omega) (by omega))).len;refine bf (by simp only[jE,bJ];exact c7 M (by omega)) (by omega) ?_;refine bf (by simp;omega) (by omega) (al ?_);dsimp only;refine ⟨gK (by omega),rfl,e3,J,?_⟩;rw[nB (T:=.sl (.int .i64)) hi];rfl
 .rintro⟨a,b,c,d,e,f⟩ ⟨e1,e2,e3,J,I⟩;dsimp only at e1 e2 e3 J I;subst e1;subst e2;subst I;refine dc (al ?_);show (d,e,_)=_;rw[e3,J,cL]
theorem uK (b:Bool):Ok (fG b) λ_=>True:=by
 unfold fG;with_reducible repeat' first|(refine OS.ok ?_;constructor)|refine IM.mk λ_=>?_
 all_goals trivial
theorem Ec (n:Int):Ok (lI n) λ_=>True:=by
 unfold lI bu aD;with_reducible repeat' first|(refine OS.ok ?_;constructor)|refine IM.mk λ_=>?_
 all_goals trivial
theorem Y4 (x:Int×Int):Ok (sU x) λ_=>True:=by
 unfold sU bc;refine aI (λ_=>al trivial) λ_=>aI (λ_=>?_) λ_=>al trivial
 exact aw (uK _) λ_ _=>al trivial
theorem Xa (x:Int×Int×Int):Ok (re x) λ_=>True:=by
 unfold re bc iO bD aD;have t1:∀ b,Ok (obind (fG b) λy=>aa (y,ah)) λ_=>True:=λb=>aw (uK _) λ_ _=>al trivial
 refine aI (λ_=>al trivial) λ_=>aI (λ_=>al trivial) λ_=>aI (λ_=>al trivial) λ_=>?_
 refine aI (λ_=>aI (λ_=>al trivial) λh=>xw h (al trivial)) λ_=>?_
 refine aI (λ_=>aI (λ_=>al trivial) λh=>xw h (al trivial)) λ_=>?_
 refine aI (λ_=>t1 _) λ_=>aI (λ_=>t1 _) λ_=>aI (λ_=>t1 _) λ_=>aI (λ_=>t1 _) λ_=>aI (λ_=>t1 _) λ_=>aI (λ_=>t1 _) λ_=>?_
 refine aI (λ_=>aX (λ_=>True) (bZ (λ_=>aw (uK _) λ_ _=>al trivial) λ_=>aw (uK _) λ_ _=>al trivial) λ_ _=>al trivial) λ_=>?_
 exact aI (λ_=>aX (λ_=>True) (bZ (λ_=>aw (uK _) λ_ _=>al trivial) λ_=>aw (uK _) λ_ _=>al trivial) λ_ _=>al trivial) λ_=>al trivial
theorem U' (E:Nat) (hE:E<=100000) (i:IT) (p:Int×Int) (R:List Int) (T:List (List Int)) (hr:∀ j∈iw i,0<=j/\j<(R.length:Int)) (o1:1<=i.1) (o2:i.1<=5) (hR:R.length<=32) (I:T.length=R.length) (hl:∀ l∈T,TL F E l):Ok (uS ((i,p),R,T)) λy=>y.1.1.2=p.2/\y.2.1.length=R.length/\y.2.2.length=T.length/\∀ l∈y.2.2,TL F E l:=by
 unfold uS aU bk bt ck bc bu bD bF kK aW cK aD cz;refine aT (sq i) ?_;have h3:=Br i;refine cf (iw i).length (λj x=>x.1=(j:Int)/\x.2.1=R/\x.2.2.1=T/\x.2.2.2.1=i/\x.2.2.2.2.1=p) ?_ ?_ ⟨rfl,rfl,rfl,rfl,rfl⟩
 .rintro j ⟨a,b,c,d,e⟩ hj ⟨e1,e2,e3,Z,M⟩;dsimp only at e1 e2 e3 Z M;subst e1;subst e2;subst e3;subst Z;refine dl ?_;have hz:=hr _ (bH (T:=.int .i64) (xs:=iw d) (j:=(j:Int)) (by omega) (by omega));refine aX (λx=>x.2=(b,c,d,e)/\x.1=ai) ?_ ?_
  .refine cw (aR ?_);refine bA (λg=>?_) λ_=>?_
   .dsimp only at g;omega
   refine cw (aR (al ⟨rfl,?_⟩));dsimp only;rw[kC];exact hz.2
  rintro⟨b',x⟩ ⟨Y,U⟩;dsimp only at Y U;subst Y;subst U;refine aO (λh=>(by cases h)) λ_=>al ?_
  dsimp only;exact⟨gK (by omega),rfl,rfl,rfl,M⟩
 .rintro⟨a,b,c,d,e⟩ ⟨e1,e2,e3,Z,M⟩;dsimp only at e1 e2 e3 Z M;subst e1;subst e2;subst e3;subst Z;refine dc ?_;obtain⟨e,e'⟩:=e;dsimp only at M;subst M;refine aw (P:=λy=>y.1.1.2=e.2/\y.2.1.length=b.length/\y.2.2.length=c.length/\∀ l∈y.2.2,TL F E l) ?_ λr hr=>al hr
  have hA:d.1≠5->0<=d.2.1/\d.2.1<(b.length:Int):=λh5=>hr _ (by
   unfold iw;(repeat' split)<;>simp<;>omega)
  have hB:2<=d.1->d.1≠5->0<=d.2.2.1/\d.2.2.1<(b.length:Int):=λh2 h5=>hr _ (by
   unfold iw;(repeat' split)<;>simp<;>omega)
  have hC:d.1=4->0<=d.2.2.2.1/\d.2.2.2.1<(b.length:Int):=λh5=>hr _ (by
   unfold iw;(repeat' split)<;>simp<;>omega)
  have hg:∀ {j:Int},0<=j->j<(b.length:Int)->TL F E (aH (T:=.sl (.int .i64)) c j):=λh0 h1=>hl _ (bH (T:=.sl (.int .i64)) (xs:=c) h0 (by rw[I];exact h1))
  refine aX (λx=>x.2.1=b/\x.2.2.1=c/\x.2.2.2.1=d/\x.2.2.2.2.1=e/\TL F E x.1.2.2/\d.1≠5) ?_ ?_
  .refine aI (λ_=>al ⟨rfl,rfl,rfl,hl⟩) λJ=>?_
   refine aI (λ_=>al ⟨rfl,rfl,rfl,rfl,TL.nil E,J⟩) λn1=>?_
   dsimp only at n1 J;obtain⟨b0,b1⟩:=hB (by omega) J;refine aI (λ_=>?_) λn2=>?_
   .refine aQ b0 b1 (aQ b0 b1 (aR ?_));refine aQ b0 (by dsimp only;rw[I];exact b1) (aQ b0 (by dsimp only;rw[I];exact b1) (aR ?_));exact al ⟨rfl,rfl,rfl,rfl,hg b0 b1,J⟩
   refine aI (λ_=>?_) λn3=>?_
   .refine aw (Ec _) λy _=>?_
    refine aQ b0 b1 (aQ b0 b1 (aR ?_));refine aw (Y4 _) λy _=>?_
    refine aQ b0 (by dsimp only;rw[I];exact b1) (aQ b0 (by dsimp only;rw[I];exact b1) (aR ?_));exact al ⟨rfl,rfl,rfl,rfl,hg b0 b1,J⟩
   dsimp only at n2 n3;obtain⟨c0,c1⟩:=hC (by omega);refine aw (Ec _) λy _=>?_
   refine aQ b0 b1 (aQ b0 b1 (aR ?_));refine aQ c0 c1 (aQ c0 c1 (aR ?_));refine aw (Xa _) λy _=>?_
   refine aQ b0 (by dsimp only;rw[I];exact b1) (aQ b0 (by dsimp only;rw[I];exact b1) (aR ?_));refine aQ c0 (by dsimp only;rw[I];exact c1) (aQ c0 (by dsimp only;rw[I];exact c1) (aR ?_));have g1:=hg b0 b1;have g2:=hg c0 c1;refine aT (Qw _ _ (c7 g1.len (by omega)) (c7 g2.len (by omega))) ?_;exact al ⟨rfl,rfl,rfl,rfl,g1.uni g2,J⟩
  rintro⟨⟨v,ok,tn⟩,b',c',d',e',e''⟩ ⟨Y,U,f3,f4,f5,f6⟩;dsimp only at Y U f3 f4 f5 f6;subst Y;subst U;subst f3;subst f4;obtain⟨a0,a1⟩:=hA f6;have ht:=f5.len;refine bf (by simp;omega) (by omega) ?_;refine aQ a0 a1 (aQ a0 a1 (aQ a0 (by dsimp only;rw[I];exact a1) (aQ a0 (by dsimp only;rw[I];exact a1) (al ?_))));refine ⟨rfl,bU ..,bU ..,λl hm=>?_⟩;rcases Bk hm with h|h
  .exact hl l h
  .rw[h];exact f5
theorem WC (E:Nat) (Z:E<=100000) (c:Int×List IT) (hc:c.2.length<=1000000) (hv:VT c) (s:TT) (h:TH F E s):Ok (mD (c,s)) λy=>TH F E y.1/\(y.1.2.1.length=0\/y.1.2.2.2=s.2.2.2):=by
 unfold mD aU bk bt bI dh cQ bc bu jg iO bD bF aW cK aD cz;have J:=h;obtain⟨h1,h2,h3,h4,h5⟩:=h;refine aX (λx=>x.2.1=c/\x.2.2.1=s/\(x.1=ai->(s.2.1.length:Int)=c.1/\(s.2.2.1.length:Int)=c.1)) ?_ ?_
 .refine bZ (λ_=>al ⟨rfl,rfl,λh=>(by cases h)⟩) λg=>al ⟨rfl,rfl,λh=>?_⟩
  simp at h;exact⟨g,h⟩
 rintro⟨b,c',s',z⟩ ⟨e1,e2,e3⟩;dsimp only at e1 e2 e3;subst e1;subst e2;refine aO (λ_=>al ⟨TH.zero E,.inl rfl⟩) λhb=>?_
 obtain⟨q1,q2⟩:=e3 hb;refine aT (cW s' E Z J) ?_;refine pl (λx=>((c'.2.length:Int)+1-x.1).toNat) (λx=>0<=x.1/\x.1<=(c'.2.length:Int)+1/\x.2.1=c'/\x.2.2.1.2=s'.2.2.2/\x.2.2.2.2.1.length=s'.2.1.length/\x.2.2.2.2.2.length=s'.2.2.1.length/\∀ l∈x.2.2.2.2.2,TL F E l) ?_ ⟨by dsimp only;omega,by dsimp only;omega,rfl,rfl,rfl,rfl,h3⟩;rintro⟨(n:Int),c,⟨(I:Int),ev⟩,z',R,T⟩ ⟨n0,n1,e1,e2,e3,e4,M⟩;dsimp only at n0 n1 e1 e2 e3 e4 M;subst e1;subst e2;refine e_ (λg=>?_) λ_=>al ⟨TH.zero E,.inl rfl⟩
 dsimp only[ar] at g;refine aX (λx=>x.2=(c,(I,s'.2.2.2),z',R,T)/\(x.1=ai->0<=I/\I<(c.2.length:Int))) ?_ ?_
 .refine bA (λ_=>al ⟨rfl,λh=>(by cases h)⟩) λg1=>al ⟨rfl,λh=>?_⟩
  dsimp only at g1 h;rw[kC] at h;exact⟨g1,h⟩
 rintro⟨b',x⟩ ⟨f1,f2⟩;dsimp only at f1 f2;subst f1;refine aO (λ_=>al ⟨TH.zero E,.inl rfl⟩) λhb=>?_
 obtain⟨p0,p1⟩:=f2 hb;refine aQ p0 p1 (aR ?_);have hi:=hv.i _ (bH (T:=Aa) (xs:=c.2) (j:=I) p0 p1);revert hi;generalize (aH (T:=Aa) _ _)=i;intro hi;refine aT (DY _) ?_;refine bZ (λ_=>al ⟨⟨by dsimp only;omega,by dsimp only;omega,M,h4,h5⟩,.inr rfl⟩) λhsil=>?_
 refine aI (λ_=>al ⟨TH.zero E,.inl rfl⟩) λhn=>?_
 dsimp only[ar] at hn;refine aw (U' E Z i (I,s'.2.2.2) R T (λj hj=>by have:=hi.r j hj;omega) hsil.1 hsil.2 (by omega) (by omega) M) λy hy=>?_
 obtain⟨⟨⟨pc',ev'⟩,ok⟩,R',T'⟩:=y;obtain⟨k1,k2,Y,U⟩:=hy;dsimp only at k1 k2 Y U;refine db (kS Y.symm (db (kS k2.symm (zo ?_))));refine dW (λ_=>al ⟨TH.zero E,.inl rfl⟩) λ_=>al ?_
 dsimp only;rw[ie (by omega) (by omega)];exact⟨⟨by omega,by omega,rfl,k1,by omega,by omega,U⟩,by omega⟩
abbrev ST:Type:=SY×List Int×List Int×List TT
structure TF (c:Int×List IT) (t:TT):Prop where
 p0:0<=t.1
 p1:t.1<(c.2.length:Int)
 r:(t.2.1.length:Int)=c.1
 t:(t.2.2.1.length:Int)=c.1
structure FSx (c:CT) (s:ST):Prop where
 vc:VC c
 cd:∀ d∈c.1.2.2.1,0<=d.2/\d.2<(c.1.2.1.length:Int)
 e3:s.1.2.2.2.length=c.1.2.2.2.2.1.length
 ce:s.2.1.length=c.1.1.length
 fu:s.2.2.1.length=c.1.2.2.2.1.length
 th:s.2.2.2.length=c.2.length
 t:∀ k:Nat,k<c.2.length->TF (aH (T:=uI) c.2 (k:Int)) (aH (T:=tF) s.2.2.2 (k:Int))
def FQ (L:List ET) (k:Int) (y:Int):Prop:=1<=y/\Jl L k y
structure SV (n:Nat) (L:List ET) (s:ST):Prop where
 sb:SB n s.1
 ln:L.length=n
 t:∀ k:Nat,k<s.2.2.2.length->TH (FQ L k) n (aH (T:=tF) s.2.2.2 (k:Int))
theorem SV.ti {n:Nat} {L:List ET} {s:ST} (h:SV n L s) {k:Int} (h0:0<=k) (h1:k<(s.2.2.2.length:Int)):TH (FQ L k) n (aH (T:=tF) s.2.2.2 k):=by
 have:=h.t k.toNat (by omega);rw[show ((k.toNat:Nat):Int)=k by omega] at this;exact this
structure TG (c:CT) (L:List ET) (sy:SY) (k:Int) (t:TT):Prop where
 ev:t.2.2.2=((fl L k).length:Int)
 wi:(aH (T:=jB) sy.2.2.2 k).1=3\/(aH (T:=jB) sy.2.2.2 k).1=4->(aH (T:=Aa) (aH (T:=uI) c.2 k).2 t.1).1=21
 nw:(fl L k).length=0->(aH (T:=jB) sy.2.2.2 k).1=0\/(aH (T:=jB) sy.2.2.2 k).1=1
structure Jw (c:CT) (L:List ET) (s:ST):Prop where
 ac:ZD c.1 L s.1 s.2.1 s.2.2.1
 t:∀ k:Nat,k<s.2.2.2.length->(aH (T:=tF) s.2.2.2 (k:Int)).2.1.length=0\/TG c L s.1 (k:Int) (aH (T:=tF) s.2.2.2 (k:Int))
theorem aac (c:CT) (s:ST) (hc:CB c):Ok (uR (c,s)) λb=>b=ah->FSx c s:=by
 unfold uR aU bk dh cQ bu jg iO bF aW cK aD cz;refine aX (λx=>x.2=(c,s)/\(x.1=ai->VC c/\(∀ d∈c.1.2.2.1,0<=d.2/\d.2<(c.1.2.1.length:Int))/\s.1.2.2.2.length=c.1.2.2.2.2.1.length/\s.2.1.length=c.1.1.length/\s.2.2.1.length=c.1.2.2.2.1.length/\s.2.2.2.length=c.2.length)) ?_ ?_
 .refine aw (Qv c hc.th hc.ins) λb hb=>?_
  refine dW (λ_=>al ⟨rfl,λh=>(by cases h)⟩) λh=>?_
  have hv:=hb h;refine aw (Nq c.1 s.1 (by have:=hv.vl.d;omega)) λb2 I=>?_
  refine dW (λ_=>al ⟨rfl,λh=>(by cases h)⟩) λh2=>?_
  obtain⟨J,_,_,Z⟩:=I h2;refine bZ (λ_=>al ⟨rfl,λh=>(by cases h)⟩) λk1=>?_
  refine bZ (λ_=>al ⟨rfl,λh=>(by cases h)⟩) λk2=>al ⟨rfl,λU=>⟨hv,J,Z,?_,?_,?_⟩⟩
  .dsimp only[ar] at k1;omega
  .dsimp only[ar] at k2;omega
  .simp at U;omega
 rintro⟨b,x⟩ ⟨e,hb⟩;dsimp only at e hb;subst e;refine aO (λ_=>al λh=>(by cases h)) λh=>?_
 obtain⟨hv,hcd,Y,hce,hfu,hth⟩:=hb h;have hcl:=hc.th;refine cf c.2.length (λi x=>x.1=(i:Int)/\x.2=(c,s)/\∀ k:Nat,k<i->TF (aH (T:=uI) c.2 (k:Int)) (aH (T:=tF) s.2.2.2 (k:Int))) ?_ ?_ ⟨rfl,rfl,λk hk=>by omega⟩
 .rintro i ⟨a,x⟩ hi ⟨e1,e2,e3⟩;dsimp only at e1 e2 e3;subst e1;subst e2;refine dl ?_;have hin:((i:Nat):Int)<(c.2.length:Int):=by omega
  refine cw (aR ?_);refine aX (λx=>x.2=(c,s)/\(x.1=ai->TF (aH (T:=uI) c.2 (i:Int)) (aH (T:=tF) s.2.2.2 (i:Int)))) ?_ ?_
  .refine bA (λ_=>al ⟨rfl,λh=>(by cases h)⟩) λg0=>?_
   refine aQ (by dsimp only;omega) hin (aR ?_);refine e_ (λ_=>al ⟨rfl,λh=>(by cases h)⟩) λJ=>?_
   refine aQ (by dsimp only;omega) hin (aR ?_);refine bZ (λ_=>al ⟨rfl,λh=>(by cases h)⟩) λg2=>?_
   refine aQ (by dsimp only;omega) hin (aR (al ⟨rfl,λM=>⟨g0,J,g2,?_⟩⟩));simp at M;exact M
  rintro⟨b,x⟩ ⟨e,hb⟩;dsimp only at e hb;subst e;refine aO (λ_=>al λh=>(by cases h)) λh=>al ?_
  dsimp only;refine ⟨gK (by omega),rfl,λk hk=>?_⟩;rcases bW k i with h1|h1
  .exact e3 k h1
  .rw[show k=i by omega];exact hb h
 .rintro⟨a,x⟩ ⟨e1,e2,e3⟩;dsimp only at e1 e2 e3;subst e1;subst e2;refine dc (al λ_=>⟨hv,hcd,Y,hce,hfu,hth,e3⟩)
theorem ac8 {i:IT} (h:i.1=6\/i.1=7\/i.1=27\/i.1=10):i.2.1∈iw i:=by
 unfold iw;(repeat' split)<;>simp<;>omega
theorem ac7 {i:IT} (h:i.1=8\/i.1=9\/i.1=26):i.2.2.1∈iw i:=by
 unfold iw;(repeat' split)<;>simp<;>omega
theorem agb {i:IT} (h:i.1=7\/i.1=9):i.2.2.2.1∈iw i:=by
 unfold iw;(repeat' split)<;>simp<;>omega
structure KD (op k:Int):Prop where
 ld:k=3->op=6\/op=7
 st:k=4->op=8\/op=9
 br:k=5->op=10
 se:k=22->op=26
 ge:k=23->op=27
 e1:k=2->op=28
 n1:¬k=1
 n17:¬k=17
 wt:k=16->op=21
 e2:¬k=0->op=28->k=2
 d7:¬k=0->op=7->k=3
 d8:¬k=0->op=8->k=4
 d9:¬k=0->op=9->k=4
 d10:¬k=0->op=10->k=5
 d26:¬k=0->op=26->k=22
theorem Z4 (op:Int):Ok (uP op) λk=>KD op k:=by
 unfold uP bu kK aD;refine aX (λx=>x.2=[3,3,4,4,5,6,7,8,9,10,11,12,13,14,15,16,18,19,20,21,22,23,2]/\(x.1=ai->6<=op/\op<=28)) ?_ ?_
 .refine bA (λ_=>al ⟨rfl,λh=>(by cases h)⟩) λg=>al ⟨rfl,λh=>?_⟩
  dsimp only at h;rw[fP] at h;exact⟨g,h⟩
 rintro⟨b,x⟩ ⟨e,hb⟩;dsimp only at e hb;subst e;refine aO (λ_=>al (by constructor<;>first|decide|(intro h;first|(exact (h rfl).elim)|(cases h;done)))) λh=>?_
 obtain⟨h1,h2⟩:=hb h;dsimp only;rw[ie (n:=op-6) (by omega) (by omega)];refine aQ (by omega) (by simp;omega) (aQ (by omega) (by simp;omega) (aR (al ?_)));have:op=6\/op=7\/op=8\/op=9\/op=10\/op=11\/op=12\/op=13\/op=14\/op=15\/op=16\/op=17\/op=18\/op=19\/op=20\/op=21\/op=22\/op=23\/op=24\/op=25\/op=26\/op=27\/op=28:=by omega
 rcases this with rfl|rfl|rfl|rfl|rfl|rfl|rfl|rfl|rfl|rfl|rfl|rfl|rfl|rfl|rfl|rfl|rfl|rfl|rfl|rfl|rfl|rfl|rfl;all_goals (constructor<;>decide)
theorem QK (a n:Int):Ok (qo (a,n)) λr=>n=2->r=0\/r=1:=by
 unfold qo bu bD aD;refine bA (λ_=>al λh=>(by dsimp only at *;omega)) λh=>?_
 dsimp only at h;refine xw (by dsimp only;omega) ?_;have t1:=Int.tmod_lt_of_pos a (b:=n) (by omega);have I:=Int.lt_tmod_of_pos a (b:=n) (by omega);refine aX (λr=>n=2->r=0\/r=1) (bA (λg=>al λh2=>?_) λg=>al λh2=>?_) λ_ h=>al h
 .dsimp only at g ⊢;rw[ie (by omega) (by omega)];omega
 .dsimp only at g ⊢;omega
theorem Ob (i:IT) (t:TT) (hr:∀ j∈iw i,0<=j/\j<(t.2.1.length:Int)):Ok (rc (i,t)) λo=>(i.1=7->i.2.2.1=3->i.2.2.2.2.1=2->o=3\/o=4)/\(i.1=9->i.2.1=3->i.2.2.2.2.1=2->o=3\/o=4):=by
 unfold rc aU bk bt bc bF aD;have J:i.1=7\/i.1=9->0<=i.2.2.2.1/\i.2.2.2.1<(t.2.1.length:Int):=λh=>hr _ (by
  unfold iw;(repeat' split)<;>simp<;>omega)
 have M:∀ {o:Int},¬i.1=7->¬i.1=9->(i.1=7->i.2.2.1=3->i.2.2.2.2.1=2->o=3\/o=4)/\(i.1=9->i.2.1=3->i.2.2.2.2.1=2->o=3\/o=4):=λh1 h2=>⟨λh=>(h1 h).elim,λh=>(h2 h).elim⟩
 have wk:∀ {b r n:Int},b=3->n=2->(n=2->r=0\/r=1)->bg .i64 (b+r)=3\/bg .i64 (b+r)=4:=λh1 h2 I=>by
  have:=I h2;rw[ie (by omega) (by omega)];omega
 refine aX (λx=>x.2=(i,t)/\(x.1=ah->i.1=6\/i.1=27)) (aI (λh=>al ⟨rfl,λ_=>.inl h⟩) λ_=>al ⟨rfl,λh=>.inr (bm h)⟩) ?_;rintro⟨b,x⟩ ⟨e,hb⟩;dsimp only at e hb;subst e;refine aO (λh=>al (M (by have:=hb h;omega) (by have:=hb h;omega))) λ_=>?_
 refine aI (λh=>?_) λU=>?_
 .exact aQ (J (.inl h)).1 (J (.inl h)).2 (aR (aw (QK _ _) λy Y=>al ⟨λ_ I Z=>wk I Z Y,λh9=>by dsimp only at h;omega⟩))
 refine aI (λh=>?_) λn9=>?_
 .exact aQ (J (.inr h)).1 (J (.inr h)).2 (aR (aw (QK _ _) λy Y=>al ⟨λh7=>(U h7).elim,λ_ I Z=>wk I Z Y⟩))
 refine aX (λ_=>True) ?_ λx _=>aO (λ_=>al (M U n9)) λ_=>al (M U n9)
 with_reducible repeat' first|(refine OS.ok ?_;constructor)|refine IM.mk λ_=>?_
 all_goals trivial
theorem acn {w:WT} (I:w.1=C0) {b n:Int} (h:AR w b n):b=3/\n=2:=by
 obtain⟨b0,b1,ix,sz,sn⟩:=h;rw[I] at b1 ix sz sn;have b1:b<5:=b1;rcases (by omega:b=0\/b=1\/b=2\/b=3\/b=4) with rfl|rfl|rfl|rfl|rfl
 .exact (sz rfl).elim
 .exact (sz rfl).elim
 .exact (sz rfl).elim
 .exact⟨rfl,sn.symm⟩
 .exact cX ix (by decide)
theorem ac1 {w:WT} (I:w.1=C0) {o:Int} (h:o=3\/o=4):¬(aH (T:=NA) w.1 o).2.2.1=0:=by
 rw[I];rcases h with rfl|rfl<;>decide
structure PE (n:Nat) (c:CT) (s:ST) (t:Int) (e:ET):Prop where
 fs:FSx c s
 t0:0<=t
 t1:t<(c.2.length:Int)
 et:e.1=t
 d:e.2.2.2.2.2.1.length<=n
 f:e.2.2.2.2.2.2.length<=n
 a:e.2.1=3\/e.2.1=23\/e.2.1=5->0<=(aH (T:=Aa) (aH (T:=uI) c.2 t).2 (aH (T:=tF) s.2.2.2 t).1).2.1/\(aH (T:=Aa) (aH (T:=uI) c.2 t).2 (aH (T:=tF) s.2.2.2 t).1).2.1<((aH (T:=tF) s.2.2.2 t).2.1.length:Int)
 b:e.2.1=4\/e.2.1=22->0<=(aH (T:=Aa) (aH (T:=uI) c.2 t).2 (aH (T:=tF) s.2.2.2 t).1).2.2.1/\(aH (T:=Aa) (aH (T:=uI) c.2 t).2 (aH (T:=tF) s.2.2.2 t).1).2.2.1<((aH (T:=tF) s.2.2.2 t).2.1.length:Int)
structure PS (c:CT) (L:List ET) (s:ST) (t:Int) (e:ET):Prop where
 tg:TG c L s.1 t (aH (T:=tF) s.2.2.2 t)
 s1:e.2.1=1\/e.2.1=2->e.2.2.2.2.1= -1
 s2:¬(e.2.1=1\/e.2.1=2)->0<=e.2.2.2.2.1/\e.2.2.2.2.1<c.1.2.2.2.2.2.length/\(aH (T:=wJ) c.1.2.2.2.2.2 e.2.2.2.2.1).1=t
 de:0<e.2.2.2.2.2.1.length->e.2.1=5\/(e.2.1=3\/e.2.1=4)/\¬(aH (T:=NA) c.1.1 e.2.2.1).2.2.1=0
 fr:0<e.2.2.2.2.2.2.length->e.2.1=4\/e.2.1=22
 da:FO e.2.2.2.2.2.1
 dq:∀ y∈e.2.2.2.2.2.1,FQ L t y
 fa:FO e.2.2.2.2.2.2
 fq:∀ y∈e.2.2.2.2.2.2,FQ L t y
 wt:e.2.1=16->(aH (T:=Aa) (aH (T:=uI) c.2 t).2 (aH (T:=tF) s.2.2.2 t).1).1=21
theorem Tz (n:Nat) (hn:n<=100000) (c:CT) (L:List ET) (s:ST) (hc:CB c) (hs:SV n L s) (hI:Jw c L s) (t:Int):Ok (mY (c,s,t)) λy=>y.2=ah->PE n c s t y.1/\PS c L s t y.1:=by
 unfold mY aU bk bt bI dh cQ bc bu bD bF aW aD;refine aX (λx=>x.2.1=c/\x.2.2.1=s/\(x.1=ai->FSx c s/\0<=t/\t<(c.2.length:Int))) ?_ ?_
 .refine aw (aac c s hc) λb hb=>?_
  refine dW (λ_=>al ⟨rfl,rfl,λh=>(by cases h)⟩) λh=>?_
  refine bA (λ_=>al ⟨rfl,rfl,λh=>(by cases h)⟩) λg0=>al ⟨rfl,rfl,λg1=>?_⟩
  dsimp only at g0 g1;rw[kC] at g1;exact⟨hb h,g0,g1⟩
 rintro⟨b,c',s',z⟩ ⟨e1,e2,hb⟩;dsimp only at e1 e2 hb;subst e1;subst e2;refine aO (λ_=>al λh=>(by cases h)) λh=>?_
 obtain⟨hf,t0,t1⟩:=hb h;have hk:((t.toNat:Nat):Int)=t:=by omega
 have htf:=hf.t t.toNat (by omega);rw[hk] at htf;have hvt:=hf.vc.t _ (bH (T:=uI) (xs:=c'.2) (j:=t) t0 t1);have hth:=hs.ti t0 (by rw[hf.th];exact t1);have key:∀ e:ET,e.1=t->e.2.2.2.2.2.1.length<=n->e.2.2.2.2.2.2.length<=n->(e.2.1=1\/e.2.1=17\/KD (aH (T:=Aa) (aH (T:=uI) c'.2 t).2 (aH (T:=tF) s'.2.2.2 t).1).1 e.2.1)->PE n c' s' t e:=by
  intro e h1 h2 h3 J;have hi:=hvt.i _ (bH (T:=Aa) (xs:=(aH (T:=uI) c'.2 t).2) (j:=(aH (T:=tF) s'.2.2.2 t).1) htf.p0 htf.p1);refine ⟨hf,t0,t1,h1,h2,h3,λh5=>?_,λh5=>?_⟩
  .rw[htf.r];rcases J with J|J|J
   .omega
   .omega
   .refine hi.r _ ?_;have a1:=J.ld;have a2:=J.ge;have a3:=J.br;revert a1 a2 a3 h5;generalize (aH (T:=Aa) (aH (T:=uI) c'.2 t).2 (aH (T:=tF) s'.2.2.2 t).1)=i;intro h5 a1 a2 a3;exact ac8 (by omega)
  .rw[htf.r];rcases J with J|J|J
   .omega
   .omega
   .refine hi.r _ ?_;have a1:=J.st;have a2:=J.se;revert a1 a2 h5;generalize (aH (T:=Aa) (aH (T:=uI) c'.2 t).2 (aH (T:=tF) s'.2.2.2 t).1)=i;intro h5 a1 a2;exact ac7 (by omega)
 have hir:=(hvt.i _ (bH (T:=Aa) (xs:=(aH (T:=uI) c'.2 t).2) (j:=(aH (T:=tF) s'.2.2.2 t).1) htf.p0 htf.p1)).r;rw[<- htf.r] at hir;have hrg:=hc.rg _ (bH (T:=uI) (xs:=c'.2) (j:=t) t0 t1);have htg:TG c' L s'.1 t (aH (T:=tF) s'.2.2.2 t):=by
  have:=hI.t t.toNat (by rw[hf.th];omega);rw[hk] at this;refine this.resolve_left λh=>?_
  have:=htf.r;omega
 have hvj:=hf.vc.j t.toNat (by omega);rw[hk] at hvj;have hvj:=hvj _ (bH (T:=Aa) (xs:=(aH (T:=uI) c'.2 t).2) (j:=(aH (T:=tF) s'.2.2.2 t).1) htf.p0 htf.p1);have hC0:=hc.wx.c;refine aQ t0 (by dsimp only;rw[hf.th];exact t1) (aR ?_);refine aQ t0 t1 (aR ?_);refine aQ htf.p0 htf.p1 (aR ?_);have t4:t<(s'.1.2.2.2.length:Int):=by rw[hf.e3,<-hf.vc.tl];exact t1
 have tz:(aH (T:=tF) s'.2.2.2 t).2.2.1.length=(aH (T:=tF) s'.2.2.2 t).2.1.length:=by have:=htf.r;have:=htf.t;omega
 refine aQ t0 t4 (aR ?_);refine aI (λ_=>al λ_=>⟨key _ rfl (kG _) (kG _) (.inl rfl),⟨htg,λ_=>rfl,λh=>(h (.inl rfl)).elim,λh=>(by cases h),λh=>(by cases h),trivial,λy Z=>(by cases Z),trivial,λy Z=>(by cases Z),λh=>(by cases h)⟩⟩) λ_=>?_
 refine aI (λJ=>aQ t0 t4 (aR (al λ_=>⟨key _ rfl (kG _) (kG _) (.inr (.inl rfl)),⟨htg,λh=>(by rcases h with h|h<;>cases h),λ_=>hvj.si (by rw[htg.wi (.inr J)];decide),λh=>(by cases h),λh=>(by cases h),trivial,λy Z=>(by cases Z),trivial,λy Z=>(by cases Z),λh=>(by cases h)⟩⟩))) λ_=>?_
 refine aI (λ_=>?_) λ_=>al λh=>(by cases h)
 refine aw (Z4 _) λk I=>?_
 refine aw (Ob _ _ hir) λo ho=>?_
 refine aI (λ_=>al λh=>(by cases h)) λM=>?_
 have fin:∀ e:ET,e.1=t->e.2.1=k->e.2.2.1=o->e.2.2.2.2.1=(aH (T:=Aa) (aH (T:=uI) c'.2 t).2 (aH (T:=tF) s'.2.2.2 t).1).2.2.2.2.2->(0<e.2.2.2.2.2.1.length->(aH (T:=Aa) (aH (T:=uI) c'.2 t).2 (aH (T:=tF) s'.2.2.2 t).1).1=10\/(aH (T:=Aa) (aH (T:=uI) c'.2 t).2 (aH (T:=tF) s'.2.2.2 t).1).1=7\/(aH (T:=Aa) (aH (T:=uI) c'.2 t).2 (aH (T:=tF) s'.2.2.2 t).1).1=9)->(0<e.2.2.2.2.2.2.length->(aH (T:=Aa) (aH (T:=uI) c'.2 t).2 (aH (T:=tF) s'.2.2.2 t).1).1=8\/(aH (T:=Aa) (aH (T:=uI) c'.2 t).2 (aH (T:=tF) s'.2.2.2 t).1).1=9\/(aH (T:=Aa) (aH (T:=uI) c'.2 t).2 (aH (T:=tF) s'.2.2.2 t).1).1=26)->TL (FQ L t) n e.2.2.2.2.2.1->TL (FQ L t) n e.2.2.2.2.2.2->PE n c' s' t e/\PS c' L s' t e:=by
  intro e h1 h2 h3 J h5 h6 h7 h8;refine ⟨key e h1 h7.len h8.len (.inr (.inr (h2▸I))),htg,λh=>?_,λh=>?_,λh=>?_,λh=>?_,h7.a,h7.f,h8.a,h8.f,λh=>I.wt (h2▸h)⟩
  .rw[J];rw[h2] at h;exact hvj.se (I.e1 (h.resolve_left I.n1))
  .rw[J];rw[h2] at h;exact hvj.si λh9=>h (.inr (I.e2 M h9))
  .rw[h2,h3];rcases h5 h with g|g|g
   .exact .inl (I.d10 M g)
   .obtain⟨q1,q2⟩:=acn hC0 (hvj.a7 g);exact .inr ⟨.inl (I.d7 M g),ac1 hC0 (ho.1 g q1 q2)⟩
   .obtain⟨q1,q2⟩:=acn hC0 (hvj.a9 g);exact .inr ⟨.inr (I.d9 M g),ac1 hC0 (ho.2 g q1 q2)⟩
  .rw[h2];rcases h6 h with g|g|g
   .exact .inl (I.d8 M g)
   .exact .inl (I.d9 M g)
   .exact .inr (I.d26 M g)
 clear key htg hvj ho hC0 hrg;revert fin htf hvt hth hir tz I;dsimp only;generalize (aH (T:=tF) s'.2.2.2 t)=th;generalize (aH (T:=Aa) _ th.1)=i;intro htf hvt hth hir tz I fin;have hlen:∀ {j:Int},0<=j->j<(th.2.2.1.length:Int)->TL (FQ L t) n (aH (T:=.sl (.int .i64)) th.2.2.1 j):=λh0 h1=>hth.l _ (bH (T:=.sl (.int .i64)) (xs:=th.2.2.1) h0 h1)
 have hA:i.1=10->0<=i.2.1/\i.2.1<(th.2.2.1.length:Int):=λh=>by
  rw[tz];exact hir _ (ac8 (.inr (.inr (.inr h))))
 have hB:i.1=8\/i.1=9\/i.1=26->0<=i.2.2.1/\i.2.2.1<(th.2.2.1.length:Int):=λh=>by
  rw[tz];exact hir _ (ac7 (h))
 have hC:i.1=7\/i.1=9->0<=i.2.2.2.1/\i.2.2.2.1<(th.2.2.1.length:Int):=λh=>by
  rw[tz];exact hir _ (agb (h))
 refine aX (λx=>x.2.1=th/\x.2.2.1=i/\(x.2.2.2.1.1=t/\x.2.2.2.1.2.1=k/\x.2.2.2.1.2.2.1=o/\x.2.2.2.1.2.2.2.2=i.2.2.2.2.2)/\TL (FQ L t) n x.2.2.2.2/\(0<x.2.2.2.2.length->i.1=10\/i.1=7\/i.1=9)) ?_ ?_
 .refine aI (λh=>?_) λ_=>?_
  .obtain⟨a0,a1⟩:=hA h;refine aQ a0 a1 (aR ?_);have:=hlen a0 a1;exact bf (c7 this.len (by omega)) (by omega) (al ⟨rfl,rfl,⟨rfl,rfl,rfl,rfl⟩,this,λ_=>.inl h⟩)
  refine aX (λx=>x.2.2.1=th/\x.2.2.2.1=i/\(x.2.2.2.2.1=t/\x.2.2.2.2.2.1=k/\x.2.2.2.2.2.2.1=o/\x.2.2.2.2.2.2.2.2=i.2.2.2.2.2)/\(x.1=ah->i.1=7\/i.1=9)) ?_ ?_
  .refine aI (λh=>al ⟨rfl,rfl,⟨rfl,rfl,rfl,rfl⟩,λ_=>.inl h⟩) λ_=>al ⟨rfl,rfl,⟨rfl,rfl,rfl,rfl⟩,λh=>.inr (bm h)⟩
  rintro⟨b,z0,th',Y,t',k',z1⟩ ⟨e1,e2,e3,U⟩;dsimp only at e1 e2 e3 U;subst e1;subst e2;refine aO (λh=>?_) λ_=>al ⟨rfl,rfl,e3,TL.nil n,λh=>(by cases h)⟩
  obtain⟨a0,a1⟩:=hC (U h);refine aQ a0 a1 (aR ?_);have:=hlen a0 a1;exact bf (c7 this.len (by omega)) (by omega) (al ⟨rfl,rfl,e3,this,λ_=>.inr (U h)⟩)
 rintro⟨z0,th',Y,⟨t',k',z1⟩,ds⟩ ⟨e1,e2,e3,hd,hd2⟩;dsimp only at e1 e2 e3 hd hd2;subst e1;subst e2;refine aX (λx=>(x.2.1.1=t/\x.2.1.2.1=k/\x.2.1.2.2.1=o/\x.2.1.2.2.2.2=Y.2.2.2.2.2)/\x.2.2.1=ds/\TL (FQ L t) n x.2.2.2/\(0<x.2.2.2.length->Y.1=8\/Y.1=9\/Y.1=26)) ?_ ?_
 .refine aX (λx=>x.2=(z0,th',Y,(t',k',z1),ds)/\(x.1=ah->Y.1=8\/Y.1=9\/Y.1=26)) ?_ ?_
  .exact aI (λh=>al ⟨rfl,λ_=>.inl h⟩) λ_=>aI (λh=>al ⟨rfl,λ_=>.inr (.inl h)⟩) λ_=>al ⟨rfl,λh=>.inr (.inr (bm h))⟩
  rintro⟨b,x⟩ ⟨e,U⟩;dsimp only at e U;subst e;refine aO (λh=>?_) λ_=>al ⟨e3,rfl,TL.nil n,λh=>(by cases h)⟩
  obtain⟨a0,a1⟩:=hB (U h);refine aQ a0 a1 (aR ?_);have:=hlen a0 a1;exact bf (c7 this.len (by omega)) (by omega) (al ⟨e3,rfl,this,λ_=>U h⟩)
 rintro⟨z2,⟨t2,k2,o2,z3,si⟩,d2,f2⟩ ⟨e1,e2,h1,h2⟩;dsimp only at e1 e2 h1 h2;subst e2;obtain⟨g1,g2,g3,g4⟩:=e1;exact al λ_=>fin _ g1 g2 g3 g4 hd2 h2 hd h1
theorem ad9 {n:Nat} {k:Int} (h0:0<=k) (h1:k<n):(aH (T:=jB) (Xq n) k).1=0\/(aH (T:=jB) (Xq n) k).1=1:=by
 have hm:=bH (T:=jB) (xs:=Xq n) h0 (by rw[LS];exact h1);revert hm;generalize aH (T:=jB) (Xq n) k=z;intro hm;cases n with
 |zero=>cases hm
 |succ n=>
  rcases bh.1 hm with rfl|hm
  .exact .inr rfl
  .rw[vI hm];exact .inl rfl
theorem Tw (c:CT) (hvt:jk c=aa ah) (hv:VC c):Ok (sQ c) λs=>SV 0 [] s/\Jw c [] s:=by
 unfold sQ aU bk bt ct bI dh cQ eU bu vO bD bF aW cK aD cz;refine aT hvt (dW (λh=>(by cases h)) λ_=>?_);obtain⟨vc,vl,vd,Z,_,Y,_⟩:=id hv.vl;have htl:=hv.tl;refine aT (Jd c.1 hv.vl) ?_;refine cf c.1.1.length (λi x=>x.1=(i:Int)/\x.2.1=c/\x.2.2.2.1=Nr c.1/\x.2.2.2.2=(c.1.1.take i).map λc=>c.2.2.2.2) ?_ ?_ ⟨rfl,rfl,rfl,rfl⟩
 .rintro i ⟨a,c',z,U,l⟩ hi ⟨e1,e2,e3,I⟩;dsimp only at e1 e2 e3 I;subst e1;subst e2;subst e3;subst I;refine dl ?_;refine cw (aR (bf (by simp;omega) (by omega) (al ?_)));dsimp only;exact⟨gK (by omega),rfl,rfl,by rw[nB (T:=NA) hi,cI];rfl⟩
 rintro⟨a,c',z,U,l⟩ ⟨e1,e2,e3,I⟩;dsimp only at e1 e2 e3 I;subst e1;subst e2;subst e3;rw[cL] at I;subst I;refine dc ?_;refine aw (P:=λs=>SV 0 [] s/\Jw c' [] s) ?_ λr hr=>al hr
 refine cf c'.1.2.2.2.1.length (λi x=>x.1=(i:Int)/\x.2.1=c'/\x.2.2.2.1=Nr c'.1/\x.2.2.2.2.1=YJ c'.1/\x.2.2.2.2.2=aF i 0) ?_ ?_ ⟨rfl,rfl,rfl,rfl,rfl⟩
 .rintro i ⟨a,c,z,y,l,f⟩ hi ⟨e1,e2,e3,I,J⟩;dsimp only at e1 e2 e3 I J;subst e1;subst e2;subst e3;subst J;refine dl ?_;refine bf (by simp;omega) (by omega) (al ?_);dsimp only;exact⟨gK (by omega),rfl,rfl,I,by rw[CO]⟩
 rintro⟨a,c,z,y,l,f⟩ ⟨e1,e2,e3,I,J⟩;dsimp only at e1 e2 e3 I J;subst e1;subst e2;subst e3;subst I;subst J;refine dc ?_;refine aw (P:=λs=>SV 0 [] s/\Jw c [] s) ?_ λr hr=>al hr
 refine cf c.2.length (λi x=>x.1=(i:Int)/\x.2.1=c/\x.2.2.2.1=Nr c.1/\x.2.2.2.2.1=YJ c.1/\x.2.2.2.2.2.1=Zx c.1/\x.2.2.2.2.2.2.length=i/\∀ t∈x.2.2.2.2.2.2,(∀ F,TH F 0 t)/\t.2.2.2=0) ?_ ?_ ⟨rfl,rfl,rfl,rfl,rfl,rfl,λt ht=>(by cases ht)⟩
 .rintro i ⟨a,c,z,y,l,f,th⟩ hi ⟨e1,e2,e3,I,e4b,J,M⟩;dsimp only at e1 e2 e3 I e4b J M;subst e1;subst e2;subst e3;refine dl ?_;have hin:((i:Nat):Int)<(c.2.length:Int):=by omega
  have hvt:=hv.t _ (bH (T:=uI) (xs:=c.2) (j:=(i:Int)) (by omega) hin);have q0:=hvt.r0;have q1:=hvt.r1;refine aQ (by dsimp only;omega) hin (aR ?_);refine db (db (ey q0 (ey (eP _) (bf (by dsimp only;omega) (by omega) ?_))));refine aQ (by dsimp only;omega) hin (aR ?_);refine db (db (ey q0 (ey (eP _) (bf (by dsimp only;omega) (by omega) ?_))));refine bf (by simp;omega) (by omega) (al ?_);dsimp only;refine ⟨gK (by omega),rfl,rfl,I,e4b,by simp;omega,λt ht=>?_⟩;rcases bR.1 ht with h|h
  .exact M t h
  .rw[aK] at h;subst h;refine ⟨λF=>⟨?_,?_,λl hl=>?_,eP _,eP _⟩,rfl⟩
   .dsimp only;rw[ep];omega
   .dsimp only;rw[ep];omega
   .rw[vI hl];exact TL.nil 0
 .rintro⟨a,c,z,y,l,f,th⟩ ⟨e1,e2,e3,I,e4b,J,M⟩;dsimp only at e1 e2 e3 I e4b J M;subst e1;subst e2;subst e3;subst I;subst e4b;refine dc (al ?_);have hm:∀ k:Nat,k<th.length->_:=λk hk=>M _ (bH (T:=tF) (xs:=th) (j:=(k:Int)) (by omega) (by omega))
  refine ⟨⟨Ri hv.vl,rfl,λk hk=>(hm k hk).1 _⟩,⟨.nil,λk hk=>.inr ?_⟩⟩;dsimp only at hk;have hst:=ad9 (n:=c.1.2.2.2.2.1.length) (k:=(k:Int)) (by omega) (by omega);exact⟨(hm k hk).2,λh=>(by rcases hst with q|q<;>rcases h with h|h<;>exact cX (q.symm.trans h) (by decide)),λ_=>hst⟩
theorem Gt {th:List (Int×Int×Bool)} {t x j:Int} (h0:0<=t) (h1:t<th.length) (hj:0<=j):(aH (T:=jB) (AY th t x) j).1=if j=t then x else (aH (T:=jB) th j).1:=by
 unfold AY;rw[sF (T:=jB) _ _ _ _ h0 h1 hj];split<;>rfl
theorem ach {th:List (Int×Int×Bool)} {t x j:Int} (h0:0<=t) (h1:t<th.length) (hj:0<=j):(aH (T:=jB) (cdP th t x) j).1=(aH (T:=jB) th j).1:=by
 unfold cdP;rw[sF (T:=jB) _ _ _ _ h0 h1 hj];split
 .rename_i h;rw[h]
 .rfl
theorem acm {th:List (Int×Int×Bool)} {t j:Int} {x:Bool} (h0:0<=t) (h1:t<th.length) (hj:0<=j):(aH (T:=jB) (atP th t x) j).1=(aH (T:=jB) th j).1:=by
 unfold atP;rw[sF (T:=jB) _ _ _ _ h0 h1 hj];split
 .rename_i h;rw[h]
 .rfl
theorem aca {j:Int} (hj:0<=j):∀ (l:List Int) (th:List (Int×Int×Bool)),(∀ u:Int,u∈l->0<=u/\u<th.length)->(aH (T:=jB) (Fk th l) j).1=if j∈l then 4 else (aH (T:=jB) th j).1
 |[],th,_=>by simp[Fk]
 |x::r,th,h=>by
  have I:=h x (dG ..);have J:=aca hj r (AY th x 4) λu hu=>by unfold AY;rw[bU];exact h u (cO _ hu)
  have e:Fk th (x::r)=Fk (AY th x 4) r:=rfl;rw[e,J,Gt I.1 I.2 hj];by_cases h1:j∈r
  .rw[aJ h1,aJ (cO _ h1)]
  .rw[aC h1];by_cases h2:j=x
   .rw[aJ h2,aJ (by rw[h2];exact dG ..)]
   .rw[aC h2,aC λh=>(bh.1 h).elim h2 h1]
theorem Gf {l:List Int} (u:Int) (hl:¬l.length=0):AM l u∈l:=by
 unfold AM;rw[aC hl];split
 .rename_i h;exact rO.1 h
 .exact bH (T:=.int .i64) (by omega) (by omega)
theorem Qo {w:WT} {s:SY} {t k o u v:Int} {sy:SY} (h:(sy,v)=uz w s t k o u):uz w s t k o v=(sy,v):=by
 by_cases hk:k=18
 .subst hk;rw[I7] at h ⊢;by_cases hl:(wl s.2.2.2 o s.2.2.2.length).length=0
  .rw[aJ hl] at h ⊢;exact h.symm
  .rw[aC hl] at h ⊢;have hm:=Gf u hl;generalize wl s.2.2.2 o s.2.2.2.length=l at h hl hm ⊢;obtain⟨rfl,rfl⟩:=Prod.mk.inj h;have:AM l (AM l u)=AM l u:=by
    rw[AM,aC hl,aJ (rO.2 hm)]
   rw[this]
 .rw[UW _ _ _ _ _ _ u hk,<-h]
theorem ae0 {w:WT} {s:SY} {t k o:Int} (u:Int) (he:EN w s t k o) (hr:U3 w s t k o) {j:Int} (h0:0<=j):(¬j=t->(aH (T:=jB) (uz w s t k o u).1.2.2.2 j).1=(aH (T:=jB) s.2.2.2 j).1\/((aH (T:=jB) s.2.2.2 j).1=3/\(aH (T:=jB) (uz w s t k o u).1.2.2.2 j).1=4)\/((aH (T:=jB) s.2.2.2 j).1=0/\(aH (T:=jB) (uz w s t k o u).1.2.2.2 j).1=1))/\(j=t->¬k=16->¬(aH (T:=jB) (uz w s t k o u).1.2.2.2 j).1=3/\¬(aH (T:=jB) (uz w s t k o u).1.2.2.2 j).1=4):=by
 have t0:=he.t0;have t1:t<s.2.2.2.length:=by have:=he.t1;have:=he.e3;omega
 have M:=hr.r;have hml:∀ u:Int,u∈wl s.2.2.2 o s.2.2.2.length->0<=u/\u<s.2.2.2.length:=λu hu=>⟨(ul.1 hu).1,(ul.1 hu).2.1⟩
 have h3:∀ u:Int,u∈wl s.2.2.2 o s.2.2.2.length->(aH (T:=jB) s.2.2.2 u).1=3:=λu hu=>by
  have:=(ul.1 hu).2.2;unfold Jx at this;rw[au] at this;exact bm this.1
 have same:¬k=1->¬k=17->∀ th:List (Int×Int×Bool),(aH (T:=jB) th j).1=(aH (T:=jB) s.2.2.2 j).1->(¬j=t->(aH (T:=jB) th j).1=(aH (T:=jB) s.2.2.2 j).1\/((aH (T:=jB) s.2.2.2 j).1=3/\(aH (T:=jB) th j).1=4)\/((aH (T:=jB) s.2.2.2 j).1=0/\(aH (T:=jB) th j).1=1))/\(j=t->¬k=16->¬(aH (T:=jB) th j).1=3/\¬(aH (T:=jB) th j).1=4):=λa b th h=>⟨λ_=>.inl h,λh2 _=>by rw[h,h2,M a b];decide⟩
 have st:∀ x:Int,¬x=3\/k=16->¬x=4->∀ th:List (Int×Int×Bool),(aH (T:=jB) th j).1=(if j=t then x else (aH (T:=jB) s.2.2.2 j).1)->(¬j=t->(aH (T:=jB) th j).1=(aH (T:=jB) s.2.2.2 j).1\/((aH (T:=jB) s.2.2.2 j).1=3/\(aH (T:=jB) th j).1=4)\/((aH (T:=jB) s.2.2.2 j).1=0/\(aH (T:=jB) th j).1=1))/\(j=t->¬k=16->¬(aH (T:=jB) th j).1=3/\¬(aH (T:=jB) th j).1=4):=λx hx hx4 th h=>⟨λhn=>.inl (by rw[h,aC hn]),λh2 h16=>by rw[h,aJ h2];exact⟨hx.resolve_right h16,hx4⟩⟩
 have U:∀ x:Int,t<(AY s.2.2.2 t x).length:=λx=>by unfold AY;rw[bU];exact t1
 by_cases k1:k=1
 .subst k1;exact st 2 (.inl (by decide)) (by decide) _ (Gt t0 t1 h0)
 by_cases k2:k=2
 .subst k2;exact st 5 (.inl (by decide)) (by decide) _ (Gt t0 t1 h0)
 by_cases k16:k=16
 .subst k16;exact st 3 (.inr rfl) (by decide) _ ((ach t0 (U _) h0).trans (Gt t0 t1 h0))
 by_cases I:k=17
 .subst I;exact st 2 (.inl (by decide)) (by decide) _ ((ach t0 (U _) h0).trans (Gt t0 t1 h0))
 by_cases k14:k=14
 .subst k14;exact same k1 I _ (acm t0 t1 h0)
 by_cases k15:k=15
 .subst k15;exact same k1 I _ (acm t0 t1 h0)
 by_cases k18:k=18
 .subst k18;rw[I7];by_cases hl:(wl s.2.2.2 o s.2.2.2.length).length=0
  .rw[aJ hl];exact same k1 I _ rfl
  .rw[aC hl];have hc:=Gf u hl;have Y:=hml _ hc;have J:=h3 _ hc;dsimp only;rw[Gt Y.1 Y.2 h0];generalize AM (wl s.2.2.2 o s.2.2.2.length) u=c at J;by_cases hj:j=c
   .rw[aJ hj,hj];exact⟨λ_=>.inr (.inl ⟨J,rfl⟩),λh _=>by rw[h,M k1 I] at J;exact cX J (by decide)⟩
   .rw[aC hj];exact⟨λ_=>.inl rfl,λh _=>by rw[h,M k1 I];decide⟩
 by_cases k19:k=19
 .subst k19;show (_->(aH (T:=jB) (Fk _ _) j).1=_\/_/\(aH (T:=jB) (Fk _ _) j).1=_\/_/\(aH (T:=jB) (Fk _ _) j).1=_)/\(_->_->¬(aH (T:=jB) (Fk _ _) j).1=_/\¬(aH (T:=jB) (Fk _ _) j).1=_)
  rw[aca h0 _ _ hml];by_cases hj:j∈wl s.2.2.2 o s.2.2.2.length
  .rw[aJ hj];have J:=h3 _ hj;exact⟨λ_=>.inr (.inl ⟨J,rfl⟩),λh _=>by rw[h,M k1 I] at J;exact cX J (by decide)⟩
  .rw[aC hj];exact⟨λ_=>.inl rfl,λh _=>by rw[h,M k1 I];decide⟩
 by_cases k20:k=20
 .subst k20;obtain⟨o0,o1⟩:=he.nm.th (.inl rfl);obtain⟨hot,ho0⟩:=hr.sp rfl;have Z:o<s.2.2.2.length:=by rw[he.e3];exact o1
  show (_->(aH (T:=jB) (AY _ _ _) j).1=_\/_/\(aH (T:=jB) (AY _ _ _) j).1=_\/_/\(aH (T:=jB) (AY _ _ _) j).1=_)/\(_->_->¬(aH (T:=jB) (AY _ _ _) j).1=_/\¬(aH (T:=jB) (AY _ _ _) j).1=_)
  rw[Gt o0 Z h0];by_cases hj:j=o
  .rw[aJ hj,hj];exact⟨λ_=>.inr (.inr ⟨ho0,rfl⟩),λh _=>(hot h).elim⟩
  .rw[aC hj];exact⟨λ_=>.inl rfl,λh _=>by rw[h,M k1 I];decide⟩
 refine same k1 I _ ?_;unfold uz;rw[aC k1,aC k2];repeat' split
 all_goals first|rfl|omega
theorem aab {e e':ET} (h1:e'.1=e.1) (h2:e'.2.1=e.2.1) (t:Int):fl [e'] t=fl [e] t:=by
 by_cases h:e.1=t
 .rw[xQ h,xQ (h1.trans h)];unfold rZ;rw[h2]
 .rw[vh h,vh (λg=>h (h1.symm.trans g))]
theorem abt {L:List ET} {e e':ET} (h1:e'.1=e.1) (h2:e'.2.1=e.2.1) {k y:Int} (h:FQ (L++[e]) k y):FQ (L++[e']) k y:=by
 unfold FQ Jl at h ⊢;rw[td,aab h1 h2,<-td];exact h
theorem HB {T:Ty} (xs:List T.den) (i k:Nat) (x:T.den) (hi:i<xs.length):aH (xs.set i x) (k:Int)=if k=i then x else aH xs (k:Int):=by
 refine (sF xs (i:Int) (k:Int) x (by omega) (by omega) (by omega)).trans ?_;by_cases h:k=i
 .rw[aJ h,aJ (by omega)]
 .rw[aC h,aC (by omega)]
def SQ (n:Nat) (c:CT) (L:List ET) (y:ST×ET×Bool):Prop:=y.2.2=ah->SV (n+1) (L++[y.2.1]) y.1/\Jw c (L++[y.2.1]) y.1/\EvF c.1 y.2.1/\WS y.2.1
theorem aba {n:Nat} (hn:n+1<=100000) {c:CT} {L:List ET} {s:ST} {i:Nat} {kd o v0 si:Int} {ds fs:List Int} {sy:SY} (hs:SV n L s) (hI:Jw c L s) (hp:PE n c s (i:Int) ((i:Int),kd,o,v0,si,ds,fs)) (hm:PS c L s (i:Int) ((i:Int),kd,o,v0,si,ds,fs)) (he:EN c.1 s.1 (i:Int) kd o) (hr:U3 c.1 s.1 (i:Int) kd o) (ha:AP n s.1 sy) (I:Int) (ce fu:List Int) (t':TT) (hap:(uz c.1 s.1 (i:Int) kd o I).1=sy) (hva:VA c.1 s.1 s.2.1 s.2.2.1 (i:Int) kd o I) (hce:ce=Wh s.2.1 ((i:Int),kd,o,I,si,ds,fs)) (hfu:fu=Xc s.2.2.1 ((i:Int),kd,o,I,si,ds,fs)) (ht:TH (FQ (L++[((i:Int),kd,o,v0,si,ds,fs)]) (i:Int)) (n+1) t') (hg:t'.2.1.length=0\/t'.2.2.2=bg .i64 ((aH (T:=tF) s.2.2.2 (i:Int)).2.2.2+1)/\(kd=16->t'.1=(aH (T:=tF) s.2.2.2 (i:Int)).1)):SQ n c L ((sy,ce,fu,s.2.2.2.set i t'),((i:Int),kd,o,I,si,ds,fs),ah):=by
 intro _;have q1:=hp.t1;have q2:=hp.fs.th;have q3:=hp.fs.e3;have q4:=hp.fs.vc.tl;have hil:i<s.2.2.2.length:=by omega
 have hln:=hs.ln;refine ⟨⟨ha.toSB hs.sb hn,by simp[hln],λk hk=>?_⟩,⟨?_,λk hk=>?_⟩,⟨he.nm,he.t0,he.t1,he.cd⟩,⟨c7 hp.d (by omega),c7 hp.f (by omega)⟩⟩
 .dsimp only at hk ⊢;rw[rB] at hk;rw[HB (T:=tF) _ _ _ _ hil];split
  .rename_i h;subst h;exact ht.mono (bQ _) λy J=>abt (e:=((k:Int),kd,o,v0,si,ds,fs)) (e':=((k:Int),kd,o,I,si,ds,fs)) rfl rfl J
  .exact (hs.t k hk).mono (by omega) λy J=>⟨J.1,J.2.app _⟩
 .rw[<- hap,hce,hfu];exact hI.ac.snoc (e:=((i:Int),kd,o,I,si,ds,fs)) ⟨he,hr,hm.s1,hm.s2,hm.de,hm.fr,⟨hm.da,λx U=>⟨(hm.dq x U).1,(hm.dq x U).2.lt⟩⟩,⟨hm.fa,λx U=>⟨(hm.fq x U).1,(hm.fq x U).2.lt⟩⟩,λy J=>(hm.dq y J).2,λy J=>(hm.fq y J).2,hva⟩
 .dsimp only at hk ⊢;rw[rB] at hk;rw[HB (T:=tF) _ _ _ _ hil];obtain⟨Gu,Xw⟩:=ae0 I he hr (j:=(k:Int)) (by omega);rw[hap] at Gu Xw;have hfl:=Ux L (i:Int);split
  .rename_i h;subst h;rcases hg with hg|⟨g1,g2⟩
   .exact .inl hg
   .refine .inr ⟨?_,λZ=>?_,λM=>?_⟩
    .rw[g1,hm.tg.ev,td,xQ rfl,gK (by omega)];simp
    .have Y:kd=16:=uk λh=>Z.elim (Xw rfl h).1 (Xw rfl h).2
     rw[g2 Y];exact hm.wt Y
    .rw[td,xQ rfl] at M;simp at M
  .rename_i h;have hki:¬(k:Int)=(i:Int):=by omega
   have hfo:∀ e:ET,e.1=(i:Int)->fl (L++[e]) (k:Int)=fl L (k:Int):=λe h=>by
    rw[td,vh (by rw[h];exact λh=>hki h.symm),lm]
   have Gu:=Gu hki;refine (hI.t k hk).imp id λg=>⟨by rw[hfo _ rfl];exact g.ev,λZ=>g.wi (by
    rcases Gu with h1|⟨h1,_⟩|⟨_,h1⟩
    .rw[<- h1];exact Z
    .exact .inl h1
    .exact Z.elim (λh=>cX (h1.symm.trans h) (by decide)) λh=>cX (h1.symm.trans h) (by decide)),λM=>?_⟩
   rw[hfo _ rfl] at M;have g2:=g.nw M;rcases Gu with h1|⟨h1,_⟩|⟨_,h1⟩
   .rw[h1];exact g2
   .exact (g2.elim (λh=>cX (h1.symm.trans h) (by decide)) λh=>cX (h1.symm.trans h) (by decide))
   .exact .inr h1
theorem jV {α R:Type} (o:Option α):obind o (λ_=>(af:Option R))=af:=by cases o<;>rfl
theorem oa {R:Type} (b:Bool):chk b (λ_=>(af:Option R))=af:=by cases b<;>rfl
theorem qP {α R:Type} (x:α):lt x (λ_=>(af:Option R))=af:=rfl
def Nv {R:Type} (o:Option R) (Q:R->Prop):Prop:=o=af\/Ok o Q
theorem Nv.or {R:Type} {a b:Option R} {Q:R->Prop} (I:Nv a Q) (hb:Nv b Q):Nv (orE a b) Q:=by
 rcases I with rfl|⟨y,rfl,h⟩
 .exact hb
 .exact .inr ⟨y,rfl,h⟩
theorem Ok.orL {R:Type} {a b:Option R} {Q:R->Prop} (I:Ok a Q):Ok (orE a b) Q:=by
 obtain⟨y,rfl,h⟩:=I;exact⟨y,rfl,h⟩
theorem Nv.orR {R:Type} {a b:Option R} {Q:R->Prop} (I:Nv a Q) (hb:Ok b Q):Ok (orE a b) Q:=by
 rcases I with rfl|⟨y,rfl,h⟩
 .exact hb
 .exact⟨y,rfl,h⟩
theorem Gs {n:Nat} (hn:n+1<=100000) {c:CT} {L:List ET} {s:ST} {t u:Int} (hc:CB c) (hs:SV n L s) (U:Jw c L s) (G:Option (ST×ET×Bool)->Prop) (Y:∀ y,SQ n c L y->G (aa y)) (k:ET×Bool->SY×Int×Bool->Option (ST×ET×Bool))
 (hk:∀ e v sy,PE n c s t e->PS c L s t e->EN c.1 s.1 t e.2.1 e.2.2.1->U3 c.1 s.1 t e.2.1 e.2.2.1->AP n s.1 sy->(sy,v)=uz c.1 s.1 t e.2.1 e.2.2.1 u->G (k (e,ah) (sy,v,ah))):
 G (obind (mY (c,s,t)) λI=>bcase (!I.2) (aa ((([],0,[],[]),[],[],[]),(0,0,0,0,0,[],[]),ai)) (obind (oH (c.1,s.1,t,I.1.2.1,I.1.2.2.1,u)) λJ=>bcase (!J.2.2) (aa ((([],0,[],[]),[],[],[]),(0,0,0,0,0,[],[]),ai)) (k I J))):=by
 have M:=Y ((([],0,[],[]),[],[],[]),(0,0,0,0,0,[],[]),ai) λh=>(by cases h)
 obtain⟨⟨e,b⟩,h1,h2⟩:=Tz n (by omega) c L s hc hs U t;rw[h1,Uj];cases b with
 |false=>exact M
 |true=>
  obtain⟨hp,hm⟩:=h2 rfl;have hcd:c.1.2.2.1.length<=1000:=by have:=hp.fs.vc.vl.d;omega
  obtain⟨⟨sy,v,b⟩,h3,Z,_,_⟩:=Q0 c.1 s.1 hs.sb hcd t e.2.1 e.2.2.1 u;have e0:∀ {R:Type} (a b:Option R),bcase (!ah) a b=b:=λ_ _=>rfl
  rw[e0,h3,Uj];cases b with
  |false=>exact M
  |true=>
   obtain⟨g1,g2,g3,g4⟩:=Z rfl;exact hk e v sy hp hm g1 g2 g3 g4
theorem W7 {E:Nat} {L:List ET} (sy:SY) (ce fu:List Int) (a:TT) (h:SV E L (sy,ce,fu,[a])) (hce:ce.length<=1000) (hfu:fu.length<=1000):mC (sy,ce,fu,[a])=aa ((sy.2.1,sy.1,sy.2.2.1,sy.2.2.2).1,(sy.2.1,sy.1,sy.2.2.1,sy.2.2.2).2.1,(sy.2.1,sy.1,sy.2.2.1,sy.2.2.2).2.2.1,(sy.2.1,sy.1,sy.2.2.1,sy.2.2.2).2.2.2,(([]:List Int)++ce),(([]:List Int)++fu),((a.1,a.2.2.2),a.2.1,a.2.2.1)):=by
 have J:=h.sb.n1;have I:TH (FQ L 0) E a:=h.t 0 (by simp);refine cE ?_;unfold mC aU bI bu bD bF aW;refine aT (pS sy h.sb) ?_;refine bf (by simp;omega) (by omega) (bf (by simp;omega) (by omega) ?_);refine fg rfl (ba rfl (aR (aT (cW a E J I) ?_)));exact fy rfl (al rfl)
theorem QX (sy:SY) (ce fu:List Int) (l:List TT) (h0:l.length<=4) (h:l.length≠1):mC (sy,ce,fu,l)=af:=by
 unfold mC aU bI bu bD bF aW;rcases l with _|⟨a,_|⟨b,_|⟨c,_|⟨d,_|⟨e,l⟩⟩⟩⟩⟩;all_goals first|(simp at h;done)|(exfalso;simp only[bV] at h0;omega)|simp[fE,jV,oa,qP,Zz,YS]
theorem W6 {E:Nat} {L:List ET} (sy:SY) (ce fu:List Int) (a b:TT) (h:SV E L (sy,ce,fu,[a,b])) (hce:ce.length<=1000) (hfu:fu.length<=1000):mB (sy,ce,fu,[a,b])=aa ((sy.2.1,sy.1,sy.2.2.1,sy.2.2.2).1,(sy.2.1,sy.1,sy.2.2.1,sy.2.2.2).2.1,(sy.2.1,sy.1,sy.2.2.1,sy.2.2.2).2.2.1,(sy.2.1,sy.1,sy.2.2.1,sy.2.2.2).2.2.2,(([]:List Int)++ce),(([]:List Int)++fu),(((a.1,a.2.2.2),a.2.1,a.2.2.1).1.1,((a.1,a.2.2.2),a.2.1,a.2.2.1).1.2,((b.1,b.2.2.2),b.2.1,b.2.2.1).1.1,((b.1,b.2.2.2),b.2.1,b.2.2.1).2.1,((b.1,b.2.2.2),b.2.1,b.2.2.1).2.2,((b.1,b.2.2.2),b.2.1,b.2.2.1).1.2),((a.1,a.2.2.2),a.2.1,a.2.2.1).2):=by
 have I:=h.sb.n1;have J:TH (FQ L 0) E a:=h.t 0 (by simp);have hb:TH (FQ L 1) E b:=h.t 1 (by simp);refine cE ?_;unfold mB aU bI bu bD bF aW;refine aT (pS sy h.sb) ?_;refine bf (by simp;omega) (by omega) (bf (by simp;omega) (by omega) ?_);refine fg rfl (ba rfl (aR (aT (cW a E I J) ?_)));refine fg rfl (ba rfl (aR (aT (cW b E I hb) ?_)));exact fy rfl (al rfl)
theorem QW (sy:SY) (ce fu:List Int) (l:List TT) (h0:l.length<=4) (h:l.length≠2):mB (sy,ce,fu,l)=af:=by
 unfold mB aU bI bu bD bF aW;rcases l with _|⟨a,_|⟨b,_|⟨c,_|⟨d,_|⟨e,l⟩⟩⟩⟩⟩;all_goals first|(simp at h;done)|(exfalso;simp only[bV] at h0;omega)|simp[fE,jV,oa,qP,Zz,YS]
theorem W5 {E:Nat} {L:List ET} (sy:SY) (ce fu:List Int) (a b:TT) (h:SV E L (sy,ce,fu,[a,b])) (hce:ce.length<=1000) (hfu:fu.length<=1000):mA (sy,ce,fu,[a,b])=aa ((sy.2.1,sy.1,sy.2.2.1,sy.2.2.2).1,(sy.2.1,sy.1,sy.2.2.1,sy.2.2.2).2.1,(sy.2.1,sy.1,sy.2.2.1,sy.2.2.2).2.2.1,(sy.2.1,sy.1,sy.2.2.1,sy.2.2.2).2.2.2,(([]:List Int)++ce),(([]:List Int)++fu),((((a.1,a.2.2.2),a.2.1,a.2.2.1).1.1,((a.1,a.2.2.2),a.2.1,a.2.2.1).2.1,((a.1,a.2.2.2),a.2.1,a.2.2.1).2.2,((a.1,a.2.2.2),a.2.1,a.2.2.1).1.2),((b.1,b.2.2.2),b.2.1,b.2.2.1).1),((b.1,b.2.2.2),b.2.1,b.2.2.1).2):=by
 have I:=h.sb.n1;have J:TH (FQ L 0) E a:=h.t 0 (by simp);have hb:TH (FQ L 1) E b:=h.t 1 (by simp);refine cE ?_;unfold mA aU bI bu bD bF aW;refine aT (pS sy h.sb) ?_;refine bf (by simp;omega) (by omega) (bf (by simp;omega) (by omega) ?_);refine fg rfl (ba rfl (aR (aT (cW a E I J) ?_)));refine fg rfl (ba rfl (aR (aT (cW b E I hb) ?_)));exact fy rfl (al rfl)
theorem QV (sy:SY) (ce fu:List Int) (l:List TT) (h0:l.length<=4) (h:l.length≠2):mA (sy,ce,fu,l)=af:=by
 unfold mA aU bI bu bD bF aW;rcases l with _|⟨a,_|⟨b,_|⟨c,_|⟨d,_|⟨e,l⟩⟩⟩⟩⟩;all_goals first|(simp at h;done)|(exfalso;simp only[bV] at h0;omega)|simp[fE,jV,oa,qP,Zz,YS]
theorem W3 {E:Nat} {L:List ET} (sy:SY) (ce fu:List Int) (a b c:TT) (h:SV E L (sy,ce,fu,[a,b,c])) (hce:ce.length<=1000) (hfu:fu.length<=1000):mz (sy,ce,fu,[a,b,c])=aa ((sy.2.1,sy.1,sy.2.2.1,sy.2.2.2).1,(sy.2.1,sy.1,sy.2.2.1,sy.2.2.2).2.1,(sy.2.1,sy.1,sy.2.2.1,sy.2.2.2).2.2.1,(sy.2.1,sy.1,sy.2.2.1,sy.2.2.2).2.2.2,(([]:List Int)++ce),(([]:List Int)++fu),(((a.1,a.2.2.2),a.2.1,a.2.2.1).1.1,((a.1,a.2.2.2),a.2.1,a.2.2.1).1.2,(((b.1,b.2.2.2),b.2.1,b.2.2.1).1.1,((b.1,b.2.2.2),b.2.1,b.2.2.1).2.1,((b.1,b.2.2.2),b.2.1,b.2.2.1).2.2,((b.1,b.2.2.2),b.2.1,b.2.2.1).1.2),((c.1,c.2.2.2),c.2.1,c.2.2.1).1.1,((c.1,c.2.2.2),c.2.1,c.2.2.1).2.1,((c.1,c.2.2.2),c.2.1,c.2.2.1).2.2,((c.1,c.2.2.2),c.2.1,c.2.2.1).1.2),((a.1,a.2.2.2),a.2.1,a.2.2.1).2):=by
 have I:=h.sb.n1;have J:TH (FQ L 0) E a:=h.t 0 (by simp);have hb:TH (FQ L 1) E b:=h.t 1 (by simp);have hc:TH (FQ L 2) E c:=h.t 2 (by simp);refine cE ?_;unfold mz aU bI bu bD bF aW;refine aT (pS sy h.sb) ?_;refine bf (by simp;omega) (by omega) (bf (by simp;omega) (by omega) ?_);refine fg rfl (ba rfl (aR (aT (cW a E I J) ?_)));refine fg rfl (ba rfl (aR (aT (cW b E I hb) ?_)));refine fg rfl (ba rfl (aR (aT (cW c E I hc) ?_)));exact fy rfl (al rfl)
theorem QU (sy:SY) (ce fu:List Int) (l:List TT) (h0:l.length<=4) (h:l.length≠3):mz (sy,ce,fu,l)=af:=by
 unfold mz aU bI bu bD bF aW;rcases l with _|⟨a,_|⟨b,_|⟨c,_|⟨d,_|⟨e,l⟩⟩⟩⟩⟩;all_goals first|(simp at h;done)|(exfalso;simp only[bV] at h0;omega)|simp[fE,jV,oa,qP,Zz,YS]
theorem W2 {E:Nat} {L:List ET} (sy:SY) (ce fu:List Int) (a b c:TT) (h:SV E L (sy,ce,fu,[a,b,c])) (hce:ce.length<=1000) (hfu:fu.length<=1000):my (sy,ce,fu,[a,b,c])=aa ((sy.2.1,sy.1,sy.2.2.1,sy.2.2.2).1,(sy.2.1,sy.1,sy.2.2.1,sy.2.2.2).2.1,(sy.2.1,sy.1,sy.2.2.1,sy.2.2.2).2.2.1,(sy.2.1,sy.1,sy.2.2.1,sy.2.2.2).2.2.2,(([]:List Int)++ce),(([]:List Int)++fu),((((a.1,a.2.2.2),a.2.1,a.2.2.1).1.1,((a.1,a.2.2.2),a.2.1,a.2.2.1).2.1,((a.1,a.2.2.2),a.2.1,a.2.2.1).2.2,((a.1,a.2.2.2),a.2.1,a.2.2.1).1.2),((b.1,b.2.2.2),b.2.1,b.2.2.1).1.1,((b.1,b.2.2.2),b.2.1,b.2.2.1).1.2,((c.1,c.2.2.2),c.2.1,c.2.2.1).1.1,((c.1,c.2.2.2),c.2.1,c.2.2.1).2.1,((c.1,c.2.2.2),c.2.1,c.2.2.1).2.2,((c.1,c.2.2.2),c.2.1,c.2.2.1).1.2),((b.1,b.2.2.2),b.2.1,b.2.2.1).2):=by
 have I:=h.sb.n1;have J:TH (FQ L 0) E a:=h.t 0 (by simp);have hb:TH (FQ L 1) E b:=h.t 1 (by simp);have hc:TH (FQ L 2) E c:=h.t 2 (by simp);refine cE ?_;unfold my aU bI bu bD bF aW;refine aT (pS sy h.sb) ?_;refine bf (by simp;omega) (by omega) (bf (by simp;omega) (by omega) ?_);refine fg rfl (ba rfl (aR (aT (cW a E I J) ?_)));refine fg rfl (ba rfl (aR (aT (cW b E I hb) ?_)));refine fg rfl (ba rfl (aR (aT (cW c E I hc) ?_)));exact fy rfl (al rfl)
theorem QR (sy:SY) (ce fu:List Int) (l:List TT) (h0:l.length<=4) (h:l.length≠3):my (sy,ce,fu,l)=af:=by
 unfold my aU bI bu bD bF aW;rcases l with _|⟨a,_|⟨b,_|⟨c,_|⟨d,_|⟨e,l⟩⟩⟩⟩⟩;all_goals first|(simp at h;done)|(exfalso;simp only[bV] at h0;omega)|simp[fE,jV,oa,qP,Zz,YS]
theorem W1 {E:Nat} {L:List ET} (sy:SY) (ce fu:List Int) (a b c:TT) (h:SV E L (sy,ce,fu,[a,b,c])) (hce:ce.length<=1000) (hfu:fu.length<=1000):mw (sy,ce,fu,[a,b,c])=aa ((sy.2.1,sy.1,sy.2.2.1,sy.2.2.2).1,(sy.2.1,sy.1,sy.2.2.1,sy.2.2.2).2.1,(sy.2.1,sy.1,sy.2.2.1,sy.2.2.2).2.2.1,(sy.2.1,sy.1,sy.2.2.1,sy.2.2.2).2.2.2,(([]:List Int)++ce),(([]:List Int)++fu),((((a.1,a.2.2.2),a.2.1,a.2.2.1).1.1,((a.1,a.2.2.2),a.2.1,a.2.2.1).2.1,((a.1,a.2.2.2),a.2.1,a.2.2.1).2.2,((a.1,a.2.2.2),a.2.1,a.2.2.1).1.2),(((b.1,b.2.2.2),b.2.1,b.2.2.1).1.1,((b.1,b.2.2.2),b.2.1,b.2.2.1).2.1,((b.1,b.2.2.2),b.2.1,b.2.2.1).2.2,((b.1,b.2.2.2),b.2.1,b.2.2.1).1.2),((c.1,c.2.2.2),c.2.1,c.2.2.1).1),((c.1,c.2.2.2),c.2.1,c.2.2.1).2):=by
 have I:=h.sb.n1;have J:TH (FQ L 0) E a:=h.t 0 (by simp);have hb:TH (FQ L 1) E b:=h.t 1 (by simp);have hc:TH (FQ L 2) E c:=h.t 2 (by simp);refine cE ?_;unfold mw aU bI bu bD bF aW;refine aT (pS sy h.sb) ?_;refine bf (by simp;omega) (by omega) (bf (by simp;omega) (by omega) ?_);refine fg rfl (ba rfl (aR (aT (cW a E I J) ?_)));refine fg rfl (ba rfl (aR (aT (cW b E I hb) ?_)));refine fg rfl (ba rfl (aR (aT (cW c E I hc) ?_)));exact fy rfl (al rfl)
theorem QQ (sy:SY) (ce fu:List Int) (l:List TT) (h0:l.length<=4) (h:l.length≠3):mw (sy,ce,fu,l)=af:=by
 unfold mw aU bI bu bD bF aW;rcases l with _|⟨a,_|⟨b,_|⟨c,_|⟨d,_|⟨e,l⟩⟩⟩⟩⟩;all_goals first|(simp at h;done)|(exfalso;simp only[bV] at h0;omega)|simp[fE,jV,oa,qP,Zz,YS]
theorem WZ {E:Nat} {L:List ET} (sy:SY) (ce fu:List Int) (a b c d:TT) (h:SV E L (sy,ce,fu,[a,b,c,d])) (hce:ce.length<=1000) (hfu:fu.length<=1000):mr (sy,ce,fu,[a,b,c,d])=aa ((sy.2.1,sy.1,sy.2.2.1,sy.2.2.2).1,(sy.2.1,sy.1,sy.2.2.1,sy.2.2.2).2.1,(sy.2.1,sy.1,sy.2.2.1,sy.2.2.2).2.2.1,(sy.2.1,sy.1,sy.2.2.1,sy.2.2.2).2.2.2,(([]:List Int)++ce),(([]:List Int)++fu),(((a.1,a.2.2.2),a.2.1,a.2.2.1).1.1,((a.1,a.2.2.2),a.2.1,a.2.2.1).1.2,(((b.1,b.2.2.2),b.2.1,b.2.2.1).1.1,((b.1,b.2.2.2),b.2.1,b.2.2.1).2.1,((b.1,b.2.2.2),b.2.1,b.2.2.1).2.2,((b.1,b.2.2.2),b.2.1,b.2.2.1).1.2),(((c.1,c.2.2.2),c.2.1,c.2.2.1).1.1,((c.1,c.2.2.2),c.2.1,c.2.2.1).2.1,((c.1,c.2.2.2),c.2.1,c.2.2.1).2.2,((c.1,c.2.2.2),c.2.1,c.2.2.1).1.2),((d.1,d.2.2.2),d.2.1,d.2.2.1).1.1,((d.1,d.2.2.2),d.2.1,d.2.2.1).2.1,((d.1,d.2.2.2),d.2.1,d.2.2.1).2.2,((d.1,d.2.2.2),d.2.1,d.2.2.1).1.2),((a.1,a.2.2.2),a.2.1,a.2.2.1).2):=by
 have I:=h.sb.n1;have J:TH (FQ L 0) E a:=h.t 0 (by simp);have hb:TH (FQ L 1) E b:=h.t 1 (by simp);have hc:TH (FQ L 2) E c:=h.t 2 (by simp);have hd:TH (FQ L 3) E d:=h.t 3 (by simp);refine cE ?_;unfold mr aU bI bu bD bF aW;refine aT (pS sy h.sb) ?_;refine bf (by simp;omega) (by omega) (bf (by simp;omega) (by omega) ?_);refine fg rfl (ba rfl (aR (aT (cW a E I J) ?_)));refine fg rfl (ba rfl (aR (aT (cW b E I hb) ?_)));refine fg rfl (ba rfl (aR (aT (cW c E I hc) ?_)));refine fg rfl (ba rfl (aR (aT (cW d E I hd) ?_)));exact fy rfl (al rfl)
theorem QP (sy:SY) (ce fu:List Int) (l:List TT) (h0:l.length<=4) (h:l.length≠4):mr (sy,ce,fu,l)=af:=by
 unfold mr aU bI bu bD bF aW;rcases l with _|⟨a,_|⟨b,_|⟨c,_|⟨d,_|⟨e,l⟩⟩⟩⟩⟩;all_goals first|(simp at h;done)|(exfalso;simp only[bV] at h0;omega)|simp[fE,jV,oa,qP,Zz,YS]
theorem WY {E:Nat} {L:List ET} (sy:SY) (ce fu:List Int) (a b c d:TT) (h:SV E L (sy,ce,fu,[a,b,c,d])) (hce:ce.length<=1000) (hfu:fu.length<=1000):mq (sy,ce,fu,[a,b,c,d])=aa ((sy.2.1,sy.1,sy.2.2.1,sy.2.2.2).1,(sy.2.1,sy.1,sy.2.2.1,sy.2.2.2).2.1,(sy.2.1,sy.1,sy.2.2.1,sy.2.2.2).2.2.1,(sy.2.1,sy.1,sy.2.2.1,sy.2.2.2).2.2.2,(([]:List Int)++ce),(([]:List Int)++fu),((((a.1,a.2.2.2),a.2.1,a.2.2.1).1.1,((a.1,a.2.2.2),a.2.1,a.2.2.1).2.1,((a.1,a.2.2.2),a.2.1,a.2.2.1).2.2,((a.1,a.2.2.2),a.2.1,a.2.2.1).1.2),((b.1,b.2.2.2),b.2.1,b.2.2.1).1.1,((b.1,b.2.2.2),b.2.1,b.2.2.1).1.2,(((c.1,c.2.2.2),c.2.1,c.2.2.1).1.1,((c.1,c.2.2.2),c.2.1,c.2.2.1).2.1,((c.1,c.2.2.2),c.2.1,c.2.2.1).2.2,((c.1,c.2.2.2),c.2.1,c.2.2.1).1.2),((d.1,d.2.2.2),d.2.1,d.2.2.1).1.1,((d.1,d.2.2.2),d.2.1,d.2.2.1).2.1,((d.1,d.2.2.2),d.2.1,d.2.2.1).2.2,((d.1,d.2.2.2),d.2.1,d.2.2.1).1.2),((b.1,b.2.2.2),b.2.1,b.2.2.1).2):=by
 have I:=h.sb.n1;have J:TH (FQ L 0) E a:=h.t 0 (by simp);have hb:TH (FQ L 1) E b:=h.t 1 (by simp);have hc:TH (FQ L 2) E c:=h.t 2 (by simp);have hd:TH (FQ L 3) E d:=h.t 3 (by simp);refine cE ?_;unfold mq aU bI bu bD bF aW;refine aT (pS sy h.sb) ?_;refine bf (by simp;omega) (by omega) (bf (by simp;omega) (by omega) ?_);refine fg rfl (ba rfl (aR (aT (cW a E I J) ?_)));refine fg rfl (ba rfl (aR (aT (cW b E I hb) ?_)));refine fg rfl (ba rfl (aR (aT (cW c E I hc) ?_)));refine fg rfl (ba rfl (aR (aT (cW d E I hd) ?_)));exact fy rfl (al rfl)
theorem QO (sy:SY) (ce fu:List Int) (l:List TT) (h0:l.length<=4) (h:l.length≠4):mq (sy,ce,fu,l)=af:=by
 unfold mq aU bI bu bD bF aW;rcases l with _|⟨a,_|⟨b,_|⟨c,_|⟨d,_|⟨e,l⟩⟩⟩⟩⟩;all_goals first|(simp at h;done)|(exfalso;simp only[bV] at h0;omega)|simp[fE,jV,oa,qP,Zz,YS]
theorem WV {E:Nat} {L:List ET} (sy:SY) (ce fu:List Int) (a b c d:TT) (h:SV E L (sy,ce,fu,[a,b,c,d])) (hce:ce.length<=1000) (hfu:fu.length<=1000):mo (sy,ce,fu,[a,b,c,d])=aa ((sy.2.1,sy.1,sy.2.2.1,sy.2.2.2).1,(sy.2.1,sy.1,sy.2.2.1,sy.2.2.2).2.1,(sy.2.1,sy.1,sy.2.2.1,sy.2.2.2).2.2.1,(sy.2.1,sy.1,sy.2.2.1,sy.2.2.2).2.2.2,(([]:List Int)++ce),(([]:List Int)++fu),((((a.1,a.2.2.2),a.2.1,a.2.2.1).1.1,((a.1,a.2.2.2),a.2.1,a.2.2.1).2.1,((a.1,a.2.2.2),a.2.1,a.2.2.1).2.2,((a.1,a.2.2.2),a.2.1,a.2.2.1).1.2),(((b.1,b.2.2.2),b.2.1,b.2.2.1).1.1,((b.1,b.2.2.2),b.2.1,b.2.2.1).2.1,((b.1,b.2.2.2),b.2.1,b.2.2.1).2.2,((b.1,b.2.2.2),b.2.1,b.2.2.1).1.2),((c.1,c.2.2.2),c.2.1,c.2.2.1).1.1,((c.1,c.2.2.2),c.2.1,c.2.2.1).1.2,((d.1,d.2.2.2),d.2.1,d.2.2.1).1.1,((d.1,d.2.2.2),d.2.1,d.2.2.1).2.1,((d.1,d.2.2.2),d.2.1,d.2.2.1).2.2,((d.1,d.2.2.2),d.2.1,d.2.2.1).1.2),((c.1,c.2.2.2),c.2.1,c.2.2.1).2):=by
 have I:=h.sb.n1;have J:TH (FQ L 0) E a:=h.t 0 (by simp);have hb:TH (FQ L 1) E b:=h.t 1 (by simp);have hc:TH (FQ L 2) E c:=h.t 2 (by simp);have hd:TH (FQ L 3) E d:=h.t 3 (by simp);refine cE ?_;unfold mo aU bI bu bD bF aW;refine aT (pS sy h.sb) ?_;refine bf (by simp;omega) (by omega) (bf (by simp;omega) (by omega) ?_);refine fg rfl (ba rfl (aR (aT (cW a E I J) ?_)));refine fg rfl (ba rfl (aR (aT (cW b E I hb) ?_)));refine fg rfl (ba rfl (aR (aT (cW c E I hc) ?_)));refine fg rfl (ba rfl (aR (aT (cW d E I hd) ?_)));exact fy rfl (al rfl)
theorem QN (sy:SY) (ce fu:List Int) (l:List TT) (h0:l.length<=4) (h:l.length≠4):mo (sy,ce,fu,l)=af:=by
 unfold mo aU bI bu bD bF aW;rcases l with _|⟨a,_|⟨b,_|⟨c,_|⟨d,_|⟨e,l⟩⟩⟩⟩⟩;all_goals first|(simp at h;done)|(exfalso;simp only[bV] at h0;omega)|simp[fE,jV,oa,qP,Zz,YS]
theorem WU {E:Nat} {L:List ET} (sy:SY) (ce fu:List Int) (a b c d:TT) (h:SV E L (sy,ce,fu,[a,b,c,d])) (hce:ce.length<=1000) (hfu:fu.length<=1000):mn (sy,ce,fu,[a,b,c,d])=aa ((sy.2.1,sy.1,sy.2.2.1,sy.2.2.2).1,(sy.2.1,sy.1,sy.2.2.1,sy.2.2.2).2.1,(sy.2.1,sy.1,sy.2.2.1,sy.2.2.2).2.2.1,(sy.2.1,sy.1,sy.2.2.1,sy.2.2.2).2.2.2,(([]:List Int)++ce),(([]:List Int)++fu),((((a.1,a.2.2.2),a.2.1,a.2.2.1).1.1,((a.1,a.2.2.2),a.2.1,a.2.2.1).2.1,((a.1,a.2.2.2),a.2.1,a.2.2.1).2.2,((a.1,a.2.2.2),a.2.1,a.2.2.1).1.2),(((b.1,b.2.2.2),b.2.1,b.2.2.1).1.1,((b.1,b.2.2.2),b.2.1,b.2.2.1).2.1,((b.1,b.2.2.2),b.2.1,b.2.2.1).2.2,((b.1,b.2.2.2),b.2.1,b.2.2.1).1.2),(((c.1,c.2.2.2),c.2.1,c.2.2.1).1.1,((c.1,c.2.2.2),c.2.1,c.2.2.1).2.1,((c.1,c.2.2.2),c.2.1,c.2.2.1).2.2,((c.1,c.2.2.2),c.2.1,c.2.2.1).1.2),((d.1,d.2.2.2),d.2.1,d.2.2.1).1),((d.1,d.2.2.2),d.2.1,d.2.2.1).2):=by
 have I:=h.sb.n1;have J:TH (FQ L 0) E a:=h.t 0 (by simp);have hb:TH (FQ L 1) E b:=h.t 1 (by simp);have hc:TH (FQ L 2) E c:=h.t 2 (by simp);have hd:TH (FQ L 3) E d:=h.t 3 (by simp);refine cE ?_;unfold mn aU bI bu bD bF aW;refine aT (pS sy h.sb) ?_;refine bf (by simp;omega) (by omega) (bf (by simp;omega) (by omega) ?_);refine fg rfl (ba rfl (aR (aT (cW a E I J) ?_)));refine fg rfl (ba rfl (aR (aT (cW b E I hb) ?_)));refine fg rfl (ba rfl (aR (aT (cW c E I hc) ?_)));refine fg rfl (ba rfl (aR (aT (cW d E I hd) ?_)));exact fy rfl (al rfl)
theorem QM (sy:SY) (ce fu:List Int) (l:List TT) (h0:l.length<=4) (h:l.length≠4):mn (sy,ce,fu,l)=af:=by
 unfold mn aU bI bu bD bF aW;rcases l with _|⟨a,_|⟨b,_|⟨c,_|⟨d,_|⟨e,l⟩⟩⟩⟩⟩;all_goals first|(simp at h;done)|(exfalso;simp only[bV] at h0;omega)|simp[fE,jV,oa,qP,Zz,YS]
theorem kdx (k:Int):k=1\/k=16\/k=2\/k=3\/k=23\/k=4\/k=22\/k=5\/((k=1)=False/\(k=16)=False/\(k=2)=False/\(k=3)=False/\(k=23)=False/\(k=4)=False/\(k=22)=False/\(k=5)=False):=by
 by_cases h:k=1\/k=16\/k=2\/k=3\/k=23\/k=4\/k=22\/k=5
 .omega
 .repeat (first|exact⟨eq_false (by omega),eq_false (by omega),eq_false (by omega),eq_false (by omega),eq_false (by omega),eq_false (by omega),eq_false (by omega),eq_false (by omega)⟩|refine Or.inr ?_)
def KR {Z:Type} (n:Nat) (I:CT) (L:List ET) (i:Nat) (u:Int) (l:List TT) (z:Z) (k:Int->(CT×SY×(Int×Int)×Int×(Int×Int×Int×Int×Int)×ET×(Int×Int)×(List Int)×(List Int)×Z×(List Int)×List (List Int))->Option (ST×ET×Bool)):Prop:=
 ∀ (F:Int->Prop) (p:Int) (sy:SY) (kd o v si:Int) (ds fs ce fu R:List Int) (T:List (List Int)) (ev:Int),
  (kd≠16->kd≠2->Ok (mD (aH (T:=uI) I.2 (i:Int),(p,R,T,bg .i64 (ev+1)))) λy=>TH F (n+1) y.1/\(y.1.2.1.length=0\/y.1.2.2.2=bg .i64 (ev+1)))->
  (kd=16\/kd=2->TH F (n+1) (p,R,T,bg .i64 (ev+1)))->
  (∀ t',TH F (n+1) t'->(t'.2.1.length=0\/t'.2.2.2=bg .i64 (ev+1)/\(kd=16->t'.1=p))->SQ n I L ((sy,ce,fu,l.set i t'),((i:Int),kd,o,v,si,ds,fs),ah))->(i:Int)<(I.2.length:Int)->
  ∀ J,Ok (k p (I,sy,((i:Int),u),0,(0,0,0,0,0),((i:Int),kd,o,v,si,ds,fs),(J,ev),ce,fu,z,R,T)) (SQ n I L)
theorem zU {Z:Type} (N i:Nat) {M:SY×(List Int)×(List Int)×List TT->Option (Int×(List (Int×List Int))×(List Bool)×(List (Int×Int×Bool))×(List Int)×(List Int)×Z×(List Int)×List (List Int))} {pc ev:Z->Int} {k:Int->(CT×SY×(Int×Int)×Int×(Int×Int×Int×Int×Int)×ET×(Int×Int)×(List Int)×(List Int)×Z×(List Int)×List (List Int))->Option (ST×ET×Bool)} {n:Nat} (hn:n+1<=100000) (I:CT) (L:List ET) (s:ST) (t u:Int) (hc:CB I) (hs:SV n L s) (hI:Jw I L s)
 (h0:∀ sy ce fu (l:List TT),l.length<=4->l.length≠N->M (sy,ce,fu,l)=af)
 (h1:∀ sy ce fu (l:List TT),SV n L (sy,ce,fu,l)->ce.length<=1000->fu.length<=1000->l.length=N->i<N/\∃ y,M (sy,ce,fu,l)=aa y/\y.2.2.2.2.1=ce/\y.2.2.2.2.2.1=fu/\y.2.2.2.2.2.2.2.1=(aH (T:=tF) l (i:Int)).2.1/\y.2.2.2.2.2.2.2.2=(aH (T:=tF) l (i:Int)).2.2.1/\pc y.2.2.2.2.2.2.1=(aH (T:=tF) l (i:Int)).1/\ev y.2.2.2.2.2.2.1=(aH (T:=tF) l (i:Int)).2.2.2/\KR n I L i u l y.2.2.2.2.2.2.1 k):
 Nv (SG (i:Int) M pc ev k (I,s,t,u)) (SQ n I L)/\(s.2.2.2.length=N->t=(i:Int)->Ok (SG (i:Int) M pc ev k (I,s,t,u)) (SQ n I L)):=by
 by_cases hz:s.2.2.2.length=N/\t=(i:Int)
 .obtain⟨U,rfl⟩:=hz;suffices h:Ok (SG (i:Int) M pc ev k (I,s,(i:Int),u)) (SQ n I L) from ⟨.inr h,λ_ _=>h⟩
  unfold SG CM Prod.p11 Prod.p12 aU bk bt ct em ka yz Ba Prod.q10 Prod.q11 Prod.q13 bI dh lY Prod.q9 ck bc bF kK aD;refine Gs hn hc hs hI (λo=>Ok o (SQ n I L)) (λy h=>al h) _ λe v sy hp hm he hr ha hq=>?_
  obtain⟨sy0,ce,fu,l⟩:=s;obtain⟨e1,kd,o,e4,site,ds,fs⟩:=e;have het:=hp.et;dsimp only at U he hr ha hq het;subst het;have vl:=hp.fs.vc.vl;have hce:=hp.fs.ce;have hfu:=hp.fs.fu;dsimp only at hce hfu;obtain⟨hiN,⟨q1,q2,q3,q4,ce',fu',z,R0,T0⟩,hcp,g1,g2,g3,g4,hpc,hve,hk⟩:=h1 sy0 ce fu l hs (by have:=vl.c;omega) (by have:=vl.f;omega) U;dsimp only at g1 g2 g3 g4 hpc hve hk;rw[g1,g2,g3,g4] at hcp;obtain⟨_,_,nmce,_,_,_,nmfu,_,_,_⟩:=id he.nm;have t1:(i:Int)<(I.2.length:Int):=hp.t1;have htf:TF (aH (T:=uI) I.2 (i:Int)) (aH (T:=tF) l (i:Int)):=hp.fs.t i (by omega);have hA:=hp.a;have Y:=hp.b;dsimp only at hA Y;have hvt:=hp.fs.vc.t _ (bH (T:=uI) (xs:=I.2) (j:=(i:Int)) (by omega) t1);have hci:=hc.ins _ (bH (T:=uI) (xs:=I.2) (j:=(i:Int)) (by omega) t1);have hth:TH (FQ L (i:Int)) n (aH (T:=tF) l (i:Int)):=hs.t i (by dsimp only;omega);have done:=aba hn hs hI hp hm he hr ha;have htg:=hm.tg;have hrun:=hr.r;dsimp only at done htg;have hgv:kd=3\/kd=23->FQ (L++[((i:Int),kd,o,e4,site,ds,fs)]) (i:Int) (aH (T:=tF) l (i:Int)).2.2.2:=λh3=>by
   have h2:=hrun (by omega) (by omega);have hn0:¬(fl L (i:Int)).length=0:=λh=>(htg.nw h).elim (λg=>cX (h2.symm.trans g) (by decide)) λg=>cX (h2.symm.trans g) (by decide)
   refine ⟨by rw[htg.ev];omega,Jl.last (e:=((i:Int),kd,o,e4,site,ds,fs)) ?_ htg.ev⟩;unfold rZ;rcases h3 with h|h
   .rw[aP h];rfl
   .simp[h]
  have vaA:¬kd=3->¬kd=23->¬kd=5->VA I.1 sy0 ce fu (i:Int) kd o v:=λa b c=>⟨λh=>(a h).elim,λh=>(b h).elim,λh=>(c h).elim,λ_ _ _ _ _=>by rw[Qo hq]⟩
  have apA:(uz I.1 sy0 (i:Int) kd o v).1=sy:=by rw[Qo hq]
  have apB:¬kd=18->∀ v',(uz I.1 sy0 (i:Int) kd o v').1=sy:=λh v'=>by rw[UW _ _ _ _ _ _ u h,<-hq]
  have keep:∀ x∈(aH (T:=tF) l (i:Int)).2.2.1,TL (FQ (L++[((i:Int),kd,o,e4,site,ds,fs)]) (i:Int)) (n+1) x:=λx hx=>(hth.l x hx).mono (by omega) λy J=>⟨J.1,J.2.app _⟩
  clear g3 g4 hm hI hrun htg;revert done hgv keep;generalize FQ (L++[((i:Int),kd,o,e4,site,ds,fs)]) (i:Int)=F;generalize aH (T:=tF) l (i:Int)=th at hcp hpc hve htf hA Y hth ⊢;intro done hgv keep;refine aT hcp ?_;dsimp only;rw[hpc,hve];refine fg (aP rfl) ?_;refine aQ (by omega) t1 (aR (aQ htf.p0 htf.p1 (aR ?_)));have htz:th.2.2.1.length=th.2.1.length:=by have:=htf.r;have:=htf.t;omega
  have fin:∀ (p:Int) (R:List Int) (T:List (List Int)),R.length=th.2.1.length->T.length=th.2.2.1.length->(∀ x∈T,TL F (n+1) x)->Ok (mD (aH (T:=uI) I.2 (i:Int),(p,R,T,bg .i64 (th.2.2.2+1)))) λy=>TH F (n+1) y.1/\(y.1.2.1.length=0\/y.1.2.2.2=bg .i64 (th.2.2.2+1)):=λp R T h1 h2 h3=>by
   have a1:=hth.e0;have a2:=hth.e1;have a3:=hth.r;have a4:=hth.t;rw[ie (n:=th.2.2.2+1) (by omega) (by omega)];exact WC (n+1) hn _ hci hvt _ ⟨by dsimp only;omega,by dsimp only;omega,h3,by dsimp only;omega,by dsimp only;omega⟩
  have mark:kd=3\/kd=23->∀ j:Int,∀ x∈cJ th.2.2.1 j [th.2.2.2],TL F (n+1) x:=λh3 j x hx=>by
   rcases Bk hx with h|h
   .exact keep x h
   .rw[h];exact⟨⟨λy J=>(by cases J),trivial⟩,λy J=>by rw[aK] at J;have:=hth.e0;have:=hth.e1;rw[J];exact⟨by omega,by omega⟩,λy J=>by rw[aK] at J;rw[J];exact hgv h3⟩
  have nopark:TH F (n+1) (th.1,th.2.1,th.2.2.1,bg .i64 (th.2.2.2+1)):=by
   have a1:=hth.e0;have a2:=hth.e1;rw[ie (n:=th.2.2.2+1) (by omega) (by omega)];exact⟨hth.r,hth.t,keep,by dsimp only;omega,by dsimp only;omega⟩
  clear hp hs hc h0 h1 hcp g1 g2 hr ha hq he;generalize (aH (T:=Aa) (aH (T:=uI) I.2 (i:Int)).2 th.1)=ins at hA Y ⊢;rcases kdx kd with rfl|rfl|rfl|rfl|rfl|rfl|rfl|rfl|⟨k1,k2,k3,k4,k5,k6,k7,k8⟩
  case inr.inr.inr.inr.inr.inr.inr.inr=>
   simp only[k1,k2,k3,k4,k5,k6,k7,k8,aV,bi,rR];refine hk F _ _ _ _ _ _ _ _ _ _ _ _ _ (λ_ _=>fin _ _ _ rfl rfl keep) (λh=>by rw[k2,k3] at h;exact (h.elim id id).elim) (λt' h g=>?_) t1 _;exact done v ce fu t' apA (vaA (of_eq_false k4) (of_eq_false k5) (of_eq_false k8)) (aC (of_eq_false k6)).symm (aC (of_eq_false k7)).symm h (g.imp id λh=>⟨h.1,λh2=>(of_eq_false k2 h2).elim⟩)
  all_goals simp only[aV,bi,rR]
  .refine hk F _ _ _ _ _ _ _ _ _ _ _ _ _ (λ_ _=>fin _ _ _ rfl rfl keep) (λh=>by omega) (λt' h g=>?_) t1 _;exact done v ce fu t' apA (vaA (by decide) (by decide) (by decide)) rfl rfl h (g.imp id λh=>⟨h.1,λh2=>(by cases h2)⟩)
  .refine hk F _ _ _ _ _ _ _ _ _ _ _ _ _ (λh _=>(h rfl).elim) (λ_=>nopark) (λt' h g=>?_) t1 _;exact done v ce fu t' apA (vaA (by decide) (by decide) (by decide)) rfl rfl h g
  .refine hk F _ _ _ _ _ _ _ _ _ _ _ _ _ (λ_ h=>(h rfl).elim) (λ_=>nopark) (λt' h g=>?_) t1 _;exact done v ce fu t' apA (vaA (by decide) (by decide) (by decide)) rfl rfl h (g.imp id λh=>⟨h.1,λh2=>(by cases h2)⟩)
  .obtain⟨o0,o1⟩:=nmce (.inl rfl);rw[<- hce] at o1;obtain⟨a0,a1⟩:=hA (.inl rfl);have a2:ins.2.1<(th.2.2.1.length:Int):=by rw[htz];exact a1
   refine gE (aQ o0 o1 (aQ o0 o1 (al ?_)));simp only[aV,bi,rR];refine gE (aQ a0 a1 (aQ a0 a1 (aQ a0 a2 (aQ a0 a2 (al ?_)))));refine hk F _ _ _ _ _ _ _ _ _ _ _ _ _ (λ_ _=>fin _ _ _ (bU ..) (bU ..) (mark (.inl rfl) _)) (λh=>by omega) (λt' h g=>?_) t1 _;exact done _ ce fu t' (apB (by decide) _) ⟨λ_=>rfl,λh=>(by cases h),λh=>(by cases h),λh=>(h rfl).elim⟩ rfl rfl h (g.imp id λh=>⟨h.1,λh2=>(by cases h2)⟩)
  .obtain⟨o0,o1⟩:=nmfu (.inr rfl);rw[<- hfu] at o1;obtain⟨a0,a1⟩:=hA (.inr (.inl rfl));have a2:ins.2.1<(th.2.2.1.length:Int):=by rw[htz];exact a1
   refine gE (aQ o0 o1 (aQ o0 o1 (al ?_)));simp only[aV,bi,rR];refine gE (aQ a0 a1 (aQ a0 a1 (aQ a0 a2 (aQ a0 a2 (al ?_)))));refine hk F _ _ _ _ _ _ _ _ _ _ _ _ _ (λ_ _=>fin _ _ _ (bU ..) (bU ..) (mark (.inr rfl) _)) (λh=>by omega) (λt' h g=>?_) t1 _;exact done _ ce fu t' (apB (by decide) _) ⟨λh=>(by cases h),λ_=>rfl,λh=>(by cases h),λ_ h=>(h rfl).elim⟩ rfl rfl h (g.imp id λh=>⟨h.1,λh2=>(by cases h2)⟩)
  .obtain⟨o0,o1⟩:=nmce (.inr rfl);rw[<- hce] at o1;obtain⟨a0,a1⟩:=Y (.inl rfl);refine gE (aQ a0 a1 (aQ a0 a1 (aQ o0 o1 (aQ o0 o1 (al ?_)))));simp only[aV,bi,rR];refine hk F _ _ _ _ _ _ _ _ _ _ _ _ _ (λ_ _=>fin _ _ _ rfl rfl keep) (λh=>by omega) (λt' h g=>?_) t1 _;exact done _ _ fu t' (apB (by decide) _) ⟨λh=>(by cases h),λh=>(by cases h),λh=>(by cases h),λ_ _ _ h=>(h rfl).elim⟩ rfl rfl h (g.imp id λh=>⟨h.1,λh2=>(by cases h2)⟩)
  .obtain⟨o0,o1⟩:=nmfu (.inl rfl);rw[<- hfu] at o1;obtain⟨a0,a1⟩:=Y (.inr rfl);refine gE (aQ a0 a1 (aQ a0 a1 (aQ o0 o1 (aQ o0 o1 (al ?_)))));simp only[aV,bi,rR];refine hk F _ _ _ _ _ _ _ _ _ _ _ _ _ (λ_ _=>fin _ _ _ rfl rfl keep) (λh=>by omega) (λt' h g=>?_) t1 _;exact done _ ce _ t' (apB (by decide) _) ⟨λh=>(by cases h),λh=>(by cases h),λh=>(by cases h),λ_ _ _ _ h=>(h rfl).elim⟩ rfl rfl h (g.imp id λh=>⟨h.1,λh2=>(by cases h2)⟩)
  .obtain⟨a0,a1⟩:=hA (.inr (.inr rfl));refine gE (aQ a0 a1 (aQ a0 a1 (aI (λ_=>al ?_) λ_=>al ?_)));all_goals
    simp only[aV,bi,rR];refine hk F _ _ _ _ _ _ _ _ _ _ _ _ _ (λ_ _=>fin _ _ _ rfl rfl keep) (λh=>by omega) (λt' h g=>?_) t1 _;exact done _ ce fu t' (apB (by decide) _) ⟨λh=>(by cases h),λh=>(by cases h),λ_=>(by decide),λ_ _ h=>(h rfl).elim⟩ rfl rfl h (g.imp id λh=>⟨h.1,λh2=>(by cases h2)⟩)
 .refine ⟨?_,λh1 h2=>(hz ⟨h1,h2⟩).elim⟩;unfold SG CM Prod.p11 Prod.p12 aU bk bt ct em ka yz Ba Prod.q10 Prod.q11 Prod.q13 bI dh lY Prod.q9 ck bc bF kK aD;refine Gs hn hc hs hI (λo=>Nv o (SQ n I L)) (λy h=>.inr (al h)) _ λe v sy hp _ _ _ _ _=>.inl ?_
  obtain⟨sy0,ce,fu,l⟩:=s;have vl:=hp.fs.vc.vl;by_cases hl:l.length=N
  .have ht:¬t=(i:Int):=λh=>hz ⟨hl,h⟩
   dsimp only;cases M (sy0,ce,fu,l) with
   |none=>rfl
   |some y=>rw[Uj,bL ht];rfl
  .show obind (M (sy0,ce,fu,l)) _=af;rw[h0 sy0 ce fu l (by have h1:l.length=I.2.length:=hp.fs.th;have:=hp.fs.vc.tl;have:=vl.t;omega) hl];rfl
theorem zV {Z W V:Type} {n:Nat} {U:CT} {L:List ET} {i:Nat} {u:Int} {l:List TT} {z:Z} {t1:Z->List Int->List (List Int)->W} {J:W->V} {I:V->TT->List TT} (Y:∀ R T t',I (J (t1 z R T)) t'=l.set i t'):KR n U L i u l z (KG (i:Int) t1 J I):=by
 intro F p sy kd o v si ds fs ce fu R T ev fin park done ht pc;unfold KG CM aU bk bt ct em ka yz Ba Prod.q10 Prod.q11 pg bc iO bF aD cz;dsimp only;have done:∀ t',TH F (n+1) t'->(t'.2.1.length=0\/t'.2.2.2=bg .i64 (ev+1)/\(kd=16->t'.1=p))->SQ n U L ((sy,ce,fu,I (J (t1 z R T)) t'),((i:Int),kd,o,v,si,ds,fs),ah):=λt' h g=>by rw[Y];exact done t' h g
 by_cases h1:kd=16
 .subst h1;exact gE (gE (fy rfl (al (fy rfl (al (fg (aP rfl) (al (done _ (park (.inl rfl)) (.inr ⟨rfl,λ_=>rfl⟩)))))))))
 by_cases h2:kd=2
 .subst h2;exact gE (gE (fg rfl (al (fy rfl (al (fg (aP rfl) (al (done _ (park (.inr rfl)) (.inr ⟨rfl,λh=>(by cases h)⟩)))))))))
 rw[bL h1,bL h2];exact gE (gE (fg rfl (al (fg rfl (aQ (ef i) ht (aR (aw (fin h1 h2) λy M=>al (fg (aP rfl) (al (done _ M.1 (M.2.imp id λh=>⟨h,λh2=>(h1 h2).elim⟩)))))))))))
theorem Ws {n:Nat} (hn:n+1<=100000) (I:CT) (L:List ET) (s:ST) (t u:Int) (hc:CB I) (hs:SV n L s) (J:Jw I L s):Nv (mm (I,s,t,u)) (SQ n I L)/\(s.2.2.2.length=4->t=0->Ok (mm (I,s,t,u)) (SQ n I L)):=by
 refine zU 4 0 hn I L s t u hc hs J QP λsy ce fu l hs hce hfu hl=>⟨by decide,?_⟩
 obtain⟨a,b,c,d,rfl⟩:∃ a b c d,l=[a,b,c,d]:=by
  rcases l with _|⟨a,_|⟨b,_|⟨c,_|⟨d,_|⟨e,l⟩⟩⟩⟩⟩;all_goals first|exact⟨_,_,_,_,rfl⟩|(simp at hl;done)|(exfalso;simp only[bV] at hl;omega)
 refine ⟨_,WZ sy ce fu a b c d hs hce hfu,rfl,rfl,rfl,rfl,rfl,rfl,zV λR T t'=>rfl⟩
theorem Wr {n:Nat} (hn:n+1<=100000) (I:CT) (L:List ET) (s:ST) (t u:Int) (hc:CB I) (hs:SV n L s) (J:Jw I L s):Nv (ml (I,s,t,u)) (SQ n I L)/\(s.2.2.2.length=4->t=1->Ok (ml (I,s,t,u)) (SQ n I L)):=by
 refine zU 4 1 hn I L s t u hc hs J QO λsy ce fu l hs hce hfu hl=>⟨by decide,?_⟩
 obtain⟨a,b,c,d,rfl⟩:∃ a b c d,l=[a,b,c,d]:=by
  rcases l with _|⟨a,_|⟨b,_|⟨c,_|⟨d,_|⟨e,l⟩⟩⟩⟩⟩;all_goals first|exact⟨_,_,_,_,rfl⟩|(simp at hl;done)|(exfalso;simp only[bV] at hl;omega)
 refine ⟨_,WY sy ce fu a b c d hs hce hfu,rfl,rfl,rfl,rfl,rfl,rfl,zV λR T t'=>rfl⟩
theorem Wq {n:Nat} (hn:n+1<=100000) (I:CT) (L:List ET) (s:ST) (t u:Int) (hc:CB I) (hs:SV n L s) (J:Jw I L s):Nv (kM (I,s,t,u)) (SQ n I L)/\(s.2.2.2.length=4->t=2->Ok (kM (I,s,t,u)) (SQ n I L)):=by
 refine zU 4 2 hn I L s t u hc hs J QN λsy ce fu l hs hce hfu hl=>⟨by decide,?_⟩
 obtain⟨a,b,c,d,rfl⟩:∃ a b c d,l=[a,b,c,d]:=by
  rcases l with _|⟨a,_|⟨b,_|⟨c,_|⟨d,_|⟨e,l⟩⟩⟩⟩⟩;all_goals first|exact⟨_,_,_,_,rfl⟩|(simp at hl;done)|(exfalso;simp only[bV] at hl;omega)
 refine ⟨_,WV sy ce fu a b c d hs hce hfu,rfl,rfl,rfl,rfl,rfl,rfl,zV λR T t'=>rfl⟩
theorem Wp {n:Nat} (hn:n+1<=100000) (I:CT) (L:List ET) (s:ST) (t u:Int) (hc:CB I) (hs:SV n L s) (J:Jw I L s):Nv (jN (I,s,t,u)) (SQ n I L)/\(s.2.2.2.length=4->t=3->Ok (jN (I,s,t,u)) (SQ n I L)):=by
 refine zU 4 3 hn I L s t u hc hs J QM λsy ce fu l hs hce hfu hl=>⟨by decide,?_⟩
 obtain⟨a,b,c,d,rfl⟩:∃ a b c d,l=[a,b,c,d]:=by
  rcases l with _|⟨a,_|⟨b,_|⟨c,_|⟨d,_|⟨e,l⟩⟩⟩⟩⟩;all_goals first|exact⟨_,_,_,_,rfl⟩|(simp at hl;done)|(exfalso;simp only[bV] at hl;omega)
 refine ⟨_,WU sy ce fu a b c d hs hce hfu,rfl,rfl,rfl,rfl,rfl,rfl,zV λR T t'=>rfl⟩
theorem Wv {n:Nat} (hn:n+1<=100000) (I:CT) (L:List ET) (s:ST) (t u:Int) (hc:CB I) (hs:SV n L s) (J:Jw I L s):Nv (iY (I,s,t,u)) (SQ n I L)/\(s.2.2.2.length=3->t=0->Ok (iY (I,s,t,u)) (SQ n I L)):=by
 refine zU 3 0 hn I L s t u hc hs J QU λsy ce fu l hs hce hfu hl=>⟨by decide,?_⟩
 obtain⟨a,b,c,rfl⟩:∃ a b c,l=[a,b,c]:=by
  rcases l with _|⟨a,_|⟨b,_|⟨c,_|⟨d,_|⟨e,l⟩⟩⟩⟩⟩;all_goals first|exact⟨_,_,_,rfl⟩|(simp at hl;done)|(exfalso;simp only[bV] at hl;omega)
 refine ⟨_,W3 sy ce fu a b c hs hce hfu,rfl,rfl,rfl,rfl,rfl,rfl,zV λR T t'=>rfl⟩
theorem Wu {n:Nat} (hn:n+1<=100000) (I:CT) (L:List ET) (s:ST) (t u:Int) (hc:CB I) (hs:SV n L s) (J:Jw I L s):Nv (il (I,s,t,u)) (SQ n I L)/\(s.2.2.2.length=3->t=1->Ok (il (I,s,t,u)) (SQ n I L)):=by
 refine zU 3 1 hn I L s t u hc hs J QR λsy ce fu l hs hce hfu hl=>⟨by decide,?_⟩
 obtain⟨a,b,c,rfl⟩:∃ a b c,l=[a,b,c]:=by
  rcases l with _|⟨a,_|⟨b,_|⟨c,_|⟨d,_|⟨e,l⟩⟩⟩⟩⟩;all_goals first|exact⟨_,_,_,rfl⟩|(simp at hl;done)|(exfalso;simp only[bV] at hl;omega)
 refine ⟨_,W2 sy ce fu a b c hs hce hfu,rfl,rfl,rfl,rfl,rfl,rfl,zV λR T t'=>rfl⟩
theorem Wt {n:Nat} (hn:n+1<=100000) (I:CT) (L:List ET) (s:ST) (t u:Int) (hc:CB I) (hs:SV n L s) (J:Jw I L s):Nv (gO (I,s,t,u)) (SQ n I L)/\(s.2.2.2.length=3->t=2->Ok (gO (I,s,t,u)) (SQ n I L)):=by
 refine zU 3 2 hn I L s t u hc hs J QQ λsy ce fu l hs hce hfu hl=>⟨by decide,?_⟩
 obtain⟨a,b,c,rfl⟩:∃ a b c,l=[a,b,c]:=by
  rcases l with _|⟨a,_|⟨b,_|⟨c,_|⟨d,_|⟨e,l⟩⟩⟩⟩⟩;all_goals first|exact⟨_,_,_,rfl⟩|(simp at hl;done)|(exfalso;simp only[bV] at hl;omega)
 refine ⟨_,W1 sy ce fu a b c hs hce hfu,rfl,rfl,rfl,rfl,rfl,rfl,zV λR T t'=>rfl⟩
theorem Wx {n:Nat} (hn:n+1<=100000) (I:CT) (L:List ET) (s:ST) (t u:Int) (hc:CB I) (hs:SV n L s) (J:Jw I L s):Nv (gi (I,s,t,u)) (SQ n I L)/\(s.2.2.2.length=2->t=0->Ok (gi (I,s,t,u)) (SQ n I L)):=by
 refine zU 2 0 hn I L s t u hc hs J QW λsy ce fu l hs hce hfu hl=>⟨by decide,?_⟩
 obtain⟨a,b,rfl⟩:∃ a b,l=[a,b]:=by
  rcases l with _|⟨a,_|⟨b,_|⟨c,_|⟨d,_|⟨e,l⟩⟩⟩⟩⟩;all_goals first|exact⟨_,_,rfl⟩|(simp at hl;done)|(exfalso;simp only[bV] at hl;omega)
 refine ⟨_,W6 sy ce fu a b hs hce hfu,rfl,rfl,rfl,rfl,rfl,rfl,zV λR T t'=>rfl⟩
theorem Ww {n:Nat} (hn:n+1<=100000) (I:CT) (L:List ET) (s:ST) (t u:Int) (hc:CB I) (hs:SV n L s) (J:Jw I L s):Nv (fJ (I,s,t,u)) (SQ n I L)/\(s.2.2.2.length=2->t=1->Ok (fJ (I,s,t,u)) (SQ n I L)):=by
 refine zU 2 1 hn I L s t u hc hs J QV λsy ce fu l hs hce hfu hl=>⟨by decide,?_⟩
 obtain⟨a,b,rfl⟩:∃ a b,l=[a,b]:=by
  rcases l with _|⟨a,_|⟨b,_|⟨c,_|⟨d,_|⟨e,l⟩⟩⟩⟩⟩;all_goals first|exact⟨_,_,rfl⟩|(simp at hl;done)|(exfalso;simp only[bV] at hl;omega)
 refine ⟨_,W5 sy ce fu a b hs hce hfu,rfl,rfl,rfl,rfl,rfl,rfl,zV λR T t'=>rfl⟩
theorem Wy {n:Nat} (hn:n+1<=100000) (I:CT) (L:List ET) (s:ST) (t u:Int) (hc:CB I) (hs:SV n L s) (J:Jw I L s):Nv (fK (I,s,t,u)) (SQ n I L)/\(s.2.2.2.length=1->t=0->Ok (fK (I,s,t,u)) (SQ n I L)):=by
 refine zU 1 0 hn I L s t u hc hs J QX λsy ce fu l hs hce hfu hl=>⟨by decide,?_⟩
 obtain⟨a,rfl⟩:∃ a,l=[a]:=by
  rcases l with _|⟨a,_|⟨b,_|⟨c,_|⟨d,_|⟨e,l⟩⟩⟩⟩⟩;all_goals first|exact⟨_,rfl⟩|(simp at hl;done)|(exfalso;simp only[bV] at hl;omega)
 refine ⟨_,W7 sy ce fu a hs hce hfu,rfl,rfl,rfl,rfl,rfl,rfl,zV λR T t'=>rfl⟩
theorem Wz {n:Nat} (hn:n+1<=100000) (c:CT) (L:List ET) (s:ST) (t u:Int) (hc:CB c) (hs:SV n L s) (Z:Jw c L s):Ok (yH (c,s,t,u)) (SQ n c L):=by
 unfold yH;have I:=Ws hn c L s t u hc hs Z;have J:=Wr hn c L s t u hc hs Z;have M:=Wq hn c L s t u hc hs Z;have U:=Wp hn c L s t u hc hs Z;have Y:=Wv hn c L s t u hc hs Z;have a31:=Wu hn c L s t u hc hs Z;have a32:=Wt hn c L s t u hc hs Z;have a20:=Wx hn c L s t u hc hs Z;have a21:=Ww hn c L s t u hc hs Z;have a10:=Wy hn c L s t u hc hs Z;by_cases hz:s.2.2.2.length<=4/\0<=t/\t<(s.2.2.2.length:Int)
 .obtain⟨h1,h2,h3⟩:=hz;have:(s.2.2.2.length=4/\t=0)\/(s.2.2.2.length=4/\t=1)\/(s.2.2.2.length=4/\t=2)\/(s.2.2.2.length=4/\t=3)\/(s.2.2.2.length=3/\t=0)\/(s.2.2.2.length=3/\t=1)\/(s.2.2.2.length=3/\t=2)\/(s.2.2.2.length=2/\t=0)\/(s.2.2.2.length=2/\t=1)\/(s.2.2.2.length=1/\t=0):=by omega
  rcases this with h|h|h|h|h|h|h|h|h|h
  .exact (I.2 h.1 h.2).orL
  .exact I.1.orR (J.2 h.1 h.2).orL
  .exact I.1.orR (J.1.orR (M.2 h.1 h.2).orL)
  .exact I.1.orR (J.1.orR (M.1.orR (U.2 h.1 h.2).orL))
  .exact I.1.orR (J.1.orR (M.1.orR (U.1.orR (Y.2 h.1 h.2).orL)))
  .exact I.1.orR (J.1.orR (M.1.orR (U.1.orR (Y.1.orR (a31.2 h.1 h.2).orL))))
  .exact I.1.orR (J.1.orR (M.1.orR (U.1.orR (Y.1.orR (a31.1.orR (a32.2 h.1 h.2).orL)))))
  .exact I.1.orR (J.1.orR (M.1.orR (U.1.orR (Y.1.orR (a31.1.orR (a32.1.orR (a20.2 h.1 h.2).orL))))))
  .exact I.1.orR (J.1.orR (M.1.orR (U.1.orR (Y.1.orR (a31.1.orR (a32.1.orR (a20.1.orR (a21.2 h.1 h.2).orL)))))))
  .exact I.1.orR (J.1.orR (M.1.orR (U.1.orR (Y.1.orR (a31.1.orR (a32.1.orR (a20.1.orR (a21.1.orR (a10.2 h.1 h.2)))))))))
 .refine Ok.orL ?_;unfold mm aU bk dh;refine Gs hn hc hs Z (λo=>Ok o (SQ n c L)) (λy h=>al h) _ λe v sy hp _ _ _ _ _=>(hz ?_).elim
  have h1:s.2.2.2.length=c.2.length:=hp.fs.th;have h2:c.2.length=c.1.2.2.2.2.1.length:=hp.fs.vc.tl;have h3:c.1.2.2.2.2.1.length<=4:=hp.fs.vc.vl.t;have h4:0<=t:=hp.t0;have h5:t<(c.2.length:Int):=hp.t1;exact⟨by omega,h4,by omega⟩
theorem aaa (c:CT) (s:ST) (l:List (Int×Int)) (hc:CB c) (hs:SV 0 [] s) (hI:Jw c [] s) (hl:l.length<=9223372036854775806):Ok (uQ (c,s,l)) λy=>y.1.length<=400/\(∀ e∈y.1,EvF c.1 e/\WS e)/\∃ sy ce fu,ZD c.1 y.1 sy ce fu:=by
 unfold uQ aU bk dh bu bD bF aW cK aD cz;refine pl (λx=>((l.length:Int)-x.1).toNat) (λx=>0<=x.1/\x.2.2.1=c/\SV x.2.1.length x.2.1 x.2.2.2.1/\Jw c x.2.1 x.2.2.2.1/\x.2.1.length<=400/\∀ e∈x.2.1,EvF c.1 e/\WS e) ?_ ⟨eP _,rfl,hs,hI,by simp,λe he=>(by cases he)⟩;rintro⟨(i:Int),es,c',s',z⟩ ⟨U,e1,e2,eI,e3,I⟩;dsimp only at U e1 e2 eI e3 I;subst e1;refine aX (λx=>x.2=(es,c',s',z)/\(x.1=ah->i<(l.length:Int)/\es.length<400)) ?_ ?_
 .refine bA (λg=>al ⟨rfl,λh=>⟨g,?_⟩⟩) λ_=>al ⟨rfl,λh=>(by cases h)⟩
  dsimp only at h;rw[sg] at h;dsimp only[ar] at h;omega
 rintro⟨b,x⟩ ⟨Z,Y⟩;dsimp only at Z Y;subst Z;refine aO (λh=>?_) λ_=>al ⟨e3,I,_,_,_,eI.ac⟩
 obtain⟨g1,g2⟩:=Y h;refine aX (λx=>x.2.1=c'/\SV x.1.length x.1 x.2.2.1/\Jw c' x.1 x.2.2.1/\x.1.length<=400/\∀ e∈x.1,EvF c'.1 e/\WS e) ?_ ?_
 .refine aQ U g1 (aR ?_);refine aw (Wz (n:=es.length) (by omega) c' es s' _ _ hc e2 eI) λy hy=>?_
  refine aO (λh=>?_) λ_=>al ⟨rfl,e2,eI,e3,I⟩
  obtain⟨h1,hJ,h2,h3⟩:=hy h;refine bf (by simp;omega) (by omega) (al ⟨rfl,?_,hJ,by simp;omega,λe he=>?_⟩)
  .dsimp only;rw[bn,gf];exact h1
  .rcases bR.1 he with he|he
   .exact I e he
   .rw[aK] at he;subst he;exact⟨h2,h3⟩
 rintro⟨es',c2,s2,z2⟩ ⟨k1,k2,kI,M,J⟩;dsimp only at k1 k2 kI M J;subst k1;refine al ?_;dsimp only;rw[ie (n:=i+1) (by omega) (by omega)];exact⟨⟨by omega,rfl,k2,kI,M,J⟩,by omega⟩
theorem CB.vc {c:CT} (hc:CB c):VC c:=by
 obtain⟨b,h1,h2⟩:=Qv c hc.th hc.ins;rw[hc.ok] at h1;cases h1;exact h2 rfl
theorem aek (c:CT) (l:List (Int×Int)) (hc:CB c) (hl:l.length<=9223372036854775806):Ok (xz (c,l)) λy=>TR y.1:=by
 unfold xz;refine aT hc.ok (dW (λh=>(by cases h)) λ_=>?_);have hv:=hc.vc;refine aw (Tw c hc.ok hv) λs hs=>?_
 refine aw (aaa c s l hc hs.1 hs.2 hl) λy I=>al ?_
 exact⟨hv.vl.wb,hv.vl,λe he=>(I.2.1 e he).1,by have:=I.1;dsimp only;omega,λe he=>(I.2.1 e he).2,hc.wx,I.2.2⟩
theorem TK (l:List Int) (hl:l.length<=1000000):Ok (n_ l) λy=>y.length=l.length:=by
 unfold n_ bu bD bF aW cK aD cz;refine cf l.length (λi x=>x.1=(i:Int)/\x.2.length=i) ?_ ?_ ⟨rfl,rfl⟩
 .rintro i ⟨a,b⟩ hi ⟨e1,e2⟩;dsimp only at e1 e2;subst e1;refine dl ?_;refine cw (aR (cw (aR (bf (by simp;omega) (by omega) (al ?_)))));dsimp only;exact⟨gK (by omega),by simp;omega⟩
 .rintro⟨a,b⟩ ⟨e1,e2⟩;dsimp only at e1 e2;subst e1;exact dc (al e2)
theorem eS (e:Xp):dP (Xp.op e,Xp.n e,Xp.name e,Xp.l e)=e:=by cases e;rfl
theorem xr (s:Sx):m_ (Sx.op s,Sx.line s,Sx.name s,Sx.arg s,Sx.index s,Sx.expr s,Sx.body s,Sx.els s)=s:=by cases s;rfl
abbrev NV:List (List UInt8):=[[97],[98],[120],[121],[118]]
def GE:Nat->Xp->Prop
 |0,_=>False
 |d+1,e=>(e.op=3->e.name=[113])/\(e.op≠1->e.op≠2->1<=e.l.length)/\e.l.length<=2/\(∀ x∈e.l,GE d x)/\(e.op=2->e.name∈NV)/\(e.op≠1->e.op≠2->e.op≠3->2<=e.l.length/\6<=e.op/\e.op<=18)
theorem GE.mono:∀ {d:Nat} {e:Xp},GE d e->GE (d+1) e
 |0,_,h=>h.elim
 |_+1,_,h=>⟨h.1,h.2.1,h.2.2.1,λx I=>(h.2.2.2.1 x I).mono,h.2.2.2.2⟩
theorem GE.le {d k:Nat} {e:Xp} (h:GE d e) (hk:d<=k):GE k e:=by
 induction hk with
 |refl=>exact h
 |step _ I=>exact I.mono
theorem L8 (n:Int):qv n=aa (.mk 1 n [] []):=rfl
theorem F3 (s:List UInt8):oM s=aa (.mk 2 0 s []):=rfl
theorem DS (o:Int) (a b:Xp):m8 (o,a,b)=aa (.mk o 0 [] [a,b]):=by
 cases a;cases b;rfl
theorem sH (s:List UInt8) (e:Xp):iW (s,e)=aa (.mk 1 0 s [] [] e [] []):=by
 cases e;rfl
abbrev MK:Type:=Int×Int×Bool×Bool×Bool×Bool
abbrev Nh:Type:=List Int×Int
abbrev HD:Type:=Bool×List (List UInt8)
theorem GE.num (n:Int) (d:Nat):GE (d+1) (.mk 1 n [] []):=⟨λh=>(by cases h),λh=>(h rfl).elim,by simp[Xp.l],λx I=>(by cases I),λh=>(by cases h),λh=>(h rfl).elim⟩
theorem GE.nm {s:List UInt8} (hs:s∈NV) (d:Nat):GE (d+1) (.mk 2 0 s []):=⟨λh=>(by cases h),λ_ h=>(h rfl).elim,by simp[Xp.l],λx I=>(by cases I),λ_=>hs,λ_ h=>(h rfl).elim⟩
theorem GE.bin {o:Int} {a b:Xp} {d:Nat} (J:6<=o/\o<=18) (M:GE d a) (hb:GE d b):GE (d+1) (.mk o 0 [] [a,b]):=
 ⟨λh=>(by have h:o=3:=h;omega),λ_ _=>by simp[Xp.l],by simp[Xp.l],λx I=>by
   simp only[Xp.l,bh,cj,fM] at I;rcases I with rfl|rfl
   .exact M
   .exact hb,λh=>(by have h:o=2:=h;omega),λ_ _ _=>⟨by simp[Xp.l],J⟩⟩
theorem GE.ix {a:Xp} {d:Nat} (J:GE d a):GE (d+1) (.mk 3 0 [113] [a]):=
 ⟨λ_=>rfl,λ_ _=>by simp[Xp.l],by simp[Xp.l],λx I=>by
   simp only[Xp.l,bh,cj,fM] at I;rw[I];exact J,λh=>(by cases h),λ_ _ h=>(h rfl).elim⟩
theorem BY:∀ (n d:Nat),d<n->d<=10->∀ (m:MK) (t:Nh) (h:HD),TP t->Ok (hY n ((d:Int),m,t,h)) λy=>GE (d+1) y.1/\y.2.1=m/\tM t y.2.2.1/\y.2.2.2=h
 |0,d,hd,_,_,_,_,_=>by omega
 |n+1,d,hd,h10,m,t,h,ht=>by
  rw[xj];unfold nl aU bk bI dh cQ bc bu bD kK aW aD;refine aw (fU 10 t ht) λy I=>?_
  obtain⟨k,t1⟩:=y;obtain⟨s1,k0,k1,_⟩:=I;have k1:=k1 (by decide);dsimp only at s1 k0 k1;refine aX (λx=>x.2=(m,t1,h,(0,0,[]),[[97],[98],[120],[121],[118],[120],[121]])/\(x.1=ai->2<=k/\(d=0->k<7))) ?_ ?_
  .refine bA (λ_=>al ⟨rfl,λh=>(by cases h)⟩) λg=>aI (λg2=>al ⟨rfl,λg3=>⟨g,λ_=>?_⟩⟩) λg2=>al ⟨rfl,λ_=>⟨g,λh=>(g2 (by dsimp only;omega)).elim⟩⟩
   dsimp only at g3;rw[kC] at g3;exact g3
  rintro⟨b,x⟩ ⟨e,hb⟩;dsimp only at e hb;subst e;refine aO (λ_=>?_) λg=>?_
  .refine aw (fU 4 t1 s1.p) λy I=>?_
   refine aT (L8 _) (al ?_);exact⟨GE.num _ _,rfl,s1.trans I.1,rfl⟩
  obtain⟨q0,q1⟩:=hb g;refine bA (λg=>?_) λg=>?_
  .refine aw (fU _ t1 s1.p) λy I=>?_
   obtain⟨u1,M,J,_⟩:=I;have J:=J (show (1:Int)<=7 by decide);refine aQ M J (aQ M J (aR ?_));refine aT (F3 _) (al ?_);have hnv:∀ z∈([[97],[98],[120],[121],[118],[120],[121]]:List (List UInt8)),z∈NV:=by decide
   exact⟨GE.nm (hnv _ (bH (T:=.str) M J)) _,rfl,s1.trans u1,rfl⟩
  dsimp only at g;have hd0:d≠0:=λh=>by have:=q1 h;omega
  obtain⟨d,rfl⟩:∃ k,d=k+1:=⟨d-1,by omega⟩
  refine aI (λg=>?_) λg=>?_
  .refine aw (BY n 0 (by omega) (by omega) m t1 h s1.p) λy I=>?_
   obtain⟨e,m',t',h'⟩:=y;obtain⟨v1,Z,U,Y⟩:=I;dsimp only at v1 Z U Y;subst Z;subst Y;refine ba (by simp) (al ?_);dsimp only;rw[eS];exact⟨(GE.ix (v1.le (by omega):GE (d+1) e)),rfl,s1.trans U,rfl⟩
  .refine aw (fU _ t1 s1.p) λy I=>?_
   obtain⟨k2,t2⟩:=y;obtain⟨u1,M,J,_⟩:=I;have J:=J (by decide);dsimp only at u1 M J;refine aQ M J (aQ M J (aR ?_));have ho:(6:Int)<=aH (T:=.int .i64) [6,7,8,11,13,17] k2/\aH (T:=.int .i64) [6,7,8,11,13,17] k2<=(18:Int):=by
    have h1:=bH (T:=.int .i64) (xs:=([6,7,8,11,13,17]:List Int)) M J;have:∀ z:Int,z∈([6,7,8,11,13,17]:List Int)->6<=z/\z<=18:=by decide
    exact this _ h1
   have ew:bg .i64 (((d+1:Nat):Int)-1)=(d:Int):=by rw[ie (by omega) (by omega)];omega
   dsimp only;rw[ew];refine aw (BY n d (by omega) (by omega) m t2 h u1.p) λy I=>?_
   obtain⟨e,m',t',h'⟩:=y;obtain⟨v1,Z,U,Y⟩:=I;dsimp only at v1 Z U Y;subst Z;subst Y;refine ba (by simp) ?_;refine aw (BY n d (by omega) (by omega) m' t' h' U.p) λy I=>?_
   obtain⟨e2,m2,t2',h2⟩:=y;obtain⟨w1,w2,w3,w4⟩:=I;dsimp only at w1 w2 w3 w4;subst w2;subst w4;refine ba (by simp) ?_;refine aT (DS _ _ _) (al ?_);dsimp only;rw[eS];exact⟨GE.bin ho v1 w1,rfl,s1.trans (u1.trans (U.trans w3)),rfl⟩
theorem XW (d:Nat) (hd:d<=10) (m:MK) (t:Nh) (h:HD) (ht:TP t):Ok (eQ ((d:Int),m,t,h)) λy=>GE (d+1) y.1/\y.2.1=m/\tM t y.2.2.1/\y.2.2.2=h:=BY fuel d (by rw[jA];omega) hd m t h ht
end
end Go.Proofs.YthehadcddfilhaaGreatDoor.AI
