/-
  Texts of the proof, part 2 of 6: what is used to prove the statement. No condition.
-/
import Derived.Test.YthehadcddfilhaaGreatDoorHBOrdersQ0
namespace Go.Proofs.YthehadcddfilhaaGreatDoor.AI
open Go.RowKit
set_option maxRecDepth 100000
set_option maxHeartbeats 4000000
set_option linter.unusedVariables false
set_option linter.unusedSimpArgs false
open _root_.Bool renaming true→ai,false→aj
open _root_.Int renaming ofNat_eq_natCast→au,ofNat→aO,toNat→aU,reduceEq→aV,reduceNeg→bp,toNat_natCast→c6
open _root_.List renaming length→al,replicate→aG,length_cons→b7,range→cS,take→dP,length_singleton→dR,cons_append→gu,length_nil→jT,take_succ_cons→vW,foldl_cons→xk
open _root_.Nat renaming beq→aC,blt→gp
open _root_.Option renaming some→af,none→ah,map_some→ch,getD_some→uX
open _root_.Prod renaming p2→aZ,p3→bk,p4→bw,q3→bL,p5→cA,q5→cX,q4→dA,p6→dV,q6→fk,q7→kD,p7→kE,q8→pZ,p8→Aa,p9→Cn,p10→D'
open _root_.Sum renaming inr→bP,inl→mr
noncomputable section
abbrev Kd0:Ty:=(.st (.pr uW (.pr uW (.pr uW (.pr uW (.pr uW (.pr uW (.pr (.sl aM) (.pr uW (.sl aM))))))))))
abbrev Kd1:Ty:=(.st (.pr .bool .bool))
abbrev Yd0:=((List (List Int))×(List (List Int))×(List (List Int))×(List (List Int))×(List (List Int))×(List (List Int))×(List Int)×(List (List Int))×List Int)
abbrev Yd1:=((List Int)×(List (List Int))×(List (List Int))×(List (List Int))×(List (List Int))×(List (List Int))×(List (List Int))×(List (List Int))×(List Int)×List Int)
abbrev Yd2:=(Int×gG×(List Bool)×List dy)
abbrev Yd3:=(Int×gP×gz×(List fw)×cf×cf×List (Int×Int×Int))
abbrev Yd4:=(dz×Int×Int×Int×Int×Int×(List Int)×List Int)
abbrev Yd5:=(List (Int×Int))
abbrev Yd6:=(Int×(List Bool)×List dy)
def MB {α R:Type} [DecidableEq α] (a b:α) (r:Option R):Option R:=if a=b then r else ah
theorem Qf {α R:Type} [DecidableEq α] (a b:α) (r:Option R):MB a b r=same a b r:=by unfold MB same;by_cases h:a=b<;>simp[h]
theorem Qe {α R:Type} [DecidableEq α] {a b:α} (h:a=b) (r:Option R):MB a b r=r:=by unfold MB;rw[aF h]
def jw (x:(List Int)×Int):Option (Int):=
 (jn (α:=Bool) (bx x.2 0 (aE ai) (aE (c7 (aY x.1) x.2))) λx1=>(bcase x1 (af 0) (v7 x.2 x.1 (af (aJ (T:=aM) x.1 x.2)))))
def vu (it:yP) (x:(List Int)×List Int):Option (List Int):=
 (bB (c7 0 (iD (aY x.1) (aY x.2))&&c7 (iD (aY x.1) (aY x.2)) (iD (aY x.1) (aY x.2))&&a_ (aU (iD (aY x.1) (aY x.2))) 8) (it (Int×List Int) _ (λx1=>(bx x1.1 (aO (al (aG (aU (iD (aY x.1) (aY x.2))) (0:Int)))) (obind (jw (x.1,x1.1)) λJ=>(obind (jw (x.2,x1.1)) λI=>(ck (fe x1.1 (al x1.2)) (cK ((cE x1.1),(cQ x1.2 x1.1 (iD J I))))))) (aE x1.2))) (0,(aG (aU (iD (aY x.1) (aY x.2))) (0:Int)))))
def yZ (x:(List Int)×List Int):Option (List Int):=vu @iter x
def kc (x:(List Int)×List Int):Option (List Int):=vu @gh x
def CR (x:(List Int)×Int):Option (Int):=
 (jn (α:=Bool) (bx x.2 0 (aE ai) (aE (c7 (aY x.1) x.2))) λx1=>(bcase x1 (af 0) (v7 x.2 x.1 (af (aJ (T:=aM) x.1 x.2)))))
def EY (it:yP) (x:(List Int)×List Int):Option (List Int):=
 (bB (c7 0 (iD (aY x.1) (aY x.2))&&c7 (iD (aY x.1) (aY x.2)) (iD (aY x.1) (aY x.2))&&a_ (aU (iD (aY x.1) (aY x.2))) 8) (it (Int×List Int) _ (λx1=>(bx x1.1 (aO (al (aG (aU (iD (aY x.1) (aY x.2))) (0:Int)))) (obind (CR (x.1,x1.1)) λJ=>(obind (CR (x.2,x1.1)) λI=>(ck (fe x1.1 (al x1.2)) (cK ((cE x1.1),(cQ x1.2 x1.1 (iD J I))))))) (aE x1.2))) (0,(aG (aU (iD (aY x.1) (aY x.2))) (0:Int)))))
def Et (x:(List Int)×List Int):Option (List Int):=EY @iter x
def pG (x:(List Int)×List Int):Option (List Int):=EY @gh x
def Of (x:List Int):Option (List Int):=
 (bcase (aC (al x) 0) (Fo (af ([]:List Int)) (bB (a_ (al ([]:List Int)+al x) 8) (af (([]:List Int)++x)))) (bB (a_ (al ([]:List Int)+al x) 8) (af (([]:List Int)++x))))
def BY (x:List Int):Option (List Int):=chk (a_ (al x) 8) λ_=>af x
def xF (it:yP) (x:List (List Int)):Option (List (List Int)):=
 (bB (c7 0 (aY x)&&c7 (aY x) (aY x)&&a_ (aU (aY x)) 24) (it (Int×List (List Int)) _ (λx1=>(bx x1.1 (aY x) (v7 x1.1 x (obind (BY (aJ (T:=(.sl aM)) x x1.1)) λI=>(ck (fe x1.1 (al x1.2)) (cK ((cE x1.1),(cQ x1.2 x1.1 I)))))) (aE x1.2))) (0,(aG (aU (aY x)) ([]:List Int)))))
def BQ (x:List (List Int)):Option (List (List Int)):=xF @iter x
def io (x:List (List Int)):Option (List (List Int)):=xF @gh x
def IG (x:List Int):Option (List Int):=
 (bcase (aC (al x) 0) (Fo (af ([]:List Int)) (bB (a_ (al ([]:List Int)+al x) 8) (af (([]:List Int)++x)))) (bB (a_ (al ([]:List Int)+al x) 8) (af (([]:List Int)++x))))
def oY (x:List Int):Option (List Int):=chk (a_ (al x) 8) λ_=>af x
def uo (x:(List (List Int))×(List (List Int))×(List (List Int))×(List (List Int))×(List (List Int))×(List (List Int))×(List Int)×(List (List Int))×List Int):Option ((List Int)×(List (List Int))×(List (List Int))×(List (List Int))×(List (List Int))×(List (List Int))×(List (List Int))×(List (List Int))×List Int):=
 (obind (io x.1) λy1=>(obind (io x.2.1) λy2=>(obind (io x.p2) λy3=>(obind (io x.p3) λZ=>(obind (io x.p4) λY=>(obind (io x.p5) λU=>(obind (oY x.p6) λM=>(obind (io x.p7) λJ=>(obind (oY x.q8) λI=>(af (M,y1,y2,y3,Z,Y,U,J,I)))))))))))
def tR (x:Int×List (List Int)):Option ((List Int)×List (List Int)):=
 (jn (α:=Bool×List (List Int)) (bx x.1 0 (aE (ai,x.2)) (aE ((c7 (aY x.2) x.1),x.2))) λx1=>(bcase x1.1 (af (([]:List Int),x1.2)) (ck (fe x.1 (al x1.2)) (af ((aJ (T:=(.sl aM)) x1.2 x.1),x1.2)))))
def uq (x:gj×(List Int)×dz×(List (List Int))×(List (List Int))×(List (List Int))×(List (List Int))×(List (List Int))×(List (List Int))×(List (List Int))×List Int):Option ((List (List Int))×gj×(List Int)×dz×(List (List Int))×(List (List Int))×(List (List Int))×(List (List Int))×(List (List Int))×(List (List Int))×(List (List Int))×List Int):=
 (bf x.1.2.1 1 (ck (fe x.1.1 (al x.p4)) (af ([(aJ (T:=(.sl aM)) x.p4 x.1.1)],(x.1.1,x.1.2.1,x.1.p2,x.1.p3,x.1.p4,x.1.p5,x.1.q6),x.2.1,(x.p2.1,x.p2.2.1,x.p2.p2,x.p2.p3,x.p2.p4,x.p2.q5),x.p3,x.p4,x.p5,x.p6,x.p7,x.p8,x.p9,x.q10))) (bf x.1.2.1 21 (ck (fe x.1.p2 (al x.p3)) (af ([(aJ (T:=(.sl aM)) x.p3 x.1.p2)],(x.1.1,x.1.2.1,x.1.p2,x.1.p3,x.1.p4,x.1.p5,x.1.q6),x.2.1,(x.p2.1,x.p2.2.1,x.p2.p2,x.p2.p3,x.p2.p4,x.p2.q5),x.p3,x.p4,x.p5,x.p6,x.p7,x.p8,x.p9,x.q10))) (jn (α:=Bool×gj×(List Int)×dz×(List (List Int))×(List (List Int))×(List (List Int))×(List (List Int))×(List (List Int))×(List (List Int))×(List (List Int))×List Int) (bf x.1.2.1 6 (aE ((decide ((x.1.2.1:Int)=6)),(x.1.1,x.1.2.1,x.1.p2,x.1.p3,x.1.p4,x.1.p5,x.1.q6),x.2.1,(x.p2.1,x.p2.2.1,x.p2.p2,x.p2.p3,x.p2.p4,x.p2.q5),x.p3,x.p4,x.p5,x.p6,x.p7,x.p8,x.p9,x.q10)) (aE ((decide ((x.1.2.1:Int)=10)),(x.1.1,x.1.2.1,x.1.p2,x.1.p3,x.1.p4,x.1.p5,x.1.q6),x.2.1,(x.p2.1,x.p2.2.1,x.p2.p2,x.p2.p3,x.p2.p4,x.p2.q5),x.p3,x.p4,x.p5,x.p6,x.p7,x.p8,x.p9,x.q10))) λx1=>(bcase x1.1 (ck (fe x1.2.1.p2 (al x1.p6)) (ck (fe x1.2.1.p2 (al x1.p7)) (af ([(aJ (T:=(.sl aM)) x1.p6 x1.2.1.p2),(aJ (T:=(.sl aM)) x1.p7 x1.2.1.p2)],(x1.2.1.1,x1.2.1.2.1,x1.2.1.p2,x1.2.1.p3,x1.2.1.p4,x1.2.1.p5,x1.2.1.q6),x1.p2,(x1.p3.1,x1.p3.2.1,x1.p3.p2,x1.p3.p3,x1.p3.p4,x1.p3.q5),x1.p4,x1.p5,x1.p6,x1.p7,x1.p8,x1.p9,x1.p10,x1.q11)))) (bf x.1.2.1 8 (ck (fe x1.2.1.p2 (al x1.p6)) (af ([(aJ (T:=(.sl aM)) x1.p6 x1.2.1.p2)],(x1.2.1.1,x1.2.1.2.1,x1.2.1.p2,x1.2.1.p3,x1.2.1.p4,x1.2.1.p5,x1.2.1.q6),x1.p2,(x1.p3.1,x1.p3.2.1,x1.p3.p2,x1.p3.p3,x1.p3.p4,x1.p3.q5),x1.p4,x1.p5,x1.p6,x1.p7,x1.p8,x1.p9,x1.p10,x1.q11))) (bf x.1.2.1 17 (v7 x1.2.1.p2 x1.p3.p2 (obind (tR ((aJ (T:=lq) x1.p3.p2 x1.2.1.p2).2,x1.p6)) λJ=>(bB (aC (al x1.p6) (al J.2)&&ai) (obind (tR ((aJ (T:=lq) x1.p3.p2 x1.2.1.p2).2,x1.p7)) λI=>(bB (aC (al x1.p7) (al I.2)&&ai) (ck (fe x1.2.1.1 (al x1.p10)) (af ([J.1,I.1,(aJ (T:=(.sl aM)) x1.p10 x1.2.1.1)],(x1.2.1.1,x1.2.1.2.1,x1.2.1.p2,x1.2.1.p3,x1.2.1.p4,x1.2.1.p5,x1.2.1.q6),x1.p2,(x1.p3.1,x1.p3.2.1,x1.p3.p2,x1.p3.p3,x1.p3.p4,x1.p3.q5),x1.p4,x1.p5,J.2,I.2,x1.p8,x1.p9,x1.p10,x1.q11)))))))) (bf x.1.2.1 3 (ck (fe x1.2.1.p2 (al x1.p8)) (af ([(aJ (T:=(.sl aM)) x1.p8 x1.2.1.p2)],(x1.2.1.1,x1.2.1.2.1,x1.2.1.p2,x1.2.1.p3,x1.2.1.p4,x1.2.1.p5,x1.2.1.q6),x1.p2,(x1.p3.1,x1.p3.2.1,x1.p3.p2,x1.p3.p3,x1.p3.p4,x1.p3.q5),x1.p4,x1.p5,x1.p6,x1.p7,x1.p8,x1.p9,x1.p10,x1.q11))) (bf x.1.2.1 23 (ck (fe x1.2.1.p2 (al x1.p9)) (af ([(aJ (T:=(.sl aM)) x1.p9 x1.2.1.p2)],(x1.2.1.1,x1.2.1.2.1,x1.2.1.p2,x1.2.1.p3,x1.2.1.p4,x1.2.1.p5,x1.2.1.q6),x1.p2,(x1.p3.1,x1.p3.2.1,x1.p3.p2,x1.p3.p3,x1.p3.p4,x1.p3.q5),x1.p4,x1.p5,x1.p6,x1.p7,x1.p8,x1.p9,x1.p10,x1.q11))) (bf x.1.2.1 12 (af ([x1.p2],(x1.2.1.1,x1.2.1.2.1,x1.2.1.p2,x1.2.1.p3,x1.2.1.p4,x1.2.1.p5,x1.2.1.q6),x1.p2,(x1.p3.1,x1.p3.2.1,x1.p3.p2,x1.p3.p3,x1.p3.p4,x1.p3.q5),x1.p4,x1.p5,x1.p6,x1.p7,x1.p8,x1.p9,x1.p10,x1.q11)) (af (([]:List (List Int)),(x1.2.1.1,x1.2.1.2.1,x1.2.1.p2,x1.2.1.p3,x1.2.1.p4,x1.2.1.p5,x1.2.1.q6),x1.p2,(x1.p3.1,x1.p3.2.1,x1.p3.p2,x1.p3.p3,x1.p3.p4,x1.p3.q5),x1.p4,x1.p5,x1.p6,x1.p7,x1.p8,x1.p9,x1.p10,x1.q11)))))))))))
def Am (it:yP) (x:gP×gz×(List fw)×cf×cf×List (Int×Int×Int)):Option Yd0:=
 (ck (c7 0 (aY x.p4)&&c7 (aY x.p4) (aY x.p4)&&a_ (aU (aY x.p4)) 24) (ck (c7 0 (aY x.2.1)&&c7 (aY x.2.1) (aY x.2.1)&&a_ (aU (aY x.2.1)) 24) (bB (c7 0 (aY x.1)&&c7 (aY x.1) (aY x.1)&&a_ (aU (aY x.1)) 24) (bB (c7 0 (aY x.p3)&&c7 (aY x.p3) (aY x.p3)&&a_ (aU (aY x.p3)) 24) (bB (c7 0 (aY x.p4)&&c7 (aY x.p4) (aY x.p4)&&a_ (aU (aY x.p4)) 24) (bB (c7 0 (aY x.p4)&&c7 (aY x.p4) (aY x.p4)&&a_ (aU (aY x.p4)) 8) (it (Int×(List (List Int))×(List (List Int))×(List (List Int))×(List (List Int))×(List (List Int))×(List (List Int))×(List (List Int))×List Int) _ (λx1=>(bx x1.1 (aO (al (aG (aU (aY x.p4)) (0:Int)))) (ck (fe x1.1 (al x1.q8)) (cK ((cE x1.1),x1.2.1,x1.p2,x1.p3,x1.p4,x1.p5,x1.p6,x1.p7,(cQ x1.q8 x1.1 (-1))))) (aE (x1.2.1,x1.p2,x1.p3,x1.p4,x1.p5,x1.p6,([]:List Int),x1.p7,x1.q8)))) (0,(aG (aU (aY x.p4)) ([]:List Int)),(aG (aU (aY x.p4)) ([]:List Int)),(aG (aU (aY x.2.1)) ([]:List Int)),(aG (aU (aY x.2.1)) ([]:List Int)),(aG (aU (aY x.1)) ([]:List Int)),(aG (aU (aY x.p3)) ([]:List Int)),(aG (aU (aY x.p4)) ([]:List Int)),(aG (aU (aY x.p4)) (0:Int))))))))))
def Ew (x:gP×gz×(List fw)×cf×cf×List (Int×Int×Int)):Option Yd0:=Am @iter x
def pM (x:gP×gz×(List fw)×cf×cf×List (Int×Int×Int)):Option Yd0:=Am @gh x
def sB (x:(List Int)×Int):Option (List Int):=
 (jn (α:=Bool) (iH 0 x.2 (aE (fQ x.2 4)) (aE aj)) λx1=>(jn (α:=Int) (bcase x1 (aE (iD (aY x.1) (cE x.2))) (aE (aY x.1))) λx2=>(bB (c7 0 x2&&c7 x2 x2&&a_ (aU x2) 8) (jn (α:=List Int) (jn (α:=Bool×List Int) (bcase x1 (ck (fe x.2 (al (TI (aG (aU x2) (0:Int)) x.1))) (aE ((fQ (aJ (T:=aM) (TI (aG (aU x2) (0:Int)) x.1) x.2) 9223372036854775807),(TI (aG (aU x2) (0:Int)) x.1)))) (aE (aj,(TI (aG (aU x2) (0:Int)) x.1)))) λI=>(bcase I.1 (ck (fe x.2 (al I.2)) (ck (fe x.2 (al I.2)) (aE (cQ I.2 x.2 (bc .i64 ((aJ (T:=aM) I.2 x.2)+1)))))) (aE I.2))) λJ=>(af J)))))
def wG (x:List Int):Option ((List Int)×List Int):=
 (bB (a_ (al ([]:List Int)+al x) 8) (af ((([]:List Int)++x),x)))
def vi (x:List Int):Option (List Int):=obind (wG x) λy=>MB y.2 x (af y.1)
def HX (it:yP) (x:(List Int)×List Int):Option ((List Int)×List Int):=
 (bB (c7 0 (iD (aY x.1) (aY x.2))&&c7 (iD (aY x.1) (aY x.2)) (iD (aY x.1) (aY x.2))&&a_ (aU (iD (aY x.1) (aY x.2))) 8) (it (Int×(List Int)×List Int) _ (λx1=>(bx x1.1 (aO (al (aG (aU (iD (aY x.1) (aY x.2))) (0:Int)))) (obind (jw (x.1,x1.1)) λJ=>(obind (jw (x1.2.1,x1.1)) λI=>(ck (fe x1.1 (al x1.2.2)) (cK ((cE x1.1),x1.2.1,(cQ x1.2.2 x1.1 (iD J I))))))) (aE (x1.2.2,x1.2.1)))) (0,x.2,(aG (aU (iD (aY x.1) (aY x.2))) (0:Int)))))
def Ob (x:(List Int)×List Int):Option ((List Int)×List Int):=HX @iter x
def tG (x:(List Int)×List Int):Option ((List Int)×List Int):=HX @gh x
def BX (x:(List Int)×List Int):Option (List Int):=obind (tG x) λy=>MB y.2 x.2 (af y.1)
def lH (x:Int×(List (List Int))×List Int):Option ((List (List Int))×List Int):=
 (jn (α:=Bool×(List (List Int))×List Int) (iH 0 x.1 (aE ((fQ x.1 (aY x.2.1)),x.2.1,x.2.2)) (aE (aj,x.2.1,x.2.2))) λx1=>(bcase x1.1 (ck (fe x.1 (al x1.2.1)) (obind (BX ((aJ (T:=(.sl aM)) x1.2.1 x.1),x1.2.2)) λI=>(ck (fe x.1 (al x1.2.1)) (af ((cQ x1.2.1 x.1 I),x1.2.2))))) (af (x1.2.1,x1.2.2))))
def wB (x:Int×(List Int)×(List (List Int))×(List (List Int))×(List (List Int))×(List (List Int))×(List (List Int))×(List (List Int))×(List (List Int))×(List Int)×List Int):Option Yd1:=
 (obind (vi x.q10) λI=>(ck (fe x.1 (al x.p8)) (ck (fe x.1 (al x.p9)) (af (x.2.1,x.p2,x.p3,x.p4,x.p5,x.p6,x.p7,(cQ x.p8 x.1 I),(cQ x.p9 x.1 (-1)),x.q10)))))
def Al (it:yP) (x:Yd4×(List Int)×(List (List Int))×(List (List Int))×(List (List Int))×(List (List Int))×(List (List Int))×(List (List Int))×(List (List Int))×(List Int)×List Int):Option Yd1:=
 (obind (vi x.q10) λy1=>(ck (fe x.1.2.1 (al x.p2)) (jn (α:=(List Int)×(List (List Int))×(List (List Int))×(List (List Int))×(List (List Int))×(List (List Int))×(List (List Int))×(List (List Int))×(List Int)×List Int) (bf x.1.p2 20 (obind (vi x.q10) λy3=>(ck (fe x.1.p3 (al x.p3)) (aE (x.2.1,(cQ x.p2 x.1.2.1 y1),(cQ x.p3 x.1.p3 y3),x.p4,x.p5,x.p6,x.p7,x.p8,x.p9,x.q10)))) (jn (α:=Bool×(List Int)×(List (List Int))×(List (List Int))×(List (List Int))×(List (List Int))×(List (List Int))×(List (List Int))×(List (List Int))×(List Int)×(List Int)×dz×Int×Int×Int×Int×Int×(List Int)×List Int) (bf x.1.p2 7 (aE ((decide ((x.1.p2:Int)=7)),x.2.1,(cQ x.p2 x.1.2.1 y1),x.p3,x.p4,x.p5,x.p6,x.p7,x.p8,x.p9,x.q10,(x.1.1.1,x.1.1.2.1,x.1.1.p2,x.1.1.p3,x.1.1.p4,x.1.1.q5),x.1.2.1,x.1.p2,x.1.p3,x.1.p4,x.1.p5,x.1.p6,x.1.q7)) (aE ((decide ((x.1.p2:Int)=11)),x.2.1,(cQ x.p2 x.1.2.1 y1),x.p3,x.p4,x.p5,x.p6,x.p7,x.p8,x.p9,x.q10,(x.1.1.1,x.1.1.2.1,x.1.1.p2,x.1.1.p3,x.1.1.p4,x.1.1.q5),x.1.2.1,x.1.p2,x.1.p3,x.1.p4,x.1.p5,x.1.p6,x.1.q7))) λI=>(bcase I.1 (obind (lH (I.p14,I.p4,I.p10)) λy5=>(bB (aC (al I.p10) (al y5.2)&&(aC (al I.p4) (al y5.1)&&ai)) (aE (I.2.1,I.p2,I.p3,y5.1,I.p5,I.p6,I.p7,I.p8,I.p9,y5.2)))) (bf x.1.p2 9 (obind (lH (I.p14,I.p5,I.p10)) λy6=>(bB (aC (al I.p10) (al y6.2)&&(aC (al I.p5) (al y6.1)&&ai)) (aE (I.2.1,I.p2,I.p3,I.p4,y6.1,I.p6,I.p7,I.p8,I.p9,y6.2)))) (bf x.1.p2 16 (ck (fe I.p12 (al I.p9)) (v7 I.p14 I.p11.p2 (obind (lH ((aJ (T:=lq) I.p11.p2 I.p14).2,I.p4,I.p10)) λy7=>(bB (aC (al I.p10) (al y7.2)&&(aC (al I.p4) (al y7.1)&&ai)) (aE (I.2.1,I.p2,I.p3,y7.1,I.p5,I.p6,I.p7,I.p8,(cQ I.p9 I.p12 I.p14),y7.2)))))) (bf x.1.p2 4 (v7 I.p14 I.p11.1 (bcase (((((aJ (T:=ky) I.p11.1 I.p14).2).2).2).1) (obind (lH (I.p14,I.p6,I.p10)) λy8=>(bB (aC (al I.p10) (al y8.2)&&(aC (al I.p6) (al y8.1)&&ai)) (aE (I.2.1,I.p2,I.p3,I.p4,I.p5,y8.1,I.p7,I.p8,I.p9,y8.2)))) (aE (I.2.1,I.p2,I.p3,I.p4,I.p5,I.p6,I.p7,I.p8,I.p9,I.p10)))) (bf x.1.p2 22 (obind (lH (I.p14,I.p7,I.p10)) λy9=>(bB (aC (al I.p10) (al y9.2)&&(aC (al I.p7) (al y9.1)&&ai)) (aE (I.2.1,I.p2,I.p3,I.p4,I.p5,I.p6,y9.1,I.p8,I.p9,y9.2)))) (bf x.1.p2 13 (obind (BX (I.2.1,I.p10)) λy10=>(aE (y10,I.p2,I.p3,I.p4,I.p5,I.p6,I.p7,I.p8,I.p9,I.p10))) (bf x.1.p2 18 (jn (α:=Bool×(List Int)×(List (List Int))×(List (List Int))×(List (List Int))×(List (List Int))×(List (List Int))×(List (List Int))×(List (List Int))×(List Int)×(List Int)×Int×Int×Int×Int×Int×(List Int)×List Int) (iH 0 I.p15 (aE ((fQ I.p15 (aY I.p8)),I.2.1,I.p2,I.p3,I.p4,I.p5,I.p6,I.p7,I.p8,I.p9,I.p10,I.p12,I.p13,I.p14,I.p15,I.p16,I.p17,I.q18)) (aE (aj,I.2.1,I.p2,I.p3,I.p4,I.p5,I.p6,I.p7,I.p8,I.p9,I.p10,I.p12,I.p13,I.p14,I.p15,I.p16,I.p17,I.q18))) λM=>(bcase M.1 (obind (wB (M.p14,M.2.1,M.p2,M.p3,M.p4,M.p5,M.p6,M.p7,M.p8,M.p9,M.p10)) λY=>(bB (aC (al M.p10) (al Y.q9)&&(aC (al M.p9) (al Y.p8)&&(aC (al M.p8) (al Y.p7)&&(aC (al M.p7) (al Y.p6)&&(aC (al M.p6) (al Y.p5)&&(aC (al M.p5) (al Y.p4)&&(aC (al M.p4) (al Y.p3)&&(aC (al M.p3) (al Y.p2)&&(aC (al M.p2) (al Y.2.1)&&ai))))))))) (aE (Y.1,Y.2.1,Y.p2,Y.p3,Y.p4,Y.p5,Y.p6,Y.p7,Y.p8,Y.q9)))) (aE (M.2.1,M.p2,M.p3,M.p4,M.p5,M.p6,M.p7,M.p8,M.p9,M.p10)))) (bf x.1.p2 19 (it (Int×(List Int)×(List (List Int))×(List (List Int))×(List (List Int))×(List (List Int))×(List (List Int))×(List (List Int))×(List (List Int))×(List Int)×(List Int)×Int×Int×Int×Int×Int×(List Int)×List Int) _ (λJ=>(bx J.1 (aY I.p9) (jn (α:=(List Int)×(List (List Int))×(List (List Int))×(List (List Int))×(List (List Int))×(List (List Int))×(List (List Int))×(List (List Int))×(List Int)×(List Int)×Int×Int×Int×Int×Int×(List Int)×List Int) (ck (fe J.1 (al J.p9)) (bf (aJ (T:=aM) J.p9 J.1) J.p13 (obind (wB (J.1,J.2.1,J.p2,J.p3,J.p4,J.p5,J.p6,J.p7,J.p8,J.p9,J.p10)) λU=>(bB (aC (al J.p10) (al U.q9)&&(aC (al J.p9) (al U.p8)&&(aC (al J.p8) (al U.p7)&&(aC (al J.p7) (al U.p6)&&(aC (al J.p6) (al U.p5)&&(aC (al J.p5) (al U.p4)&&(aC (al J.p4) (al U.p3)&&(aC (al J.p3) (al U.p2)&&(aC (al J.p2) (al U.2.1)&&ai))))))))) (aE (U.1,U.2.1,U.p2,U.p3,U.p4,U.p5,U.p6,U.p7,U.p8,U.q9,J.p11,J.p12,J.p13,J.p14,J.p15,J.p16,J.q17)))) (aE (J.2.1,J.p2,J.p3,J.p4,J.p5,J.p6,J.p7,J.p8,J.p9,J.p10,J.p11,J.p12,J.p13,J.p14,J.p15,J.p16,J.q17)))) λZ=>(cK ((cE J.1),Z.1,Z.2.1,Z.p2,Z.p3,Z.p4,Z.p5,Z.p6,Z.p7,Z.p8,Z.p9,Z.p10,Z.p11,Z.p12,Z.p13,Z.p14,Z.p15,Z.q16))) (aE (bP (J.2.1,J.p2,J.p3,J.p4,J.p5,J.p6,J.p7,J.p8,J.p9,J.p10))))) (0,I.2.1,I.p2,I.p3,I.p4,I.p5,I.p6,I.p7,I.p8,I.p9,I.p10,I.p12,I.p13,I.p14,I.p15,I.p16,I.p17,I.q18)) (aE (I.2.1,I.p2,I.p3,I.p4,I.p5,I.p6,I.p7,I.p8,I.p9,I.p10)))))))))))) λx2=>(af (x2.1,x2.2.1,x2.p2,x2.p3,x2.p4,x2.p5,x2.p6,x2.p7,x2.p8,x2.q9)))))
def Ev (x:Yd4×(List Int)×(List (List Int))×(List (List Int))×(List (List Int))×(List (List Int))×(List (List Int))×(List (List Int))×(List (List Int))×(List Int)×List Int):Option Yd1:=Al @iter x
def rF (x:Yd4×(List Int)×(List (List Int))×(List (List Int))×(List (List Int))×(List (List Int))×(List (List Int))×(List (List Int))×(List (List Int))×(List Int)×List Int):Option Yd1:=Al @gh x
def Dc (it:yP) (x:dz×Yd0×Int×Int×Int×Int×Int×(List Int)×List Int):Option (Yd0×List Int):=
 (obind (uo (x.2.1.1,x.2.1.2.1,x.2.1.p2,x.2.1.p3,x.2.1.p4,x.2.1.p5,x.2.1.p6,x.2.1.p7,x.2.1.q8)) λU=>(ck (fe x.p2 (al U.2.1)) (obind (uq ((x.p2,x.p3,x.p4,x.p5,x.p6,x.p7,x.q8),U.1,(x.1.1,x.1.2.1,x.1.p2,x.1.p3,x.1.p4,x.1.q5),U.2.1,U.p2,U.p3,U.p4,U.p5,U.p6,U.p7,U.q8)) λJ=>(bB (aC (al U.q8) (al J.q11)&&(aC (al U.p7) (al J.p10)&&(aC (al U.p6) (al J.p9)&&(aC (al U.p5) (al J.p8)&&(aC (al U.p4) (al J.p7)&&(aC (al U.p3) (al J.p6)&&(aC (al U.p2) (al J.p5)&&(aC (al U.2.1) (al J.p4)&&ai)))))))) (it (Int×dz×gj×(List Int)×(List Int)×(List (List Int))×(List (List Int))×(List (List Int))×(List (List Int))×(List (List Int))×(List (List Int))×(List (List Int))×List Int) _ (λI=>(bx I.1 (aY J.1) (v7 I.1 J.1 (obind (kc (I.p4,(aJ (T:=(.sl aM)) J.1 I.1))) λZ=>(cK ((cE I.1),(I.2.1.1,I.2.1.2.1,I.2.1.p2,I.2.1.p3,I.2.1.p4,I.2.1.q5),(I.p2.1,I.p2.2.1,I.p2.p2,I.p2.p3,I.p2.p4,I.p2.p5,I.p2.q6),I.p3,Z,I.p5,I.p6,I.p7,I.p8,I.p9,I.p10,I.p11,I.q12)))) (obind (obind (sB (I.p4,I.p2.1)) λY=>(obind (rF (((I.2.1.1,I.2.1.2.1,I.2.1.p2,I.2.1.p3,I.2.1.p4,I.2.1.q5),I.p2.1,I.p2.2.1,I.p2.p2,I.p2.p3,I.p2.p4,I.p2.p5,I.p2.q6),I.p3,I.p5,I.p6,I.p7,I.p8,I.p9,I.p10,I.p11,I.q12,Y)) λM=>(bB (aC (al Y) (al M.q9)&&(aC (al I.q12) (al M.p8)&&(aC (al I.p11) (al M.p7)&&(aC (al I.p10) (al M.p6)&&(aC (al I.p9) (al M.p5)&&(aC (al I.p8) (al M.p4)&&(aC (al I.p7) (al M.p3)&&(aC (al I.p6) (al M.p2)&&(aC (al I.p5) (al M.2.1)&&ai))))))))) (af ((M.2.1,M.p2,M.p3,M.p4,M.p5,M.p6,M.1,M.p7,M.p8),M.q9))))) λr=>af (bP r)))) (0,(J.p3.1,J.p3.2.1,J.p3.p2,J.p3.p3,J.p3.p4,J.p3.q5),(J.2.1.1,J.2.1.2.1,J.2.1.p2,J.2.1.p3,J.2.1.p4,J.2.1.p5,J.2.1.q6),J.p2,(aJ (T:=(.sl aM)) U.2.1 x.p2),J.p4,J.p5,J.p6,J.p7,J.p8,J.p9,J.p10,J.q11))))))
def IB (x:dz×Yd0×Int×Int×Int×Int×Int×(List Int)×List Int):Option (Yd0×List Int):=Dc @iter x
def sA (x:dz×Yd0×Int×Int×Int×Int×Int×(List Int)×List Int):Option (Yd0×List Int):=Dc @gh x
def ue (x:List Int):Option (List Int):=
 (bB (a_ (al (x:List Int)) 8) (af x))
def Ak (it:yP) (x:(List Int)×Int):Option (List Int):=
 (obind (ue x.1) λJ=>(jn (α:=Bool×List Int) (bx x.2 0 (aE (ai,J)) (aE ((c7 4 x.2),J))) λx2=>(bcase x2.1 (af x2.2) (it (List Int) _ (λI=>(iH (aY I) x.2 (bB (a_ (al I+al ([0])) 8) (cK (I++([0])))) (obind (jn (α:=List Int) (ck (fe x.2 (al I)) (bx (aJ (T:=aM) I x.2) 9223372036854775807 (ck (fe x.2 (al I)) (ck (fe x.2 (al I)) (aE (cQ I x.2 (bc .i64 ((aJ (T:=aM) I x.2)+1)))))) (aE I))) λM=>(af M)) λr=>af (bP r)))) x2.2))))
def Es (x:(List Int)×Int):Option (List Int):=Ak @iter x
def pE (x:(List Int)×Int):Option (List Int):=Ak @gh x
def rn (x:dz×Int):Option (Int):=
 (jn (α:=Bool×gP×gz×(List fw)×cf×cf×List (Int×Int×Int)) (bx x.2 0 (aE (ai,x.1.1,x.1.2.1,x.1.p2,x.1.p3,x.1.p4,x.1.q5)) (aE ((c7 (aY x.1.p2) x.2),x.1.1,x.1.2.1,x.1.p2,x.1.p3,x.1.p4,x.1.q5))) λx1=>(bcase x1.1 (af (-1)) (v7 x.2 x1.p3 (af ((aJ (T:=lq) x1.p3 x.2).2)))))
def oI (x:dz×Int×Int×Int×Int×Int×(List Int)×List Int):Option (Int×Bool):=
 (jn (α:=Bool×dz×Int×Int×Int×Int×Int×(List Int)×List Int) (bf x.p2 6 (aE ((decide ((x.p2:Int)=6)),(x.1.1,x.1.2.1,x.1.p2,x.1.p3,x.1.p4,x.1.q5),x.2.1,x.p2,x.p3,x.p4,x.p5,x.p6,x.q7)) (aE ((decide ((x.p2:Int)=10)),(x.1.1,x.1.2.1,x.1.p2,x.1.p3,x.1.p4,x.1.q5),x.2.1,x.p2,x.p3,x.p4,x.p5,x.p6,x.q7))) λx1=>(bcase x1.1 (af (x1.p4,aj)) (bf x.p2 8 (af (x1.p4,ai)) (bf x.p2 17 (obind (rn ((x1.2.1.1,x1.2.1.2.1,x1.2.1.p2,x1.2.1.p3,x1.2.1.p4,x1.2.1.q5),x1.p4)) λI=>(af (I,aj))) (af ((-1),aj))))))
def oH (x:dz×Int×Int×Int×Int×Int×(List Int)×List Int):Option (Int×Bool):=
 (jn (α:=Bool×dz×Int×Int×Int×Int×Int×(List Int)×List Int) (bf x.p2 7 (aE ((decide ((x.p2:Int)=7)),(x.1.1,x.1.2.1,x.1.p2,x.1.p3,x.1.p4,x.1.q5),x.2.1,x.p2,x.p3,x.p4,x.p5,x.p6,x.q7)) (aE ((decide ((x.p2:Int)=11)),(x.1.1,x.1.2.1,x.1.p2,x.1.p3,x.1.p4,x.1.q5),x.2.1,x.p2,x.p3,x.p4,x.p5,x.p6,x.q7))) λx1=>(bcase x1.1 (af (x1.p4,aj)) (bf x.p2 9 (af (x1.p4,ai)) (bf x.p2 16 (obind (rn ((x1.2.1.1,x1.2.1.2.1,x1.2.1.p2,x1.2.1.p3,x1.2.1.p4,x1.2.1.q5),x1.p4)) λI=>(af (I,aj))) (af ((-1),aj))))))
def rK (it:yP) (x:List UInt8):Option (Bool):=
 (lt (aJ (T:=(.st (.pr .str (.pr .str (.pr .str (.pr .str (.pr .str (.pr .str (.pr .str (.pr .str (.pr .str (.pr .str (.pr .str (.pr .str (.pr .str (.pr .str (.pr .str (.pr .str (.pr .str (.pr .str (.pr .str (.pr .str (.pr .str .str))))))))))))))))))))))) ([kwV]) 0) λI=>(it (Int) _ (λx2=>(bx x2 22 (bB (c7 0 x2&&fQ x2 22) (lt (aJ (T:=.str) [I.1,I.2.1,I.p2,I.p3,I.p4,I.p5,I.p6,I.p7,I.p8,I.p9,I.p10,I.p11,I.p12,I.p13,I.p14,I.p15,I.p16,I.p17,I.p18,I.p19,I.p20,I.q21] x2) λJ=>(bcase (decide ((x:List UInt8)=J)) (aE ai) (cK (cE x2))))) (aE aj))) 0))
def rm (x:List UInt8):Option (Bool):=rK @iter x
def kV (x:List UInt8):Option (Bool):=rK @gh x
def vO (it:yP) (x:List UInt8):Option (Bool):=
 (jn (α:=Bool) (bx (aY x) 1 (aE ai) (bx 12 (aY x) (aE ai) (obind (kV x) λU=>(aE U)))) λx1=>(bcase x1 (af aj) (it (List (fw×Unit)) _ (λI=>(bcase (gp (Oi I) (al (PO I))) (bB (fQ (Au (PO I) (aO (Oi I))) 128) (jn (α:=List (fw×Unit)) (jn (α:=Bool×List (fw×Unit)) (iH 97 (Au (PO I) (aO (Oi I))) (iH (Au (PO I) (aO (Oi I))) 122 (aE (ai,[(((PO I),(aO ((Oi I)+1))),())])) (iH 65 (Au (PO I) (aO (Oi I))) (aE ((c7 (Au (PO I) (aO (Oi I))) 90),[(((PO I),(aO ((Oi I)+1))),())])) (aE (aj,[(((PO I),(aO ((Oi I)+1))),())])))) (iH 65 (Au (PO I) (aO (Oi I))) (aE ((c7 (Au (PO I) (aO (Oi I))) 90),[(((PO I),(aO ((Oi I)+1))),())])) (aE (aj,[(((PO I),(aO ((Oi I)+1))),())])))) λJ=>(bcase J.1 (aE J.2) (jn (α:=Bool×List (fw×Unit)) (bx 0 (aO (Oi I)) (bf (Au (PO I) (aO (Oi I))) 95 (aE (ai,J.2)) (iH 48 (Au (PO I) (aO (Oi I))) (aE ((c7 (Au (PO I) (aO (Oi I))) 57),J.2)) (aE (aj,J.2)))) (aE (aj,J.2))) λM=>(bcase M.1 (aE M.2) (cK (bP aj)))))) λY=>(cK Y))) (aE ai))) ([((x,0),())]))))
def vH (x:List UInt8):Option (Bool):=vO @iter x
def oE (x:List UInt8):Option (Bool):=vO @gh x
def xK (it:yP) (x:(List Int)×Int):Option (Int):=
 (it (Int) _ (λx1=>(bx x1 (aY x.1) (bA aM x.1 x1 λI=>(bf x.2 I (aE x1) (cK (cE x1)))) (aE (-1)))) 0)
def BS (x:(List Int)×Int):Option (Int):=xK @iter x
def rG (x:(List Int)×Int):Option (Int):=xK @gh x
def kw (x:(List Int)×Int):Option (Bool):=
 (obind (rG x) λI=>(af (c7 0 I)))
def ku (x:(List Int)×Int×Int):Option (Bool):=
 (obind (jw (x.1,x.2.2)) λI=>(af (c7 x.2.1 I)))
def xz (x:Int×Int×Int×Int×Int×(List Int)×List Int):Option (Bool):=
 (jn (α:=Bool) (bf x.2.1 3 (aE ai) (aE (decide ((x.2.1:Int)=4)))) λx1=>(af x1))
def xy (x:(dz×List gj)×Int×Int):Option (Bool):=
 (bA fX x.1.2 x.2.1 λM=>(bA fX x.1.2 x.2.2 λJ=>(jn (α:=Bool×(dz×List gj)×gj×Int×Int×Int×Int×Int×(List Int)×List Int) (bf M.1 J.1 (aE (ai,x.1,M,J)) (aE ((!decide ((M.p2:Int)=J.p2)),x.1,M,J))) λI=>(bcase I.1 (af aj) (jn (α:=Bool×gj×Int×Int×Int×Int×Int×(List Int)×List Int) (obind (xz I.p2) λy5=>(bcase (!y5) (aE (ai,I.2.2)) (obind (xz I.q3) λZ=>(bcase (!Z) (aE (ai,I.2.2)) (bA ky I.2.1.1.1 I.p2.p2 λY=>(aE (Y.2.2.2.1,I.2.2))))))) λU=>(bcase U.1 (af aj) (jn (α:=Bool) (bf U.2.1.2.1 4 (aE ai) (aE (decide ((U.p3:Int)=4)))) λx8=>(af x8))))))))
def xE (it:yP) (x:List gj):Option Yd5:=
 (bB (c7 0 (aY x)&&c7 (aY x) (aY x)&&a_ (aU (aY x)) 16) (it (Int×Yd5×List (Int×Int)) _ (λx1=>(bx x1.1 (aY x) (bA fX x x1.1 λI=>(ck (fe x1.1 (al x1.2.2)) (cK ((cE x1.1),(Ez (K:=aM) (V:=aM) I.1 (bc .i64 ((wC (K:=aM) (V:=aM) I.1 x1.2.1 0)+1)) x1.2.1),(cQ x1.2.2 x1.1 ((wC (K:=aM) (V:=aM) I.1 (Ez (K:=aM) (V:=aM) I.1 (bc .i64 ((wC (K:=aM) (V:=aM) I.1 x1.2.1 0)+1)) x1.2.1) 0),I.1)))))) (aE x1.2.2))) (0,([]:List (Int×Int)),(aG (aU (aY x)) ((0,0):Int×Int)))))
def BP (x:List gj):Option Yd5:=xE @iter x
def m8 (x:List gj):Option Yd5:=xE @gh x
def sQ (x:Int×Int):Option (Bool):=
 (jn (α:=Bool) (iH 0 x.1 (aE (fQ x.1 x.2)) (aE aj)) λx1=>(af x1))
def sR (x:dz×Int×Bool):Option (Bool):=
 (jn (α:=Bool) (obind (sQ (x.2.1,(aY x.1.2.1))) λJ=>(bcase J (bA qY x.1.2.1 x.2.1 λI=>(aE ((I.2==x.2.2) !=aj))) (aE aj))) λx1=>(af x1))
def ov (it:yP) (x:List S4):Option (cf×Bool):=
 (it (Int×List (List UInt8)) _ (λx1=>(bx x1.1 (aY x) (jn (α:=Int×List (List UInt8)) (bA ky x x1.1 λI=>(bB (a_ (al x1.2+al ([I.1])) 16) (bf I.p2 0 (je I.2.1 0 (cK (bP (([]:List (List UInt8)),aj))) (aE ((cE x1.1),(x1.2++([I.1]))))) (jn (α:=Bool×cf×(List UInt8)×Int×Int×Bool×Int) (bx I.p2 1 (aE (ai,(x1.2++([I.1])),I)) (bx 4 I.p2 (aE (ai,(x1.2++([I.1])),I)) (bcase I.p3 (aE (ai,(x1.2++([I.1])),I)) (aE ((fQ (bc .i64 ((aY x)-x1.1)) I.p2),(x1.2++([I.1])),I))))) λU=>(bcase U.1 (cK (bP (([]:List (List UInt8)),aj))) (it (Int×cf×(List UInt8)×Int×Int×Bool×Int) _ (λJ=>(bx J.1 U.p4 (bA ky x (bc .i64 (x1.1+J.1)) λM=>(bcase (PP (.pr .str (.pr aM (.pr aM (.pr .bool (.pr aM .un))))) (M.1,M.2.1,M.p2,M.p3,M.q4,()) (J.p2,J.1,J.p4,J.p5,J.q6,()) !=ai) (aE (mr (bP (([]:List (List UInt8)),aj)))) (cK ((cE J.1),J.2.1,J.p2,J.1,J.q4)))) (aE (bP ((bc .i64 (x1.1+J.p4)),J.2.1))))) (0,U.2))))))) λx2=>(cK x2)) (aE (x1.2,ai)))) (0,([]:List (List UInt8))))
def om (x:List S4):Option (cf×Bool):=ov @iter x
def g_ (x:List S4):Option (cf×Bool):=ov @gh x
def ou (it:yP) (x:dz×List (List UInt8)):Option (Bool):=
 (bB (a_ (al (x.2:List (List UInt8))) 16) (it (Int×dz×List (List UInt8)) _ (λx1=>(bx x1.1 (aY x.1.2.1) (bA qY x.1.2.1 x1.1 λZ=>(bB (a_ (al x1.2.2+al ([Z.1])) 16) (cK ((cE x1.1),x1.2.1,(x1.2.2++([Z.1])))))) (obind (it (Int×dz×List (List UInt8)) _ (λI=>(bx I.1 (aY x1.2.1.p2) (bA lq x1.2.1.p2 I.1 λY=>(bB (a_ (al I.2.2+al ([Y.1])) 16) (cK ((cE I.1),I.2.1,(I.2.2++([Y.1])))))) (obind (bB (a_ (al I.2.2+al I.2.1.p3) 16) (bB (a_ (al (I.2.2++I.2.1.p3)+al I.2.1.p4) 16) (it (Int×gz×List (List UInt8)) _ (λJ=>(bx J.1 (aO (al ((I.2.2++I.2.1.p3)++I.2.1.p4))) (kB (.str) J.2.2 J.1 λM=>(jn (α:=Bool×gz×List (List UInt8)) (obind (oE M) λy8=>(bcase (!y8) (aE (ai,J.2)) (aE ((wC (K:=.str) (V:=.bool) M J.2.1 aj),J.2)))) λU=>(bcase U.1 (aE aj) (cK ((cE J.1),(Ez (K:=.str) (V:=.bool) M ai U.2.1),U.2.2))))) (aE ai))) (0,([]:List ((List UInt8)×Bool)),((I.2.2++I.2.1.p3)++I.2.1.p4))))) λr=>af (bP r)))) (0,x1.2)) λr=>af (bP r)))) (0,x)))
def ol (x:dz×List (List UInt8)):Option (Bool):=ou @iter x
def dN (x:dz×List (List UInt8)):Option (Bool):=ou @gh x
def kM (it:yP) (x:gP×gz×(List fw)×cf×cf×List (Int×Int×Int)):Option (Bool):=
 (it ((Int×Int×Int)×gP×gz×(List fw)×cf×cf×List (Int×Int×Int)) _ (λx1=>(bx x1.1.2.2 (aY x.q5) (bA oy x.q5 x1.1.2.2 λM=>(jn (α:=Bool×dz×Int×Int×Int) (bx M.1 x1.1.1 (aE (ai,x1.2,M)) (aE ((c7 (aY x1.p5) M.1),x1.2,M))) λJ=>(bcase J.1 (aE aj) (jn (α:=(Int×Int)×dz×Int×Int×Int) (bx x1.1.1 J.p2 (aE ((J.p2,0),J.2)) (aE ((x1.1.1,x1.1.2.1),J.2))) λI=>(je I.p3 I.1.2 (aE aj) (cK ((I.1.1,(cE I.1.2),(cE x1.1.2.2)),I.2.1))))))) (aE ai))) ((0,0,0),x))
def oh (x:gP×gz×(List fw)×cf×cf×List (Int×Int×Int)):Option (Bool):=kM @iter x
def fZ (x:gP×gz×(List fw)×cf×cf×List (Int×Int×Int)):Option (Bool):=kM @gh x
def kN (it:yP) (x:gP×gz×(List fw)×cf×cf×List (Int×Int×Int)):Option (Bool):=
 (jn (α:=Bool×gP×gz×(List fw)×cf×cf×List (Int×Int×Int)) (bx 12 (aY x.1) (aE (ai,x)) (bx 4 (aY x.2.1) (aE (ai,x)) (bx 2 (aY x.p2) (aE (ai,x)) (bx 2 (aY x.p3) (aE (ai,x)) (aE ((fQ 60 (aY x.q5)),x)))))) λx1=>(bcase x1.1 (af aj) (jn (α:=Bool×gP×gz×(List fw)×cf×cf×List (Int×Int×Int)) (bx (aY x1.p5) 1 (aE (ai,x1.2)) (aE ((fQ 4 (aY x1.p5)),x1.2))) λx2=>(bcase x2.1 (af aj) (obind (g_ x2.2.1) λM=>(jn (α:=Bool×gP×gz×(List fw)×cf×cf×List (Int×Int×Int)) (bcase (!M.2) (aE (ai,x2.2)) (obind (dN (x2.2,M.1)) λy5=>(aE ((!y5),x2.2)))) λJ=>(bcase J.1 (af aj) (it Yd3 _ (λI=>(bx I.1 (aY J.p3) (bA lq J.p3 I.1 λU=>(obind (sR (I.2,U.2,aj)) λZ=>(bcase (!Z) (aE aj) (cK ((cE I.1),I.2))))) (obind (obind (fZ I.2) λY=>(af Y)) λr=>af (bP r)))) (0,J.2)))))))))
def oo (x:gP×gz×(List fw)×cf×cf×List (Int×Int×Int)):Option (Bool):=kN @iter x
def dO (x:gP×gz×(List fw)×cf×cf×List (Int×Int×Int)):Option (Bool):=kN @gh x
def vP (it:yP) (x:gP×gz×(List fw)×cf×cf×List (Int×Int×Int)):Option o9:=
 (bB (c7 0 (aY x.2.1)&&c7 (aY x.2.1) (aY x.2.1)&&a_ (aU (aY x.2.1)) 32) (bB (c7 0 (aY x.p3)&&c7 (aY x.p3) (aY x.p3)&&a_ (aU (aY x.p3)) 1) (bB (c7 0 (aY x.p4)&&c7 (aY x.p4) (aY x.p4)&&a_ (aU (aY x.p4)) 24) (it (Int×Int×Int×gG×(List Bool)×List dy) _ (λx1=>(bx x1.1 (aO (al (aG (aU (aY x.2.1)) ((0,[]):Int×List Int)))) (ck (fe x1.1 (al x1.p3)) (cK ((cE x1.1),x1.2.1,x1.p2,(cQ x1.p3 x1.1 ((-1),(aJ (T:=dZ) x1.p3 x1.1).2)),x1.q4))) (obind (jn (α:=Int×Int×gG×(List Bool)×List dy) (bx 0 (aY x1.q5) (ck (fe 0 (al x1.q5)) (aE (x1.2.1,x1.p2,x1.p3,x1.p4,(cQ x1.q5 0 (1,(aJ (T:=ic) x1.q5 0).2))))) (aE x1.2)) λx2=>(af (x2.p2,x2.2.1,x2.q3))) λr=>af (bP r)))) (0,0,(-1),(aG (aU (aY x.2.1)) ((0,[]):Int×List Int)),(aG (aU (aY x.p3)) (aj:Bool)),(aG (aU (aY x.p4)) ((0,(0,aj)):Int×Int×Bool)))))))
def vJ (x:gP×gz×(List fw)×cf×cf×List (Int×Int×Int)):Option o9:=vP @iter x
def oK (x:gP×gz×(List fw)×cf×cf×List (Int×Int×Int)):Option o9:=vP @gh x
def qC (it:yP) (x:gP×gz×(List fw)×cf×cf×List (Int×Int×Int)):Option eK:=
 (obind (oK x) λJ=>(bB (c7 0 0&&c7 0 (aY x.1)&&a_ (aU (aY x.1)) 8) (bB (c7 0 (aY x.p3)&&c7 (aY x.p3) (aY x.p3)&&a_ (aU (aY x.p3)) 8) (bB (c7 0 (aY x.p4)&&c7 (aY x.p4) (aY x.p4)&&a_ (aU (aY x.p4)) 8) (it (Int×Int×o9×(List Int)×(List Int)×List Int) _ (λx2=>(bx x2.1 (aY x.1) (bA ky x.1 x2.1 λI=>(bB (a_ (al x2.p3+al ([I.q4])) 8) (cK ((cE x2.1),x2.2.1,x2.p2,(x2.p3++([I.q4])),x2.q4)))) (aE x2.2.2))) (0,0,J,(aG (aU 0) (0:Int)),(aG (aU (aY x.p3)) (0:Int)),(aG (aU (aY x.p4)) (0:Int))))))))
def qf (x:gP×gz×(List fw)×cf×cf×List (Int×Int×Int)):Option eK:=qC @iter x
def dl (x:gP×gz×(List fw)×cf×cf×List (Int×Int×Int)):Option eK:=qC @gh x
def kh (it:yP) (x:(List Bool)×Int×Int×Int×Int×Int×(List Int)×List Int):Option (Bool):=
 (it (Int) _ (λx1=>(bx x1 2 (bB (c7 0 x1&&fQ x1 2) (lt (aJ (T:=(.sl aM)) [x.p6,x.q7] x1) λM=>(it (Int) _ (λJ=>(bx J (aY M) (bA aM M J λI=>(jn (α:=Bool) (bx I 0 (aE ai) (iH (aY x.1) I (aE ai) (bA (.bool) x.1 I λU=>(aE (!U))))) λY=>(bcase Y (aE (bP aj)) (cK (cE J))))) (aE (mr (cE x1))))) 0))) (aE ai))) 0)
def mL (x:(List Bool)×Int×Int×Int×Int×Int×(List Int)×List Int):Option (Bool):=kh @iter x
def ci (x:(List Bool)×Int×Int×Int×Int×Int×(List Int)×List Int):Option (Bool):=kh @gh x
def e_ (x:Int×Int):Option (Bool):=
 (jn (α:=Bool) (iH 0 x.1 (aE (fQ x.1 x.2)) (aE aj)) λx1=>(af x1))
def lZ (x:dz×Int×Int):Option (Bool):=
 (jn (α:=Bool×gP×gz×(List fw)×cf×cf×List (Int×Int×Int)) (bf x.2.1 1 (aE ((decide ((x.2.1:Int)=1)),x.1)) (bf x.2.1 2 (aE ((decide ((x.2.1:Int)=2)),x.1)) (bf x.2.1 5 (aE ((decide ((x.2.1:Int)=5)),x.1)) (bf x.2.1 12 (aE ((decide ((x.2.1:Int)=12)),x.1)) (bf x.2.1 13 (aE ((decide ((x.2.1:Int)=13)),x.1)) (bf x.2.1 14 (aE ((decide ((x.2.1:Int)=14)),x.1)) (aE ((decide ((x.2.1:Int)=15)),x.1)))))))) λx1=>(bcase x1.1 (af (decide ((x.2.2:Int)=(-1)))) (jn (α:=Bool×gP×gz×(List fw)×cf×cf×List (Int×Int×Int)) (bf x.2.1 3 (aE ((decide ((x.2.1:Int)=3)),x1.2)) (aE ((decide ((x.2.1:Int)=4)),x1.2))) λx2=>(bcase x2.1 (obind (e_ (x.2.2,(aY x2.2.1))) λy3=>(af y3)) (jn (α:=Bool×gP×gz×(List fw)×cf×cf×List (Int×Int×Int)) (bf x.2.1 6 (aE ((decide ((x.2.1:Int)=6)),x2.2)) (aE ((decide ((x.2.1:Int)=7)),x2.2))) λU=>(bcase U.1 (jn (α:=Bool) (obind (e_ (x.2.2,(aY U.p2))) λy6=>(bcase y6 (bA qY U.p2 x.2.2 λz7=>(aE (!z7.2))) (aE aj))) λx5=>(af x5)) (jn (α:=Bool×gP×gz×(List fw)×cf×cf×List (Int×Int×Int)) (bf x.2.1 8 (aE ((decide ((x.2.1:Int)=8)),U.2)) (bf x.2.1 9 (aE ((decide ((x.2.1:Int)=9)),U.2)) (bf x.2.1 10 (aE ((decide ((x.2.1:Int)=10)),U.2)) (aE ((decide ((x.2.1:Int)=11)),U.2))))) λM=>(bcase M.1 (jn (α:=Bool) (obind (e_ (x.2.2,(aY M.p2))) λy10=>(bcase y10 (bA qY M.p2 x.2.2 λZ=>(aE Z.2)) (aE aj))) λx9=>(af x9)) (jn (α:=Bool×gP×gz×(List fw)×cf×cf×List (Int×Int×Int)) (bf x.2.1 16 (aE ((decide ((x.2.1:Int)=16)),M.2)) (bf x.2.1 17 (aE ((decide ((x.2.1:Int)=17)),M.2)) (bf x.2.1 18 (aE ((decide ((x.2.1:Int)=18)),M.2)) (aE ((decide ((x.2.1:Int)=19)),M.2))))) λJ=>(bcase J.1 (obind (e_ (x.2.2,(aY J.p3))) λy13=>(af y13)) (jn (α:=Bool×gP×gz×(List fw)×cf×cf×List (Int×Int×Int)) (bf x.2.1 20 (aE ((decide ((x.2.1:Int)=20)),J.2)) (aE ((decide ((x.2.1:Int)=21)),J.2))) λI=>(bcase I.1 (obind (e_ (x.2.2,(aY I.p5))) λy15=>(af y15)) (jn (α:=Bool×gP×gz×(List fw)×cf×cf×List (Int×Int×Int)) (bf x.2.1 22 (aE ((decide ((x.2.1:Int)=22)),I.2)) (aE ((decide ((x.2.1:Int)=23)),I.2))) λY=>(bcase Y.1 (obind (e_ (x.2.2,(aY Y.p4))) λy17=>(af y17)) (af aj)))))))))))))))
def tJ (it:yP) (x:dz×gG×Int×(List Bool)×List dy):Option (Bool):=
 (jn (α:=Bool×gP×gz×(List fw)×cf×cf×List (Int×Int×Int)) (je (aY x.2.1) (aY x.1.2.1) (aE (ai,x.1)) (je (aY x.p3) (aY x.1.p3) (aE (ai,x.1)) (aE ((!decide (((aY x.q4):Int)=(aY x.1.p4))),x.1)))) λx1=>(bcase x1.1 (af aj) (it Yd3 _ (λx2=>(bx x2.1 (aY x1.p3) (bA lq x1.p3 x2.1 λI=>(obind (e_ (I.2,(aY x2.p2))) λJ=>(bcase (!J) (aE aj) (cK ((cE x2.1),x2.2))))) (aE ai))) (0,x1.2))))
def xu (x:dz×gG×Int×(List Bool)×List dy):Option (Bool):=tJ @iter x
def ka (x:dz×gG×Int×(List Bool)×List dy):Option (Bool):=tJ @gh x
def oJ (x:dz×o9×Int×Int×Int):Option (Bool):=
 (bf x.p3 6 (bA dZ x.2.1.1 x.q4 λz1=>(af (decide ((z1.1:Int)=(-1))))) (bf x.p3 10 (jn (α:=Bool) (bA dZ x.2.1.1 x.q4 λz3=>(bf z3.1 (-1) (bA dZ x.2.1.1 x.q4 λz4=>(aE (decide (((aY z4.2):Int)=0)))) (aE aj))) λx2=>(af x2)) (bf x.p3 8 (jn (α:=Bool) (bA dZ x.2.1.1 x.q4 λz6=>(bf z6.1 (-1) (bA dZ x.2.1.1 x.q4 λz7=>(obind (kw (z7.2,x.p2)) λy8=>(aE (!y8)))) (aE aj))) λx5=>(af x5)) (jn (α:=Bool×dz×gG×Int×(List Bool)×List dy) (bf x.p3 7 (aE ((decide ((x.p3:Int)=7)),x.1,x.2.1)) (aE ((decide ((x.p3:Int)=11)),x.1,x.2.1))) λJ=>(bcase J.1 (bA dZ J.p2 x.q4 λz10=>(af (decide ((z10.1:Int)=x.p2)))) (bf x.p3 9 (bA dZ J.p2 x.q4 λz11=>(obind (kw (z11.2,x.p2)) λy12=>(af y12))) (bf x.p3 12 (af (decide ((J.p3:Int)=(-1)))) (bf x.p3 13 (af (decide ((J.p3:Int)=x.p2))) (bf x.p3 14 (bA ic J.q5 x.p2 λz13=>(af (!z13.2.2))) (bf x.p3 15 (bA ic J.q5 x.p2 λz14=>(af z14.2.2)) (jn (α:=Bool×dz×gG×Int×(List Bool)×List dy) (bf x.p3 16 (aE ((decide ((x.p3:Int)=16)),J.2)) (bf x.p3 18 (aE ((decide ((x.p3:Int)=18)),J.2)) (aE ((decide ((x.p3:Int)=19)),J.2)))) λI=>(bcase I.1 (bA lq I.2.1.p2 x.q4 λz16=>(bA dZ I.p2 z16.2 λz17=>(af (decide ((z17.1:Int)=x.p2))))) (bf x.p3 20 (jn (α:=Bool) (je x.q4 x.p2 (bA ic I.q5 x.q4 λZ=>(aE (decide ((Z.1:Int)=0)))) (aE aj)) λx18=>(af x18)) (bf x.p3 21 (jn (α:=Bool) (je x.q4 x.p2 (bA ic I.q5 x.q4 λY=>(aE (decide ((Y.1:Int)=5)))) (aE aj)) λx20=>(af x20)) (bf x.p3 22 (bA (.bool) I.p4 x.q4 λU=>(af (!U))) (bf x.p3 23 (bA (.bool) I.p4 x.q4 λM=>(af M)) (af ai)))))))))))))))))
def jb (x:dz×o9×Int×Int×Int):Option (Bool):=
 (jn (α:=Bool×dz×gG×Int×(List Bool)×List dy) (obind (ka (x.1,x.2.1)) λy2=>(bcase (!y2) (aE (ai,x.1,x.2.1)) (obind (e_ (x.p2,(aY x.1.p4))) λZ=>(bcase (!Z) (aE (ai,x.1,x.2.1)) (obind (lZ (x.1,x.q3)) λY=>(aE ((!Y),x.1,x.2.1))))))) λx1=>(bcase x1.1 (af aj) (bA ic x1.q5 x.p2 λI=>(bf x.p3 1 (af (decide ((I.1:Int)=1))) (bf x.p3 17 (jn (α:=Bool) (bf I.1 4 (bf I.2.1 x.q4 (bA lq x1.2.1.p2 x.q4 λU=>(bA dZ x1.p2 U.2 λM=>(aE (decide ((M.1:Int)=(-1)))))) (aE aj)) (aE aj)) λx6=>(af x6)) (jn (α:=Bool) (bf I.1 2 (obind (oJ (x1.2.1,x1.2.2,x.2.2)) λJ=>(aE J)) (aE aj)) λx9=>(af x9)))))))
def kU (x:dz×o9×(List Int)×(List Int)×List Int):Option (Bool):=
 (jn (α:=Bool) (obind (ka (x.1,x.2.1)) λI=>(bcase I (bf (aY x.p2) (aY x.1.1) (bf (aY x.p3) (aY x.1.p3) (aE (decide (((aY x.q4):Int)=(aY x.1.p4)))) (aE aj)) (aE aj)) (aE aj))) λx1=>(af x1))
def jB (x:dz×Int×Int×Int×Int×Int×(List Int)×List Int):Option (Bool):=
 (jn (α:=Bool×dz×Int×Int×Int×Int×Int×(List Int)×List Int) (bf x.p2 1 (aE (ai,x)) (aE ((decide ((x.p2:Int)=2)),x))) λx1=>(bcase x1.1 (af (decide ((x1.p6:Int)=(-1)))) (jn (α:=Bool) (iH 0 x1.p6 (bx x1.p6 (aY x1.2.1.q5) (bA oy x1.2.1.q5 x1.p6 λI=>(aE (decide ((I.1:Int)=x1.p2)))) (aE aj)) (aE aj)) λx2=>(af x2))))
def jr (it:yP) (x:dz×eK×Int×Int×Int×Int×Int×(List Int)×List Int):Option (Bool):=
 (jn (α:=Bool×eK×Int×Int×Int×Int×Int×(List Int)×List Int) (bf x.p3 3 (bA ky x.1.1 x.p4 λz2=>(aE ((!decide ((z2.2.2.1:Int)=0)),x.2))) (bf x.p3 4 (bA ky x.1.1 x.p4 λz3=>(aE ((!decide ((z3.2.2.1:Int)=0)),x.2))) (aE (aj,x.2)))) λx1=>(jn (α:=eK×gj×Bool×Bool) (bf x1.p3 5 (bf x1.p3 4 (aE (x1.2.1,x1.2.2,ai,ai)) (aE (x1.2.1,x1.2.2,ai,(decide ((x1.p3:Int)=22))))) (bf x1.p3 4 (aE (x1.2.1,x1.2.2,x1.1,ai)) (aE (x1.2.1,x1.2.2,x1.1,(decide ((x1.p3:Int)=22)))))) λx4=>(it (Int×eK×gj×Bool×Bool) _ (λI=>(bx I.1 2 (bB (c7 0 I.1&&fQ I.1 2) (lt (aJ (T:=(.sl aM)) [x4.2.1.p5,x4.2.1.q6] I.1) λY=>(jn (α:=Bool×eK×gj×Bool×Bool) (bx 0 (aY Y) (bB (c7 0 I.1&&fQ I.1 2) (bB (fe I.1 2) (lt (aJ (T:=.bool) [I.p3,I.q4] I.1) λz8=>(aE ((!z8),I.2))))) (aE (aj,I.2))) λx7=>(bcase x7.1 (aE aj) (it ((Int×Int)×eK×gj×Bool×Bool) _ (λJ=>(bx J.1.2 (aY Y) (bA aM Y J.1.2 λM=>(jn (α:=Bool×eK×gj×Bool×Bool) (iH M J.1.1 (aE (ai,J.2)) (bA aM J.2.1.q3 J.p2.1 λZ=>(aE ((c7 Z M),J.2)))) λU=>(bcase U.1 (aE (bP aj)) (cK ((M,(cE J.1.2)),U.2))))) (aE (mr ((cE I.1),J.2))))) ((0,0),x7.2)))))) (aE ai))) (0,x4))))
def lD (x:dz×eK×Int×Int×Int×Int×Int×(List Int)×List Int):Option (Bool):=jr @iter x
def eY (x:dz×eK×Int×Int×Int×Int×Int×(List Int)×List Int):Option (Bool):=jr @gh x
def lJ (it:yP) (x:eK×Int×Int×Int×Int×Int×(List Int)×List Int):Option (Bool):=
 (bf x.p2 3 (bA aM x.1.2.1 x.p3 λz1=>(af (decide ((x.p4:Int)=z1)))) (bf x.p2 23 (bA aM x.1.p2 x.p3 λz2=>(af (decide ((x.p4:Int)=z2)))) (bf x.p2 5 (jn (α:=Bool) (bf x.p4 0 (aE ai) (aE (decide ((x.p4:Int)=1)))) λx3=>(af x3)) (jn (α:=Bool×eK×Int×Int×Int×Int×Int×(List Int)×List Int) (bf x.p2 4 (aE ((decide ((x.p2:Int)=4)),x)) (aE ((decide ((x.p2:Int)=22)),x))) λM=>(bcase M.1 (af ai) (bf x.p2 18 (it ((Int×Bool×Int)×Int×Int×Int×Int×Int×(List Int)×List Int) _ (λJ=>(bx J.1.2.2 (aY M.2.1.1.q3) (jn (α:=(Int×Bool)×Int×Int×Int×Int×Int×(List Int)×List Int) (bA ic M.2.1.1.q3 J.1.2.2 λz7=>(jn (α:=Bool×Int×Int×Int×Int×Int×(List Int)×List Int) (bf z7.1 3 (aE ((decide ((z7.2.1:Int)=J.p3)),J.2)) (aE (aj,J.2))) λZ=>(bcase Z.1 (bcase J.1.2.1 (aE (((cE J.1.1),ai),Z.2)) (aE (((cE J.1.1),(decide ((Z.p4:Int)=J.1.2.2))),Z.2))) (aE ((J.1.1,J.1.2.1),Z.2))))) λx6=>(cK ((x6.1.1,x6.1.2,(cE J.1.2.2)),x6.2))) (obind (jn (α:=Bool) (bcase J.1.2.1 (aE ai) (bf J.1.1 0 (aE (decide ((J.p4:Int)=(-1)))) (aE aj))) λx9=>(af x9)) λr=>af (bP r)))) ((0,aj,0),M.2.2)) (bf x.p2 19 (it ((Int×Int)×Int×Int×Int×Int×Int×(List Int)×List Int) _ (λI=>(bx I.1.2 (aY M.2.1.1.q3) (jn (α:=Int×Int×Int×Int×Int×Int×(List Int)×List Int) (bA ic M.2.1.1.q3 I.1.2 λY=>(jn (α:=Bool×Int×Int×Int×Int×Int×(List Int)×List Int) (bf Y.1 3 (aE ((decide ((Y.2.1:Int)=I.p3)),I.2)) (aE (aj,I.2))) λU=>(bcase U.1 (aE ((cE I.1.1),U.2)) (aE (I.1.1,U.2))))) λx11=>(cK ((x11.1,(cE I.1.2)),x11.2))) (aE (decide ((I.p4:Int)=I.1.1))))) ((0,0),M.2.2)) (af (decide ((M.p5:Int)=0))))))))))
def pa (x:eK×Int×Int×Int×Int×Int×(List Int)×List Int):Option (Bool):=lJ @iter x
def gy (x:eK×Int×Int×Int×Int×Int×(List Int)×List Int):Option (Bool):=lJ @gh x
def mm (x:dy×Int):Option (Bool):=
 (jn (α:=Bool) (bf x.1.1 3 (aE (decide ((x.1.2.1:Int)=x.2))) (aE aj)) λx1=>(af x1))
def II (x:List Bool):Option (List Bool):=
 (bcase (aC (al x) 0) (Fo (af ([]:List Bool)) (bB (a_ (al ([]:List Bool)+al x) 1) (af (([]:List Bool)++x)))) (bB (a_ (al ([]:List Bool)+al x) 1) (af (([]:List Bool)++x))))
def Oe (x:List Bool):Option (List Bool):=chk (a_ (al x) 1) λ_=>af x
def ED (x:List Bool):Option (List Bool):=
 (bcase (aC (al x) 0) (Fo (af ([]:List Bool)) (bB (a_ (al ([]:List Bool)+al x) 1) (af (([]:List Bool)++x)))) (bB (a_ (al ([]:List Bool)+al x) 1) (af (([]:List Bool)++x))))
def IH (x:List Bool):Option (List Bool):=chk (a_ (al x) 1) λ_=>af x
def IF (x:List dy):Option (List dy):=
 (bcase (aC (al x) 0) (Fo (af ([]:List dy)) (bB (a_ (al ([]:List dy)+al x) 24) (af (([]:List dy)++x)))) (bB (a_ (al ([]:List dy)+al x) 24) (af (([]:List dy)++x))))
def Od (x:List dy):Option (List dy):=chk (a_ (al x) 24) λ_=>af x
def EB (x:List dy):Option (List dy):=
 (bcase (aC (al x) 0) (Fo (af ([]:List dy)) (bB (a_ (al ([]:List dy)+al x) 24) (af (([]:List dy)++x)))) (bB (a_ (al ([]:List dy)+al x) 24) (af (([]:List dy)++x))))
def IE (x:List dy):Option (List dy):=chk (a_ (al x) 24) λ_=>af x
def EC (x:List Int):Option (List Int):=
 (bcase (aC (al x) 0) (Fo (af ([]:List Int)) (bB (a_ (al ([]:List Int)+al x) 8) (af (([]:List Int)++x)))) (bB (a_ (al ([]:List Int)+al x) 8) (af (([]:List Int)++x))))
def zd (x:List Int):Option (List Int):=chk (a_ (al x) 8) λ_=>af x
def r7 (it:yP) (x:gG×Int×(List Bool)×List dy):Option Yd2:=
 (bB (c7 0 (aY x.1)&&c7 (aY x.1) (aY x.1)&&a_ (aU (aY x.1)) 32) (it (Int×o9×Int×List (Int×List Int)) _ (λx1=>(bx x1.1 (aY x.1) (bA dZ x.1 x1.1 λI=>(obind (BY I.2) λU=>(ck (fe x1.1 (al x1.q3)) (cK ((cE x1.1),x1.2.1,x1.p2,(cQ x1.q3 x1.1 (I.1,U))))))) (obind (obind (IH x1.2.1.p2) λM=>(obind (IE x1.2.1.q3) λJ=>(af (x1.2.1.2.1,x1.q3,M,J)))) λr=>af (bP r)))) (0,x,0,(aG (aU (aY x.1)) ((0,[]):Int×List Int)))))
def vI (x:gG×Int×(List Bool)×List dy):Option Yd2:=r7 @iter x
def kq (x:gG×Int×(List Bool)×List dy):Option Yd2:=r7 @gh x
def qF (it:yP) (x:(Int×Int×Int)×gG×(List Bool)×List dy):Option Yd2:=
 (it ((Int×Int)×gG×(List Bool)×(List dy)×Int) _ (λx1=>(bx x1.1.2 (aY x.q3) (jn (α:=Int×gG×(List Bool)×(List dy)×Int) (kB ic x1.p3 x1.1.2 λJ=>(jn (α:=Bool×gG×(List Bool)×(List dy)×Int) (obind (mm (J,x.1.2.1)) λM=>(bcase M (bx x1.1.1 0 (aE (ai,x1.2)) (aE ((decide ((x1.1.2:Int)=x.1.2.2)),x1.2))) (aE (aj,x1.2)))) λI=>(bcase I.1 (aE (x1.1.2,I.2)) (aE (x1.1.1,I.2))))) λx2=>(cK ((x2.1,(cE x1.1.2)),x2.2))) (obind (jn (α:=gG×(List Bool)×List dy) (iH 0 x1.1.1 (ck (fe x1.1.1 (al x1.p3)) (aE (x1.2.1,x1.p2,(cQ x1.p3 x1.1.1 (4,(aJ (T:=ic) x1.p3 x1.1.1).2))))) (aE (x1.2.1,x1.p2,x1.p3))) λU=>(af (x1.1.1,U))) λr=>af (bP r)))) (((-1),0),x.2.1,x.p2,x.q3,x.1.1))
def ub (x:(Int×Int×Int)×gG×(List Bool)×List dy):Option Yd2:=qF @iter x
def jG (x:(Int×Int×Int)×gG×(List Bool)×List dy):Option Yd2:=qF @gh x
def mA (it:yP) (x:(Int×Int)×gG×(List Bool)×List dy):Option Yd2:=
 (it ((Int×Int)×gG×(List Bool)×(List dy)×Int) _ (λx1=>(bx x1.1.2 (aY x.q3) (jn (α:=Int×gG×(List Bool)×(List dy)×Int) (kB ic x1.p3 x1.1.2 λI=>(obind (mm (I,x.1.2)) λJ=>(bcase J (ck (fe x1.1.2 (al x1.p3)) (aE ((cE x1.1.1),x1.2.1,x1.p2,(cQ x1.p3 x1.1.2 (4,(aJ (T:=ic) x1.p3 x1.1.2).2)),x1.q4))) (aE (x1.1.1,x1.2))))) λx2=>(cK ((x2.1,(cE x1.1.2)),x2.2))) (aE (x1.1.1,x1.2.1,x1.p2,x1.p3)))) ((0,0),x.2.1,x.p2,x.q3,x.1.1))
def qg (x:(Int×Int)×gG×(List Bool)×List dy):Option Yd2:=mA @iter x
def gV (x:(Int×Int)×gG×(List Bool)×List dy):Option Yd2:=mA @gh x
def qx (x:Int):Option (Bool):=
 (af (!decide ((x:Int)=x)))
def vL (x:Int×Int):Option (Bool):=
 (jn (α:=Bool) (obind (qx x.1) λJ=>(bcase J (obind (qx x.2) λI=>(bcase (!I) (aE ai) (aE (fQ x.1 x.2)))) (aE (fQ x.1 x.2)))) λx1=>(af x1))
def rD (x:Int):Option (Int):=
 (iH 4294967296 x ah (iH 65536 x ah (iH 256 x ah (v7 (bc .u8 x) ([0,1,2,2,3,3,3,3,4,4,4,4,4,4,4,4,5,5,5,5,5,5,5,5,5,5,5,5,5,5,5,5,6,6,6,6,6,6,6,6,6,6,6,6,6,6,6,6,6,6,6,6,6,6,6,6,6,6,6,6,6,6,6,6,7,7,7,7,7,7,7,7,7,7,7,7,7,7,7,7,7,7,7,7,7,7,7,7,7,7,7,7,7,7,7,7,7,7,7,7,7,7,7,7,7,7,7,7,7,7,7,7,7,7,7,7,7,7,7,7,7,7,7,7,7,7,7,7,8,8,8,8,8,8,8,8,8,8,8,8,8,8,8,8,8,8,8,8,8,8,8,8,8,8,8,8,8,8,8,8,8,8,8,8,8,8,8,8,8,8,8,8,8,8,8,8,8,8,8,8,8,8,8,8,8,8,8,8,8,8,8,8,8,8,8,8,8,8,8,8,8,8,8,8,8,8,8,8,8,8,8,8,8,8,8,8,8,8,8,8,8,8,8,8,8,8,8,8,8,8,8,8,8,8,8,8,8,8,8,8,8,8,8,8,8,8,8,8,8,8,8,8,8,8,8,8]) (af (bc .i64 (0+(bc .i64 (Au ([0,1,2,2,3,3,3,3,4,4,4,4,4,4,4,4,5,5,5,5,5,5,5,5,5,5,5,5,5,5,5,5,6,6,6,6,6,6,6,6,6,6,6,6,6,6,6,6,6,6,6,6,6,6,6,6,6,6,6,6,6,6,6,6,7,7,7,7,7,7,7,7,7,7,7,7,7,7,7,7,7,7,7,7,7,7,7,7,7,7,7,7,7,7,7,7,7,7,7,7,7,7,7,7,7,7,7,7,7,7,7,7,7,7,7,7,7,7,7,7,7,7,7,7,7,7,7,7,8,8,8,8,8,8,8,8,8,8,8,8,8,8,8,8,8,8,8,8,8,8,8,8,8,8,8,8,8,8,8,8,8,8,8,8,8,8,8,8,8,8,8,8,8,8,8,8,8,8,8,8,8,8,8,8,8,8,8,8,8,8,8,8,8,8,8,8,8,8,8,8,8,8,8,8,8,8,8,8,8,8,8,8,8,8,8,8,8,8,8,8,8,8,8,8,8,8,8,8,8,8,8,8,8,8,8,8,8,8,8,8,8,8,8,8,8,8,8,8,8,8,8,8,8,8,8,8]) (bc .u8 x))))))))))
def um (x:Int):Option (Int):=
 (obind (rD x) λI=>(af I))
def jV (it:yP) (x:(Int×Int)×List Int):Option (List Int):=
 (it (Int×List Int) _ (λx1=>(bx x1.1 x.1.2 (it (Int×List Int) _ (λx2=>(jn (α:=Bool×List Int) (bx x.1.1 x2.1 (kB aM x2.2 x2.1 λY=>(kB aM x2.2 (bc .i64 (x2.1-1)) λU=>(obind (vL (Y,U)) λZ=>(aE (Z,x2.2))))) (aE (aj,x2.2))) λI=>(bcase I.1 (kB aM I.2 (bc .i64 (x2.1-1)) λJ=>(kB aM I.2 x2.1 λM=>(ck (fe x2.1 (al I.2)) (ck (fe (bc .i64 (x2.1-1)) (al (cQ I.2 x2.1 J))) (cK ((bc .i64 (x2.1-1)),(cQ (cQ I.2 x2.1 J) (bc .i64 (x2.1-1)) M))))))) (aE (mr ((cE x1.1),I.2)))))) x1) (aE x1.2))) ((cE x.1.1),x.2))
def jU (x:(Int×Int)×List Int):Option (List Int):=jV @iter x
def fU (x:(Int×Int)×List Int):Option (List Int):=jV @gh x
def oq (it:yP) (x:(Int×Int×Int)×List Int):Option (List Int):=
 (it ((Int×Int×Int×Bool×Bool)×List Int) _ (λx1=>(iH (bc .i64 (x1.1.2.1-x1.1.1)) 12 (obind (fU ((x1.1.1,x1.1.2.1),x1.2)) λI=>(bB (aC (al x1.2) (al I)&&ai) (aE I))) (bf x1.1.p2 0 ah (bcase (!x1.1.p3) ah ah)))) ((x.1.1,x.1.2.1,x.1.2.2,ai,ai),x.2))
def og (x:(Int×Int×Int)×List Int):Option (List Int):=oq @iter x
def jg (x:(Int×Int×Int)×List Int):Option (List Int):=oq @gh x
def wF (x:List Int):Option (List Int):=
 (obind (um (bc .u64 (aY x))) λJ=>(obind (jg ((0,(aY x),J),x)) λI=>(bB (aC (al x) (al I)&&ai) (af I))))
def xL (it:yP) (x:List Int):Option (List Int):=
 (bx (aY x) 2 (af x) (it (Int×List Int) _ (λx1=>(bx x1.1 (aY x1.2) (kB aM x1.2 x1.1 λJ=>(kB aM x1.2 (bc .i64 (x1.1-1)) λI=>(bf J I (bB (c7 0 x1.1&&fQ x1.1 (al x1.2)) ah) (cK ((cE x1.1),x1.2))))) (aE x1.2))) (1,x)))
def xv (x:List Int):Option (List Int):=xL @iter x
def lI (x:List Int):Option (List Int):=xL @gh x
def oX (x:Int×Int):Option (Bool×Int):=
 (af ((decide ((x.1:Int)=x.2)),x.2))
def uA (it:yP) (x:(List Int)×Int):Option (Int×(List Int)×Int):=
 (it (Int×(List Int)×Int) _ (λx1=>(bx x1.1 (aY x.1) (kB aM x1.2.1 x1.1 λJ=>(obind (oX (J,x1.2.2)) λI=>(bcase I.1 (aE (x1.1,x1.2.1,I.2)) (cK ((cE x1.1),x1.2.1,I.2))))) (aE ((-1),x1.2)))) (0,x))
def uc (x:(List Int)×Int):Option (Int×(List Int)×Int):=uA @iter x
def ne (x:(List Int)×Int):Option (Int×(List Int)×Int):=uA @gh x
def sU (it:yP) (x:(List Int)×Int):Option (Int×List Int):=
 (obind (ne x) λI=>(bB (aC (al x.1) (al I.2.1)&&ai) (bf I.1 (-1) ah (it ((Int×Int)×(List Int)×Int) _ (λx2=>(bx x2.1.2 (aY x2.2.1) (jn (α:=Int×(List Int)×Int) (kB aM x2.2.1 x2.1.2 λM=>(obind (oX (M,x2.2.2)) λJ=>(bcase (!J.1) (ck (fe x2.1.1 (al x2.2.1)) (aE ((cE x2.1.1),(cQ x2.2.1 x2.1.1 M),J.2))) (aE (x2.1.1,x2.2.1,J.2))))) λU=>(cK ((U.1,(cE x2.1.2)),U.2))) (obind (ck (c7 0 x2.1.1&&fQ x2.1.1 (al x2.2.1)) (bB (c7 0 x2.1.1&&fQ x2.1.1 (al (dP (aU x2.1.1) x2.2.1++aG (al x2.2.1-aU x2.1.1) (0:Int)))) (af (x2.2.2,(dP (aU x2.1.1) (dP (aU x2.1.1) x2.2.1++aG (al x2.2.1-aU x2.1.1) (0:Int))))))) λr=>af (bP r)))) ((I.1,(cE I.1)),I.2)))))
def sP (x:(List Int)×Int):Option (Int×List Int):=sU @iter x
def jd (x:(List Int)×Int):Option (Int×List Int):=sU @gh x
def gW (x:dz×o9×Int×Int×Int×Int):Option (o9×Int×Bool):=
 (obind (jb (x.1,x.2.1,x.p2,x.p3,x.p4)) λy1=>(bcase (!y1) (af ((([]:List (Int×List Int)),0,([]:List Bool),([]:List dy)),0,aj)) (obind (kq x.2.1) λJ=>(jn (α:=Int×Int×Int×gG×(List Bool)×List dy) (bf x.p3 1 (ck (fe x.p2 (al J.q3)) (aE (0,J.1,0,J.2.1,J.p2,(cQ J.q3 x.p2 (2,(aJ (T:=ic) J.q3 x.p2).2))))) (bf x.p3 2 (ck (fe x.p2 (al J.q3)) (aE (0,J.1,0,J.2.1,J.p2,(cQ J.q3 x.p2 (5,(aJ (T:=ic) J.q3 x.p2).2))))) (jn (α:=Bool×dz×Int×Int×Int×gG×(List Bool)×List dy) (bf x.p3 6 (aE ((decide ((x.p3:Int)=6)),x.1,J.1,x.p2,0,J.2)) (aE ((decide ((x.p3:Int)=10)),x.1,J.1,x.p2,0,J.2))) λY=>(bcase Y.1 (ck (fe x.p4 (al Y.p5)) (aE (0,Y.p2,Y.p4,(cQ Y.p5 x.p4 (Y.p3,(aJ (T:=dZ) Y.p5 x.p4).2)),Y.q6))) (jn (α:=Bool×dz×Int×Int×Int×gG×(List Bool)×List dy) (bf x.p3 7 (aE ((decide ((x.p3:Int)=7)),Y.2)) (aE ((decide ((x.p3:Int)=11)),Y.2))) λI=>(bcase I.1 (ck (fe x.p4 (al I.p5)) (aE (0,I.p2,I.p4,(cQ I.p5 x.p4 ((-1),(aJ (T:=dZ) I.p5 x.p4).2)),I.q6))) (bf x.p3 8 (kB dZ I.p5 x.p4 λz6=>ah) (bf x.p3 9 (kB dZ I.p5 x.p4 λz7=>ah) (bf x.p3 12 (aE (0,I.q3)) (bf x.p3 13 (aE (0,(-1),I.q4)) (bf x.p3 14 (ck (fe I.p3 (al I.q7)) (aE (0,I.p2,I.p4,I.p5,I.p6,(cQ I.q7 I.p3 ((aJ (T:=ic) I.q7 I.p3).1,((aJ (T:=ic) I.q7 I.p3).2).1,ai))))) (bf x.p3 15 (ck (fe I.p3 (al I.q7)) (aE (0,I.p2,I.p4,I.p5,I.p6,(cQ I.q7 I.p3 ((aJ (T:=ic) I.q7 I.p3).1,((aJ (T:=ic) I.q7 I.p3).2).1,aj))))) (bf x.p3 16 (bA lq I.2.1.p2 x.p4 λz8=>(ck (fe z8.2 (al I.p5)) (ck (fe I.p3 (al I.q7)) (ck (fe I.p3 (al (cQ I.q7 I.p3 (3,(aJ (T:=ic) I.q7 I.p3).2)))) (aE (0,I.p2,I.p4,(cQ I.p5 z8.2 ((-1),(aJ (T:=dZ) I.p5 z8.2).2)),I.p6,(cQ (cQ I.q7 I.p3 (3,(aJ (T:=ic) I.q7 I.p3).2)) I.p3 ((aJ (T:=ic) (cQ I.q7 I.p3 (3,(aJ (T:=ic) I.q7 I.p3).2)) I.p3).1,x.p4,((aJ (T:=ic) (cQ I.q7 I.p3 (3,(aJ (T:=ic) I.q7 I.p3).2)) I.p3).2).2)))))))) (bf x.p3 17 (bA lq I.2.1.p2 x.p4 λz9=>(ck (fe z9.2 (al I.p5)) (ck (fe I.p3 (al I.q7)) (ck (fe I.p3 (al (cQ I.q7 I.p3 (2,(aJ (T:=ic) I.q7 I.p3).2)))) (aE (0,I.p2,I.p4,(cQ I.p5 z9.2 (I.p3,(aJ (T:=dZ) I.p5 z9.2).2)),I.p6,(cQ (cQ I.q7 I.p3 (2,(aJ (T:=ic) I.q7 I.p3).2)) I.p3 ((aJ (T:=ic) (cQ I.q7 I.p3 (2,(aJ (T:=ic) I.q7 I.p3).2)) I.p3).1,0,((aJ (T:=ic) (cQ I.q7 I.p3 (2,(aJ (T:=ic) I.q7 I.p3).2)) I.p3).2).2)))))))) (bf x.p3 18 (obind (jG ((I.p2,x.q4),I.q5)) λU=>(bB (aC (al I.q7) (al U.q3)&&(aC (al I.p6) (al U.p2)&&(aC (al I.p5) (al U.2.1)&&ai))) (aE (U.1,I.p2,I.p4,U.2)))) (bf x.p3 19 (obind (gV ((I.p2,x.p4),I.q5)) λM=>(bB (aC (al I.q7) (al M.q3)&&(aC (al I.p6) (al M.p2)&&(aC (al I.p5) (al M.2.1)&&ai))) (aE (M.1,I.p2,I.p4,M.2)))) (bf x.p3 20 (ck (fe x.p4 (al I.q7)) (aE (0,I.p2,I.p4,I.p5,I.p6,(cQ I.q7 x.p4 (1,(aJ (T:=ic) I.q7 x.p4).2))))) (bf x.p3 22 (ck (fe x.p4 (al I.p6)) (aE (0,I.p2,I.p4,I.p5,(cQ I.p6 x.p4 ai),I.q7))) (aE (0,I.p2,I.q4)))))))))))))))))))) λZ=>(af ((Z.p3,Z.2.1,Z.q4),Z.1,ai))))))
def m7 (x:gG×Int×(List Bool)×List dy):Option (Yd6×(Int×Int×Int)×(List Int)×(List Int)×List Int):=
 (bB (c7 0 (aY x.1)&&c7 (aY x.1) (aY x.1)&&a_ (aU (aY x.1)) 32&&decide (((aY x.1):Int)=3)) (jn (α:=o9×Int×(Int×Int×Int)×(List Int)×(List Int)×List Int) (bx 0 (aY x.1) (bA dZ x.1 0 λI=>(obind (oY I.2) λM=>(bx 1 (aY x.1) (bA dZ x.1 1 λJ=>(obind (oY J.2) λy5=>(bx 2 (aY x.1) (bA dZ x.1 2 λZ=>(obind (oY Z.2) λy7=>(bx 3 (aY x.1) (bA dZ x.1 3 λz8=>(obind (oY z8.2) λy9=>ah)) (aE (x,0,(I.1,J.1,Z.1),M,y5,y7))))) (aE (x,0,(I.1,J.1,0),M,y5,([]:List Int)))))) (aE (x,0,(I.1,0,0),M,([]:List Int),([]:List Int)))))) (aE (x,0,(0,0,0),([]:List Int),([]:List Int),([]:List Int)))) λx1=>(obind (Oe x1.1.p2) λY=>(obind (Od x1.1.q3) λU=>(af ((x1.1.2.1,Y,U),x1.2.2))))))
def kY (x:dz×o9×Int×Int×Int×Int):Option (o9×Int×Bool):=
 (obind (jb (x.1,x.2.1,x.p2,x.p3,x.p4)) λy1=>(bcase (!y1) (af ((([]:List (Int×List Int)),0,([]:List Bool),([]:List dy)),0,aj)) (obind (m7 x.2.1) λM=>(jn (α:=Int×Yd6×Int×((Int×List Int)×(Int×List Int)×Int)×Bool×List Int) (bf x.p3 1 (v7 x.p2 M.1.2.2 ah) (bf x.p3 2 (v7 x.p2 M.1.2.2 ah) (jn (α:=Bool×dz×Yd6×Int×Int×(Int×Int×Int)×(List Int)×(List Int)×List Int) (bf x.p3 6 (aE ((decide ((x.p3:Int)=6)),x.1,M.1,x.p2,0,M.2)) (aE ((decide ((x.p3:Int)=10)),x.1,M.1,x.p2,0,M.2))) λJ=>(bcase J.1 ah (jn (α:=Bool×dz×Yd6×Int×Int×(Int×(List Int)×Int×(List Int)×Int)×List Int) (bf x.p3 7 (aE ((decide ((x.p3:Int)=7)),J.2.1,J.p2,J.p3,J.p4,(J.p5.1,J.p6,J.p5.2.1,J.p7,J.p5.2.2),J.q8)) (aE ((decide ((x.p3:Int)=11)),J.2.1,J.p2,J.p3,J.p4,(J.p5.1,J.p6,J.p5.2.1,J.p7,J.p5.2.2),J.q8))) λI=>(bcase I.1 ah (bf x.p3 8 (bf x.p4 0 ah (bf x.p4 1 ah (bf x.p4 2 (bB (a_ (al I.q6+al ([I.p3])) 8) (obind (wF (I.q6++([I.p3]))) λY=>(bB (aC (al (I.q6++([I.p3]))) (al Y)&&ai) (obind (lI Y) λZ=>(bB (aC (al Y) (al Z)&&ai) (aE (0,I.p2,I.p4,((I.p5.1,I.p5.2.1),(I.p5.p2,I.p5.p3),I.p5.q4),ai,Z))))))) ah))) (bf x.p3 9 (bf x.p4 0 ah (bf x.p4 1 ah (bf x.p4 2 (obind (jd (I.q6,I.p3)) λy8=>(bB (aC (al I.q6) (al I.q6)&&ai) (aE (0,I.p2,I.p4,((I.p5.1,I.p5.2.1),(I.p5.p2,I.p5.p3),I.p5.q4),aj,y8.2)))) ah))) (bf x.p3 12 (aE (0,(I.p3,I.p2.2),I.p4,((I.p5.1,I.p5.2.1),(I.p5.p2,I.p5.p3),I.p5.q4),ai,I.q6)) (bf x.p3 13 (aE (0,((-1),I.p2.2),I.p4,((I.p5.1,I.p5.2.1),(I.p5.p2,I.p5.p3),I.p5.q4),ai,I.q6)) (bf x.p3 14 (v7 I.p3 I.p2.2.2 ah) (bf x.p3 15 (v7 I.p3 I.p2.2.2 ah) (bf x.p3 16 ah (bf x.p3 17 ah (bf x.p3 18 ah (bf x.p3 19 ah (bf x.p3 20 (v7 x.p4 I.p2.2.2 ah) (bf x.p3 22 (v7 x.p4 I.p2.2.1 ah) (aE (0,I.p2,I.p4,((I.p5.1,I.p5.2.1),(I.p5.p2,I.p5.p3),I.p5.q4),ai,I.q6)))))))))))))))))))) λU=>(af (([U.p3.1,U.p3.2.1,(U.p3.2.2,U.q5)],U.2.1),U.1,ai))))))
def rW (x:dz×o9×Int×Int×Int×Int):Option (o9×Int×Bool):=orE (gW x) (kY x)
def fP (x:dz×eK×Int×Int×Int×Int×Int×(List Int)×List Int):Option (eK×Bool):=
 (jn (α:=Bool×dz×eK×gj×Int) (obind (kU (x.1,x.2.1)) λy2=>(bcase (!y2) (aE (ai,x.1,x.2.1,x.2.2,0)) (bx x.p2 0 (aE (ai,x.1,x.2.1,x.2.2,0)) (iH (aY x.1.p4) x.p2 (aE (ai,x.1,x.2.1,x.2.2,0)) (bx x.p3 1 (aE (ai,x.1,x.2.1,x.2.2,0)) (aE ((fQ 23 x.p3),x.1,x.2.1,x.2.2,0))))))) λx1=>(bcase x1.1 (af (((([]:List (Int×List Int)),0,([]:List Bool),([]:List dy)),([]:List Int),([]:List Int),([]:List Int)),aj)) (jn (α:=Bool×dz×eK×gj×Int) (obind (jb (x1.2.1,x1.p2.1,x1.p3.1,x1.p3.2.1,x1.p3.p2)) λy4=>(bcase (!y4) (aE (ai,x1.2)) (obind (jB (x1.2.1,x1.p3)) λy5=>(bcase (!y5) (aE (ai,x1.2)) (obind (eY (x1.2.1,x1.p2,x1.p3)) λy6=>(bcase (!y6) (aE (ai,x1.2)) (obind (gy (x1.p2,x1.p3)) λy7=>(aE ((!y7),x1.2))))))))) λZ=>(bcase Z.1 (af (((([]:List (Int×List Int)),0,([]:List Bool),([]:List dy)),([]:List Int),([]:List Int),([]:List Int)),aj)) (jn (α:=Int×dz×eK×gj×Int) (bf Z.p3.2.1 18 (aE (Z.p3.p3,Z.2)) (aE ((-1),Z.2))) λI=>(obind (rW (I.2.1,I.p2.1,I.p3.1,I.p3.2.1,I.p3.p2,I.1)) λy9=>(bcase (!y9.2.2) (af (((([]:List (Int×List Int)),0,([]:List Bool),([]:List dy)),([]:List Int),([]:List Int),([]:List Int)),aj)) (obind (zd I.p2.2.1) λU=>(obind (zd I.p2.p2) λM=>(obind (oY I.p2.q3) λY=>(jn (α:=gj×Int×o9×(List Int)×(List Int)×List Int) (bf I.p3.2.1 4 (ck (fe I.p3.p2 (al U)) (aE (I.p3,I.q4,y9.1,(cQ U I.p3.p2 I.p3.p3),M,Y))) (bf I.p3.2.1 22 (ck (fe I.p3.p2 (al M)) (aE (I.p3,I.q4,y9.1,U,(cQ M I.p3.p2 I.p3.p3),Y))) (aE (I.p3,I.q4,y9.1,U,M,Y)))) λJ=>(kB aM J.q5 J.1.1 λz14=>(ck (fe J.1.1 (al J.q5)) (af ((J.p2,J.p3,J.p4,(cQ J.q5 J.1.1 (cE z14))),ai)))))))))))))))
def lK (it:yP) (x:dz×List gj):Option (Int×Int):=
 (bx 400 (aY x.2) (af (0,2)) (obind (dO x.1) λy1=>(bcase (!y1) (af (0,1)) (obind (dl x.1) λy2=>(bB (c7 0 (aY x.1.p4)&&c7 (aY x.1.p4) (aY x.1.p4)&&a_ (aU (aY x.1.p4)) 24&&decide (((aY x.1.p4):Int)=1)) (it (Int×(dz×List gj)×eK×List Bool) _ (λJ=>(bx J.1 (aY x.2) (bA fX x.2 J.1 λM=>(obind (fP (J.2.1.1,J.p2,M)) λU=>(jn (α:=Bool×(dz×List gj)×eK×gj×eK×List Bool) (bf M.1 0 (bcase (!U.2) (aE (ai,J.2.1,J.p2,(0,M.2),U.1,J.q3)) (obind (ci (J.q3,0,M.2)) λZ=>(aE ((!Z),J.2.1,J.p2,(0,M.2),U.1,J.q3)))) ah) λI=>(bcase I.1 (aE (J.1,12)) (jn (α:=(dz×List gj)×eK×eK×List Bool) (bf I.p3.1 0 (bf I.p3.2.1 3 (bB (a_ (al I.q5+al ([ai])) 1) (aE (I.2.1,I.p2,I.p4,(I.q5++([ai]))))) (bB (a_ (al I.q5+al ([(decide ((I.p3.2.1:Int)=23))])) 1) (aE (I.2.1,I.p2,I.p4,(I.q5++([(decide ((I.p3.2.1:Int)=23))])))))) ah) λY=>(cK ((cE J.1),Y.1,Y.2.2))))))) (aE (0,0)))) (0,x,y2,([]:List Bool))))))))
def pg (x:dz×List gj):Option (Int×Int):=lK @iter x
def ey (x:dz×List gj):Option (Int×Int):=lK @gh x
def jL (it:yP) (x:dz×List gj):Option (Int×Int):=
 (bx 400 (aY x.2) (af (0,2)) (obind (dO x.1) λy1=>(bcase (!y1) (af (0,1)) (obind (dl x.1) λy2=>(bB (c7 0 (aY x.1.p4)&&c7 (aY x.1.p4) (aY x.1.p4)&&a_ (aU (aY x.1.p4)) 24&&decide (((aY x.1.p4):Int)=2)) (it (Int×(dz×List gj)×eK×(List Bool)×List Bool) _ (λJ=>(bx J.1 (aY x.2) (bA fX x.2 J.1 λM=>(obind (fP (J.2.1.1,J.p2,M)) λU=>(jn (α:=Bool×(dz×List gj)×eK×gj×eK×(List Bool)×List Bool) (bf M.1 0 (bcase (!U.2) (aE (ai,J.2.1,J.p2,(0,M.2),U.1,J.q3)) (obind (ci (J.p3,0,M.2)) λy7=>(aE ((!y7),J.2.1,J.p2,(0,M.2),U.1,J.q3)))) (bf M.1 1 (bcase (!U.2) (aE (ai,J.2.1,J.p2,(1,M.2),U.1,J.q3)) (obind (ci (J.q4,1,M.2)) λZ=>(aE ((!Z),J.2.1,J.p2,(1,M.2),U.1,J.q3)))) ah)) λI=>(bcase I.1 (aE (J.1,12)) (jn (α:=(dz×List gj)×eK×eK×(List Bool)×List Bool) (bf I.p3.1 0 (bf I.p3.2.1 3 (bB (a_ (al I.p5+al ([ai])) 1) (aE (I.2.1,I.p2,I.p4,(I.p5++([ai])),I.q6))) (bB (a_ (al I.p5+al ([(decide ((I.p3.2.1:Int)=23))])) 1) (aE (I.2.1,I.p2,I.p4,(I.p5++([(decide ((I.p3.2.1:Int)=23))])),I.q6)))) (bf I.p3.1 1 (bf I.p3.2.1 3 (bB (a_ (al I.q6+al ([ai])) 1) (aE (I.2.1,I.p2,I.p4,I.p5,(I.q6++([ai]))))) (bB (a_ (al I.q6+al ([(decide ((I.p3.2.1:Int)=23))])) 1) (aE (I.2.1,I.p2,I.p4,I.p5,(I.q6++([(decide ((I.p3.2.1:Int)=23))])))))) ah)) λY=>(cK ((cE J.1),Y.1,Y.2.2))))))) (aE (0,0)))) (0,x,y2,([]:List Bool),([]:List Bool))))))))
def pf (x:dz×List gj):Option (Int×Int):=jL @iter x
def dt (x:dz×List gj):Option (Int×Int):=jL @gh x
def jK (it:yP) (x:dz×List gj):Option (Int×Int):=
 (bx 400 (aY x.2) (af (0,2)) (obind (dO x.1) λy1=>(bcase (!y1) (af (0,1)) (obind (dl x.1) λy2=>(bB (c7 0 (aY x.1.p4)&&c7 (aY x.1.p4) (aY x.1.p4)&&a_ (aU (aY x.1.p4)) 24&&decide (((aY x.1.p4):Int)=3)) (it (Int×(dz×List gj)×eK×(List Bool)×(List Bool)×List Bool) _ (λJ=>(bx J.1 (aY x.2) (bA fX x.2 J.1 λM=>(obind (fP (J.2.1.1,J.p2,M)) λU=>(jn (α:=Bool×(dz×List gj)×eK×gj×eK×(List Bool)×(List Bool)×List Bool) (bf M.1 0 (bcase (!U.2) (aE (ai,J.2.1,J.p2,(0,M.2),U.1,J.q3)) (obind (ci (J.p3,0,M.2)) λy7=>(aE ((!y7),J.2.1,J.p2,(0,M.2),U.1,J.q3)))) (bf M.1 1 (bcase (!U.2) (aE (ai,J.2.1,J.p2,(1,M.2),U.1,J.q3)) (obind (ci (J.p4,1,M.2)) λy8=>(aE ((!y8),J.2.1,J.p2,(1,M.2),U.1,J.q3)))) (bf M.1 2 (bcase (!U.2) (aE (ai,J.2.1,J.p2,(2,M.2),U.1,J.q3)) (obind (ci (J.q5,2,M.2)) λZ=>(aE ((!Z),J.2.1,J.p2,(2,M.2),U.1,J.q3)))) ah))) λI=>(bcase I.1 (aE (J.1,12)) (jn (α:=(dz×List gj)×eK×eK×(List Bool)×(List Bool)×List Bool) (bf I.p3.1 0 (bf I.p3.2.1 3 (bB (a_ (al I.p5+al ([ai])) 1) (aE (I.2.1,I.p2,I.p4,(I.p5++([ai])),I.q6))) (bB (a_ (al I.p5+al ([(decide ((I.p3.2.1:Int)=23))])) 1) (aE (I.2.1,I.p2,I.p4,(I.p5++([(decide ((I.p3.2.1:Int)=23))])),I.q6)))) (bf I.p3.1 1 (bf I.p3.2.1 3 (bB (a_ (al I.p6+al ([ai])) 1) (aE (I.2.1,I.p2,I.p4,I.p5,(I.p6++([ai])),I.q7))) (bB (a_ (al I.p6+al ([(decide ((I.p3.2.1:Int)=23))])) 1) (aE (I.2.1,I.p2,I.p4,I.p5,(I.p6++([(decide ((I.p3.2.1:Int)=23))])),I.q7)))) (bf I.p3.1 2 (bf I.p3.2.1 3 (bB (a_ (al I.q7+al ([ai])) 1) (aE (I.2.1,I.p2,I.p4,I.p5,I.p6,(I.q7++([ai]))))) (bB (a_ (al I.q7+al ([(decide ((I.p3.2.1:Int)=23))])) 1) (aE (I.2.1,I.p2,I.p4,I.p5,I.p6,(I.q7++([(decide ((I.p3.2.1:Int)=23))])))))) ah))) λY=>(cK ((cE J.1),Y.1,Y.2.2))))))) (aE (0,0)))) (0,x,y2,([]:List Bool),([]:List Bool),([]:List Bool))))))))
def pe (x:dz×List gj):Option (Int×Int):=jK @iter x
def dL (x:dz×List gj):Option (Int×Int):=jK @gh x
def jJ (it:yP) (x:dz×List gj):Option (Int×Int):=
 (bx 400 (aY x.2) (af (0,2)) (obind (dO x.1) λy1=>(bcase (!y1) (af (0,1)) (obind (dl x.1) λy2=>(bB (c7 0 (aY x.1.p4)&&c7 (aY x.1.p4) (aY x.1.p4)&&a_ (aU (aY x.1.p4)) 24&&decide (((aY x.1.p4):Int)=4)) (it (Int×(dz×List gj)×eK×(List Bool)×(List Bool)×(List Bool)×List Bool) _ (λJ=>(bx J.1 (aY x.2) (bA fX x.2 J.1 λM=>(obind (fP (J.2.1.1,J.p2,M)) λU=>(jn (α:=Bool×(dz×List gj)×eK×gj×eK×(List Bool)×(List Bool)×(List Bool)×List Bool) (bf M.1 0 (bcase (!U.2) (aE (ai,J.2.1,J.p2,(0,M.2),U.1,J.q3)) (obind (ci (J.p3,0,M.2)) λy7=>(aE ((!y7),J.2.1,J.p2,(0,M.2),U.1,J.q3)))) (bf M.1 1 (bcase (!U.2) (aE (ai,J.2.1,J.p2,(1,M.2),U.1,J.q3)) (obind (ci (J.p4,1,M.2)) λy8=>(aE ((!y8),J.2.1,J.p2,(1,M.2),U.1,J.q3)))) (bf M.1 2 (bcase (!U.2) (aE (ai,J.2.1,J.p2,(2,M.2),U.1,J.q3)) (obind (ci (J.p5,2,M.2)) λy9=>(aE ((!y9),J.2.1,J.p2,(2,M.2),U.1,J.q3)))) (bf M.1 3 (bcase (!U.2) (aE (ai,J.2.1,J.p2,(3,M.2),U.1,J.q3)) (obind (ci (J.q6,3,M.2)) λZ=>(aE ((!Z),J.2.1,J.p2,(3,M.2),U.1,J.q3)))) ah)))) λI=>(bcase I.1 (aE (J.1,12)) (jn (α:=(dz×List gj)×eK×eK×(List Bool)×(List Bool)×(List Bool)×List Bool) (bf I.p3.1 0 (bf I.p3.2.1 3 (bB (a_ (al I.p5+al ([ai])) 1) (aE (I.2.1,I.p2,I.p4,(I.p5++([ai])),I.q6))) (bB (a_ (al I.p5+al ([(decide ((I.p3.2.1:Int)=23))])) 1) (aE (I.2.1,I.p2,I.p4,(I.p5++([(decide ((I.p3.2.1:Int)=23))])),I.q6)))) (bf I.p3.1 1 (bf I.p3.2.1 3 (bB (a_ (al I.p6+al ([ai])) 1) (aE (I.2.1,I.p2,I.p4,I.p5,(I.p6++([ai])),I.q7))) (bB (a_ (al I.p6+al ([(decide ((I.p3.2.1:Int)=23))])) 1) (aE (I.2.1,I.p2,I.p4,I.p5,(I.p6++([(decide ((I.p3.2.1:Int)=23))])),I.q7)))) (bf I.p3.1 2 (bf I.p3.2.1 3 (bB (a_ (al I.p7+al ([ai])) 1) (aE (I.2.1,I.p2,I.p4,I.p5,I.p6,(I.p7++([ai])),I.q8))) (bB (a_ (al I.p7+al ([(decide ((I.p3.2.1:Int)=23))])) 1) (aE (I.2.1,I.p2,I.p4,I.p5,I.p6,(I.p7++([(decide ((I.p3.2.1:Int)=23))])),I.q8)))) (bf I.p3.1 3 (bf I.p3.2.1 3 (bB (a_ (al I.q8+al ([ai])) 1) (aE (I.2.1,I.p2,I.p4,I.p5,I.p6,I.p7,(I.q8++([ai]))))) (bB (a_ (al I.q8+al ([(decide ((I.p3.2.1:Int)=23))])) 1) (aE (I.2.1,I.p2,I.p4,I.p5,I.p6,I.p7,(I.q8++([(decide ((I.p3.2.1:Int)=23))])))))) ah)))) λY=>(cK ((cE J.1),Y.1,Y.2.2))))))) (aE (0,0)))) (0,x,y2,([]:List Bool),([]:List Bool),([]:List Bool),([]:List Bool))))))))
def pd (x:dz×List gj):Option (Int×Int):=jJ @iter x
def eo (x:dz×List gj):Option (Int×Int):=jJ @gh x
def mw (x:dz×List gj):Option (Int×Int):=orE (eo x) (orE (dL x) (orE (dt x) (ey x)))
def xG (it:yP) (x:dz×List gj):Option ((List (List Int))×Int):=
 (obind (mw x) λY=>(je Y.2 0 (af (([]:List (List Int)),12)) (obind (pM x.1) λU=>(bB (c7 0 (aY x.2)&&c7 (aY x.2) (aY x.2)&&a_ (aU (aY x.2)) 24) (it (Int×(dz×List gj)×Yd0×List (List Int)) _ (λI=>(bx I.1 (aY x.2) (bA fX x.2 I.1 λM=>(obind (sA (I.2.1.1,I.p2,M)) λJ=>(ck (fe I.1 (al I.q3)) (cK ((cE I.1),I.2.1,J.1,(cQ I.q3 I.1 J.2)))))) (aE (I.q3,0)))) (0,x,U,(aG (aU (aY x.2)) ([]:List Int))))))))
def BR (x:dz×List gj):Option ((List (List Int))×Int):=xG @iter x
def m_ (x:dz×List gj):Option ((List (List Int))×Int):=xG @gh x
def EZ (it:yP) (x:dz×List gj):Option (Yd5×Int):=
 (obind (m_ x) λY=>(je Y.2 0 (af (([]:List (Int×Int)),Y.2)) (obind (m8 x.2) λy2=>(it (Int×(dz×List gj)×List (Int×Int)) _ (λJ=>(bx J.1 (aY x.2) (it (Int×(dz×List gj)×List (Int×Int)) _ (λI=>(bx I.1 J.1 (jn (α:=(dz×List gj)×List (Int×Int)) (jn (α:=Bool×(dz×List gj)×List (Int×Int)) (obind (xy (I.2.1,I.1,J.1)) λy7=>(bcase y7 (bA (.sl aM) Y.1 J.1 λz8=>(bA iv y2 I.1 λZ=>(obind (ku (z8,Z)) λU=>(aE ((!U),I.2))))) (aE (aj,I.2)))) λM=>(bcase M.1 (bB (a_ (al M.2.2+al ([(I.1,J.1)])) 16) (aE (M.2.1,(M.2.2++([(I.1,J.1)]))))) (aE M.2))) λx5=>(cK ((cE I.1),x5))) (aE (mr ((cE J.1),I.2))))) (0,J.2)) (aE (J.2.2,0)))) (0,x,([]:List (Int×Int)))))))
def Ey (x:dz×List gj):Option (Yd5×Int):=EZ @iter x
def tS (x:dz×List gj):Option (Yd5×Int):=EZ @gh x
def OL (it:yP) (x:Unit):Option dz:=
 (it Yd3 _ (λx1=>(bx x1.1 (aO (al ([[109,97,105,110],[116,49],[116,50],[116,51]]))) (it Yd3 _ (λx2=>(bx x2.1 6 (bB (a_ (al x2.q6+al ([(x1.1,x2.1,(bc .i64 ((bc .i64 ((bc .i64 (10*x1.1))+x2.1))+1)))])) 24) (cK ((cE x2.1),x2.2.1,x2.p2,x2.p3,x2.p4,x2.p5,(x2.q6++([(x1.1,x2.1,(bc .i64 ((bc .i64 ((bc .i64 (10*x1.1))+x2.1))+1)))]))))) (aE (mr ((cE x1.1),x2.2))))) (0,x1.2)) (aE x1.2))) (0,[([120],0,0,aj,0),([121],0,0,aj,1),([118],0,0,ai,0),([113],0,2,aj,0),([113],1,2,aj,0)],[([109],aj),([110],aj),([114],ai)],[([99],0)],[[102]],[[109,97,105,110],[116,49],[116,50],[116,51]],([]:List (Int×Int×Int))))
def Oa (x:Unit):Option dz:=OL @iter x
def CV (x:Unit):Option dz:=OL @gh x
def xx (x:Bool):Option (dz×List gj):=
 (obind (CV ()) λI=>(jn (α:=dz×List gj) (bcase x (kB fX ([(0,1,(-1),0,(-1),([]:List Int),([]:List Int)),(0,20,1,0,0,([]:List Int),([]:List Int)),(1,1,(-1),0,(-1),([]:List Int),([]:List Int)),(0,6,0,0,0,([]:List Int),([]:List Int)),(0,4,0,1,0,([]:List Int),([]:List Int)),(0,7,0,0,0,([]:List Int),([]:List Int)),(1,6,0,0,6,([]:List Int),([]:List Int)),(1,4,0,2,6,([]:List Int),([]:List Int))]) 0 λz3=>(kB fX ([(0,1,(-1),0,(-1),([]:List Int),([]:List Int)),(0,20,1,0,0,([]:List Int),([]:List Int)),(1,1,(-1),0,(-1),([]:List Int),([]:List Int)),(0,6,0,0,0,([]:List Int),([]:List Int)),(0,4,0,1,0,([]:List Int),([]:List Int)),(0,7,0,0,0,([]:List Int),([]:List Int)),(1,6,0,0,6,([]:List Int),([]:List Int)),(1,4,0,2,6,([]:List Int),([]:List Int))]) 1 λZ=>(kB fX ([(0,1,(-1),0,(-1),([]:List Int),([]:List Int)),(0,20,1,0,0,([]:List Int),([]:List Int)),(1,1,(-1),0,(-1),([]:List Int),([]:List Int)),(0,6,0,0,0,([]:List Int),([]:List Int)),(0,4,0,1,0,([]:List Int),([]:List Int)),(0,7,0,0,0,([]:List Int),([]:List Int)),(1,6,0,0,6,([]:List Int),([]:List Int)),(1,4,0,2,6,([]:List Int),([]:List Int))]) 2 λY=>(kB fX ([(0,1,(-1),0,(-1),([]:List Int),([]:List Int)),(0,20,1,0,0,([]:List Int),([]:List Int)),(1,1,(-1),0,(-1),([]:List Int),([]:List Int)),(0,6,0,0,0,([]:List Int),([]:List Int)),(0,4,0,1,0,([]:List Int),([]:List Int)),(0,7,0,0,0,([]:List Int),([]:List Int)),(1,6,0,0,6,([]:List Int),([]:List Int)),(1,4,0,2,6,([]:List Int),([]:List Int))]) 6 λU=>(kB fX ([(0,1,(-1),0,(-1),([]:List Int),([]:List Int)),(0,20,1,0,0,([]:List Int),([]:List Int)),(1,1,(-1),0,(-1),([]:List Int),([]:List Int)),(0,6,0,0,0,([]:List Int),([]:List Int)),(0,4,0,1,0,([]:List Int),([]:List Int)),(0,7,0,0,0,([]:List Int),([]:List Int)),(1,6,0,0,6,([]:List Int),([]:List Int)),(1,4,0,2,6,([]:List Int),([]:List Int))]) 4 λM=>(kB fX ([(0,1,(-1),0,(-1),([]:List Int),([]:List Int)),(0,20,1,0,0,([]:List Int),([]:List Int)),(1,1,(-1),0,(-1),([]:List Int),([]:List Int)),(0,6,0,0,0,([]:List Int),([]:List Int)),(0,4,0,1,0,([]:List Int),([]:List Int)),(0,7,0,0,0,([]:List Int),([]:List Int)),(1,6,0,0,6,([]:List Int),([]:List Int)),(1,4,0,2,6,([]:List Int),([]:List Int))]) 7 λJ=>(aE (I,[z3,Z,Y,U,M,J])))))))) (aE (I,[(0,1,(-1),0,(-1),([]:List Int),([]:List Int)),(0,20,1,0,0,([]:List Int),([]:List Int)),(1,1,(-1),0,(-1),([]:List Int),([]:List Int)),(0,6,0,0,0,([]:List Int),([]:List Int)),(0,4,0,1,0,([]:List Int),([]:List Int)),(0,7,0,0,0,([]:List Int),([]:List Int)),(1,6,0,0,6,([]:List Int),([]:List Int)),(1,4,0,2,6,([]:List Int),([]:List Int))]))) λx2=>(af x2)))
def qw (x:Unit):Option (Bool):=
 (obind (xx aj) λY=>(obind (tS Y) λM=>(obind (xx ai) λU=>(obind (tS U) λI=>(jn (α:=Bool) (bf M.2 0 (bf I.2 0 (bf (aY M.1) 0 (bf (aY I.1) 1 (bA iv I.1 0 λJ=>(aE (PP (.pr aM (.pr aM .un)) (J.1,J.2,()) (4,5,()) !=aj))) (aE aj)) (aE aj)) (aE aj)) (aE aj)) λZ=>(af Z))))))
def v8:Nat:=1000000000
def jl (a b:List Int):List Int:=(cS (max a.length b.length)).map λi=>iD (a.getD i 0) (b.getD i 0)
theorem pO (a b:List Int):(jl a b).length=max a.length b.length:=by simp[jl]
theorem vM (a b:List Int) (i:Nat):(jl a b).getD i 0=iD (a.getD i 0) (b.getD i 0):=by
 unfold jl;simp only[aA,ba];by_cases h:i<max a.length b.length
 .rw[vX h];rfl
 .rw[bS (by simp only[fK];omega),bS (l:=a) (by omega),bS (l:=b) (by omega)];rfl
theorem Lb (c:List Int) (i:Nat):jw (c,(i:Int))=af (c.getD i 0):=by
 unfold jw bx v7 aY aE;simp only[];rw[wL (by omega)];simp only[c4,jh];by_cases h:i<c.length
 .rw[MU (by simp;omega)];simp only[c4];rw[ct (cW h),sD];rfl
 .rw[qA (by simp;omega)];simp only[cZ];rw[aA,bS (by omega)];rfl
theorem ae6:pG=kc:=rfl
theorem XP (a b:List Int) (M:a.length<=v8) (hb:b.length<=v8):kc (a,b)=af (jl a b):=by
 unfold v8 at M hb;unfold kc vu ck bx bB aY cK aE cE;have hm:max a.length b.length<=1000000000:=by omega
 rw[ct (by simp only[zh];rw[qA (by omega),qA (by omega),tw (by simp;omega) (by simp;omega)];rfl)];simp only[zh,c6,eO];have:=wJ (σ:=Int×List Int) (R:=List Int) (max a.length b.length) (by omega) (λi=>((i:Int),(cS (max a.length b.length)).map λk=>if k<i then iD (a.getD k 0) (b.getD k 0) else 0)) (f:=(λx1=>(bcase (fQ x1.1 (aO (max a.length b.length))) (obind (jw (a,x1.1)) λJ=>(obind (jw (b,x1.1)) λI=>(chk (fe x1.1 (al x1.2)) λ_=>(chk (fe x1.1 (al x1.2)) λ_=>(af (mr ((bc .i64 (x1.1+1)),(cQ x1.2 x1.1 (iD J I))))))))) (af (bP x1.2))))) (r:=jl a b) ?_ ?_
 .refine Eq.trans ?_ this;congr 1;simp only[Int.natCast_zero,xi,ef,aD,BA];apply dE<;>simp
 .intro i hi;simp only[];rw[vn (by simp;omega),cZ,Lb,Lb,cV,cV,ct (cW (by simpa using hi)),ct (cW (by simpa using hi)),rh hi (by omega),fR];congr 3;apply dE
  .simp
  .intro k h1 h2;simp only[bR,fK] at h2;simp only[uZ,qU,nA];by_cases e:i=k
   .subst e;simp
   .by_cases h:k<i
    .rw[ay e,aF h,aF (by omega)]
    .rw[ay e,ay h,ay (by omega)]
 .simp only[];rw[wL (by simp),c4];congr 2;unfold jl;apply p_;intro k hk;rw[aF (ll.1 hk)]
theorem ZB (a b:List Int) (M:a.length<=v8) (hb:b.length<=v8):tG (a,b)=af (jl a b,b):=by
 unfold v8 at M hb;unfold tG HX ck bx bB aY cK aE cE;have hm:max a.length b.length<=1000000000:=by omega
 rw[ct (by simp only[zh];rw[qA (by omega),qA (by omega),tw (by simp;omega) (by simp;omega)];rfl)];simp only[zh,c6,eO];have:=wJ (σ:=Int×List Int×List Int) (R:=List Int×List Int) (max a.length b.length) (by omega) (λi=>((i:Int),b,(cS (max a.length b.length)).map λk=>if k<i then iD (a.getD k 0) (b.getD k 0) else 0)) (f:=(λx1=>(bcase (fQ x1.1 (aO (max a.length b.length))) (obind (jw (a,x1.1)) λJ=>(obind (jw (x1.2.1,x1.1)) λI=>(chk (fe x1.1 (al x1.2.2)) λ_=>(chk (fe x1.1 (al x1.2.2)) λ_=>(af (mr ((bc .i64 (x1.1+1)),x1.2.1,(cQ x1.2.2 x1.1 (iD J I))))))))) (af (bP (x1.2.2,x1.2.1)))))) (r:=(jl a b,b)) ?_ ?_
 .refine Eq.trans ?_ this;congr 1;simp only[Int.natCast_zero,xi,ef,aD,BA];apply dE<;>simp
 .intro i hi;simp only[];rw[vn (by simp;omega),cZ,Lb,Lb,cV,cV,ct (cW (by simpa using hi)),ct (cW (by simpa using hi)),rh hi (by omega),fR];congr 4;apply dE
  .simp
  .intro k h1 h2;simp only[bR,fK] at h2;simp only[uZ,qU,nA];by_cases e:i=k
   .subst e;simp
   .by_cases h:k<i
    .rw[ay e,aF h,aF (by omega)]
    .rw[ay e,ay h,ay (by omega)]
 .simp only[];rw[wL (by simp),c4];congr 3;unfold jl;apply p_;intro k hk;rw[aF (ll.1 hk)]
theorem Th (a b:List Int) (I:a.length<=v8) (hb:b.length<=v8):BX (a,b)=af (jl a b):=by
 unfold BX;rw[ZB a b I hb,cV];exact Qe rfl _
def tk (c:List Int) (t:Nat):List Int:=(c++aG (t+1-c.length) 0).set t (c.getD t 0+1)
theorem Mw (c:List Int) (t:Nat):(tk c t).length=max c.length (t+1):=by simp[tk];omega
theorem aim (c:List Int) (n i:Nat):(c++aG n 0).getD i 0=c.getD i 0:=by
 simp only[aA];by_cases h:i<c.length
 .rw[bO h]
 .rw[b_ (by omega),bS (l:=c) (by omega),lz];split<;>rfl
theorem If (c:List Int) (t i:Nat):(tk c t).getD i 0=if i=t then c.getD t 0+1 else c.getD i 0:=by
 unfold tk;rw[aA,oU];by_cases h:t=i
 .subst h;rw[aF rfl,aF (by simp;omega),aF rfl];rfl
 .rw[ay h,ay (λe=>h e.symm),<-aA,aim]
theorem aby (c:List Int) (n:Nat) (h:c.length<=n):TI (aG n 0) c=c++aG (n-c.length) 0:=by
 unfold TI;rw[eO,f_ h,List.drop_replicate]
theorem ag5 (c:List Int) (t:Nat) (hc:c.length<=v8) (ht:t<4) (h0:0<=c.getD t 0) (h1:c.getD t 0<9223372036854775807):sB (c,(t:Int))=af (tk c t):=by
 unfold v8 at hc;unfold sB ck iH bB aY aE cE;simp only[];rw[qA (by omega),cZ,jh,vn (by omega)];simp only[cZ,jh];have e1:iD (aO c.length) (bc .i64 ((t:Int)+1))=((max c.length (t+1):Nat):Int):=by
  rw[rh ht (by omega)];exact zh _ _
 rw[e1];rw[ct (by rw[qA (by omega),qA (by omega),tw (by simp;omega) (by simp;omega)];rfl)];rw[c6];have e2:TI (aG (max c.length (t+1)) (0:Int)) c=c++aG (t+1-c.length) 0:=by
  rw[aby c _ (by omega)];rw[show max c.length (t+1)-c.length=t+1-c.length from by omega]
 rw[e2];have hl:t<(c++aG (t+1-c.length) (0:Int)).length:=by simp;omega
 rw[ct (cW hl),ct (cW hl),jh];have e3:aJ (T:=.int .i64) (c++aG (t+1-c.length) (0:Int)) (t:Int)=c.getD t 0:=by
  rw[sD];exact aim c _ t
 simp only[];rw[e3,vn h1,cZ,ct (cW hl),ct (cW hl),ct (cW hl),ct (cW hl),jh,ZZ (by omega) (by omega),fR];rfl
theorem adf (c:List Int) (hc:c.length<=v8):ue c=af c:=by
 unfold v8 at hc;unfold ue bB;rw[ct (tw (by omega) (by omega))]
theorem Tx (c:List Int) (hc:c.length<=v8):BY c=af c:=by
 unfold v8 at hc;unfold BY;rw[ct (tw (by omega) (by omega))]
theorem ND (c:List Int) (hc:c.length<=v8):vi c=af c:=by
 unfold v8 at hc;unfold vi wG bB;rw[ct (tw (by simp;omega) (by simp;omega)),cV];exact Qe rfl _
theorem NF (c:List Int) (hc:c.length<=v8):oY c=af c:=Tx c hc
theorem Ub (c:List Int) (t:Nat) (hc:c.length<=v8) (ht:t<4) (h0:0<=c.getD t 0) (h1:c.getD t 0<9223372036854775807):pE (c,(t:Int))=af (tk c t):=by
 unfold v8 at hc;unfold pE Ak ck bx iH bB aY cK aE;simp only[];rw[adf c (by unfold v8;omega),cV,wL (by omega),c4,jh,MU (by omega)];simp only[c4];have:=wJ (σ:=List Int) (R:=List Int) (t+1-c.length) (by omega) (λi=>c++aG i 0) (f:=(λI=>(bcase (c7 (aO (al I)) (t:Int)) (chk (a_ (al I+al ([(0:Int)])) 8) λ_=>(af (mr (I++([0]))))) (obind (jn (α:=List Int) (chk (fe (t:Int) (al I)) λ_=>(chk (fe (t:Int) (al I)) λ_=>(bcase (fQ (aJ (T:=(.int .i64)) I (t:Int)) 9223372036854775807) (chk (fe (t:Int) (al I)) λ_=>(chk (fe (t:Int) (al I)) λ_=>(chk (fe (t:Int) (al I)) λ_=>(chk (fe (t:Int) (al I)) λ_=>(af (bP (cQ I (t:Int) (bc .i64 ((aJ (T:=(.int .i64)) I (t:Int))+1))))))))) (af (bP I))))) λJ=>(af J)) λr=>af (bP r))))) (r:=tk c t) ?_ ?_
 .simpa using this
 .intro i hi;rw[qA (by simp;omega),cZ,ct (tw (by simp;omega) (by simp;omega)),iB,<-uK]
 .have hl:t<(c++aG (t+1-c.length) (0:Int)).length:=by simp;omega
  have e3:aJ (T:=.int .i64) (c++aG (t+1-c.length) (0:Int)) (t:Int)=c.getD t 0:=by
   rw[sD];exact aim c _ t
  rw[MU (by simp;omega),c4,ct (cW hl),ct (cW hl),e3,vn h1,cZ,ct (cW hl),ct (cW hl),ct (cW hl),ct (cW hl),jh,cV,ZZ (by omega) (by omega),fR];rfl
def GL (l:List (List Int)):Prop:=l.length<=v8/\∀ c∈l,c.length<=v8
abbrev HTp:Type:=List (List Int)×List (List Int)×List (List Int)×List (List Int)×List (List Int)×List (List Int)×List Int×List (List Int)×List Int
def GH (h:HTp):Prop:=GL h.1/\GL h.2.1/\GL h.2.2.1/\GL h.2.2.2.1/\GL h.2.2.2.2.1/\GL h.2.2.2.2.2.1/\h.2.2.2.2.2.2.1.length<=v8/\GL h.2.2.2.2.2.2.2.1/\h.2.2.2.2.2.2.2.2.length<=v8
theorem Jl {l:List (List Int)} {i:Nat} (h:i<l.length):l.getD i []∈l:=by
 rw[aA,aB h];exact u_ h
theorem GL.at {l:List (List Int)} (h:GL l) (i:Nat):(l.getD i []).length<=v8:=by
 by_cases hi:i<l.length
 .exact h.2 _ (Jl hi)
 .rw[aA,bS (by omega)];simp
theorem YY (g:List Int->Option (List Int)) (l:List (List Int)) (hl:l.length<=v8) (hg:∀ c∈l,g c=af c):
 gh (σ:=Int×List (List Int)) (λx1=>(bcase (fQ x1.1 (aO (al l))) (chk (fe x1.1 (al l)) λ_=>(obind (g (aJ (T:=(.sl (.int .i64))) l x1.1)) λI=>(chk (fe x1.1 (al x1.2)) λ_=>(chk (fe x1.1 (al x1.2)) λ_=>(af (mr ((bc .i64 (x1.1+1)),(cQ x1.2 x1.1 I)))))))) (af (bP x1.2)))) (0,(aG (aU (aO (al l))) ([]:List Int)))=af l:=by
 unfold v8 at hl;have:=wJ (σ:=Int×List (List Int)) (R:=List (List Int)) l.length (by omega) (λi=>((i:Int),(cS l.length).map λk=>if k<i then l.getD k [] else [])) (f:=(λx1=>(bcase (fQ x1.1 (aO (al l))) (chk (fe x1.1 (al l)) λ_=>(obind (g (aJ (T:=(.sl (.int .i64))) l x1.1)) λI=>(chk (fe x1.1 (al x1.2)) λ_=>(chk (fe x1.1 (al x1.2)) λ_=>(af (mr ((bc .i64 (x1.1+1)),(cQ x1.2 x1.1 I)))))))) (af (bP x1.2))))) (r:=l) ?_ ?_
 .refine Eq.trans ?_ this;congr 1;simp only[Int.natCast_zero,xi,ef,aD,BA,au,c6];apply dE<;>simp
 .intro i hi;simp only[];rw[vn (by simp;omega),cZ,ct (cW hi),sD,show (l.getD i (Ty.zero (.sl (.int .i64))))=l.getD i [] from rfl,hg _ (Jl hi),cV,ct (cW (by simpa using hi)),ct (cW (by simpa using hi)),rh hi (by omega),fR];congr 3;apply dE
  .simp
  .intro k h1 h2;simp only[bR,fK] at h2;simp only[uZ,qU,nA];by_cases e:i=k
   .subst e;simp
   .by_cases h:k<i
    .rw[ay e,aF h,aF (by omega)]
    .rw[ay e,ay h,ay (by omega)]
 .simp only[];rw[wL (by simp),c4];congr 2;apply dE
  .simp
  .intro k h1 h2;simp only[qU,nA];rw[aF h2,aA,aB h2];rfl
theorem rO (l:List (List Int)) (h:GL l):io l=af l:=by
 have hl:=h.1;unfold v8 at hl;unfold io xF ck bx v7 bB aY cK aE cE;rw[ct (by rw[qA (by simp),qA (by omega),tw (by simp;omega) (by simp;omega)];rfl)];exact YY BY l h.1 λc hc=>Tx c (h.2 c hc)
theorem YZ (h:HTp) (g:GH h):uo h=af (h.2.2.2.2.2.2.1,h.1,h.2.1,h.2.2.1,h.2.2.2.1,h.2.2.2.2.1,h.2.2.2.2.2.1,h.2.2.2.2.2.2.2.1,h.2.2.2.2.2.2.2.2):=by
 obtain⟨g1,g2,g3,Z,Y,U,M,J,I⟩:=g;unfold uo aZ bk bw cA dV kE pZ;rw[rO _ g1,cV,rO _ g2,cV,rO _ g3,cV,rO _ Z,cV,rO _ Y,cV,rO _ U,cV,NF _ M,cV,rO _ J,cV,NF _ I,cV]
abbrev uS:Type:=List (List UInt8×Int×Int×Bool×Int)×List (List UInt8×Bool)×List (List UInt8×Int)×List (List UInt8)×List (List UInt8)×List (Int×Int×Int)
def h0 (w:uS):HTp:=(aG w.2.2.2.2.1.length [],aG w.2.2.2.2.1.length [],aG w.2.1.length [],aG w.2.1.length [],aG w.1.length [],aG w.2.2.2.1.length [],[],aG w.2.2.2.2.1.length [],aG w.2.2.2.2.1.length (-1))
theorem acw (w:uS) (h1:w.1.length<=v8) (h2:w.2.1.length<=v8) (J:w.2.2.2.1.length<=v8) (I:w.2.2.2.2.1.length<=v8):pM w=af (h0 w):=by
 unfold v8 at h1 h2 J I;have c:∀ n b:Nat,n<=1000000000->b<=24->(c7 0 (aO n)&&c7 (aO n) (aO n)&&a_ (aU (aO n)) b)=ai:=λn b hn hb=>by
  have:n*b<=n*24:=Nat.mul_le_mul_left n hb;rw[qA (by simp),qA (by omega),tw (by simp;omega) (by simp;omega)];rfl
 unfold pM Am aZ bk bw cA dV kE pZ ck bx bB aY cK aE cE;rw[ct (c _ 24 I (by omega)),ct (c _ 24 I (by omega)),ct (c _ 24 h2 (by omega)),ct (c _ 24 h2 (by omega)),ct (c _ 24 h1 (by omega)),ct (c _ 24 J (by omega)),ct (c _ 24 I (by omega)),ct (c _ 8 I (by omega))];simp only[au,c6,eO];have:=wJ (σ:=Int×(List (List Int))×(List (List Int))×(List (List Int))×(List (List Int))×(List (List Int))×(List (List Int))×(List (List Int))×List Int) (R:=HTp) w.2.2.2.2.1.length (by omega) (λi=>((i:Int),aG w.2.2.2.2.1.length [],aG w.2.2.2.2.1.length [],aG w.2.1.length [],aG w.2.1.length [],aG w.1.length [],aG w.2.2.2.1.length [],aG w.2.2.2.2.1.length [],(cS w.2.2.2.2.1.length).map λk=>if k<i then -1 else 0)) (f:=(λx1=>(bcase (fQ x1.1 (w.2.2.2.2.1.length:Int)) (chk (fe x1.1 (al x1.2.2.2.2.2.2.2.2)) λ_=>(chk (fe x1.1 (al x1.2.2.2.2.2.2.2.2)) λ_=>(af (mr ((bc .i64 (x1.1+1)),x1.2.1,x1.2.2.1,x1.2.2.2.1,x1.2.2.2.2.1,x1.2.2.2.2.2.1,x1.2.2.2.2.2.2.1,x1.2.2.2.2.2.2.2.1,(cQ x1.2.2.2.2.2.2.2.2 x1.1 (-1))))))) (af (bP (x1.2.1,x1.2.2.1,x1.2.2.2.1,x1.2.2.2.2.1,x1.2.2.2.2.2.1,x1.2.2.2.2.2.2.1,([]:List Int),x1.2.2.2.2.2.2.2.1,x1.2.2.2.2.2.2.2.2)))))) (r:=h0 w) ?_ ?_
 .refine Eq.trans ?_ this;congr 1;simp only[Int.natCast_zero,xi,ef,aD,BA];apply dE<;>simp
 .intro i hi;simp only[];rw[vn (by omega),cZ,ct (cW (by simpa using hi)),ct (cW (by simpa using hi)),rh hi (by omega),fR];congr 3;simp only[aD,BA];apply dE
  .simp
  .intro k h1 h2;simp only[bR,fK] at h2;simp only[uZ,qU,nA];by_cases e:i=k
   .subst e;simp
   .by_cases h:k<i
    .rw[ay e,aF h,aF (by omega)]
    .rw[ay e,ay h,ay (by omega)]
 .simp only[];rw[wL (by omega),c4];unfold h0;congr 3;simp only[aD,BA];apply dE
  .simp
  .intro k h1 h2;simp only[eO] at h2;simp only[qU,nA,List.getElem_replicate];rw[aF h2]
theorem qz (x y:Int):iD x y=max x y:=by
 unfold iD;by_cases h:x<y
 .rw[vn h,aF rfl];omega
 .rw[wL (by omega)];simp;omega
theorem Uv (a b c:Int):iD (iD a b) c=iD a (iD b c):=by
 simp only[qz];omega
theorem wI {a b:List Int} (hl:a.length=b.length) (h:∀ i,a.getD i 0=b.getD i 0):a=b:=by
 apply dE hl;intro i h1 h2;have:=h i;simpa[aA,aB h1,aB h2] using this
theorem qy (a b c:List Int):jl (jl a b) c=jl a (jl b c):=
 wI (by simp only[pO];omega) λi=>by simp only[vM,Uv]
def En (n:Int) (c:List Int):Prop:=c.length<=4/\∀ i,0<=c.getD i 0/\c.getD i 0<=n
theorem En.nil {n:Int} (h:0<=n):En n []:=⟨by simp,λi=>by simp;exact h⟩
theorem En.mono {n m:Int} {c:List Int} (h:En n c) (hm:n<=m):En m c:=⟨h.1,λi=>⟨(h.2 i).1,Int.le_trans (h.2 i).2 hm⟩⟩
theorem En.jl {n:Int} {a b:List Int} (I:En n a) (hb:En n b):En n (jl a b):=⟨by rw[pO];have:=I.1;have:=hb.1;omega,λi=>by
 rw[vM];obtain⟨h1,h2⟩:=I.2 i;obtain⟨M,J⟩:=hb.2 i;unfold iD;split<;>exact⟨by assumption,by assumption⟩⟩
theorem En.tk {n:Int} {c:List Int} {t:Nat} (h:En n c) (ht:t<4):En (n+1) (tk c t):=⟨by rw[Mw];have:=h.1;omega,λi=>by
 rw[If];obtain⟨h1,h2⟩:=h.2 i;obtain⟨J,I⟩:=h.2 t;split<;>omega⟩
theorem mq {n:Int} {c:List Int} (h:En n c):jl c []=c:=wI (by simp[pO]) λi=>by
 rw[vM,qz];have:=(h.2 i).1;simp only[List.getD_nil];omega
theorem aio {n:Int} {c:List Int} (h:En n c):jl [] c=c:=wI (by simp[pO]) λi=>by
 rw[vM,qz];have:=(h.2 i).1;simp only[List.getD_nil];omega
def Bw (n:Int) (l:List (List Int)):Prop:=∀ i,En n (l.getD i [])
theorem Bw.mono {n m:Int} {l:List (List Int)} (h:Bw n l) (hm:n<=m):Bw m l:=λi=>(h i).mono hm
theorem Bw.set {n:Int} {l:List (List Int)} (h:Bw n l) {c:List Int} (hc:En n c) (j:Nat):Bw n (l.set j c):=λi=>by
 rw[aA,oU];by_cases e:j=i
 .subst e;rw[aF rfl];split
  .exact hc
  .have:=h j;simp only[aA] at this;rename_i hj;rw[bS (by omega)] at this;exact this
 .rw[ay e,<-aA];exact h i
theorem Bw.repl {n:Int} (h:0<=n) (k:Nat):Bw n (aG k []):=λi=>by
 rw[aA,lz];split<;>exact En.nil h
structure HS where
 T:List (List Int)
 S:List (List Int)
 L:List (List Int)
 R:List (List Int)
 C:List (List Int)
 F:List (List Int)
 X:List Int
 N:List (List Int)
 W:List Int
def HS.t (h:HS):HTp:=(h.T,h.S,h.L,h.R,h.C,h.F,h.X,h.N,h.W)
structure EV where
 th:Nat
 k:Nat
 ob:Nat
 va:Int
abbrev WTc:=List (List UInt8×Int)
def Oc (I:WTc) (o:Nat):Nat:=((I.getD o ([],0)).2).toNat
def Ib (I:List (List UInt8×Int×Int×Bool×Int)) (o:Nat):Bool:=(I.getD o ([],0,0,aj,0)).2.2.2.1
def tu (w:uS) (h:HS) (e:EV):List (List Int):=
 if e.k=1 then [h.S.getD e.th []]
 else if e.k=21 then [h.T.getD e.ob []]
 else if e.k=6\/e.k=10 then [h.L.getD e.ob [],h.R.getD e.ob []]
 else if e.k=8 then [h.L.getD e.ob []]
 else if e.k=17 then [h.L.getD (Oc w.2.2.1 e.ob) [],h.R.getD (Oc w.2.2.1 e.ob) [],h.N.getD e.th []]
 else if e.k=3 then [h.C.getD e.ob []]
 else if e.k=23 then [h.F.getD e.ob []]
 else if e.k=12 then [h.X]
 else []
def Fl (w:uS) (h:HS) (e:EV):List Int:=tk ((tu w h e).foldl jl (h.T.getD e.th [])) e.th
def jat (l:List (List Int)) (i:Nat) (c:List Int):List (List Int):=l.set i (jl (l.getD i []) c)
def Cu (p:Nat->Bool) (c:List Int) (h:HS):HS:={h with N:=h.N.mapIdx λu x=>if p u then c else x,W:=h.W.mapIdx λu x=>if p u then -1 else x}
def jN (w:uS) (h:HS) (e:EV) (c:List Int):HS:=
 let h:={h with T:=h.T.set e.th c}
 if e.k=20 then {h with S:=h.S.set e.ob c}
 else if e.k=7\/e.k=11 then {h with L:=jat h.L e.ob c}
 else if e.k=9 then {h with R:=jat h.R e.ob c}
 else if e.k=16 then {h with L:=jat h.L (Oc w.2.2.1 e.ob) c,W:=h.W.set e.th e.ob}
 else if e.k=4 then (if Ib w.1 e.ob then {h with C:=jat h.C e.ob c} else h)
 else if e.k=22 then {h with F:=jat h.F e.ob c}
 else if e.k=13 then {h with X:=jl h.X c}
 else if e.k=18 then (if 0<=e.va/\e.va<h.N.length then {h with N:=h.N.set e.va.toNat c,W:=h.W.set e.va.toNat (-1)} else h)
 else if e.k=19 then Cu (λu=>decide (h.W.getD u 0=(e.ob:Int))) c h
 else h
def P4 (w:uS) (h:HS) (e:EV):HS×List Int:=(jN w h e (Fl w h e),Fl w h e)
structure EOK (w:uS) (h:HS) (e:EV):Prop where
 th4:e.th<4
 th:e.th<h.T.length
 k1:1<=e.k
 k2:e.k<=23
 sp:e.k=20\/e.k=21->e.ob<h.T.length
 lk:6<=e.k/\e.k<=11->e.ob<h.L.length
 cd:e.k=16\/e.k=17->e.ob<w.2.2.1.length/\0<=(w.2.2.1.getD e.ob ([],0)).2/\Oc w.2.2.1 e.ob<h.L.length
 ce:e.k=3\/e.k=4->e.ob<h.C.length/\e.ob<w.1.length
 fu:e.k=22\/e.k=23->e.ob<h.F.length
structure TJ (n:Int) (h:HS):Prop where
 n0:0<=n
 n1:n<=1000000
 T:Bw n h.T
 S:Bw n h.S
 L:Bw n h.L
 R:Bw n h.R
 C:Bw n h.C
 F:Bw n h.F
 X:En n h.X
 N:Bw n h.N
 lT:h.T.length<=1000
 lS:h.S.length=h.T.length
 lN:h.N.length=h.T.length
 lW:h.W.length=h.T.length
 lL:h.L.length<=1000
 lR:h.R.length=h.L.length
 lC:h.C.length<=1000
 lF:h.F.length<=1000
theorem En.lb {n:Int} {c:List Int} (h:En n c):c.length<=v8:=by have:=h.1;unfold v8;omega
theorem Bw.GL {n:Int} {l:List (List Int)} (h:Bw n l) (hl:l.length<=1000):GL l:=⟨by unfold v8;omega,λc hc=>by
 obtain⟨i,hi⟩:=fc hc;have:=(h i).lb
 rwa [aA,hi] at this⟩
theorem TJ.GH {n:Int} {h:HS} (o:TJ n h):GH h.t:=
 ⟨o.T.GL o.lT,o.S.GL (by rw[o.lS];exact o.lT),o.L.GL o.lL,o.R.GL (by rw[o.lR];exact o.lL),o.C.GL o.lC,o.F.GL o.lF,o.X.lb,o.N.GL (by rw[o.lN];exact o.lT),by show h.W.length<=v8;have:=o.lT;rw[o.lW];unfold v8;omega⟩
theorem En.join {n:Int} {a b:List Int} (I:En n a) (hb:En n b):kc (a,b)=af (AI.jl a b):=XP a b I.lb hb.lb
theorem T3 {n:Int} {w:uS} {h:HS} (o:TJ n h) (e:EV):∀ c∈tu w h e,En n c:=by
 intro c hc;unfold tu at hc;repeat' (split at hc)
 all_goals simp only[bm,cw,gi] at hc
 .subst hc;exact o.S _
 .subst hc;exact o.T _
 .rcases hc with rfl|rfl
  .exact o.L _
  .exact o.R _
 .subst hc;exact o.L _
 .rcases hc with rfl|rfl|rfl
  .exact o.L _
  .exact o.R _
  .exact o.N _
 .subst hc;exact o.C _
 .subst hc;exact o.F _
 .subst hc;exact o.X
theorem Df {n:Int}:∀ (l:List (List Int)) (c:List Int),En n c->(∀ x∈l,En n x)->En n (l.foldl jl c)
 |[],_,hc,_=>hc
 |x::r,c,hc,h=>Df r _ (hc.jl (h x (dj ..))) λy I=>h y (cI _ I)
theorem Pf {n:Int} {w:uS} {h:HS} (o:TJ n h) {e:EV} (he:e.th<4):En (n+1) (Fl w h e):=(Df _ _ (o.T _) (T3 o e)).tk he
theorem Bw.jat {n:Int} {l:List (List Int)} {c:List Int} (h:Bw n l) (hc:En n c) (i:Nat):Bw n (jat l i c):=h.set ((h i).jl hc) i
theorem Bw.mapIdx {n:Int} {l:List (List Int)} {c:List Int} (h:Bw n l) (hc:En n c) (p:Nat->Bool):Bw n (l.mapIdx λu x=>if p u then c else x):=λi=>by
 rw[aA,Ea];have:=h i;rw[aA] at this;cases I:l[i]? with
 |none=>rw[I] at this;exact this
 |some x=>
  rw[I] at this;simp only[ch,uX];split
  .exact hc
  .exact this
theorem af8 {n:Int} {w:uS} {h:HS} (o:TJ n h) (hn:n+1<=1000000) {e:EV} {c:List Int} (hc:En (n+1) c):TJ (n+1) (jN w h e c):=by
 have m:n<=n+1:=by omega
 have oT:Bw (n+1) (h.T.set e.th c):=(o.T.mono m).set hc _;have b:TJ (n+1) {h with T:=h.T.set e.th c}:=⟨by have:=o.n0;omega,hn,oT,o.S.mono m,o.L.mono m,o.R.mono m,o.C.mono m,o.F.mono m,o.X.mono m,o.N.mono m,by simpa using o.lT,by simpa using o.lS,by simpa using o.lN,by simpa using o.lW,o.lL,o.lR,o.lC,o.lF⟩
 unfold jN;simp only[];repeat' split
 .exact {b with S:=(o.S.mono m).set hc _,lS:=by simpa using b.lS}
 .exact {b with L:=(o.L.mono m).jat hc _,lL:=by simpa[jat] using b.lL,lR:=by simpa[jat] using b.lR}
 .exact {b with R:=(o.R.mono m).jat hc _,lR:=by simpa[jat] using b.lR}
 .exact {b with L:=(o.L.mono m).jat hc _,lL:=by simpa[jat] using b.lL,lR:=by simpa[jat] using b.lR,lW:=by simpa using b.lW}
 .exact {b with C:=(o.C.mono m).jat hc _,lC:=by simpa[jat] using b.lC}
 .exact b
 .exact {b with F:=(o.F.mono m).jat hc _,lF:=by simpa[jat] using b.lF}
 .exact {b with X:=(o.X.mono m).jl hc}
 .exact {b with N:=(o.N.mono m).set hc _,lN:=by simpa using b.lN,lW:=by simpa using b.lW}
 .exact b
 .exact {b with N:=(o.N.mono m).mapIdx hc _,lN:=by simpa[Cu] using b.lN,lW:=by simpa[Cu] using b.lW}
 .exact b
theorem aa1 {n:Int} {w:uS} {h:HS} (o:TJ n h) (hn:n+1<=1000000) {e:EV} (he:e.th<4):TJ (n+1) (P4 w h e).1:=af8 o hn (Pf o he)
theorem acf {a b:Nat} (h:a=b):aC a b=ai:=by subst h;exact rS a
theorem Rz (l:List (List Int)) (i:Nat) (h:i<l.length):tR ((i:Int),l)=af (l.getD i [],l):=by
 unfold tR ck bx aY aE;simp only[];rw[wL (by omega)];simp only[c4,jh];rw[MU (by simp;omega)];simp only[c4];rw[ct (cW h),ct (cW h),qG]
theorem tV {n:Int} (l:List (List Int)) (i:Nat) (c:List Int) (h:i<l.length) (hl:Bw n l) (hc:En n c):lH ((i:Int),l,c)=af (jat l i c,c):=by
 unfold lH ck iH aY aE;simp only[];rw[qA (by omega)];simp only[cZ,jh];rw[vn (by simp;omega)];simp only[cZ];rw[ct (cW h),ct (cW h),qG,Th _ _ (hl i).lb hc.lb,cV,ct (cW h),ct (cW h),fR];rfl
theorem rI (l:List (List Int)) (i:Nat) (c:List Int):(jat l i c).length=l.length:=by simp[jat]
theorem Wr {n:Int} (h:HS) (u:Nat) (c:List Int) (h1:u<h.N.length) (h2:u<h.W.length) (hc:En n c):wB ((u:Int),h.X,h.T,h.S,h.L,h.R,h.C,h.F,h.N,h.W,c)=af (h.X,h.T,h.S,h.L,h.R,h.C,h.F,h.N.set u c,h.W.set u (-1),c):=by
 unfold wB aZ bk bw cA dV kE Aa Cn Prod.q10 ck;simp only[];rw[ND c hc.lb,cV,ct (cW h1),ct (cW h1),ct (cW h2),ct (cW h2),fR,fR]
theorem OH (I:WTc) (i:Nat):aJ (T:=.st (.pr .str (.int .i64))) I (i:Int)=I.getD i ([],0):=sD (T:=.st (.pr .str (.int .i64))) I i
theorem Xc (I:List (List UInt8×Int×Int×Bool×Int)) (i:Nat):aJ (T:=.st (.pr .str (.pr (.int .i64) (.pr (.int .i64) (.pr .bool (.int .i64)))))) I (i:Int)=I.getD i ([],0,0,aj,0):=sD (T:=.st (.pr .str (.pr (.int .i64) (.pr (.int .i64) (.pr .bool (.int .i64)))))) I i
abbrev ETp:Type:=Int×Int×Int×Int×Int×List Int×List Int
structure EvT (e:EV) (x:ETp):Prop where
 th:x.1=(e.th:Int)
 k:x.2.1=(e.k:Int)
 ob:e.k∈[3,4,6,7,8,9,10,11,16,17,18,19,20,21,22,23]->x.2.2.1=(e.ob:Int)
 va:x.2.2.2.1=e.va
theorem HM {k:Nat} {z:Int} (I:z=(k:Int)) (h1:1<=k) (h2:k<=23):(k=1/\z=1)\/(k=2/\z=2)\/(k=3/\z=3)\/(k=4/\z=4)\/(k=5/\z=5)\/(k=6/\z=6)\/(k=7/\z=7)\/(k=8/\z=8)\/(k=9/\z=9)\/(k=10/\z=10)\/(k=11/\z=11)\/(k=12/\z=12)\/(k=13/\z=13)\/(k=14/\z=14)\/(k=15/\z=15)\/(k=16/\z=16)\/(k=17/\z=17)\/(k=18/\z=18)\/(k=19/\z=19)\/(k=20/\z=20)\/(k=21/\z=21)\/(k=22/\z=22)\/(k=23/\z=23):=by
 have h:k=1\/k=2\/k=3\/k=4\/k=5\/k=6\/k=7\/k=8\/k=9\/k=10\/k=11\/k=12\/k=13\/k=14\/k=15\/k=16\/k=17\/k=18\/k=19\/k=20\/k=21\/k=22\/k=23:=by omega
 subst I;rcases h with rfl|rfl|rfl|rfl|rfl|rfl|rfl|rfl|rfl|rfl|rfl|rfl|rfl|rfl|rfl|rfl|rfl|rfl|rfl|rfl|rfl|rfl|rfl<;>simp
theorem V3 (a:Nat):(aC a a&&ai)=ai:=by rw[acf rfl];rfl
theorem acv {n:Int} {w:uS} {h:HS} (o:TJ n h) {e:EV} (ok:EOK w h e) {x:ETp} (Z:EvT e x):uq (x,h.X,w,h.T,h.S,h.L,h.R,h.C,h.F,h.N,h.W)=af (tu w h e,x,h.X,w,h.T,h.S,h.L,h.R,h.C,h.F,h.N,h.W):=by
 obtain⟨x1,x2,M,x4,x5,x6,x7⟩:=x;obtain⟨w1,w2,U,w4,w5,w6⟩:=w;obtain⟨th,k,ob,va⟩:=e;obtain⟨q1,q2,q3,q4⟩:=Z;simp only at q1 q2 q3 q4;subst q1 q4;have t1:=ok.th;simp only at t1;have fS:fe (th:Int) h.S.length=ai:=cW (by rw[o.lS];exact t1);have fN:fe (th:Int) h.N.length=ai:=cW (by rw[o.lN];exact t1);have fT:k=21->fe (ob:Int) h.T.length=ai/\M=(ob:Int):=λe=>by
  subst e;have:=ok.sp (.inr rfl);exact⟨cW this,q3 (by decide)⟩
 have fL:(k=6\/k=10\/k=8)->fe (ob:Int) h.L.length=ai/\fe (ob:Int) h.R.length=ai/\M=(ob:Int):=λe=>by
  have h1:ob<h.L.length:=ok.lk (by rcases e with rfl|rfl|rfl<;>(simp only[];omega));exact⟨cW h1,cW (by rw[o.lR];exact h1),q3 (by rcases e with rfl|rfl|rfl<;>decide)⟩
 have fC:k=3->fe (ob:Int) h.C.length=ai/\M=(ob:Int):=λe=>by
  subst e;have:=(ok.ce (.inl rfl)).1;exact⟨cW this,q3 (by decide)⟩
 have fF:k=23->fe (ob:Int) h.F.length=ai/\M=(ob:Int):=λe=>by
  subst e;have:=ok.fu (.inr rfl);exact⟨cW this,q3 (by decide)⟩
 unfold uq tu D' aZ bk bw cA dV kE Aa Cn Prod.q10 Prod.q11 cX fk ck bf v7 bB aE;rcases HM q2 ok.k1 ok.k2 with ⟨e,e'⟩|⟨e,e'⟩|⟨e,e'⟩|⟨e,e'⟩|⟨e,e'⟩|⟨e,e'⟩|⟨e,e'⟩|⟨e,e'⟩|⟨e,e'⟩|⟨e,e'⟩|⟨e,e'⟩|⟨e,e'⟩|⟨e,e'⟩|⟨e,e'⟩|⟨e,e'⟩|⟨e,e'⟩|⟨e,e'⟩|⟨e,e'⟩|⟨e,e'⟩|⟨e,e'⟩|⟨e,e'⟩|⟨e,e'⟩|⟨e,e'⟩<;>clear q2<;>subst e<;>subst e'
 case inr.inr.inr.inr.inr.inr.inr.inr.inr.inr.inr.inr.inr.inr.inr.inr.inl=>
  have q3:=q3 (by decide);subst q3;obtain⟨d1,d2,Y⟩:=ok.cd (.inr rfl);simp only at d1 d2 Y;have d4:Oc U ob<h.R.length:=by rw[o.lR];exact Y
  have e1:(U.getD ob ([],0)).2=((Oc U ob:Nat):Int):=by unfold Oc;omega
  simp only[aV,cu,cM,cZ,c4,jh,ct,cW d1,OH,e1,Rz _ _ Y,Rz _ _ d4,cV,V3,fN,qG];rfl
 case inr.inr.inl=>
  obtain⟨I,rfl⟩:=fC rfl;simp only[aV,cu,cM,cZ,c4,jh,ct,I,qG];rfl
 case inr.inr.inr.inr.inr.inr.inr.inr.inr.inr.inr.inr.inr.inr.inr.inr.inr.inr.inr.inr.inr.inr=>
  obtain⟨I,rfl⟩:=fF rfl;simp only[aV,cu,cM,cZ,c4,jh,ct,I,qG];rfl
 case inr.inr.inr.inr.inr.inr.inr.inr.inr.inr.inr.inr.inr.inr.inr.inr.inr.inr.inr.inr.inl=>
  obtain⟨I,rfl⟩:=fT rfl;simp only[aV,cu,cM,cZ,c4,jh,ct,I,qG];rfl
 case inl=>
  simp only[aV,cu,cM,cZ,c4,jh,ct,fS,qG];rfl
 case inr.inr.inr.inr.inr.inl=>
  obtain⟨I,J,rfl⟩:=fL (by decide);simp only[aV,cu,cM,cZ,c4,jh,ct,I,J,qG];rfl
 case inr.inr.inr.inr.inr.inr.inr.inr.inr.inl=>
  obtain⟨I,J,rfl⟩:=fL (by decide);simp only[aV,cu,cM,cZ,c4,jh,ct,I,J,qG];rfl
 case inr.inr.inr.inr.inr.inr.inr.inl=>
  obtain⟨I,J,rfl⟩:=fL (by decide);simp only[aV,cu,cM,cZ,c4,jh,ct,I,J,qG];rfl
 all_goals
  simp only[aV,cu,cM,cZ,c4,jh];rfl
theorem MS {σ R:Type} {f:σ->Option (σ⊕R)} {x0:σ} {r:R} (n:Nat) (hn:n<18446744073709551616) (st:Nat->σ) (I:x0=st 0) (h0:∀ i,i<n->f (st i)=af (.inl (st (i+1)))) (h1:f (st n)=af (.inr r)):gh f x0=af r:=by
 subst I;exact wJ n hn st h0 h1
def Lg {α:Type} (p:Nat->Bool) (c:α) (u:Nat) (l:List α):List α:=l.mapIdx λk x=>if decide (k<u)&&p k then c else x
theorem Z1 {α:Type} (p:Nat->Bool) (c:α) (l:List α):Lg p c 0 l=l:=by
 unfold Lg;apply dE
 .simp
 .intro i h1 h2;simp
theorem Ia {α:Type} (p:Nat->Bool) (c:α) (u:Nat) (l:List α):(Lg p c u l).length=l.length:=by simp[Lg]
theorem PY {α:Type} (p:Nat->Bool) (c:α) (u:Nat) (l:List α) (h:l.length<=u):Lg p c u l=l.mapIdx λk x=>if p k then c else x:=by
 unfold Lg;apply dE
 .simp
 .intro i h1 h2;simp only[List.length_mapIdx] at h1;simp only[List.getElem_mapIdx];rw[show decide (i<u)=ai from aQ (by omega)];rfl
theorem Wl {α:Type} (p:Nat->Bool) (c:α) (u:Nat) (l:List α) (hp:p u=ai):(Lg p c u l).set u c=Lg p c (u+1) l:=by
 unfold Lg;apply dE
 .simp
 .intro i h1 h2;simp only[uZ,List.getElem_mapIdx];by_cases e:u=i
  .subst e;simp[hp]
  .rw[ay e];by_cases h:i<u
   .rw[aQ h,aQ (show i<u+1 by omega)]
   .rw[bG h,bG (show ¬i<u+1 by omega)]
theorem PW {α:Type} (p:Nat->Bool) (c:α) (u:Nat) (l:List α) (hp:p u=aj):Lg p c u l=Lg p c (u+1) l:=by
 unfold Lg;apply dE
 .simp
 .intro i h1 h2;simp only[List.getElem_mapIdx];by_cases e:u=i
  .subst e;simp[hp]
  .by_cases h:i<u
   .rw[aQ h,aQ (show i<u+1 by omega)]
   .rw[bG h,bG (show ¬i<u+1 by omega)]
theorem aic (p:Nat->Bool) (c:Int) (u:Nat) (l:List Int):(Lg p c u l).getD u 0=l.getD u 0:=by
 unfold Lg;rw[aA,Ea,aA];cases l[u]? with
 |none=>rfl
 |some x=>simp
def HS.e (h:HS) (c:List Int):List Int×List (List Int)×List (List Int)×List (List Int)×List (List Int)×List (List Int)×List (List Int)×List (List Int)×List Int×List Int:=(h.X,h.T,h.S,h.L,h.R,h.C,h.F,h.N,h.W,c)
theorem abt {n:Int} {w:uS} {h:HS} (o:TJ n h) (hn:n+1<=1000000) {e:EV} (ok:EOK w h e) {x:ETp} (hx:EvT e x) {c:List Int} (hc:En (n+1) c):rF ((w,x),h.e c)=af ((jN w h e c).e c):=by
 obtain⟨x1,x2,x3,I,x5,x6,x7⟩:=x;obtain⟨w1,w2,M,w4,Z,Y⟩:=w;obtain⟨th,k,ob,va⟩:=e;obtain⟨q1,q2,q3,q4⟩:=hx;simp only at q1 q2 q3 q4;subst q1 q4;have t1:=ok.th;simp only at t1;have m:n<=n+1:=by omega
 have fT:fe (th:Int) h.T.length=ai:=cW t1;have fW:fe (th:Int) h.W.length=ai:=cW (by rw[o.lW];exact t1);have J:=ND c hc.lb;unfold rF Al HS.e D' Prod.p11 Prod.p12 Prod.p13 Prod.p14 Prod.p15 Prod.p16 Prod.p17 aZ bk bw cA dV kE Aa Cn Prod.q10 Prod.q16 Prod.q17 Prod.q18 cX kD Prod.q9 ck bf bx iH v7 bB aY cK aE cE;rcases HM q2 ok.k1 ok.k2 with ⟨e,e'⟩|⟨e,e'⟩|⟨e,e'⟩|⟨e,e'⟩|⟨e,e'⟩|⟨e,e'⟩|⟨e,e'⟩|⟨e,e'⟩|⟨e,e'⟩|⟨e,e'⟩|⟨e,e'⟩|⟨e,e'⟩|⟨e,e'⟩|⟨e,e'⟩|⟨e,e'⟩|⟨e,e'⟩|⟨e,e'⟩|⟨e,e'⟩|⟨e,e'⟩|⟨e,e'⟩|⟨e,e'⟩|⟨e,e'⟩|⟨e,e'⟩<;>clear q2<;>subst e<;>subst e'
 case inr.inr.inr.inr.inr.inr.inr.inr.inr.inr.inr.inr.inr.inr.inr.inr.inr.inr.inr.inl=>
  obtain rfl:=q3 (by decide);have f:fe (ob:Int) h.S.length=ai:=cW (by rw[o.lS];exact ok.sp (.inl rfl));simp only[aV,cu,cM,cZ,c4,jh,cV,ct,J,fT,f,fR];rfl
 case inr.inr.inr.inr.inr.inr.inl=>
  obtain rfl:=q3 (by decide);have f:ob<h.L.length:=ok.lk (by simp only[];omega);simp only[aV,cu,cM,cZ,c4,jh,cV,ct,J,fT,fR,tV _ _ _ f (o.L.mono m) hc,rI,V3];rfl
 case inr.inr.inr.inr.inr.inr.inr.inr.inr.inr.inl=>
  obtain rfl:=q3 (by decide);have f:ob<h.L.length:=ok.lk (by simp only[];omega);simp only[aV,cu,cM,cZ,c4,jh,cV,ct,J,fT,fR,tV _ _ _ f (o.L.mono m) hc,rI,V3];rfl
 case inr.inr.inr.inr.inr.inr.inr.inr.inl=>
  obtain rfl:=q3 (by decide);have f:ob<h.R.length:=by rw[o.lR];exact ok.lk (by simp only[];omega)
  simp only[aV,cu,cM,cZ,c4,jh,cV,ct,J,fT,fR,tV _ _ _ f (o.R.mono m) hc,rI,V3];rfl
 case inr.inr.inr.inr.inr.inr.inr.inr.inr.inr.inr.inr.inr.inr.inr.inl=>
  obtain rfl:=q3 (by decide);obtain⟨d1,d2,d3⟩:=ok.cd (.inl rfl);simp only at d1 d2 d3;have e1:(M.getD ob ([],0)).2=((Oc M ob:Nat):Int):=by unfold Oc;omega
  simp only[aV,cu,cM,cZ,c4,jh,cV,ct,J,fT,fW,fR,cW d1,OH,e1,tV _ _ _ d3 (o.L.mono m) hc,rI,V3];rfl
 case inr.inr.inr.inl=>
  obtain rfl:=q3 (by decide);obtain⟨d1,d2⟩:=ok.ce (.inr rfl);simp only at d1 d2;simp only[aV,cu,cM,cZ,c4,jh,cV,ct,J,fT,fR,cW d2,Xc];cases hv:(w1.getD ob ([],0,0,aj,0)).2.2.2.1 with
  |true=>
   simp only[cZ,cV,ct,tV _ _ _ d1 (o.C.mono m) hc,rI,V3,jh];have U:jN (w1,w2,M,w4,Z,Y) h ⟨th,4,ob,I⟩ c=if Ib w1 ob then {h with T:=h.T.set th c,C:=jat h.C ob c} else {h with T:=h.T.set th c}:=rfl
   rw[U,show Ib w1 ob=ai from hv];rfl
  |false=>
   simp only[c4,jh];have U:jN (w1,w2,M,w4,Z,Y) h ⟨th,4,ob,I⟩ c=if Ib w1 ob then {h with T:=h.T.set th c,C:=jat h.C ob c} else {h with T:=h.T.set th c}:=rfl
   rw[U,show Ib w1 ob=aj from hv];rfl
 case inr.inr.inr.inr.inr.inr.inr.inr.inr.inr.inr.inr.inr.inr.inr.inr.inr.inr.inr.inr.inr.inl=>
  obtain rfl:=q3 (by decide);have f:ob<h.F.length:=ok.fu (.inl rfl);simp only[aV,cu,cM,cZ,c4,jh,cV,ct,J,fT,fR,tV _ _ _ f (o.F.mono m) hc,rI,V3];rfl
 case inr.inr.inr.inr.inr.inr.inr.inr.inr.inr.inr.inr.inl=>
  simp only[aV,cu,cM,cZ,c4,jh,cV,ct,J,fT,fR,Th _ _ (o.X.mono m).lb hc.lb];rfl
 case inr.inr.inr.inr.inr.inr.inr.inr.inr.inr.inr.inr.inr.inr.inr.inr.inr.inl=>
  simp only[aV,cu,cM,cZ,c4,jh,cV,ct,J,fT,fR];have U:jN (w1,w2,M,w4,Z,Y) h ⟨th,18,ob,I⟩ c=if 0<=I/\I<h.N.length then {h with T:=h.T.set th c,N:=h.N.set I.toNat c,W:=h.W.set I.toNat (-1)} else {h with T:=h.T.set th c}:=rfl
  rw[U];by_cases h0:0<=I
  .by_cases h1:I<h.N.length
   .rw[qA h0];simp only[cZ,jh];rw[vn (show I<aO h.N.length from h1)];obtain⟨v,rfl⟩:∃ v:Nat,I=(v:Int):=⟨I.toNat,by omega⟩
    have v1:v<h.N.length:=by omega
    have v2:v<h.W.length:=by rw[o.lW,<-o.lN];exact v1
    have:=Wr {h with T:=h.T.set th c} v c v1 v2 hc;simp only[] at this;simp only[cZ,this,cV,sO,ct,acf rfl,kK,jh];rw[aF ⟨h0,h1⟩];rfl
   .rw[qA h0];simp only[cZ,jh];rw[wL (show aO h.N.length<=I from Ck.1 h1)];simp only[c4,jh];rw[ay (λq=>h1 q.2)]
  .rw[MU (by omega)];simp only[c4,jh];rw[ay (λq=>h0 q.1)]
 case inr.inr.inr.inr.inr.inr.inr.inr.inr.inr.inr.inr.inr.inr.inr.inr.inr.inr.inl=>
  obtain rfl:=q3 (by decide);simp only[aV,cu,cM,cZ,c4,jh,cV,ct,J,fT,fR];rw[MS (r:=bP (h.X,h.T.set th c,h.S,h.L,h.R,h.C,h.F,Lg (λu=>decide (h.W.getD u 0=(ob:Int))) c h.W.length h.N,Lg (λu=>decide (h.W.getD u 0=(ob:Int))) (-1) h.W.length h.W,c)) h.W.length (by have:=o.lW;have:=o.lT;omega)
   (λi=>((i:Int),h.X,h.T.set th c,h.S,h.L,h.R,h.C,h.F,Lg (λu=>decide (h.W.getD u 0=(ob:Int))) c i h.N,Lg (λu=>decide (h.W.getD u 0=(ob:Int))) (-1) i h.W,c,(th:Int),(19:Int),(ob:Int),I,x5,x6,x7)) ?_ ?_ ?_]
  .simp only[jh];rw[PY _ _ _ h.W (bW _),PY _ _ _ h.N (by rw[o.lN,o.lW];exact bW _)];rfl
  .simp only[Z1];rfl
  .intro i hi;simp only[];have hN:i<(Lg (λu=>decide (h.W.getD u 0=(ob:Int))) c i h.N).length:=by rw[Ia,o.lN,<-o.lW];exact hi
   have hW:i<(Lg (λu=>decide (h.W.getD u 0=(ob:Int))) (-1) i h.W).length:=by rw[Ia];exact hi
   rw[vn (by simp;omega),cZ,ct (cW hW),ct (cW hW),aiv,aic];have ws:=rh hi (show h.W.length<=1099511627776 by have:=o.lW;have:=o.lT;omega);by_cases hp:h.W.getD i 0=(ob:Int)
   .rw[aQ hp,cZ];have:=Wr {h with T:=h.T.set th c,N:=Lg (λu=>decide (h.W.getD u 0=(ob:Int))) c i h.N,W:=Lg (λu=>decide (h.W.getD u 0=(ob:Int))) (-1) i h.W} i c hN hW hc;simp only[] at this;rw[this,cV,ct (by simp only[sO,acf rfl,kK]),jh,ws,Wl _ _ _ _ (aQ hp),Wl _ _ _ _ (aQ hp)]
   .rw[bG hp,c4,jh,ws,<-PW _ _ _ _ (bG hp),<-PW _ _ _ _ (bG hp)]
  .simp only[];rw[wL (by simp),c4]
 all_goals
  simp only[aV,cu,cM,cZ,c4,jh,cV,ct,J,fT,fR];rfl
theorem U3 (l:List (List Int)) (c:List Int) (i:Nat) (hi:i<l.length):(l.take (i+1)).foldl jl c=jl ((l.take i).foldl jl c) (l.getD i []):=by
 rw[List.take_add_one,dQ,aB hi,aA,aB hi];rfl
theorem P_ (w:uS) (h:HS) (e:EV):(tu w h e).length<=3:=by
 unfold tu;repeat' split
 all_goals simp
theorem aj5 {n:Int} {w:uS} {h:HS} (o:TJ n h) (e:EV) (i:Nat):0<=((tu w h e).foldl jl (h.T.getD e.th [])).getD i 0/\((tu w h e).foldl jl (h.T.getD e.th [])).getD i 0<9223372036854775807:=by
 have:=(Df _ _ (o.T e.th) (T3 (w:=w) o e)).2 i;have:=o.n1;omega
theorem FZ (w:uS) (h:HS) (e:EV) (c:List Int):(jN w h e c).T.length=h.T.length/\(jN w h e c).S.length=h.S.length/\(jN w h e c).L.length=h.L.length/\(jN w h e c).R.length=h.R.length/\(jN w h e c).C.length=h.C.length/\(jN w h e c).F.length=h.F.length/\(jN w h e c).N.length=h.N.length/\(jN w h e c).W.length=h.W.length:=by
 unfold jN;simp only[];repeat' split
 all_goals simp[jat,Cu]
theorem ag8 {n:Int} {w:uS} {h:HS} (o:TJ n h) (hn:n+1<=1000000) {e:EV} (ok:EOK w h e) {x:ETp} (Y:EvT e x):sA (w,h.t,x)=af ((P4 w h e).1.t,(P4 w h e).2):=by
 have s2:=acv o ok Y;have hce:En (n+1) (Fl w h e):=Pf o ok.th4;have en:=abt o hn ok Y hce;have Z:=YZ h.t o.GH;have sl:=P_ w h e;have sE:=T3 (w:=w) o e;have hlen:=FZ w h e (Fl w h e);obtain⟨x1,x2,x3,x4,x5,x6,x7⟩:=x;obtain⟨w1,w2,U,M,J,I⟩:=w;have t1:=Y.th;simp only at t1;subst t1;unfold HS.t at Z;simp only[] at Z;have fT:fe (e.th:Int) h.T.length=ai:=cW ok.th;unfold sA Dc HS.t D' Prod.p11 aZ bk bw cA dV kE Aa Cn Prod.q11 Prod.q12 cX fk pZ Prod.q9 ck bx v7 bB aY cK cE;simp only[];rw[Z,cV];simp only[];rw[ct fT,ct fT,s2,cV];simp only[];rw[ct (by simp only[acf rfl,kK])];refine MS (tu (w1,w2,U,M,J,I) h e).length (by omega) (λi=>((i:Int),(w1,w2,U,M,J,I),((e.th:Int),x2,x3,x4,x5,x6,x7),h.X,((tu (w1,w2,U,M,J,I) h e).take i).foldl jl (h.T.getD e.th []),h.T,h.S,h.L,h.R,h.C,h.F,h.N,h.W)) ?_ ?_ ?_
 .simp only[qG,List.take_zero,List.foldl_nil];rfl
 .intro i hi;simp only[];rw[vn (by simp;omega),cZ,ct (cW hi),qG,(Df _ _ (o.T e.th) (λy hy=>sE y (gY hy))).join (sE _ (Jl hi)),cV,rh hi (by omega),U3 _ _ _ hi]
 .simp only[];rw[wL (by simp),c4,f_ (bW _)];have hl:=aj5 (w:=(w1,w2,U,M,J,I)) o e e.th;rw[ag5 _ e.th (Df _ _ (o.T e.th) sE).lb ok.th4 hl.1 hl.2,cV];unfold HS.e at en;unfold Fl at en hlen;rw[en,cV];simp only[];rw[ct (by rw[hlen.1,hlen.2.1,hlen.2.2.1,hlen.2.2.2.1,hlen.2.2.2.2.1,hlen.2.2.2.2.2.1,hlen.2.2.2.2.2.2.1,hlen.2.2.2.2.2.2.2];simp only[acf rfl,kK])];rfl
abbrev vZ:Ty:=(.st (.pr (.int .i64) (.sl (.st (.pr (.int .i64) (.pr (.int .i64) (.pr (.int .i64) (.pr (.int .i64) (.pr (.int .i64) (.int .i64))))))))))
abbrev BD:Ty:=(.st (.pr (.int .i64) (.pr (.int .i64) (.pr (.int .i64) (.pr (.int .i64) (.pr (.int .i64) (.int .i64)))))))
abbrev uM:Ty:=(.st (.pr (.int .i64) (.pr (.sl (.int .i64)) (.pr (.sl (.sl (.int .i64))) (.int .i64)))))
abbrev yS:Ty:=(.st (.pr .str (.pr (.int .i64) (.pr (.sl .str) (.sl .sm)))))
abbrev tDc:Ty:=(.st (.pr (.int .i64) (.pr (.int .i64) (.pr .str (.pr (.int .i64) (.pr (.int .i64) .str))))))
abbrev tE:Ty:=(.st (.pr (.int .i64) (.pr (.int .i64) (.pr (.int .i64) (.pr (.int .i64) (.pr (.int .i64) (.pr (.sl (.int .i64)) (.sl (.int .i64)))))))))
abbrev TZ:Ty:=(.st (.pr .str .bool))
abbrev P1:Ty:=(.st (.pr .str (.pr (.int .i64) (.pr (.int .i64) (.pr .bool (.int .i64))))))
abbrev x_:Ty:=(.st (.pr (.int .i64) (.pr (.int .i64) (.int .i64))))
abbrev TD:Ty:=(.st (.pr .str (.int .i64)))
abbrev At:Ty:=(.st (.pr (.int .i64) (.sl (.int .i64))))
abbrev jA:Ty:=(.st (.pr (.int .i64) (.pr (.int .i64) .bool)))
def Ok {R:Type} (o:Option R) (Q:R->Prop):Prop:=∃ y,o=af y/\Q y
theorem Ok.mono {R:Type} {o:Option R} {Q Q':R->Prop} (h:Ok o Q) (hq:∀ y,Q y->Q' y):Ok o Q':=by obtain⟨y,h1,h2⟩:=h;exact⟨y,h1,hq y h2⟩
theorem ar {R:Type} {y:R} {Q:R->Prop} (h:Q y):Ok (af y) Q:=⟨y,rfl,h⟩
theorem aha {R:Type} {o:Option R} {y:R} {Q:R->Prop} (e:o=af y) (h:Q y):Ok o Q:=⟨y,e,h⟩
theorem bg {R:Type} {b:Bool} {k:Option R} {Q:R->Prop} (h:b=ai) (hk:Ok k Q):Ok (chk b λ_=>k) Q:=by subst h;exact hk
theorem aP {R:Type} {b:Bool} {t f:Option R} {Q:R->Prop} (ht:b=ai->Ok t Q) (hf:b=aj->Ok f Q):Ok (bcase b t f) Q:=by
 cases b with
 |true=>exact ht rfl
 |false=>exact hf rfl
theorem fI {R:Type} {b:Bool} {t f:Option R} {Q:R->Prop} (h:b=ai) (ht:Ok t Q):Ok (bcase b t f) Q:=by subst h;exact ht
theorem fJ {R:Type} {b:Bool} {t f:Option R} {Q:R->Prop} (h:b=aj) (hf:Ok f Q):Ok (bcase b t f) Q:=by subst h;exact hf
theorem ax {α R:Type} {o:Option α} {k:α->Option R} {P:α->Prop} {Q:R->Prop} (h:Ok o P) (hk:∀ x,P x->Ok (k x) Q):Ok (obind o k) Q:=by
 obtain⟨x,rfl,I⟩:=h;exact hk x I
theorem aT {α R:Type} {o:Option α} {k:α->Option R} {x:α} {Q:R->Prop} (h:o=af x) (hk:Ok (k x) Q):Ok (obind o k) Q:=by subst h;exact hk
theorem aR {α R:Type} {x:α} {k:α->Option R} {Q:R->Prop} (h:Ok (k x) Q):Ok (lt x k) Q:=h
theorem aX {α R:Type} {o:Option (R⊕α)} {k:α->Option R} {Q:R->Prop} (P:α->Prop) (h:Ok o λr=>match r with|.inl r=>Q r|.inr x=>P x) (hk:∀ x,P x->Ok (k x) Q):Ok (jn o k) Q:=by
 obtain⟨r,rfl,hr⟩:=h;cases r with
 |inl r=>exact⟨r,rfl,hr⟩
 |inr x=>exact hk x hr
theorem gB {α R:Type} {o:Option (R⊕α)} {k:α->Option R} {Q:R->Prop} (h:Ok o λr=>match r with|.inl r=>Q r|.inr x=>Ok (k x) Q):Ok (jn o k) Q:=aX (λx=>Ok (k x) Q) h λ_ h=>h
theorem aee {α R:Type} {a b:α} {r:Option R} {Q:R->Prop} (e:a=b) (h:Ok r Q):Ok (same a b r) Q:=by unfold same;rw[aF e];exact h
theorem qc {σ R:Type} {f:σ->Option (σ⊕R)} {Q:R->Prop} (μ:σ->Nat) (I:σ->Prop) (h:∀ x,I x->Ok (f x) λr=>match r with|.inl y=>I y/\μ y<μ x|.inr r=>Q r) {x:σ} (J:I x):Ok (iter f x) Q:=by
 have key:∀ n x,μ x<n->I x->∃ m r,iterN f m x=af r/\Q r:=by
  intro n;induction n with
  |zero=>intro x hm;omega
  |succ n M=>
   intro x hm J;obtain⟨r,h1,h2⟩:=h x J;cases r with
   |inl y=>
    obtain⟨m,r,Y,U⟩:=M y (by have:=h2.2;omega) h2.1;exact⟨m+1,r,by rw[iterN,h1];exact Y,U⟩
   |inr r=>exact⟨1,r,by rw[iterN,h1],h2⟩
 obtain⟨m,r,h1,h2⟩:=key (μ x+1) x (Cj _) J;exact⟨r,zf h1,h2⟩
theorem bZ {σ R:Type} {f:σ->Option (σ⊕R)} {Q:R->Prop} (n:Nat) (I:Nat->σ->Prop) (h0:∀ i x,i<n->I i x->Ok (f x) λr=>match r with|.inl y=>I (i+1) y|.inr r=>Q r) (h1:∀ x,I n x->Ok (f x) λr=>match r with|.inl _=>False|.inr r=>Q r) {x:σ} (U:I 0 x):Ok (iter f x) Q:=by
 have key:∀ m i x,i+m=n->I i x->∃ k r,iterN f k x=af r/\Q r:=by
  intro m;induction m with
  |zero=>
   intro i x hi U;have:i=n:=by omega
   subst this;obtain⟨r,M,J⟩:=h1 x U;cases r with
   |inl y=>exact J.elim
   |inr r=>exact⟨1,r,by rw[iterN,M],J⟩
  |succ m Y=>
   intro i x hi U;obtain⟨r,M,J⟩:=h0 i x (by omega) U;cases r with
   |inl y=>
    obtain⟨k,r,g3,Z⟩:=Y (i+1) y (by omega) J;exact⟨k+1,r,by rw[iterN,M];exact g3,Z⟩
   |inr r=>exact⟨1,r,by rw[iterN,M],J⟩
 obtain⟨m,r,M,J⟩:=key n 0 x (by omega) U;exact⟨r,zf M,J⟩
def itQ {σ R:Type} (f:σ->Option (σ⊕R)) (Q:R->Prop):σ⊕R->Prop
 |.inl y=>Ok (iter f y) Q
 |.inr r=>Q r
def jnQ {α R:Type} (k:α->Option R) (Q:R->Prop):R⊕α->Prop
 |.inl r=>Q r
 |.inr x=>Ok (k x) Q
theorem aed {σ R:Type} {f:σ->Option (σ⊕R)} {x:σ} {Q:R->Prop} (h:Ok (f x) (itQ f Q)):Ok (iter f x) Q:=by
 obtain⟨r,h1,h2⟩:=h;cases r with
 |inr r=>exact⟨r,zf (n:=1) (by rw[iterN,h1]),h2⟩
 |inl y=>
  obtain⟨z,I,J⟩:=h2;unfold iter at I;split at I
  .exact⟨z,zf (n:=_+1) (by rw[iterN,h1];exact I),J⟩
  .cases I
theorem WU {σ R:Type} {f:σ->Option (σ⊕R)} {y:σ} {Q:R->Prop} (h:Ok (iter f y) Q):Ok (af (.inl y)) (itQ f Q):=⟨_,rfl,h⟩
theorem WS {σ R:Type} {f:σ->Option (σ⊕R)} {r:R} {Q:R->Prop} (h:Ok (af r) Q):Ok (af (.inr r)) (itQ f Q):=by
 obtain⟨_,h1,h2⟩:=h;cases h1;exact⟨_,rfl,h2⟩
theorem WP {α R:Type} {o:Option (R⊕α)} {k:α->Option R} {Q:R->Prop} (h:Ok o (jnQ k Q)):Ok (jn o k) Q:=by
 obtain⟨r,rfl,hr⟩:=h;cases r with
 |inl r=>exact⟨r,rfl,hr⟩
 |inr x=>exact hr
theorem WR {α R:Type} {r:R} {k:α->Option R} {Q:R->Prop} (h:Ok (af r) Q):Ok (af (.inl r)) (jnQ k Q):=by
 obtain⟨_,h1,h2⟩:=h;cases h1;exact⟨_,rfl,h2⟩
theorem WO {α R:Type} {x:α} {k:α->Option R} {Q:R->Prop} (h:Ok (k x) Q):Ok (af (.inr x)) (jnQ k Q):=⟨_,rfl,h⟩
def oQ {α R:Type} (k:α->Option R) (Q:R->Prop) (x:α):Prop:=Ok (k x) Q
theorem Qu {α R:Type} {o:Option α} {k:α->Option R} {Q:R->Prop} (h:Ok o (oQ k Q)):Ok (obind o k) Q:=ax h λ_ h=>h
theorem Qt {α R:Type} {x:α} {k:α->Option R} {Q:R->Prop} (h:Ok (k x) Q):Ok (af x) (oQ k Q):=⟨_,rfl,h⟩
theorem aes {j:Int} {n:Nat}:fe j n=ai↔0<=j/\j<n:=by simp[fe,c7,fQ]
theorem HO {a b:Int}:c7 a b=ai↔a<=b:=by simp[c7]
theorem tI {a b:Int}:fQ a b=ai↔a<b:=by simp[fQ]
theorem gk {a b:Int}:fQ a b=aj↔b<=a:=by simp[fQ]
theorem kf {a b:Int}:c7 a b=aj↔b<a:=by simp[c7]
theorem XZ {n b:Nat}:a_ n b=ai↔n<=1099511627776/\n*b<=1099511627776:=by simp[a_]
theorem cB {R:Type} {o:Option R} {v:R} (h:Ok o (·=v)):o=af v:=by obtain⟨y,h1,h2⟩:=h;rw[h1,h2]
section steps
variable {R:Type} {k t f:Option R} {Q:R->Prop}
theorem aS {j:Int} {n:Nat} (h0:0<=j) (h1:j<n) (hk:Ok k Q):Ok (chk (fe j n) λ_=>k) Q:=bg (aes.2 ⟨h0,h1⟩) hk
theorem bh {n b:Nat} (h0:n<=1073741824) (h1:b<=1024) (hk:Ok k Q):Ok (chk (a_ n b) λ_=>k) Q:=
 bg (XZ.2 ⟨by omega,dh (Nat.mul_le_mul h0 h1) (by omega)⟩) hk
theorem dx {a b:Bool} (h:Ok (chk a λ_=>chk b λ_=>k) Q):Ok (chk (a&&b) λ_=>k) Q:=by
 cases a with
 |true=>exact h
 |false=>obtain⟨y,h,_⟩:=h;cases h
theorem eP {a b:Int} (h:a<=b) (hk:Ok k Q):Ok (chk (c7 a b) λ_=>k) Q:=bg (HO.2 h) hk
theorem Ag {a b:Int} (h:a<b) (hk:Ok k Q):Ok (chk (fQ a b) λ_=>k) Q:=bg (tI.2 h) hk
theorem WV {p:Prop} {i:Decidable p} (h:p) (hk:Ok k Q):Ok (chk (decide p) λ_=>k) Q:=bg (aQ h) hk
theorem wj {p:Prop} {i:Decidable p} (h:¬p) (hk:Ok k Q):Ok (chk (!decide p) λ_=>k) Q:=bg (by simp[h]) hk
theorem lB {a b:Nat} (h:a=b) (hk:Ok k Q):Ok (chk (aC a b) λ_=>k) Q:=bg (by subst h;exact rS a) hk
theorem AQ (hk:Ok k Q):Ok (chk ai λ_=>k) Q:=hk
theorem bF {a b:Int} (ht:a<b->Ok t Q) (hf:b<=a->Ok f Q):Ok (bcase (fQ a b) t f) Q:=aP (λh=>ht (tI.1 h)) (λh=>hf (gk.1 h))
theorem eE {a b:Int} (ht:a<=b->Ok t Q) (hf:b<a->Ok f Q):Ok (bcase (c7 a b) t f) Q:=aP (λh=>ht (HO.1 h)) (λh=>hf (kf.1 h))
theorem aK {p:Prop} {i:Decidable p} (ht:p->Ok t Q) (hf:¬p->Ok f Q):Ok (bcase (decide p) t f) Q:=aP (λh=>ht (bn h)) (λh=>hf (TK h))
theorem ca {p:Prop} {i:Decidable p} (ht:¬p->Ok t Q) (hf:p->Ok f Q):Ok (bcase (!decide p) t f) Q:=aP (λh=>ht (by simpa using h)) (λh=>hf (by simpa using h))
theorem em {b:Bool} (ht:b=aj->Ok t Q) (hf:b=ai->Ok f Q):Ok (bcase (!b) t f) Q:=aP (λh=>ht (by simpa using h)) (λh=>hf (by simpa using h))
theorem FH (ht:Ok t Q):Ok (bcase ai t f) Q:=ht
theorem gd (hf:Ok f Q):Ok (bcase aj t f) Q:=hf
theorem b8 {j:Int} {n:Nat} (hk:Ok k Q) (h0:0<=j:=by first|omega|(dsimp only;omega)) (h1:j<n:=by first|omega|(dsimp only;omega)):Ok (chk (fe j n) λ_=>k) Q:=aS h0 h1 hk
theorem dk {a b:Int} (ht:Ok t Q) (h:a<b:=by first|omega|(dsimp only[au];omega)):Ok (bcase (fQ a b) t f) Q:=bF (λ_=>ht) λg=>cR h (Ck.2 g)
theorem dg {a b:Int} (hf:Ok f Q) (h:b<=a:=by first|omega|(dsimp only[au];omega)):Ok (bcase (fQ a b) t f) Q:=bF (λg=>cR g (Ck.2 h)) λ_=>hf
end steps
theorem qZ:(∀ (p:Prop) [Decidable p],(decide p=ai)=p)/\(∀ p:Prop,(True\/p)=True)/\(∀ p:Prop,(p\/True)=True)/\(∀ p:Prop,(True->p)=p)/\(∀ p:Prop,(True/\p)=p)/\∀ p:Prop,(p/\True)=p:=⟨λ_=>be,true_or,or_true,λ_=>true_implies _,BA,and_true⟩
theorem s7:(∀ i:Decidable True,@decide True i=ai)/\(∀ i:Decidable False,@decide False i=aj)/\(∀ {R:Type} (t f:Option R),bcase ai t f=t)/\(∀ {R:Type} (t f:Option R),bcase aj t f=f)/\(∀ {α R:Type} (x:α) (k:α->Option R),jn (af (.inr x)) k=k x)/\(∀ {α R:Type} (r:R) (k:α->Option R),jn (af (.inl r)) k=af r)/\(∀ {α R:Type} (x:α) (k:α->Option R),obind (af x) k=k x)/\(∀ {α R:Type} (x:α) (k:α->Option R),lt x k=k x)/\(!ai)=aj/\(!aj)=ai:=⟨cM,cu,λ_ _=>rfl,λ_ _=>rfl,λ_ _=>rfl,λ_ _=>rfl,λ_ _=>rfl,λ_ _=>rfl,rfl,rfl⟩
structure IM (p q:Prop):Prop where
 h:p->q
inductive OS {R:Type}:Option R->(R->Prop)->Prop where
 |cand {a b:Bool} {k:Option R} {Q:R->Prop} (h:Ok (chk a λ_=>chk b λ_=>k) Q):OS (chk (a&&b) λ_=>k) Q
 |fe {j:Int} {n:Nat} {k:Option R} {Q:R->Prop} (h0:0<=j) (h1:j<n) (hk:Ok k Q):OS (chk (fe j n) λ_=>k) Q
 |room {n b:Nat} {k:Option R} {Q:R->Prop} (h0:n<=1073741824) (h1:b<=1024) (hk:Ok k Q):OS (chk (a_ n b) λ_=>k) Q
 |cile {a b:Int} {k:Option R} {Q:R->Prop} (h:a<=b) (hk:Ok k Q):OS (chk (c7 a b) λ_=>k) Q
 |cilt {a b:Int} {k:Option R} {Q:R->Prop} (h:a<b) (hk:Ok k Q):OS (chk (fQ a b) λ_=>k) Q
 |cdec {p:Prop} {i:Decidable p} {k:Option R} {Q:R->Prop} (h:p) (hk:Ok k Q):OS (chk (decide p) λ_=>k) Q
 |cndec {p:Prop} {i:Decidable p} {k:Option R} {Q:R->Prop} (h:¬p) (hk:Ok k Q):OS (chk (!decide p) λ_=>k) Q
 |cbeq {a b:Nat} {k:Option R} {Q:R->Prop} (h:a=b) (hk:Ok k Q):OS (chk (aC a b) λ_=>k) Q
 |cT {k:Option R} {Q:R->Prop} (hk:Ok k Q):OS (chk ai λ_=>k) Q
 |lt {α:Type} {x:α} {k:α->Option R} {Q:R->Prop} (h:Ok (k x) Q):OS (lt x k) Q
 |b1 {t f:Option R} {Q:R->Prop} (h:Ok t Q):OS (bcase ai t f) Q
 |b0 {t f:Option R} {Q:R->Prop} (h:Ok f Q):OS (bcase aj t f) Q
 |fQ {a b:Int} {t f:Option R} {Q:R->Prop} (ht:IM (a<b) (Ok t Q)) (hf:IM (b<=a) (Ok f Q)):OS (bcase (fQ a b) t f) Q
 |c7 {a b:Int} {t f:Option R} {Q:R->Prop} (ht:IM (a<=b) (Ok t Q)) (hf:IM (b<a) (Ok f Q)):OS (bcase (c7 a b) t f) Q
 |dec {p:Prop} {i:Decidable p} {t f:Option R} {Q:R->Prop} (ht:IM p (Ok t Q)) (hf:IM (¬p) (Ok f Q)):OS (bcase (decide p) t f) Q
 |ndec {p:Prop} {i:Decidable p} {t f:Option R} {Q:R->Prop} (ht:IM (¬p) (Ok t Q)) (hf:IM p (Ok f Q)):OS (bcase (!decide p) t f) Q
 |not {b:Bool} {t f:Option R} {Q:R->Prop} (ht:IM (b=aj) (Ok t Q)) (hf:IM (b=ai) (Ok f Q)):OS (bcase (!b) t f) Q
 |bcase {b:Bool} {t f:Option R} {Q:R->Prop} (ht:IM (b=ai) (Ok t Q)) (hf:IM (b=aj) (Ok f Q)):OS (bcase b t f) Q
 |jc {α:Type} {o:Option (R⊕α)} {k:α->Option R} {Q:R->Prop} (h:Ok o λr=>match r with|.inl r=>Q r|.inr x=>Ok (k x) Q):OS (jn o k) Q
 |some {y:R} {Q:R->Prop} (h:Q y):OS (af y) Q
theorem OS.ok {R:Type} {o:Option R} {Q:R->Prop} (h:OS o Q):Ok o Q:=by
 cases h with
 |cand h=>exact dx h
 |fe a b h=>exact aS a b h
 |room a b h=>exact bh a b h
 |cile a h=>exact eP a h
 |cilt a h=>exact Ag a h
 |cdec a h=>exact WV a h
 |cndec a h=>exact wj a h
 |cbeq a h=>exact lB a h
 |cT h=>exact h
 |lt h=>exact h
 |b1 h=>exact h
 |b0 h=>exact h
 |fQ a b=>exact bF a.h b.h
 |c7 a b=>exact eE a.h b.h
 |dec a b=>exact aK a.h b.h
 |ndec a b=>exact ca a.h b.h
 |not a b=>exact em a.h b.h
 |bcase a b=>exact aP a.h b.h
 |jc h=>
  obtain⟨r,e,h⟩:=h;exact gB ⟨r,e,by cases r<;>exact h⟩
 |some h=>exact ar h
theorem bcT {R:Type} (t f:Option R):bcase ai t f=t:=rfl
theorem bcF {R:Type} (t f:Option R):bcase aj t f=f:=rfl
theorem jnr {α R:Type} (x:α) (k:α->Option R):jn (af (.inr x)) k=k x:=rfl
theorem WY {α R:Type} (x:α) (k:α->Option R):obind (af x) k=k x:=rfl
theorem IQ {k:Int}:k=1\/k=2\/k=3\/k=4\/k=5\/k=6\/k=7\/k=8\/k=9\/k=10\/k=11\/k=12\/k=13\/k=14\/k=15\/k=16\/k=17\/k=18\/k=19\/k=20\/k=21\/k=22\/k=23\/((∀ j:Int,1<=j->j<=23->(k=j)=False)/\(k<1\/23<k)):=by
 by_cases h:1<=k/\k<=23
 .omega
 .have:(∀ j:Int,1<=j->j<=23->(k=j)=False)/\(k<1\/23<k):=⟨λj h1 h2=>eq_false (by omega),by omega⟩
  repeat (first|exact this|refine Or.inr ?_)
theorem hX {n:Int} (h0: -9223372036854775808<=n) (h1:n<=9223372036854775807):bc .i64 n=n:=by
 rw[Cq];unfold Mt;simp[c7,h0,h1]
theorem gI {i:Nat} (h:i<9223372036854775807):bc .i64 ((i:Int)+1)=((i+1:Nat):Int):=by rw[hX (by omega) (by omega)];omega
theorem yK {T:Ty} (xs:List T.den) (i:Nat):aJ xs (i:Int)=xs.getD i T.zero:=by unfold aJ;simp
theorem OJ (xs:List Int) (i:Nat):aJ (T:=.int .i64) xs (i:Int)=xs.getD i 0:=yK (T:=.int .i64) xs i
theorem bJ {T:Ty} {xs:List T.den} {j:Int} (h0:0<=j) (h1:j<xs.length):aJ xs j∈xs:=by
 unfold aJ;rw[aA,aB (by omega)];exact u_ _
theorem bV {α:Type} (xs:List α) (j:Int) (x:α):(cQ xs j x).length=xs.length:=by unfold cQ;simp
theorem CA {α:Type} {xs:List α} {j:Int} {x y:α} (h:y∈cQ xs j x):y∈xs\/y=x:=List.mem_or_eq_of_mem_set h
abbrev WT:Type:=List (List UInt8×Int×Int×Bool×Int)×List (List UInt8×Bool)×List (List UInt8×Int)×List (List UInt8)×List (List UInt8)×List (Int×Int×Int)
abbrev SY:Type:=List (Int×List Int)×Int×List Bool×List (Int×Int×Bool)
theorem ab5 (a b:Int):qn (a,b)=af (decide (0<=a/\a<b)):=by
 refine cB ?_;unfold qn iH aE;with_reducible repeat' first|(refine OS.ok ?_;constructor)|refine IM.mk λ_=>?_
 .by_cases h:a<b<;>simp[*,fQ]
 .simp;omega
theorem Wi (l:List Int) (n:Int) (hl:l.length<=1000000):qp (l,n)=af (l.contains n):=by
 refine cB ?_;unfold qp bf bx bA aY cK aE cE;refine bZ l.length (λi x=>x=(i:Int)/\∀ k,k<i->l.getD k 0≠n) ?_ ?_ ⟨rfl,λk hk=>by omega⟩
 .rintro i x hi ⟨rfl,I⟩;with_reducible repeat' first|(refine OS.ok ?_;constructor)|refine IM.mk λ_=>?_
  all_goals try simp only[au,qZ] at*
  .omega
  .omega
  .rename_i h;rw[OJ] at h;show ai=_
   symm
   rw[sZ,<-h,aA,aB hi];exact u_ _
  .rename_i h;rw[OJ] at h;refine ⟨gI (by omega),λk hk=>?_⟩;rcases b9 k i with h1|h1
   .exact I k h1
   .rw[show k=i by omega];exact h
  .omega
 .rintro x ⟨rfl,I⟩;with_reducible repeat' first|(refine OS.ok ?_;constructor)|refine IM.mk λ_=>?_
  all_goals try simp only[au,qZ] at*
  .omega
  .omega
  .omega
  .omega
  .symm
   rw[Bool.eq_false_iff];intro hc;rw[sZ] at hc;obtain⟨k,hk,he⟩:=List.getElem_of_mem hc;exact I k hk (by rw[aA,aB hk];exact he)
theorem ir {T:Ty} {xs:List T.den} {p:T.den->Prop} (h:∀ k:Nat,k<al xs->p (aJ xs (k:Int))):∀ c∈xs,p c:=λc hc=>by
 obtain⟨k,hk,he⟩:=List.getElem_of_mem hc;have:=h k hk;rw[yK,aA,aB hk,uX,he] at this;exact this
theorem PK (w:WT) (s:SY) (Y:w.2.2.1.length<=1000000):Ok (ry (w,s)) λb=>b=ai->(∀ c∈w.2.2.1,0<=c.2/\c.2<w.2.1.length)/\s.1.length=w.2.1.length/\s.2.2.1.length=w.2.2.2.1.length/\s.2.2.2.length=w.2.2.2.2.1.length:=by
 unfold ry aZ bk bw cX bf bx bA aY cK aE cE;refine bZ w.2.2.1.length (λi x=>x.1=(i:Int)/\x.2=(w,s)/\∀ k:Nat,k<i->0<=(aJ (T:=TD) w.2.2.1 (k:Int)).2/\(aJ (T:=TD) w.2.2.1 (k:Int)).2<w.2.1.length) ?_ ?_ ⟨rfl,rfl,λk hk=>by omega⟩
 .rintro i ⟨x1,x2⟩ hi ⟨J,I,M⟩;dsimp only at J I;subst J;subst I;with_reducible repeat' first|(refine OS.ok ?_;constructor)|refine IM.mk λ_=>?_
  all_goals try simp only[au,qZ] at*
  all_goals first|omega|skip
  .intro h;cases h
  .intro h;cases h
  .refine ⟨gI (by omega),λk hk=>?_⟩;rcases b9 k i with h1|h1
   .exact M k h1
   .rename_i h2 U;rw[show k=i by omega];exact⟨h2,U⟩
 .rintro⟨x1,x2⟩ ⟨J,I,M⟩;dsimp only at J I;subst J;subst I;with_reducible repeat' first|(refine OS.ok ?_;constructor)|refine IM.mk λ_=>?_
  all_goals try simp only[au,qZ] at*
  all_goals first|omega|skip
  refine ax (P:=λb=>b=ai->s.1.length=w.2.1.length/\s.2.2.1.length=w.2.2.2.1.length/\s.2.2.2.length=w.2.2.2.2.1.length) ?_ ?_
  .with_reducible repeat' first|(refine OS.ok ?_;constructor)|refine IM.mk λ_=>?_
   all_goals try simp only[au,qZ] at*
   .intro h;omega
   .intro h;cases h
   .intro h;cases h
  .intro b hb;with_reducible repeat' first|(refine OS.ok ?_;constructor)|refine IM.mk λ_=>?_
   exact λh=>⟨ir (T:=TD) M,hb h⟩
structure NM (w:WT) (k o:Int):Prop where
 k1:1<=k
 k2:k<=23
 ce:k=3\/k=4->0<=o/\o<w.1.length
 lk:6<=k/\k<=11->0<=o/\o<w.2.1.length
 cd:16<=k/\k<=19->0<=o/\o<w.2.2.1.length
 th:k=20\/k=21->0<=o/\o<w.2.2.2.2.1.length
 fu:k=22\/k=23->0<=o/\o<w.2.2.2.1.length
 no:k=1\/k=2\/k=5\/(12<=k/\k<=15)->o= -1
 mu:k=6\/k=7->(aJ (T:=TZ) w.2.1 o).2=aj
 rw:8<=k/\k<=11->(aJ (T:=TZ) w.2.1 o).2=ai
theorem aaq (w:WT) (k o:Int):Ok (ui (w,k,o)) λb=>b=ai->NM w k o:=by
 unfold ui aZ bk bw cA bf bA aY aE;rcases @IQ k with rfl|rfl|rfl|rfl|rfl|rfl|rfl|rfl|rfl|rfl|rfl|rfl|rfl|rfl|rfl|rfl|rfl|rfl|rfl|rfl|rfl|rfl|rfl|⟨hk,I⟩
 case inr.inr.inr.inr.inr.inr.inr.inr.inr.inr.inr.inr.inr.inr.inr.inr.inr.inr.inr.inr.inr.inr.inr=>
  simp only[hk 1 (by decide) (by decide),hk 2 (by decide) (by decide),hk 3 (by decide) (by decide),hk 4 (by decide) (by decide),hk 5 (by decide) (by decide),hk 6 (by decide) (by decide),hk 7 (by decide) (by decide),hk 8 (by decide) (by decide),hk 9 (by decide) (by decide),hk 10 (by decide) (by decide),hk 11 (by decide) (by decide),hk 12 (by decide) (by decide),hk 13 (by decide) (by decide),hk 14 (by decide) (by decide),hk 15 (by decide) (by decide),hk 16 (by decide) (by decide),hk 17 (by decide) (by decide),hk 18 (by decide) (by decide),hk 19 (by decide) (by decide),hk 20 (by decide) (by decide),hk 21 (by decide) (by decide),hk 22 (by decide) (by decide),hk 23 (by decide) (by decide),aV,bp,s7];exact ar λh=>by cases h
 all_goals simp only[aV,bp,s7,ab5]
 all_goals with_reducible repeat' first|(refine OS.ok ?_;constructor)|refine IM.mk λ_=>?_
 all_goals try simp only[au,qZ] at*
 all_goals first|omega|(intro h;cases h;done)|(intro h;constructor<;>first|omega|(intro h2;first|omega|(simpa using h)))
structure SB (n:Nat) (s:SY):Prop where
 n1:n<=100000
 lk:s.1.length<=1000
 rd:∀ l∈s.1,l.2.length<=n
 dn:s.2.2.1.length<=1000
 th:s.2.2.2.length<=1000
structure EN (w:WT) (s:SY) (t k o:Int):Prop where
 nm:NM w k o
 t0:0<=t
 t1:t<w.2.2.2.2.1.length
 cd:∀ c∈w.2.2.1,0<=c.2/\c.2<w.2.1.length
 e1:s.1.length=w.2.1.length
 e2:s.2.2.1.length=w.2.2.2.1.length
 e3:s.2.2.2.length=w.2.2.2.2.1.length
structure Wd (w:WT) (s:SY) (t k o:Int):Prop where
 b:k=1->(aJ (T:=jA) s.2.2.2 t).1=1
 wk:k=17->(aJ (T:=jA) s.2.2.2 t).1=4/\(aJ (T:=jA) s.2.2.2 t).2.1=o/\(aJ (T:=At) s.1 (aJ (T:=TD) w.2.2.1 o).2).1= -1
 r:k≠1->k≠17->(aJ (T:=jA) s.2.2.2 t).1=2
 aq:k=6\/k=8\/k=10->(aJ (T:=At) s.1 o).1= -1
 wr:k=10->(aJ (T:=At) s.1 o).2.length=0
 ra:k=8->(aJ (T:=At) s.1 o).2.contains t=aj
 rl:k=7\/k=11->(aJ (T:=At) s.1 o).1=t
 rr:k=9->(aJ (T:=At) s.1 o).2.contains t=ai
 xb:k=12->s.2.1= -1
 xe:k=13->s.2.1=t
 ab:k=14->(aJ (T:=jA) s.2.2.2 t).2.2=aj
 ae:k=15->(aJ (T:=jA) s.2.2.2 t).2.2=ai
 nt:k=16\/k=18\/k=19->(aJ (T:=At) s.1 (aJ (T:=TD) w.2.2.1 o).2).1=t
 sp:k=20->¬o=t/\(aJ (T:=jA) s.2.2.2 o).1=0
 jo:k=21->¬o=t/\(aJ (T:=jA) s.2.2.2 o).1=5
 se:k=22->aJ (T:=.bool) s.2.2.1 o=aj
 ge:k=23->aJ (T:=.bool) s.2.2.1 o=ai
theorem K9 {n:Nat} (w:WT) (s:SY) (hs:SB n s) (hw:w.2.2.1.length<=1000) (t k o:Int):Ok (j9 (w,s,t,k,o)) λb=>b=ai->EN w s t k o/\Wd w s t k o:=by
 unfold j9 aZ bk bw bL dA cX bf je bA aY aE;refine aX (λx=>x.2=(w,s)/\(x.1=aj->EN w s t k o)) ?_ ?_
 .refine ax (PK w s (by omega)) λb hb=>?_
  with_reducible repeat' first|(refine OS.ok ?_;constructor)|refine IM.mk λ_=>?_
  .exact⟨rfl,λh=>by cases h⟩
  .simp only[ab5,WY];with_reducible repeat' first|(refine OS.ok ?_;constructor)|refine IM.mk λ_=>?_
   .exact⟨rfl,λh=>by cases h⟩
   .refine ax (aaq w k o) λc hc=>?_
    with_reducible repeat' first|(refine OS.ok ?_;constructor)|refine IM.mk λ_=>?_
    all_goals try simp only[au,qZ] at*
    rename_i h1 h2;obtain⟨f1,f2,Z,Y⟩:=hb h1;exact λh=>⟨hc (by simpa using h),by omega,by omega,f1,f2,Z,Y⟩
 .rintro⟨x1,x2⟩ ⟨I,J⟩;dsimp only at I J;subst I;refine aP (λh=>ar λh=>by cases h) (λh=>?_);have he:=J h;obtain⟨nm,t0,t1,cd,e1,e2,e3⟩:=id he;obtain⟨_,_,ce,lk,cn,th,fu⟩:=nm;have hm:16<=k/\k<=19->0<=(aJ (T:=TD) w.2.2.1 o).2/\(aJ (T:=TD) w.2.2.1 o).2<w.2.1.length:=λh=>cd _ (bJ (cn h).1 (cn h).2)
  have U:6<=k/\k<=11->qp ((aJ (T:=At) s.1 o).2,t)=af ((aJ (T:=At) s.1 o).2.contains t):=λh=>Wi _ _ (by
   have:=hs.rd _ (bJ (T:=At) (lk h).1 (by have:=(lk h).2;omega));have:=hs.n1;omega)
  rcases @IQ k with rfl|rfl|rfl|rfl|rfl|rfl|rfl|rfl|rfl|rfl|rfl|rfl|rfl|rfl|rfl|rfl|rfl|rfl|rfl|rfl|rfl|rfl|rfl|⟨hk,M⟩
  case inr.inr.inr.inr.inr.inr.inr.inr.inr.inr.inr.inr.inr.inr.inr.inr.inr.inr.inr.inr.inr.inr.inr=>omega
  all_goals simp only[aV,bp,s7]
  all_goals with_reducible repeat' first|(refine OS.ok ?_;constructor)|refine IM.mk λ_=>?_
  all_goals try simp only[U (by omega),WY]
  all_goals with_reducible repeat' first|(refine OS.ok ?_;constructor)|refine IM.mk λ_=>?_
  all_goals try simp only[au,qZ] at*
  all_goals first|omega|(intro h;cases h;done)|exact (hm ⟨by decide,by decide⟩).1|(rw [e1];exact (hm ⟨by decide,by decide⟩).2)|(intro h;refine ⟨he,?_⟩;constructor<;>first|omega|(intros;first|omega|assumption|(simpa using h)|exact⟨by assumption,by first|assumption|exact⟨by assumption,by assumption⟩⟩))|(refine ⟨he,?_⟩;constructor<;>first|omega|(intros;first|omega|assumption))
def lX:List Int->Int->List Int
 |[],n=>[n]
 |x::r,n=>if x<n then x::lX r n else if x=n then x::r else n::x::r
theorem Em (n:Int):∀ (i:Nat) (l:List Int),i<=l.length->(∀ k,k<i->l.getD k 0<n)->lX l n=l.take i++lX (l.drop i) n
 |0,l,_,_=>by simp
 |i+1,[],h,_=>by simp at h
 |i+1,x::r,h,hk=>by
  have h0:=hk 0 (by omega);simp at h0;have:=Em n i r (by simpa using h) (λk I=>by have:=hk (k+1) (by omega);simpa using this);rw[lX,aF h0,this,vW,vY,gu]
theorem FD (n:Int):∀ l:List Int,(lX l n).length<=l.length+1
 |[]=>by simp[lX]
 |x::r=>by
  have:=FD n r;rw[lX];split
  .simp;omega
  .split<;>simp
theorem Iq {n y:Int}:∀ {l:List Int},y∈lX l n↔y=n\/y∈l
 |[]=>by simp[lX]
 |x::r=>by
  have:=Iq (n:=n) (y:=y) (l:=r);rw[lX];split
  .simp[this];constructor
   .rintro (h|h|h)<;>simp[h]
   .rintro (h|h|h)<;>simp[h]
  .split
   .rename_i h;subst h;simp
   .simp
def Hx:List Int->Prop
 |[]=>True
 |x::r=>(∀ y∈r,x<y)/\Hx r
theorem Qq {n:Int}:∀ {l:List Int},Hx l->Hx (lX l n)
 |[],_=>by simp[lX,Hx]
 |x::r,h=>by
  rw[lX];split
  .rename_i J;refine ⟨λy I=>?_,Qq h.2⟩;rcases Iq.1 I with rfl|I
   .exact J
   .exact h.1 y I
  .split
   .exact h
   .rename_i h1 h2;refine ⟨λy I=>?_,h⟩;rcases bm.1 I with rfl|I
    .omega
    .have:=h.1 y I;omega
theorem acz (l:List Int) (n:Int) (hl:l.length<=1000000):wA (l,n)=af (lX l n):=by
 refine cB ?_;unfold wA bx bB bA aY cK aE cE;have fin:∀ i:Nat,i<=l.length->(∀ k,k<i->l.getD k 0<n)->(i<l.length->¬l.getD i 0<n/\l.getD i 0≠n)->l.take i++[n]++l.drop i=lX l n:=λi hi hk hn=>by
  rw[Em n i l hi hk];cases hd:l.drop i with
  |nil=>simp[lX]
  |cons y r=>
   have hlt:i<l.length:=by
    rcases b9 i l.length with h|h
    .exact h
    .rw[List.drop_eq_nil_of_le h] at hd;cases hd
   have J:l.getD i 0=y:=by
    rw[aA,<-List.head?_drop,hd];rfl
   obtain⟨h1,h2⟩:=hn hlt;rw[J] at h1 h2;rw[lX,ay h1,ay h2];simp
 refine bZ l.length (λi x=>x=(i:Int)/\∀ k,k<i->l.getD k 0<n) ?_ ?_ ⟨rfl,λk hk=>by omega⟩
 .rintro i x hi ⟨rfl,I⟩;by_cases hlt:l.getD i 0<n
  .with_reducible repeat' first|(refine OS.ok ?_;constructor)|refine IM.mk λ_=>?_
   all_goals try simp only[au,qZ] at*
   all_goals first|omega|skip
   .refine ⟨gI (by omega),λk hk=>?_⟩;rcases b9 k i with h1|h1
    .exact I k h1
    .rw[show k=i by omega];exact hlt
   .rename_i h;exact cR hlt (Ck.2 h)
  .have key:l.getD i 0=n->lX l n=l:=λhe=>by
    rw[Em n i l (by omega) I];cases hd:l.drop i with
    |nil=>have:=gO al hd;simp at this;omega
    |cons y r=>
     have J:l.getD i 0=y:=by rw[aA,<-List.head?_drop,hd];rfl
     rw[J] at he;rw[lX,ay (by omega),aF he,<-hd,By]
   with_reducible repeat' first|(refine OS.ok ?_;constructor)|refine IM.mk λ_=>?_
   all_goals try simp only[au,qZ] at*
   all_goals first|omega|skip
   .rename_i h;exact cR h hlt
   .refine ax (P:=λr=>r=lX l n) ?_ λr hr=>ar hr
    with_reducible repeat' first|(refine OS.ok ?_;constructor)|refine IM.mk λ_=>?_
    all_goals try simp only[au,qZ] at*
    all_goals first|omega|skip
    .rename_i h;exact (key h).symm
    .simp;omega
    .simp;omega
    .simp;omega
    .rename_i h;simpa using fin i (by omega) I (λ_=>⟨hlt,h⟩)
 .rintro x ⟨rfl,I⟩;with_reducible repeat' first|(refine OS.ok ?_;constructor)|refine IM.mk λ_=>?_
  all_goals try simp only[au,qZ] at*
  all_goals first|omega|skip
  refine ax (P:=λr=>r=lX l n) ?_ λr hr=>ar hr
  with_reducible repeat' first|(refine OS.ok ?_;constructor)|refine IM.mk λ_=>?_
  all_goals try simp only[au,qZ] at*
  all_goals first|omega|skip
  .simp;omega
  .simp;omega
  .simp;omega
  .simpa using fin l.length (by omega) I (λh=>by omega)
def xm (a b:List Int):List Int:=b.foldl lX (a.foldl lX [])
theorem wN:∀ (b acc:List Int),(b.foldl lX acc).length<=acc.length+b.length
 |[],acc=>by simp
 |x::r,acc=>by
  have:=wN r (lX acc x);have:=FD x acc;rw[xk,b7];omega
theorem Jq:∀ {b acc:List Int},Hx acc->Hx (b.foldl lX acc)
 |[],_,h=>h
 |x::r,acc,h=>by rw[xk];exact Jq (Qq h)
theorem Jp {y:Int}:∀ {b acc:List Int},y∈b.foldl lX acc↔y∈acc\/y∈b
 |[],acc=>by simp
 |x::r,acc=>by
  rw[xk,Jp,Iq];simp;constructor
  .rintro ((h|h)|h)<;>simp[h]
  .rintro (h|h|h)<;>simp[h]
theorem P0 (a b:List Int):Hx (xm a b):=Jq (Jq trivial)
theorem Ie {a b:List Int} {y:Int}:y∈xm a b↔y∈a\/y∈b:=by unfold xm;rw[Jp,Jp];simp
theorem Z5 (a b:List Int):(xm a b).length<=a.length+b.length:=by
 have:=wN b (a.foldl lX []);have:=wN a [];unfold xm;simp at *;omega
theorem MY {b acc:List Int} {i:Nat} (hi:i<b.length):(b.take (i+1)).foldl lX acc=lX ((b.take i).foldl lX acc) (b.getD i 0):=by
 rw[oS hi,dQ,aA,aB hi];rfl
theorem S_ (a b:List Int) (I:a.length<=400000) (hb:b.length<=400000):rz (a,b)=af (xm a b):=by
 refine cB ?_;unfold rz bx bA aY cK aE cE;refine bZ a.length (λi x=>x.2=(i:Int)/\x.1=(a.take i).foldl lX []) ?_ ?_ ⟨rfl,rfl⟩
 .rintro i ⟨x1,x2⟩ hi ⟨h1,h2⟩;dsimp only at h1 h2;subst h1;subst h2;have hl:((a.take i).foldl lX []).length<=1000000:=by have:=wN (a.take i) [];have:=qa i a;simp at *;omega
  with_reducible repeat' first|(refine OS.ok ?_;constructor)|refine IM.mk λ_=>?_
  all_goals try simp only[au,qZ] at*
  all_goals first|omega|skip
  refine aT (acz _ _ hl) (ar ?_);dsimp only;refine ⟨gI (by omega),?_⟩;rw[OJ,MY hi]
 .rintro⟨x1,x2⟩ ⟨h1,h2⟩;dsimp only at h1 h2;subst h1;subst h2;rw[cP];have hla:=wN a [];with_reducible repeat' first|(refine OS.ok ?_;constructor)|refine IM.mk λ_=>?_
  all_goals try simp only[au,qZ] at*
  all_goals first|omega|skip
  refine ax (P:=λr=>r=xm a b) ?_ λr hr=>ar hr
  refine bZ b.length (λi x=>x.2=(i:Int)/\x.1=(b.take i).foldl lX (a.foldl lX [])) ?_ ?_ ⟨rfl,rfl⟩
  .rintro i ⟨x1,x2⟩ hi ⟨h1,h2⟩;dsimp only at h1 h2;subst h1;subst h2;have hl:((b.take i).foldl lX (a.foldl lX [])).length<=1000000:=by have:=wN (b.take i) (a.foldl lX []);have:=qa i b;simp at *;omega
   with_reducible repeat' first|(refine OS.ok ?_;constructor)|refine IM.mk λ_=>?_
   all_goals try simp only[au,qZ] at*
   all_goals first|omega|skip
   refine aT (acz _ _ hl) (ar ?_);dsimp only;refine ⟨gI (by omega),?_⟩;rw[OJ,MY hi]
  .rintro⟨x1,x2⟩ ⟨h1,h2⟩;dsimp only at h1 h2;subst h1;subst h2;rw[cP];with_reducible repeat' first|(refine OS.ok ?_;constructor)|refine IM.mk λ_=>?_
   all_goals try simp only[au,qZ] at*
   all_goals first|omega|rfl
def H8 (c:Int) (x:Int×Int×Bool):Bool:=decide (x.1=3)&&decide (x.2.1=c)
def wl (th:List (Int×Int×Bool)) (c:Int):Nat->List Int
 |0=>[]
 |i+1=>if H8 c (aJ (T:=jA) th (i:Int)) then wl th c i++[(i:Int)] else wl th c i
theorem vG (th:List (Int×Int×Bool)) (c:Int):∀ i,(wl th c i).length<=i
 |0=>bW _
 |i+1=>by have:=vG th c i;rw[wl];split<;>simp<;>omega
theorem rj {th:List (Int×Int×Bool)} {c u:Int}:∀ {i:Nat},u∈wl th c i↔0<=u/\u<i/\H8 c (aJ (T:=jA) th u)=ai
 |0=>by simp[wl];omega
 |i+1=>by
  have I:= @rj th c u i;rw[wl];by_cases hu:u=(i:Int)
  .subst hu;split
   .rename_i h;simp[h];omega
   .rename_i h;rw[I];simp[h]
  .split
   .rw[bQ,I,aL];constructor
    .rintro (h|h)
     .exact⟨h.1,by omega,h.2.2⟩
     .exact cR h hu
    .intro h;exact .inl ⟨h.1,by omega,h.2.2⟩
   .rw[I];constructor
    .intro h;exact⟨h.1,by omega,h.2.2⟩
    .intro h;exact⟨h.1,by omega,h.2.2⟩
theorem alr {th:List (Int×Int×Bool)} {c:Int} {i:Nat} (h1:(aJ (T:=jA) th (i:Int)).1=3) (h2:(aJ (T:=jA) th (i:Int)).2.1=c):wl th c (i+1)=wl th c i++[(i:Int)]:=by
 rw[wl,aF];unfold H8;rw[h1,h2];simp
theorem ah0 {th:List (Int×Int×Bool)} {c:Int} {i:Nat} (h1:¬(aJ (T:=jA) th (i:Int)).1=3):wl th c (i+1)=wl th c i:=by
 rw[wl,ay];unfold H8;rw[bG h1];simp
theorem agz {th:List (Int×Int×Bool)} {c:Int} {i:Nat} (h1:¬(aJ (T:=jA) th (i:Int)).2.1=c):wl th c (i+1)=wl th c i:=by
 rw[wl,ay];unfold H8;rw[bG h1];simp
theorem V8 (s:SY) (c:Int) (hs:s.2.2.2.length<=1000):nJ (s,c)=af (wl s.2.2.2 c s.2.2.2.length):=by
 refine cB ?_;unfold nJ bL bf bx bB bA aY cK aE cE;refine bZ s.2.2.2.length (λi x=>x=((i:Int),s,wl s.2.2.2 c i)) ?_ ?_ rfl
 .rintro i x hi rfl;have hl:=vG s.2.2.2 c i;with_reducible repeat' first|(refine OS.ok ?_;constructor)|refine IM.mk λ_=>?_
  all_goals try simp only[au,qZ] at*
  all_goals first|omega|skip
  all_goals first|(simp;omega)|skip
  .rename_i h1 h2;rw[alr h1 h2,gI (by omega)]
  .rename_i h1 h2;rw[agz h2,gI (by omega)]
  .rename_i h1;rw[ah0 h1,gI (by omega)]
 .rintro x rfl;with_reducible repeat' first|(refine OS.ok ?_;constructor)|refine IM.mk λ_=>?_
  all_goals try simp only[au,qZ] at*
  all_goals first|omega|rfl
def wo (l:List Int) (n:Int):List Int:=l.filter λx=> !decide (x=n)
theorem TO (l:List Int) (n:Int) (hl:l.length<=1000000):qm (l,n)=af (wo l n):=by
 refine cB ?_;unfold qm bx je bB bA aY cK aE cE;refine bZ l.length (λi x=>x=((i:Int),wo (l.take i) n)) ?_ ?_ rfl
 .rintro i x hi rfl;have hq:(wo (l.take i) n).length<=i:=dh (Bz ..) (qa ..);have ht:wo (l.take (i+1)) n=if aJ (T:=.int .i64) l (i:Int)=n then wo (l.take i) n else wo (l.take i) n++[aJ (T:=.int .i64) l (i:Int)]:=by
   unfold wo;rw[oS hi,xZ,OJ,aA,aB hi];by_cases h:l[i]=n<;>simp[h]
  with_reducible repeat' first|(refine OS.ok ?_;constructor)|refine IM.mk λ_=>?_
  all_goals try simp only[au,qZ] at*
  all_goals first|omega|skip
  .simp;omega
  .rename_i h;rw[ht,ay h,gI (by omega)]
  .rename_i h;rw[ht,aF h,gI (by omega)]
 .rintro x rfl;with_reducible repeat' first|(refine OS.ok ?_;constructor)|refine IM.mk λ_=>?_
  all_goals try simp only[au,qZ] at*
  all_goals first|omega|(rw [cP])
theorem mH {T:Ty} {xs:List T.den} {i:Nat} (hi:i<al xs):dP (i+1) xs=dP i xs++[aJ xs (i:Int)]:=by
 rw[oS hi,yK,aA,aB hi];rfl
theorem qS {n:Nat} (s:SY) (hs:SB n s):il s=af (s.2.1,s.1,s.2.2.1,s.2.2.2):=by
 refine cB ?_;obtain⟨s1,s2,J,I⟩:=s;have hn:=hs.n1;have Y:=hs.lk;have U:=hs.dn;have M:=hs.th;dsimp only at Y U M;unfold il aZ bk bw bL cX bx bB bA aY cK aE cE;with_reducible repeat' first|(refine OS.ok ?_;constructor)|refine IM.mk λ_=>?_
 all_goals try simp only[au,qZ] at*
 .simp;omega
 .omega
 .simp;omega
 .omega
 refine bZ s1.length (λi x=>x=((i:Int),(s1,s2,J,I),0,s2,s1.take i,J,I)) ?_ ?_ ?_
 .rintro i x hi rfl;have hg:=hs.rd _ (bJ (T:=At) (xs:=s1) (j:=(i:Int)) (by omega) (by omega));with_reducible repeat' first|(refine OS.ok ?_;constructor)|refine IM.mk λ_=>?_
  all_goals try simp only[au,qZ] at*
  all_goals first|omega|skip
  .simp;omega
  .simp;omega
  .rw[gI (by omega),mH (T:=At) hi];rfl
 .rintro x rfl;with_reducible repeat' first|(refine OS.ok ?_;constructor)|refine IM.mk λ_=>?_
  all_goals try simp only[au,qZ] at*
  all_goals first|omega|skip
  simp
 .simp
theorem GV (s:SY) (c:Int) (hs:s.2.2.2.length<=1000):jC ((s.2.1,c),s.1,s.2.2.1,s.2.2.2)=af (wl s.2.2.2 c s.2.2.2.length):=by
 refine cB ?_;unfold jC;refine ax (P:=λy=>y=(wl s.2.2.2 c s.2.2.2.length,s.1,s.2.2.1,s.2.2.2)) ?_ λy I=>by subst I;exact aee rfl (ar rfl)
 unfold mg aZ bk bw bL cX bf bx bB kB aY cK aE cE;refine bZ s.2.2.2.length (λi x=>x=((i:Int),s.1,s.2.2.1,s.2.2.2,s.2.1,wl s.2.2.2 c i)) ?_ ?_ rfl
 .rintro i x hi rfl;have hl:=vG s.2.2.2 c i;with_reducible repeat' first|(refine OS.ok ?_;constructor)|refine IM.mk λ_=>?_
  all_goals try simp only[au,qZ] at*
  all_goals first|omega|skip
  all_goals first|(simp;omega)|skip
  .rename_i h1 h2;rw[alr h1 h2,gI (by omega)]
  .rename_i h1 h2;rw[agz h2,gI (by omega)]
  .rename_i h1;rw[ah0 h1,gI (by omega)]
 .rintro x rfl;with_reducible repeat' first|(refine OS.ok ?_;constructor)|refine IM.mk λ_=>?_
  all_goals try simp only[au,qZ] at*
  all_goals first|omega|rfl
structure AP (n:Nat) (s y:SY):Prop where
 a1:y.1.length=s.1.length
 a2:y.2.2.1.length=s.2.2.1.length
 a3:y.2.2.2.length=s.2.2.2.length
 rd:∀ l∈y.1,l.2.length<=n+1
theorem AP.toSB {n:Nat} {s y:SY} (h:AP n s y) (hs:SB n s) (hn:n+1<=100000):SB (n+1) y:=
 ⟨hn,by rw[h.a1];exact hs.lk,h.rd,by rw[h.a2];exact hs.dn,by rw[h.a3];exact hs.th⟩
theorem AP.same {n:Nat} {s:SY} (hs:SB n s) (x:Int) (d:List Bool) (t:List (Int×Int×Bool)) (hd:d.length=s.2.2.1.length) (ht:t.length=s.2.2.2.length):AP n s (s.1,x,d,t):=
 ⟨rfl,hd,ht,λl hl=>iz (hs.rd l hl)⟩
theorem AP.set {n:Nat} {s:SY} (hs:SB n s) (j a:Int) (r:List Int) (hr:r.length<=n+1) (x:Int) (d:List Bool) (t:List (Int×Int×Bool)) (hd:d.length=s.2.2.1.length) (ht:t.length=s.2.2.2.length):AP n s (cQ s.1 j (a,r),x,d,t):=
 ⟨bV _ _ _,hd,ht,λl hl=>by
   rcases CA hl with h|rfl
   .exact iz (hs.rd l h)
   .exact hr⟩
def ya (th:List (Int×Int×Bool)) (t st:Int):List (Int×Int×Bool):=cQ th t (st,(aJ (T:=jA) th t).2)
def owP (lk:List (Int×List Int)) (o t:Int):List (Int×List Int):=cQ lk o (t,(aJ (T:=At) lk o).2)
def rdP (lk:List (Int×List Int)) (o:Int) (l:List Int):List (Int×List Int):=cQ lk o ((aJ (T:=At) lk o).1,l)
def cdP (th:List (Int×Int×Bool)) (t c:Int):List (Int×Int×Bool):=cQ th t ((aJ (T:=jA) th t).1,c,(aJ (T:=jA) th t).2.2)
def atP (th:List (Int×Int×Bool)) (t:Int) (b:Bool):List (Int×Int×Bool):=cQ th t ((aJ (T:=jA) th t).1,(aJ (T:=jA) th t).2.1,b)
def CQ (th:List (Int×Int×Bool)) (l:List Int):List (Int×Int×Bool):=l.foldl (λx u=>ya x u 4) th
def Bs (l:List Int) (u:Int):Int:=if l.length=0 then -1 else if l.contains u then u else aJ (T:=.int .i64) l 0
def muP (w:WT) (o:Int):Int:=(aJ (T:=TD) w.2.2.1 o).2
def re (w:WT) (s:SY) (t k o u:Int):SY×Int:=
 if k=1 then ((s.1,s.2.1,s.2.2.1,ya s.2.2.2 t 2),0)
 else if k=2 then ((s.1,s.2.1,s.2.2.1,ya s.2.2.2 t 5),0)
 else if k=6\/k=10 then ((owP s.1 o t,s.2),0)
 else if k=7\/k=11 then ((owP s.1 o (-1),s.2),0)
 else if k=8 then ((rdP s.1 o (xm (aJ (T:=At) s.1 o).2 [t]),s.2),0)
 else if k=9 then ((rdP s.1 o (wo (aJ (T:=At) s.1 o).2 t),s.2),0)
 else if k=12 then ((s.1,t,s.2.2),0)
 else if k=13 then ((s.1,-1,s.2.2),0)
 else if k=14 then ((s.1,s.2.1,s.2.2.1,atP s.2.2.2 t ai),0)
 else if k=15 then ((s.1,s.2.1,s.2.2.1,atP s.2.2.2 t aj),0)
 else if k=16 then ((owP s.1 (muP w o) (-1),s.2.1,s.2.2.1,cdP (ya s.2.2.2 t 3) t o),0)
 else if k=17 then ((owP s.1 (muP w o) t,s.2.1,s.2.2.1,cdP (ya s.2.2.2 t 2) t 0),0)
 else if k=18 then (if (wl s.2.2.2 o s.2.2.2.length).length=0 then (s,-1) else ((s.1,s.2.1,s.2.2.1,ya s.2.2.2 (Bs (wl s.2.2.2 o s.2.2.2.length) u) 4),Bs (wl s.2.2.2 o s.2.2.2.length) u))
 else if k=19 then ((s.1,s.2.1,s.2.2.1,CQ s.2.2.2 (wl s.2.2.2 o s.2.2.2.length)),((wl s.2.2.2 o s.2.2.2.length).length:Int))
 else if k=20 then ((s.1,s.2.1,s.2.2.1,ya s.2.2.2 o 1),0)
 else if k=22 then ((s.1,s.2.1,cQ s.2.2.1 o ai,s.2.2.2),0)
 else (s,0)
theorem HL (l:List Int):∀ th,(CQ th l).length=th.length:=by
 induction l with
 |nil=>intro th;rfl
 |cons x r I=>intro th;unfold CQ;rw[xk];exact (I _).trans (bV ..)
theorem aar {th:List (Int×Int×Bool)} {l:List Int} {i:Nat} (hi:i<l.length):CQ th (l.take (i+1))=ya (CQ th (l.take i)) (aJ (T:=.int .i64) l (i:Int)) 4:=by
 unfold CQ;rw[oS hi,dQ,OJ,aA,aB hi];rfl
theorem TA {n:Nat} (w:WT) (s:SY) (hs:SB n s) (U:w.2.2.1.length<=1000) (t k o u:Int):Ok (pi (w,s,t,k,o,u)) λy=>(y.2.2=ai->EN w s t k o/\Wd w s t k o/\AP n s y.1/\(y.1,y.2.1)=re w s t k o u)/\(y.2.2=aj->y.1=([],0,[],[]))/\(j9 (w,s,t,k,o)=af ai->y.2.2=ai):=by
 unfold pi aZ bk bw cA bL dA cX fk ck bf bx bA kB aY cK aE cE;obtain⟨b,J,hb⟩:=K9 w s hs U t k o;refine aT J ?_;refine em (λh=>ar ⟨λh=>(by cases h),λ_=>rfl,λh2=>(by rw[J,h] at h2;cases h2)⟩) (λh=>?_);obtain⟨he,hry⟩:=hb h;refine aT (qS s hs) ?_;suffices hmain:Ok _ _ from aX (λx=>AP n s (x.2.2.2.1,x.2.1,x.2.2.2.2)/\((x.2.2.2.1,x.2.1,x.2.2.2.2),x.1)=re w s t k o u) hmain λx M=>ar ⟨λ_=>⟨he,hry,M⟩,λh=>(by cases h),λ_=>rfl⟩
 obtain⟨nm,t0,t1,cd,e1,e2,e3⟩:=id he;obtain⟨_,_,ce,lk,cn,th,fu⟩:=nm;have hn:=hs.n1;have hlk:=hs.lk;have hm:16<=k/\k<=19->0<=(aJ (T:=TD) w.2.2.1 o).2/\(aJ (T:=TD) w.2.2.1 o).2<w.2.1.length:=λh=>cd _ (bJ (cn h).1 (cn h).2)
 have hr:∀ j:Int,0<=j->j<s.1.length->(aJ (T:=At) s.1 j).2.length<=n:=λj h0 h1=>hs.rd _ (bJ (T:=At) h0 h1)
 rcases @IQ k with rfl|rfl|rfl|rfl|rfl|rfl|rfl|rfl|rfl|rfl|rfl|rfl|rfl|rfl|rfl|rfl|rfl|rfl|rfl|rfl|rfl|rfl|rfl|⟨hk,Y⟩
 case inr.inr.inr.inr.inr.inr.inr.inr.inr.inr.inr.inr.inr.inr.inr.inr.inr.inr.inr.inr.inr.inr.inr=>omega
 all_goals simp only[aV,bp,s7]
 all_goals with_reducible repeat' first|(refine OS.ok ?_;constructor)|refine IM.mk λ_=>?_
 all_goals try simp only[au,qZ] at*
 all_goals try rw[bV]
 all_goals first|omega|exact (hm ⟨by decide,by decide⟩).1|exact e1▸(hm ⟨by decide,by decide⟩).2|exact⟨AP.same hs _ _ _ rfl rfl,rfl⟩|exact⟨AP.same hs _ _ _ rfl (bV _ _ _),rfl⟩|exact⟨AP.same hs _ _ _ (bV _ _ _) rfl,rfl⟩|skip
 all_goals try exact⟨AP.set hs _ _ _ (iz (hr o (by omega) (by omega))) _ _ _ rfl rfl,rfl⟩
 .have:=hr o (by omega) (by omega);refine aT (S_ _ _ (dh this (by have:=hs.n1;omega)) (by simp)) ?_;with_reducible repeat' first|(refine OS.ok ?_;constructor)|refine IM.mk λ_=>?_
  all_goals try simp only[au,qZ] at*
  all_goals first|omega|skip
  exact⟨AP.set hs _ _ _ (by have:=Z5 (aJ (T:=At) s.1 o).2 [t];simp at this;omega) _ _ _ rfl rfl,rfl⟩
 .have:=hr o (by omega) (by omega);have hl:(wo (aJ (T:=At) s.1 o).2 t).length<=(aJ (T:=At) s.1 o).2.length:=Bz ..;refine aT (TO _ _ (by omega)) ?_;with_reducible repeat' first|(refine OS.ok ?_;constructor)|refine IM.mk λ_=>?_
  all_goals try simp only[au,qZ] at*
  all_goals first|omega|skip
  exact⟨AP.set hs _ _ _ (dh hl (by omega)) _ _ _ rfl rfl,rfl⟩
 .exact⟨AP.set hs _ _ _ (iz (hr _ (hm ⟨by decide,by decide⟩).1 (by rw[e1];exact (hm ⟨by decide,by decide⟩).2))) _ _ _ rfl (by rw[bV,bV]),rfl⟩
 .exact⟨AP.set hs _ _ _ (iz (hr _ (hm ⟨by decide,by decide⟩).1 (by rw[e1];exact (hm ⟨by decide,by decide⟩).2))) _ _ _ rfl (by rw[bV,bV]),rfl⟩
 .refine aT (GV s o hs.th) ?_;have hth:=hs.th;have hll:=vG s.2.2.2 o s.2.2.2.length;have hml:∀ u∈wl s.2.2.2 o s.2.2.2.length,0<=u/\u<s.2.2.2.length:=λu hu=>⟨(rj.1 hu).1,(rj.1 hu).2.1⟩
  have hap:re w s t 18 o u=if (wl s.2.2.2 o s.2.2.2.length).length=0 then (s,-1) else ((s.1,s.2.1,s.2.2.1,ya s.2.2.2 (Bs (wl s.2.2.2 o s.2.2.2.length) u) 4),Bs (wl s.2.2.2 o s.2.2.2.length) u):=rfl
  unfold Bs at hap;revert hll hml hap;generalize wl s.2.2.2 o s.2.2.2.length=l;intro hll hml hap;with_reducible repeat' first|(refine OS.ok ?_;constructor)|refine IM.mk λ_=>?_
  all_goals try simp only[au,qZ] at*
  all_goals first|omega|skip
  .have I:=hml _ (bJ (T:=.int .i64) (xs:=l) (j:=0) (by omega) (by omega));rw[ay (by omega),ay (by omega)] at hap;simp only[Wi l u (by omega),WY];refine aP (λhc=>?_) λhc=>?_
   .have hu:=hml u (sZ.1 hc);rw[hc,aF rfl] at hap;refine ar (aS hu.1 hu.2 (aS hu.1 hu.2 (ar ⟨AP.same hs _ _ _ rfl (bV ..),?_⟩)));rw[hap];rfl
   .rw[hc,ay (by decide)] at hap;refine ar (aS I.1 I.2 (aS I.1 I.2 (ar ⟨AP.same hs _ _ _ rfl (bV ..),?_⟩)));rw[hap];rfl
  .rw[aF (by omega)] at hap;exact⟨AP.same hs _ _ _ rfl rfl,hap.symm⟩
 .refine aT (GV s o hs.th) ?_;have hth:=hs.th;have hll:=vG s.2.2.2 o s.2.2.2.length;have hml:∀ u∈wl s.2.2.2 o s.2.2.2.length,0<=u/\u<s.2.2.2.length:=λu hu=>⟨(rj.1 hu).1,(rj.1 hu).2.1⟩
  have hap:re w s t 19 o u=((s.1,s.2.1,s.2.2.1,CQ s.2.2.2 (wl s.2.2.2 o s.2.2.2.length)),((wl s.2.2.2 o s.2.2.2.length).length:Int)):=rfl;rw[hap];clear hap;generalize wl s.2.2.2 o s.2.2.2.length=l at hll hml ⊢;refine bZ l.length (λi x=>x=((i:Int),s.2.1,0,s.1,s.2.2.1,CQ s.2.2.2 (l.take i))) ?_ ?_ rfl
  .rintro i x hi rfl;have I:=hml _ (bJ (T:=.int .i64) (xs:=l) (j:=(i:Int)) (by omega) (by omega));have hq:=HL (l.take i) s.2.2.2;with_reducible repeat' first|(refine OS.ok ?_;constructor)|refine IM.mk λ_=>?_
   all_goals try simp only[au,qZ] at*
   all_goals first|omega|skip
   rw[gI (by omega),aar hi];rfl
  .rintro x rfl;rw[cP];with_reducible repeat' first|(refine OS.ok ?_;constructor)|refine IM.mk λ_=>?_
   all_goals try simp only[au,qZ] at*
   all_goals first|omega|skip
   exact AP.same hs _ _ _ rfl (HL ..)
abbrev SN:Type:=SY×List Int×List Int×List Int
abbrev ET:Type:=Int×Int×Int×Int×Int×List Int×List Int
theorem am4 (a b:Int):CS (a,b)=af (decide (0<=a/\a<b)):=ab5 a b
structure NB (n:Nat) (s:SN):Prop where
 sb:SB n s.1
 c:s.2.1.length<=1000
 f:s.2.2.1.length<=1000
 k:s.2.2.2.length<=1000
structure SP (n:Nat) (s y:SN):Prop where
 ap:AP n s.1 y.1
 c:y.2.1.length=s.2.1.length
 f:y.2.2.1.length=s.2.2.1.length
 k:y.2.2.2.length=s.2.2.2.length
theorem SP.NB {n:Nat} {s y:SN} (h:SP n s y) (hs:NB n s) (hn:n+1<=100000):NB (n+1) y:=
 ⟨h.ap.toSB hs.sb hn,by rw[h.c];exact hs.c,by rw[h.f];exact hs.f,by rw[h.k];exact hs.k⟩
def sn0:SN:=(([],0,[],[]),[],[],[])
structure F16 (w:WT) (s:SN):Prop where
 c:s.2.1.length=w.1.length
 f:s.2.2.1.length=w.2.2.2.1.length
 k:s.2.2.2.length=w.2.2.2.2.1.length
theorem ZC (w:WT) (s:SN) (I:w.2.2.1.length<=1000):Ok (wu (w,s)) λb=>b=ai->F16 w s:=by
 unfold wu aZ bk bw dA bf aY aE;refine gB (ax (PK w s.1 (by omega)) λb hb=>?_);with_reducible repeat' first|(refine OS.ok ?_;constructor)|refine IM.mk λ_=>?_
 all_goals try simp only[au,qZ] at*
 all_goals first|(intro h;constructor<;>omega)|(intro h;cases h;done)
theorem XE:∀ (l:List Int),(∀ k:Nat,k+1<l.length->l.getD k 0<l.getD (k+1) 0)->Hx l
 |[],_=>trivial
 |[x],_=>⟨λy M=>(by cases M),trivial⟩
 |x::y::r,h=>by
  have J:=XE (y::r) λk hk=>by have:=h (k+1) (by simpa using hk);simpa using this
  have h0:=h 0 (by simp);simp at h0;refine ⟨λz I=>?_,J⟩;rcases bm.1 I with rfl|I
  .exact h0
  .have:=J.1 z I;omega
structure AN (c:Int) (l:List Int):Prop where
 a:Hx l
 m:∀ x:Int,x∈l->1<=x/\x<c
theorem IA (l:List Int) (c:Int) (hl:l.length<=1000000000):Ok (nG (l,c)) λb=>b=ai->AN c l:=by
 unfold nG bx iH bA aY cK aE cE;refine bZ l.length (λi x=>x=(i:Int)/\(∀ k:Nat,k<i->1<=aJ (T:=.int .i64) l (k:Int)/\aJ (T:=.int .i64) l (k:Int)<c)/\∀ k:Nat,k+1<i->l.getD k 0<l.getD (k+1) 0) ?_ ?_ ⟨rfl,λk hk=>by omega,λk hk=>by omega⟩
 .rintro i x hi ⟨rfl,I,J⟩;have M:0<(i:Int)->bc .i64 ((i:Int)-1)=((i-1:Nat):Int):=λh=>by rw[hX (by omega) (by omega)];omega
  have hq:(0<i->l.getD (i-1) 0<l.getD i 0)->1<=aJ (T:=.int .i64) l (i:Int)/\aJ (T:=.int .i64) l (i:Int)<c->bc .i64 ((i:Int)+1)=((i+1:Nat):Int)/\(∀ k:Nat,k<i+1->1<=aJ (T:=.int .i64) l (k:Int)/\aJ (T:=.int .i64) l (k:Int)<c)/\∀ k:Nat,k+1<i+1->l.getD k 0<l.getD (k+1) 0:=λg1 Z=>by
   refine ⟨gI (by omega),λk hk=>?_,λk hk=>?_⟩
   .rcases b9 k i with h1|h1
    .exact I k h1
    .rw[show k=i by omega];exact Z
   .rcases b9 (k+1) i with h1|h1
    .exact J k h1
    .have:=g1 (by omega);rw[show k=i-1 by omega,show i-1+1=i by omega];exact this
  with_reducible repeat' first|(refine OS.ok ?_;constructor)|refine IM.mk λ_=>?_
  all_goals try simp only[au,qZ] at*
  all_goals first|omega|(intro h;cases h;done)|(rw [M (by omega)];omega)|skip
  .rename_i h1 h2 Y U;rw[M Y,OJ,OJ] at U;exact hq (λ_=>U) ⟨by omega,by omega⟩
  .exact hq (λh=>by omega) ⟨by omega,by omega⟩
 .rintro x ⟨rfl,I,J⟩;with_reducible repeat' first|(refine OS.ok ?_;constructor)|refine IM.mk λ_=>?_
  all_goals try simp only[au,qZ] at*
  all_goals first|omega|skip
  exact⟨XE l λk hk=>J k hk,ir (T:=.int .i64) I⟩
structure VA (w:WT) (sy:SY) (ce fu:List Int) (t k o v:Int):Prop where
 ld:k=3->v=aJ (T:=.int .i64) ce o
 gt:k=23->v=aJ (T:=.int .i64) fu o
 br:k=5->v=0\/v=1
 el:¬k=3->¬k=23->¬k=5->¬k=4->¬k=22->v=(re w sy t k o v).2
theorem ite2 {c:Prop} [Decidable c] {a b:SY×Int} (I:a.2=0) (hb:b.2=0):(if c then a else b).2=0:=by by_cases h:c<;>simp[h,I,hb]
theorem ahr (w:WT) (sy:SY) (t k o u:Int) (h1:¬k=18) (h2:¬k=19):(re w sy t k o u).2=0:=by
 unfold re;rw[ay h1,ay h2];repeat (first|exact rfl|refine ite2 rfl ?_)
theorem XI (w:WT) (sy:SY) (t k o u I:Int) (h1:¬k=18):re w sy t k o u=re w sy t k o I:=by
 unfold re;rw[ay h1,ay h1]
theorem Fr (w:WT) (sy:SY) (t o u:Int):re w sy t 18 o u=if (wl sy.2.2.2 o sy.2.2.2.length).length=0 then (sy,-1) else ((sy.1,sy.2.1,sy.2.2.1,ya sy.2.2.2 (Bs (wl sy.2.2.2 o sy.2.2.2.length) u) 4),Bs (wl sy.2.2.2 o sy.2.2.2.length) u):=rfl
theorem aje (w:WT) (sy:SY) (t o u:Int):(re w sy t 19 o u).2=((wl sy.2.2.2 o sy.2.2.2.length).length:Int):=rfl
theorem Z4 {n:Nat} (w:WT) (s:SN) (hs:NB n s) (hf:F16 w s) (e:ET) (he:EN w s.1 e.1 e.2.1 e.2.2.1):Ok (uf (s,e)) λb=>b=ai->VA w s.1 s.2.1 s.2.2.1 e.1 e.2.1 e.2.2.1 e.2.2.2.1:=by
 obtain⟨t,k,o,v,si,de,fr⟩:=e;obtain⟨s1,s2,s3,s4⟩:=s;obtain⟨nm,t0,t1,cd,e1,e2,e3⟩:=he;obtain⟨_,_,ce,lk,cn,th,fu,_,_,_⟩:=nm;obtain⟨f1,f2,f3⟩:=hf;have hth:=hs.sb.th;dsimp only at*
 unfold uf aZ bk bw cA bL bf bx iH bA aY aE;have hW:=V8 s1 o hth;have hWl:=vG s1.2.2.2 o s1.2.2.2.length;refine aK (λh=>?_) λn3=>?_
 .have h:k=3:=h;obtain⟨Z,Y⟩:=ce (.inl h);exact aS Z (by rw[f1];exact Y) (aR (ar λh2=>⟨λ_=>bn h2,λI=>by omega,λI=>by omega,λI=>(I h).elim⟩))
 refine aK (λh=>?_) λJ=>?_
 .have h:k=23:=h;obtain⟨Z,Y⟩:=fu (.inr h);exact aS Z (by rw[f2];exact Y) (aR (ar λh2=>⟨λI=>by omega,λ_=>bn h2,λI=>by omega,λ_ I=>(I h).elim⟩))
 refine aK (λh=>?_) λn5=>?_
 .have h:k=5:=h;exact gB (aK (λh2=>ar (ar λ_=>⟨λI=>by omega,λI=>by omega,λ_=>.inl h2,λ_ _ I=>(I h).elim⟩)) λ_=>ar (ar λh2=>⟨λI=>by omega,λI=>by omega,λ_=>.inr (bn h2),λ_ _ I=>(I h).elim⟩))
 refine aX (λx=>x.2=((s1,s2,s3,s4),t,k,o,v,si,de,fr)/\(x.1=ai->k=4\/k=22)) (aK (λh=>ar ⟨rfl,λ_=>.inl h⟩) λ_=>ar ⟨rfl,λh=>.inr (bn h)⟩) ?_;rintro⟨b,x⟩ ⟨e,hb⟩;dsimp only at e hb;subst e;refine aP (λh=>ar λ_=>⟨λI=>(n3 I).elim,λI=>(J I).elim,λI=>(n5 I).elim,λ_ _ _ h4 h5=>(hb h).elim (λh=>(h4 h).elim) λh=>(h5 h).elim⟩) λ_=>?_
 have fin:v=(re w s1 t k o v).2->VA w s1 s2 s3 t k o v:=λh=>⟨λI=>(n3 I).elim,λI=>(J I).elim,λI=>(n5 I).elim,λ_ _ _ _ _=>h⟩
 refine aK (λh=>?_) λU=>?_
 .have h:k=18:=h;subst h;rw[Fr] at fin;refine aT hW ?_;revert fin hWl;generalize wl s1.2.2.2 o s1.2.2.2.length=l;intro hWl fin;refine aK (λh=>ar λh2=>fin ?_) λh=>?_
  .dsimp only[au] at h;rw[aF (by omega)];exact bn h2
  .dsimp only[au] at h;have hne:¬l.length=0:=by omega
   refine gB (eE (λ_=>bF (λ_=>?_) λ_=>ar (ar λh=>(by cases h))) λ_=>ar (ar λh=>(by cases h)));refine aT (Wi _ _ (by omega)) (ar (ar λh2=>fin ?_));rw[ay hne];unfold Bs;rw[ay hne,aF h2]
 refine aK (λh=>?_) λM=>?_
 .have h:k=19:=h;subst h;exact aT hW (ar λh2=>fin (bn h2))
 exact ar λh2=>fin (by rw[ahr _ _ _ _ _ _ U M];exact bn h2)
structure S16 (w:WT) (s:SN) (e:ET):Prop where
 rd:Wd w s.1 e.1 e.2.1 e.2.2.1
 s1:e.2.1=1\/e.2.1=2->e.2.2.2.2.1= -1
 s2:¬(e.2.1=1\/e.2.1=2)->0<=e.2.2.2.2.1/\e.2.2.2.2.1<w.2.2.2.2.2.length/\(aJ (T:=x_) w.2.2.2.2.2 e.2.2.2.2.1).1=e.1
 de:0<e.2.2.2.2.2.1.length->e.2.1=5\/(e.2.1=3\/e.2.1=4)/\¬(aJ (T:=P1) w.1 e.2.2.1).2.2.1=0
 fr:0<e.2.2.2.2.2.2.length->e.2.1=4\/e.2.1=22
 nd:AN (aJ (T:=.int .i64) s.2.2.2 e.1) e.2.2.2.2.2.1
 nf:AN (aJ (T:=.int .i64) s.2.2.2 e.1) e.2.2.2.2.2.2
 va:VA w s.1 s.2.1 s.2.2.1 e.1 e.2.1 e.2.2.1 e.2.2.2.1
def Y6 (ce:List Int) (e:ET):List Int:=if e.2.1=4 then cQ ce e.2.2.1 e.2.2.2.1 else ce
def ZW (fu:List Int) (e:ET):List Int:=if e.2.1=22 then cQ fu e.2.2.1 e.2.2.2.1 else fu
def nxP (w:WT) (s:SN) (e:ET):SN:=((re w s.1 e.1 e.2.1 e.2.2.1 e.2.2.2.1).1,Y6 s.2.1 e,ZW s.2.2.1 e,cQ s.2.2.2 e.1 (bc .i64 (aJ (T:=.int .i64) s.2.2.2 e.1+1)))
theorem Fu {n:Nat} (w:WT) (s:SN) (hs:NB n s) (hw:w.2.2.1.length<=1000) (e:ET) (hd:e.2.2.2.2.2.1.length<=1000000000) (hf:e.2.2.2.2.2.2.length<=1000000000):Ok (ru (w,s,e)) λy=>(y.2=ai->EN w s.1 e.1 e.2.1 e.2.2.1/\SP n s y.1/\S16 w s e/\y.1=nxP w s e)/\(y.2=aj->y.1=sn0):=by
 have U:∀ {Q:SN×Bool->Prop},Q (sn0,aj)->Ok (af (sn0,aj)) Q:=λh=>ar h
 have Z:((sn0,aj).2=ai->EN w s.1 e.1 e.2.1 e.2.2.1/\SP n s (sn0,aj).1/\S16 w s e/\(sn0,aj).1=nxP w s e)/\((sn0,aj).2=aj->(sn0,aj).1=sn0):=⟨λh=>(by cases h),λ_=>rfl⟩
 unfold ru aZ bk bw cA dV bL dA cX fk kD ck bf bx je bB bA kB aY cK aE cE;refine aX (λx=>x.2=(w,s,e,0)/\(x.1=aj->F16 w s/\(EN w s.1 e.1 e.2.1 e.2.2.1/\Wd w s.1 e.1 e.2.1 e.2.2.1)/\j9 (w,s.1,e.1,e.2.1,e.2.2.1)=af ai)) ?_ ?_
 .refine ax (ZC w s hw) λb hb=>?_
  with_reducible repeat' first|(refine OS.ok ?_;constructor)|refine IM.mk λ_=>?_
  .exact⟨rfl,λh=>(by cases h)⟩
  simp only[am4,WY];with_reducible repeat' first|(refine OS.ok ?_;constructor)|refine IM.mk λ_=>?_
  .exact⟨rfl,λh=>(by cases h)⟩
  .exact⟨rfl,λh=>(by cases h)⟩
  .exact⟨rfl,λh=>(by cases h)⟩
  obtain⟨c,hc0,hc⟩:=K9 w s.1 hs.sb hw e.1 e.2.1 e.2.2.1;refine aT hc0 (ar ⟨rfl,λh=>?_⟩);have h:c=ai:=by simpa using h
  exact⟨hb (by assumption),hc h,h▸hc0⟩
 rintro⟨x1,x2⟩ ⟨I,hx⟩;dsimp only at I hx;subst I;refine aP (λ_=>U Z) λh1=>?_
 obtain⟨hF,⟨hE,hR⟩,hEn⟩:=hx h1;clear hx h1;refine aX (λx=>x=(w,s,e,0)/\(e.2.1=1\/e.2.1=2->e.2.2.2.2.1= -1)/\(¬(e.2.1=1\/e.2.1=2)->0<=e.2.2.2.2.1/\e.2.2.2.2.1<w.2.2.2.2.2.length/\(aJ (T:=x_) w.2.2.2.2.2 e.2.2.2.2.1).1=e.1)) ?_ ?_
 .refine aX (λx=>x.2=(w,s,e,0)/\(x.1=ai->e.2.1=1\/e.2.1=2)/\(x.1=aj->¬(e.2.1=1\/e.2.1=2))) ?_ ?_
  .refine aK (λh=>ar ⟨rfl,λ_=>.inl h,λh=>(by cases h)⟩) λh=>ar ⟨rfl,λh2=>.inr (bn h2),λh2=>?_⟩
   have:=TK h2;exact λM=>M.elim h this
  rintro⟨x1,x2⟩ ⟨I,hy1,hy2⟩;dsimp only at I hy1 hy2;subst I;refine aP (λhk=>?_) λhk=>?_
  .exact ca (λ_=>ar Z) λh=>ar ⟨rfl,λ_=>h,λM=>(M (hy1 hk)).elim⟩
  .refine aX (λx=>x.2=(w,s,e,0)/\(x.1=aj->0<=e.2.2.2.2.1/\e.2.2.2.2.1<w.2.2.2.2.2.length/\(aJ (T:=x_) w.2.2.2.2.2 e.2.2.2.2.1).1=e.1)) ?_ ?_
   .simp only[am4,WY];refine ca (λ_=>ar ⟨rfl,λh=>(by cases h)⟩) λh=>aS h.1 h.2 (aR (ar ⟨rfl,λh2=>⟨h.1,h.2,?_⟩⟩))
    simpa using h2
   rintro⟨x1,x2⟩ ⟨I,U⟩;dsimp only at I U;subst I;exact aP (λ_=>ar Z) λh=>ar ⟨rfl,λM=>((hy2 hk) M).elim,λ_=>U h⟩
 rintro x ⟨rfl,hS1,hS2⟩;obtain⟨nm,t0,t1,cd,e1,e2,e3⟩:=id hE;obtain⟨_,_,ce,lk,cn,th,fu,_,_,_⟩:=nm;obtain⟨f1,f2,f3⟩:=id hF;refine aX (λx=>x.2=(w,s,e,0)/\(x.1=ai->e.2.1=3\/e.2.1=4)) ?_ ?_
 .with_reducible repeat' first|(refine OS.ok ?_;constructor)|refine IM.mk λ_=>?_
  .exact⟨rfl,λ_=>.inl (by assumption)⟩
  .exact⟨rfl,λh=>.inr (bn h)⟩
 rintro⟨x1,x2⟩ ⟨I,J⟩;dsimp only at I J;subst I;refine aX (λx=>x.2=(w,s,e,0)/\(x.1=aj->0<e.2.2.2.2.2.1.length->e.2.1=5\/(e.2.1=3\/e.2.1=4)/\¬(aJ (T:=P1) w.1 e.2.2.1).2.2.1=0)) ?_ ?_
 .refine bF (λ_=>ca (λ_=>aP (λh=>?_) λ_=>ar ⟨rfl,λh=>(by cases h)⟩) λh5=>ar ⟨rfl,λ_ _=>.inl h5⟩) λh=>ar ⟨rfl,λ_ h2=>?_⟩
  .refine aS (ce (J h)).1 (ce (J h)).2 (aR (ar ⟨rfl,λh2 _=>.inr ⟨J h,?_⟩⟩));simpa using h2
  .dsimp only[au] at h;omega
 rintro⟨x1,x2⟩ ⟨I,hDe⟩;dsimp only at I hDe;subst I;refine aP (λ_=>U Z) λhde=>?_
 refine aX (λx=>x.2=(w,s,e,0)/\(x.1=aj->0<e.2.2.2.2.2.2.length->e.2.1=4\/e.2.1=22)) ?_ ?_
 .refine bF (λ_=>ca (λ_=>ar ⟨rfl,λh _=>.inr (by simpa using h)⟩) λY=>ar ⟨rfl,λ_ _=>.inl Y⟩) λh=>ar ⟨rfl,λ_ h2=>?_⟩
  dsimp only[au] at h;omega
 rintro⟨x1,x2⟩ ⟨I,hFr⟩;dsimp only at I hFr;subst I;refine aP (λ_=>U Z) λhfr=>?_
 have hk:=hs.k;have hc:=hs.c;have hfu:=hs.f;refine aX (λx=>x.2=(w,s,e,0)/\(x.1=aj->AN (aJ (T:=.int .i64) s.2.2.2 e.1) e.2.2.2.2.2.1/\AN (aJ (T:=.int .i64) s.2.2.2 e.1) e.2.2.2.2.2.2/\VA w s.1 s.2.1 s.2.2.1 e.1 e.2.1 e.2.2.1 e.2.2.2.1)) ?_ ?_
 .have hv:=Z4 w s hs hF e hE;refine aS t0 (by rw[f3];exact t1) (aR (ax (IA _ _ hd) λb hb=>?_));refine em (λ_=>ar ⟨rfl,λh=>(by cases h)⟩) λb1=>?_
  refine aS t0 (by rw[f3];exact t1) (aR (ax (IA _ _ hf) λb hb2=>?_));refine em (λ_=>ar ⟨rfl,λh=>(by cases h)⟩) λb2=>?_
  exact ax hv λb hb3=>ar ⟨rfl,λh=>⟨hb b1,hb2 b2,hb3 (by simpa using h)⟩⟩
 rintro⟨x1,x2⟩ ⟨I,hNum⟩;dsimp only at I hNum;subst I;refine aP (λ_=>U Z) λhnu=>?_
 obtain⟨hN1,hN2,hVA⟩:=hNum hnu;have hS:S16 w s e:=⟨hR,hS1,hS2,hDe hde,hFr hfr,hN1,hN2,hVA⟩
 refine bh (by simp;omega) (by omega) (bh (by simp;omega) (by omega) (bh (by simp;omega) (by omega) ?_));refine aX (λx=>x.2=(w,s,e,0,0,s.2.1,s.2.2.1,s.2.2.2)/\re w s.1 e.1 e.2.1 e.2.2.1 x.1=re w s.1 e.1 e.2.1 e.2.2.1 e.2.2.2.1) ?_ ?_
 .exact aK (λ_=>ar ⟨rfl,rfl⟩) λh=>ar ⟨rfl,XI _ _ _ _ _ _ _ h⟩
 rintro⟨x1,x2⟩ ⟨I,hxu⟩;dsimp only at I hxu;subst I;refine ax (TA w s.1 hs.sb hw e.1 e.2.1 e.2.2.1 x1) λy hy=>?_
 obtain⟨_,_,hap,hyq⟩:=hy.1 (hy.2.2 hEn);rw[hxu] at hyq;refine aX (λx=>x.1=e/\x.2.2.1=y.1/\x.2.2.2.1=Y6 s.2.1 e/\x.2.2.2.2=(s.2.2.1,s.2.2.2)) ?_ ?_
 .unfold Y6;refine aK (λh=>?_) λh=>ar ⟨rfl,rfl,(ay h).symm,rfl⟩
  have hc4:=ce (.inr h);with_reducible repeat' first|(refine OS.ok ?_;constructor)|refine IM.mk λ_=>?_
  all_goals try simp only[au,qZ] at*
  all_goals first|omega|exact (aF h).symm
 rintro⟨x1,x2,x3,x4,x5,x6⟩ ⟨h1,h2,M,Y⟩;simp only[aD] at h1 h2 M Y;obtain⟨rfl,rfl⟩:=Y;subst h1;subst h2;subst M;refine aX (λx=>x.1=x1/\x.2.2.1=y.1/\x.2.2.2.1=Y6 s.2.1 x1/\x.2.2.2.2.1=ZW s.2.2.1 x1/\x.2.2.2.2.2=s.2.2.2) ?_ ?_
 .unfold ZW;refine aK (λh=>?_) λh=>ar ⟨rfl,rfl,rfl,(ay h).symm,rfl⟩
  have hc4:=fu (.inl h);with_reducible repeat' first|(refine OS.ok ?_;constructor)|refine IM.mk λ_=>?_
  all_goals try simp only[au,qZ] at*
  all_goals first|omega|exact (aF h).symm
 rintro⟨x1,x2,x3,x4,x5,x6⟩ ⟨h1,h2,Y,h5,h6⟩;simp only at h1 h2 Y h5 h6;subst h1;subst h2;subst Y;subst h5;subst h6;have l1:(Y6 s.2.1 x1).length=s.2.1.length:=by unfold Y6;split<;>simp[bV]
 have l2:(ZW s.2.2.1 x1).length=s.2.2.1.length:=by unfold ZW;split<;>simp[bV]
 with_reducible repeat' first|(refine OS.ok ?_;constructor)|refine IM.mk λ_=>?_
 all_goals try simp only[au,qZ] at*
 all_goals first|omega|skip
 exact⟨⟨hE,⟨hap,l1,l2,by rw[bV]⟩,hS,by unfold nxP;rw[<- hyq]⟩,λh=>(by cases h)⟩
theorem Tg:Ok (ko ()) λl=>l.length=22:=by
 unfold ko;with_reducible repeat' first|(refine OS.ok ?_;constructor)|refine IM.mk λ_=>?_
 all_goals rfl
theorem PI (s:List UInt8):Ok (jF s) λ_=>True:=by
 unfold jF bx bA aY cK aE cE;refine ax Tg λl hl=>?_
 refine bZ l.length (λi x=>x=(i:Int)) ?_ ?_ rfl
 .rintro i x hi rfl;with_reducible repeat' first|(refine OS.ok ?_;constructor)|refine IM.mk λ_=>?_
  all_goals try simp only[au,qZ] at*
  all_goals first|omega|exact gI (by omega)
 .rintro x rfl;with_reducible repeat' first|(refine OS.ok ?_;constructor)|refine IM.mk λ_=>?_
  all_goals try simp only[au,qZ] at*
  all_goals omega
theorem Ny (c:Int):Ok (ly c) λ_=>True:=by
 unfold ly iH aE;with_reducible repeat' first|(refine OS.ok ?_;constructor)|refine IM.mk λ_=>?_
 all_goals exact trivial
theorem ab3 (c:Int):Ok (pn c) λ_=>True:=by
 unfold pn rC iH aE;refine gB (ax (Ny c) λ_ _=>?_);with_reducible repeat' first|(refine OS.ok ?_;constructor)|refine IM.mk λ_=>?_
 all_goals try exact trivial
 refine ax (P:=λ_=>True) ?_ λ_ _=>?_
 .with_reducible repeat' first|(refine OS.ok ?_;constructor)|refine IM.mk λ_=>?_
  all_goals exact trivial
 .with_reducible repeat' first|(refine OS.ok ?_;constructor)|refine IM.mk λ_=>?_
  all_goals exact trivial
theorem iw (s:List UInt8):Ok (fg s) λ_=>True:=by
 unfold fg bx v7 aY cK aE cE;refine aX (λb=>b=aj->s.length<=12) ?_ ?_
 .with_reducible repeat' first|(refine OS.ok ?_;constructor)|refine IM.mk λ_=>?_
  .exact λh=>(by cases h)
  .exact λh=>(by cases h)
  .omega
  .simp only[au] at *;omega
  refine ax (Ny _) λ_ _=>?_
  with_reducible repeat' first|(refine OS.ok ?_;constructor)|refine IM.mk λ_=>?_
  .exact λh=>(by cases h)
  refine ax (PI _) λ_ _=>ar λ_=>?_
  simp only[au] at *;omega
 .rintro b hb;refine aP (λ_=>ar trivial) λh=>?_
  have hb:=hb h;refine bZ s.length (λi x=>x=(i:Int)) ?_ ?_ rfl
  .rintro i x hi rfl;with_reducible repeat' first|(refine OS.ok ?_;constructor)|refine IM.mk λ_=>?_
   all_goals try simp only[au,qZ] at*
   all_goals first|omega|skip
   refine ax (ab3 _) λ_ _=>?_
   with_reducible repeat' first|(refine OS.ok ?_;constructor)|refine IM.mk λ_=>?_
   .exact trivial
   .exact gI (by omega)
  .rintro x rfl;with_reducible repeat' first|(refine OS.ok ?_;constructor)|refine IM.mk λ_=>?_
   all_goals try simp only[au,qZ] at*
   all_goals first|omega|exact trivial
theorem yF (l:List (List UInt8)) (s:List UInt8) (hl:l.length<=1000000000):Ok (iY (l,s)) λr=> -1<=r/\r<l.length/\(0<=r->aJ (T:=.str) l r=s)/\(r<0->s∉l):=by
 unfold iY bx bA aY cK aE cE;refine bZ l.length (λi x=>x=(i:Int)/\∀ k:Nat,k<i->aJ (T:=.str) l (k:Int)≠s) ?_ ?_ ⟨rfl,λk hk=>by omega⟩
 .rintro i x hi ⟨rfl,I⟩;with_reducible repeat' first|(refine OS.ok ?_;constructor)|refine IM.mk λ_=>?_
  all_goals try simp only[au,qZ] at*
  all_goals first|omega|skip
  .exact⟨by omega,by omega,λ_=>by assumption,λh=>by omega⟩
  .refine ⟨gI (by omega),λk hk=>?_⟩;rcases b9 k i with h1|h1
   .exact I k h1
   .rw[show k=i by omega];assumption
 .rintro x ⟨rfl,I⟩;with_reducible repeat' first|(refine OS.ok ?_;constructor)|refine IM.mk λ_=>?_
  all_goals try simp only[au,qZ] at*
  all_goals first|omega|skip
  exact⟨by omega,by omega,λh=>by omega,λ_ h=>ir (T:=.str) (p:=λc=>c≠s) I s h rfl⟩
structure VL (w:WT):Prop where
 c:w.1.length<=12
 l:w.2.1.length<=4
 d:w.2.2.1.length<=2
 f:w.2.2.2.1.length<=2
 t0:1<=w.2.2.2.2.1.length
 t:w.2.2.2.2.1.length<=4
 s:w.2.2.2.2.2.length<=60
theorem aao (w:WT) (h:VL w):Ok (pj w) λy=>y.1.length<=100:=by
 obtain⟨w1,w2,J,Y,U,M⟩:=w;obtain⟨h1,h2,h3,h4,_,h5,h6⟩:=h;dsimp only at*
 unfold pj aZ bk bw cA dA kD bf bx je bB bA aY cK aE cE;refine qc (λx=>((w1.length:Int)-x.1).toNat) (λx=>x.2.1=(w1,w2,J,Y,U,M)/\0<=x.1/\x.1<=(w1.length:Int)/\(x.2.2.length:Int)<=x.1) ?_ ⟨rfl,by simp,by simp,by simp⟩;rintro⟨x1,x2,x3⟩ ⟨e,g1,g2,g3⟩;dsimp only at e g1 g2 g3;subst e;refine bF (λZ=>?_) λZ=>?_
 .dsimp only[au] at Z;refine aX (λx=>x.2.1=(w1,w2,J,Y,U,M)/\x1<x.1/\x.1<=(w1.length:Int)/\(x.2.2.length:Int)<=x.1) ?_ ?_
  .refine b8 (aR (bh (by simp;omega) (by omega) ?_));refine aK (λ_=>?_) λ_=>?_
   .with_reducible repeat' first|(refine OS.ok ?_;constructor)|refine IM.mk λ_=>?_
    .exact li _
    .rw[hX (by omega) (by omega)];exact⟨rfl,by dsimp only;omega,by dsimp only;omega,by simp;omega⟩
   .generalize hz:aJ _ x1=z;obtain⟨z1,(z2:Int),(I:Int),z4,z5⟩:=z;dsimp only;refine aX (λx=>x.2=((w1,w2,J,Y,U,M),x3++[z1],z1,z2,I,z4,z5)/\(x.1=aj->1<=I/\I<=4/\x1+I<=w1.length)) ?_ ?_
    .with_reducible repeat' first|(refine OS.ok ?_;constructor)|refine IM.mk λ_=>?_
     .exact⟨rfl,λh=>(by cases h)⟩
     .exact⟨rfl,λh=>(by cases h)⟩
     .refine ⟨rfl,λh=>?_⟩;dsimp only[au] at*
      rw[hX (by omega) (by omega),gk] at h;omega
    .rintro⟨b,y⟩ ⟨e,hb⟩;dsimp only at e hb;subst e;refine aP (λ_=>ar (li _)) λh=>?_
     obtain⟨q1,q2,q3⟩:=hb h;refine qc (λx=>(I-x.1).toNat) (λx=>x.2=((w1,w2,J,Y,U,M),x3++[z1],z1,z2,I,z4,z5)/\0<=x.1/\x.1<=I) ?_ ⟨rfl,by simp,by dsimp only;omega⟩;rintro⟨k,y⟩ ⟨e,k0,k1⟩;dsimp only at e k0 k1;subst e;refine bF (λk2=>?_) λk2=>?_
     .dsimp only at k2;have e1:bc .i64 (x1+k)=x1+k:=hX (by omega) (by omega);refine aS (by dsimp only;rw[e1];omega) (by dsimp only;rw[e1];omega) (aR ?_);refine aX (λx=>x.2=((w1,w2,J,Y,U,M),x3++[z1],z1,z2,I,z4,z5)) ?_ ?_
      .with_reducible repeat' first|(refine OS.ok ?_;constructor)|refine IM.mk λ_=>?_
       all_goals rfl
      .rintro⟨b,y⟩ e;dsimp only at e;subst e;refine aP (λ_=>ar (li _)) λ_=>ar ?_
       dsimp only;rw[hX (by omega) (by omega)];exact⟨⟨rfl,by omega,by omega⟩,by omega⟩
     .dsimp only at k2;refine ar ?_;dsimp only;rw[hX (by omega) (by omega)];exact⟨rfl,by omega,by omega,by simp;omega⟩
  .rintro⟨y1,y2,y3⟩ ⟨e,g5,g6,g7⟩;dsimp only at e g5 g6 g7;subst e;refine ar ⟨⟨rfl,by dsimp only;omega,g6,g7⟩,?_⟩;dsimp only;omega
 .dsimp only[au] at Z;refine ax (P:=λy=>y.1.length<=100) ?_ λy hy=>ar hy
  refine bZ w2.length (λi x=>x.1=(i:Int)/\x.2.1=(w1,w2,J,Y,U,M)/\x.2.2.length<=12+i) ?_ ?_ ⟨rfl,rfl,by dsimp only;omega⟩
  .rintro i ⟨a,b,c⟩ hi ⟨e1,e2,e3⟩;dsimp only at e1 e2 e3;subst e1;subst e2;with_reducible repeat' first|(refine OS.ok ?_;constructor)|refine IM.mk λ_=>?_
   all_goals try simp only[au,qZ] at*
   all_goals first|omega|(simp;omega)|skip
   exact⟨gI (by omega),by simp;omega⟩
  .rintro⟨a,b,c⟩ ⟨e1,e2,e3⟩;dsimp only at e1 e2 e3;subst e1;subst e2;refine bF (λZ=>(by dsimp only[au] at Z;omega)) λ_=>?_
   refine ax (P:=λy=>y.1.length<=100) ?_ λy hy=>ar hy
   refine bZ J.length (λi x=>x.1=(i:Int)/\x.2.1=(w1,w2,J,Y,U,M)/\x.2.2.length<=16+i) ?_ ?_ ⟨rfl,rfl,by dsimp only;omega⟩
   .rintro i ⟨a,b,c⟩ hi ⟨e1,e2,e3⟩;dsimp only at e1 e2 e3;subst e1;subst e2;with_reducible repeat' first|(refine OS.ok ?_;constructor)|refine IM.mk λ_=>?_
    all_goals try simp only[au,qZ] at*
    all_goals first|omega|(simp;omega)|skip
    exact⟨gI (by omega),by simp;omega⟩
   .rintro⟨a,b,c⟩ ⟨e1,e2,e3⟩;dsimp only at e1 e2 e3;subst e1;subst e2;refine bF (λZ=>(by dsimp only[au] at Z;omega)) λ_=>?_
    refine ax (P:=λy=>y.1.length<=100) ?_ λy hy=>ar hy
    with_reducible repeat' first|(refine OS.ok ?_;constructor)|refine IM.mk λ_=>?_
    all_goals try simp only[au,qZ] at*
    all_goals first|omega|(simp;omega)
def TE (T:Int) (o:Option (Int×Int)) (s:Int×Int×Int):Option (Int×Int):=
 match o with
 |none=>ah
 |some (t,n)=>if s.1=t/\s.2.1=n then af (t,n+1) else if t<s.1/\s.1<T/\s.2.1=0 then af (s.1,1) else ah
def Li (T:Int) (l:List (Int×Int×Int)):Option (Int×Int):=l.foldl (TE T) (af (0,0))
def SV0 (w:WT):Prop:=Li w.2.2.2.2.1.length w.2.2.2.2.2≠ah
theorem Ij {T:Int} {l:List (Int×Int×Int)} {i:Nat} (hi:i<l.length):Li T (l.take (i+1))=TE T (Li T (l.take i)) (aJ (T:=x_) l (i:Int)):=by
 rw[mH (T:=x_) hi];unfold Li;rw[dQ];rfl
theorem Bt (w:WT):Ok (hZ w) λb=>b=ai->VL w/\SV0 w:=by
 unfold hZ aZ bk bw cA cX fk bf bx iH je bB bA aY cK aE cE;refine aX (λx=>x.2=w/\(x.1=aj->VL w)) ?_ ?_
 .with_reducible repeat' first|(refine OS.ok ?_;constructor)|refine IM.mk λ_=>?_
  all_goals first|exact⟨rfl,λh=>(by cases h)⟩|skip
  dsimp only[au] at*
  refine ⟨rfl,λh=>?_⟩;rw[gk] at h;constructor<;>omega
 rintro⟨b,x⟩ ⟨e,hb⟩;dsimp only at e hb;subst e;refine aP (λ_=>ar λh=>(by cases h)) λh=>?_
 have hv:=hb h;refine ax (aao _ hv) λy hy=>?_
 refine em (λ_=>ar λh=>(by cases h)) λ_=>?_
 obtain⟨w1,w2,U,Z,J,I⟩:=x;have h6:=hv.s;have h3:=hv.d;dsimp only at h6 h3;refine bZ y.1.length (λi x=>x.1=(i:Int)/\x.2=(w1,w2,U,Z,J,I)) ?_ ?_ ⟨rfl,rfl⟩
 .rintro i ⟨a,b⟩ hi ⟨e1,e2⟩;dsimp only at e1 e2;subst e1;subst e2;refine bF (λY=>?_) λY=>(by dsimp only[au] at Y;omega)
  refine aX (λx=>x.2=(w1,w2,U,Z,J,I)) ?_ ?_
  .refine b8 (aR (ax (iw _) λ_ _=>?_));refine em (λ_=>ar rfl) λ_=>?_
   with_reducible repeat' first|(refine OS.ok ?_;constructor)|refine IM.mk λ_=>?_
   all_goals try simp only[au,qZ] at*
   all_goals first|omega|skip
   refine ax (yF _ _ (by simp;omega)) λ_ _=>ar rfl
  .rintro⟨a,b⟩ e;dsimp only at e;subst e;with_reducible repeat' first|(refine OS.ok ?_;constructor)|refine IM.mk λ_=>?_
   .exact λh=>(by cases h)
   .dsimp only;exact⟨gI (by omega),rfl⟩
 rintro⟨a,b⟩ ⟨e1,e2⟩;dsimp only at e1 e2;subst e1;subst e2;refine bF (λY=>(by dsimp only[au] at Y;omega)) λ_=>?_
 refine ax (P:=λb=>b=ai->VL (w1,w2,U,Z,J,I)/\SV0 (w1,w2,U,Z,J,I)) ?_ λy hy=>ar hy
 refine bZ U.length (λi x=>x.1=(i:Int)/\x.2=(w1,w2,U,Z,J,I)) ?_ ?_ ⟨rfl,rfl⟩
 .rintro i ⟨a,b⟩ hi ⟨e1,e2⟩;dsimp only at e1 e2;subst e1;subst e2;refine bF (λY=>?_) λY=>(by dsimp only[au] at Y;omega)
  refine b8 (aR ?_);refine aX (λx=>x.2=(w1,w2,U,Z,J,I)) ?_ ?_
  .with_reducible repeat' first|(refine OS.ok ?_;constructor)|refine IM.mk λ_=>?_
   all_goals try simp only[au,qZ] at*
   all_goals first|omega|rfl
  .rintro⟨a,b⟩ e;dsimp only at e;subst e;with_reducible repeat' first|(refine OS.ok ?_;constructor)|refine IM.mk λ_=>?_
   .exact λh=>(by cases h)
   .dsimp only;exact⟨gI (by omega),rfl⟩
 rintro⟨a,b⟩ ⟨e1,e2⟩;dsimp only at e1 e2;subst e1;subst e2;refine bF (λY=>(by dsimp only[au] at Y;omega)) λ_=>?_
 refine ax (P:=λb=>b=ai->VL (w1,w2,U,Z,J,I)/\SV0 (w1,w2,U,Z,J,I)) ?_ λy hy=>ar hy
 refine bZ I.length (λi x=>x.1=(i:Int)/\x.2=(w1,w2,U,Z,J,I)/\Li J.length (I.take i)=af (if i=0 then (0,0) else ((aJ (T:=x_) I ((i-1:Nat):Int)).1,(aJ (T:=x_) I ((i-1:Nat):Int)).2.1+1))/\(¬i=0->(0:Int)<=(aJ (T:=x_) I ((i-1:Nat):Int)).2.1/\(i:Int)>(aJ (T:=x_) I ((i-1:Nat):Int)).2.1)) ?_ ?_ ⟨rfl,rfl,rfl,λh=>(h rfl).elim⟩
 .rintro i ⟨a,b⟩ hi ⟨e1,e2,e3,hpb⟩;dsimp only at e1 e2;subst e1;subst e2;have hw:¬(i:Int)=0->bc .i64 ((i:Int)-1)=((i-1:Nat):Int):=λh=>by rw[hX (by omega) (by omega)];omega
  have hnx:=Ij (T:=J.length) hi;rw[e3] at hnx;clear e3;refine bF (λY=>?_) λY=>(by dsimp only[au] at Y;omega)
  refine aX (λx=>x=(w1,w2,U,Z,J,I)/\Li J.length (I.take (i+1))=af (((aJ (T:=x_) I (i:Int)).1,(aJ (T:=x_) I (i:Int)).2.1+1))/\(0:Int)<=(aJ (T:=x_) I (i:Int)).2.1/\((i+1:Nat):Int)>(aJ (T:=x_) I (i:Int)).2.1) ?_ ?_
  .refine b8 (aR ?_);rw[hnx];generalize hz:aJ (T:=x_) I (i:Int)=z;obtain⟨(z1:Int),(z2:Int),(z3:Int)⟩:=z;dsimp only;refine aX (λx=>x.2=((w1,w2,U,Z,J,I),z1,z2,z3)/\(x.1=aj->0<=z1/\z1<J.length)) ?_ ?_
   .refine bF (λ_=>ar ⟨rfl,λh=>(by cases h)⟩) λg=>ar ⟨rfl,λh=>⟨g,?_⟩⟩
    rw[kf] at h;exact h
   rintro⟨c,y⟩ ⟨e,hzr⟩;dsimp only at e hzr;subst e;refine aP (λ_=>ar λh=>(by cases h)) λhzb=>?_
   obtain⟨z0,zT⟩:=hzr hzb;refine aX (λx=>x.2=((w1,w2,U,Z,J,I),z1,z2,z3)/\(x.1=ai->i=0\/¬(aJ (T:=x_) I ((i-1:Nat):Int)).1=z1)/\(x.1=aj->¬(i:Int)=0/\(aJ (T:=x_) I ((i-1:Nat):Int)).1=z1)) ?_ ?_
   .refine aK (λh=>ar ⟨rfl,λ_=>.inl (by have h:((i:Nat):Int)=0:=h;omega),λh=>(by cases h)⟩) λh=>?_
    rw[hw h];refine b8 (aR (ar ⟨rfl,λh2=>.inr (by simpa using h2),λh2=>⟨h,by simpa using h2⟩⟩))
   rintro⟨c,y⟩ ⟨e,hc1,hc⟩;dsimp only at e hc1 hc;subst e;refine aP (λhct=>?_) λhcf=>?_
   .refine aX (λx=>x.2=(w1,w2,U,Z,J,I)/\(x.1=aj->z2=0/\(¬i=0->((aJ (T:=x_) I ((i-1:Nat):Int)).1:Int)<z1))) ?_ ?_
    .refine ca (λ_=>ar ⟨rfl,λh=>(by cases h)⟩) λhz2=>?_
     refine bF (λh=>?_) λM=>ar ⟨rfl,λ_=>⟨hz2,λh=>by have M:((i:Nat):Int)<=0:=M;omega⟩⟩
     have h:(0:Int)<((i:Nat):Int):=h;rw[hw (by omega)];refine b8 (aR (ar ⟨rfl,λh2=>⟨hz2,λh3=>?_⟩⟩));rw[gk] at h2;have h4:=(hc1 hct).resolve_left h3;have h2:(aJ (T:=x_) I ((i-1:Nat):Int)).1<=z1:=h2;exact Int.lt_iff_le_and_ne.2 ⟨h2,h4⟩
    rintro⟨c,y⟩ ⟨e,hy⟩;dsimp only at e hy;subst e;refine aP (λ_=>ar λh=>(by cases h)) λh=>ar ⟨rfl,?_⟩
    obtain⟨q1,q2⟩:=hy h;have q1:z2=0:=q1;subst q1;refine ⟨?_,eT 0,by show _>(0:Int);omega⟩;unfold TE;by_cases M:i=0
    .subst M;rw[aF rfl];dsimp only;by_cases hz1:z1=0
     .subst hz1;rfl
     .rw[ay (λh=>hz1 h.1),aF ⟨by omega,zT,rfl⟩];rfl
    .have:=q2 M;rw[ay M];dsimp only;rw[ay (λh=>by omega),aF ⟨this,zT,rfl⟩];rfl
   .obtain⟨M,hpr⟩:=hc hcf;rw[hw M];refine b8 (aR ?_);refine ca (λ_=>ar λh=>(by cases h)) λh=>ar ⟨rfl,?_⟩
    obtain⟨b0,b1⟩:=hpb (by omega);have h:z2=bc .i64 ((aJ (T:=x_) I ((i-1:Nat):Int)).2.1+1):=h;rw[hX (by omega) (by omega)] at h;refine ⟨?_,by omega,by omega⟩;rw[ay (by omega)];unfold TE;dsimp only;rw[aF ⟨hpr.symm,h⟩,hpr,h]
  .rintro x ⟨rfl,hx,hx2⟩;refine ar ?_;dsimp only;refine ⟨gI (by omega),rfl,?_,λ_=>hx2⟩;rw[ay (by omega)];exact hx
 .rintro⟨a,b⟩ ⟨e1,e2,e3,_⟩;dsimp only at e1 e2;subst e1;subst e2;refine bF (λY=>(by dsimp only[au] at Y;omega)) λ_=>?_
  rw[cP] at e3;exact ar λ_=>⟨hv,by unfold SV0;dsimp only;rw[e3];simp⟩
def tB (e:ET):Bool:=decide (e.2.1=3)||decide (e.2.1=23)
def fl (l:List ET) (t:Int):List Bool:=(l.filter λe=>decide (e.1=t)).map tB
def K6 (l:List ET) (t y:Int):Prop:=0<=y/\(fl l t).getD y.toNat aj=ai
theorem uB (l m:List ET) (t:Int):fl (l++m) t=fl l t++fl m t:=by unfold fl;rw[xZ,cC]
theorem zw {e:ET} {t:Int} (h:e.1=t):fl [e] t=[tB e]:=by unfold fl;simp[h]
theorem wO {e:ET} {t:Int} (h:¬e.1=t):fl [e] t=[]:=by unfold fl;simp[h]
theorem K6.app {l:List ET} {t y:Int} (h:K6 l t y) (m:List ET):K6 (l++m) t y:=by
 obtain⟨h0,h1⟩:=h;refine ⟨h0,?_⟩;rw[uB];rw[aA] at h1 ⊢;rcases b9 y.toNat (fl l t).length with g|g
 .rw[bO g];exact h1
 .rw[bS g] at h1;cases h1
theorem K6.lt {l:List ET} {t y:Int} (h:K6 l t y):y<(fl l t).length:=by
 obtain⟨h0,h1⟩:=h;rcases b9 y.toNat (fl l t).length with g|g
 .omega
 .rw[aA,bS g] at h1;cases h1
theorem K6.last {l:List ET} {e:ET} {y:Int} (h:tB e=ai) (I:y=(fl l e.1).length):K6 (l++[e]) e.1 y:=by
 subst I;refine ⟨by omega,?_⟩;rw[uB,zw rfl,aA,b_ (by simp),h];simp
theorem Xg (l:List ET) (t:Int):(fl l t).length<=l.length:=by unfold fl;rw[bR];exact Bz ..
structure SCx (w:WT) (l:List ET) (sy:SY) (ce fu:List Int) (e:ET):Prop where
 en:EN w sy e.1 e.2.1 e.2.2.1
 rd:Wd w sy e.1 e.2.1 e.2.2.1
 s1:e.2.1=1\/e.2.1=2->e.2.2.2.2.1= -1
 s2:¬(e.2.1=1\/e.2.1=2)->0<=e.2.2.2.2.1/\e.2.2.2.2.1<w.2.2.2.2.2.length/\(aJ (T:=x_) w.2.2.2.2.2 e.2.2.2.2.1).1=e.1
 de:0<e.2.2.2.2.2.1.length->e.2.1=5\/(e.2.1=3\/e.2.1=4)/\¬(aJ (T:=P1) w.1 e.2.2.1).2.2.1=0
 fr:0<e.2.2.2.2.2.2.length->e.2.1=4\/e.2.1=22
 nd:AN (fl l e.1).length e.2.2.2.2.2.1
 nf:AN (fl l e.1).length e.2.2.2.2.2.2
 rd1:∀ y∈e.2.2.2.2.2.1,K6 l e.1 y
 rd2:∀ y∈e.2.2.2.2.2.2,K6 l e.1 y
 va:VA w sy ce fu e.1 e.2.1 e.2.2.1 e.2.2.2.1
def XU:Nat->List (Int×Int×Bool)
 |0=>[]
 |n+1=>(1,0,aj)::aG n (0,0,aj)
def PN (w:WT):SY:=(aG w.2.1.length (-1,[]),-1,aG w.2.2.2.1.length aj,XU w.2.2.2.2.1.length)
def ce0 (w:WT):List Int:=w.1.map λc=>c.2.2.2.2
def fu0 (w:WT):List Int:=aG w.2.2.2.1.length 0
inductive Acw (w:WT):List ET->SY->List Int->List Int->Prop
 |nil:Acw w [] (PN w) (ce0 w) (fu0 w)
 |snoc {l:List ET} {sy:SY} {ce fu:List Int} {e:ET} (h:Acw w l sy ce fu) (hs:SCx w l sy ce fu e):Acw w (l++[e]) (re w sy e.1 e.2.1 e.2.2.1 e.2.2.2.1).1 (Y6 ce e) (ZW fu e)
theorem Z9 (i:Nat):XU (i+2)=XU (i+1)++[(0,0,aj)]:=by
 show (1,0,aj)::aG (i+1) (0,0,aj)=(1,0,aj)::aG i (0,0,aj)++[(0,0,aj)]
 rw[uK,gu]
theorem HG:∀ n,(XU n).length=n
 |0=>rfl
 |n+1=>by simp[XU]
theorem KV (w:WT) (h:VL w):rx w=af (PN w):=by
 obtain⟨w1,w2,Y,I,M,U⟩:=w;obtain⟨h1,h2,h3,h4,_,h5,h6⟩:=h;dsimp only at*
 refine cB ?_;unfold rx aZ bk bw cA dA cX fk bf bx bB aY cK aE cE;refine bZ w2.length (λi x=>x.1=(i:Int)/\x.2.1=(w1,w2,Y,I,M,U)/\x.2.2.2=(-1,aG i (-1,[]))) ?_ ?_ ⟨rfl,rfl,rfl⟩
 .rintro i ⟨a,b,c,d,e⟩ hi ⟨e1,e2,e3⟩;simp only[aD] at e1 e2 e3;obtain⟨rfl,rfl⟩:=e3;subst e1;subst e2;with_reducible repeat' first|(refine OS.ok ?_;constructor)|refine IM.mk λ_=>?_
  all_goals try simp only[au,qZ] at*
  all_goals first|omega|(simp;omega)|skip
  exact⟨gI (by omega),by rw[uK]⟩
 rintro⟨a,b,c,d,e⟩ ⟨e1,e2,e3⟩;simp only[aD] at e1 e2 e3;obtain⟨rfl,rfl⟩:=e3;subst e1;subst e2;refine bF (λJ=>(by dsimp only[au] at J;omega)) λ_=>?_
 refine ax (P:=λs=>s=PN (w1,w2,Y,I,M,U)) ?_ λy Z=>ar Z
 refine bZ I.length (λi x=>x.1=(i:Int)/\x.2.1=(w1,w2,Y,I,M,U)/\x.2.2.2=(-1,aG w2.length (-1,[]),aG i aj)) ?_ ?_ ⟨rfl,rfl,rfl⟩
 .rintro i ⟨a,b,c,d,e',f⟩ hi ⟨e1,e2,e3⟩;simp only[aD] at e1 e2 e3;obtain⟨rfl,rfl,rfl⟩:=e3;subst e1;subst e2;with_reducible repeat' first|(refine OS.ok ?_;constructor)|refine IM.mk λ_=>?_
  all_goals try simp only[au,qZ] at*
  all_goals first|omega|(simp;omega)|skip
  exact⟨gI (by omega),by rw[uK]⟩
 rintro⟨a,b,c,d,e',f⟩ ⟨e1,e2,e3⟩;simp only[aD] at e1 e2 e3;obtain⟨rfl,rfl,rfl⟩:=e3;subst e1;subst e2;refine bF (λJ=>(by dsimp only[au] at J;omega)) λ_=>?_
 refine ax (P:=λs=>s=PN (w1,w2,Y,I,M,U)) ?_ λy Z=>ar Z
 refine bZ M.length (λi x=>x.1=(i:Int)/\x.2.1=(w1,w2,Y,I,M,U)/\x.2.2.2=(-1,aG w2.length (-1,[]),aG I.length aj,XU i)) ?_ ?_ ⟨rfl,rfl,rfl⟩
 .rintro i ⟨a,b,c,d,e'',f',g⟩ hi ⟨e1,e2,e3⟩;simp only[aD] at e1 e2 e3;obtain⟨rfl,rfl,rfl,rfl⟩:=e3;subst e1;subst e2;have hl:=HG i;refine bF (λ_=>?_) λJ=>(by dsimp only[au] at J;omega)
  refine gB (aK (λh0=>ar ?_) λh0=>ar ?_)
  .have h0:((i:Nat):Int)=0:=h0;have h0:i=0:=by omega
   subst h0;exact bh (by simp[XU]) (by omega) (ar ⟨rfl,rfl,rfl⟩)
  .have h0:¬((i:Nat):Int)=0:=h0;obtain⟨j,rfl⟩:∃ j,i=j+1:=⟨i-1,by omega⟩
   refine bh (by dsimp only;rw[hl];simp;omega) (by omega) (ar ⟨gI (by omega),rfl,?_⟩);dsimp only;rw[Z9]
 rintro⟨a,b,c,d,e'',f',g⟩ ⟨e1,e2,e3⟩;simp only[aD] at e1 e2 e3;obtain⟨rfl,rfl,rfl,rfl⟩:=e3;subst e1;subst e2;refine bF (λJ=>(by dsimp only[au] at J;omega)) λ_=>ar rfl
theorem T7 {w:WT} (h:VL w):SB 0 (PN w):=by
 obtain⟨h1,h2,U,M,_,J,I⟩:=h;refine ⟨by omega,by simp[PN];omega,λl hl=>?_,by simp[PN];omega,by simp[PN,HG];omega⟩;rw[py hl];simp
theorem KU (w:WT) (h:VL w):mM w=af (PN w,ce0 w,fu0 w,aG w.2.2.2.2.1.length 0):=by
 have hs:=KV w h;have hd:(PN w)=PN w:=rfl;obtain⟨w1,w2,U,J,I,M⟩:=w;obtain⟨h1,h2,h3,h4,_,h5,Z⟩:=h;dsimp only at*
 refine cB ?_;unfold mM aZ bk bw bL cX bx bB bA aY cK aE cE;refine aT hs ?_;with_reducible repeat' first|(refine OS.ok ?_;constructor)|refine IM.mk λ_=>?_
 all_goals try simp only[au,qZ] at*
 all_goals first|omega|skip
 refine bZ w1.length (λi x=>x.1=(i:Int)/\x.2.1=(w1,w2,U,J,I,M)/\x.2.2.2=(PN (w1,w2,U,J,I,M),(w1.take i).map (λc=>c.2.2.2.2),aG J.length 0,aG I.length 0)) ?_ ?_ ⟨rfl,rfl,rfl⟩
 .rintro i ⟨a,b,c,d,e,f,g⟩ hi ⟨e1,e2,e3⟩;simp only[aD] at e1 e2 e3;obtain⟨rfl,rfl,rfl,rfl⟩:=e3;subst e1;subst e2;with_reducible repeat' first|(refine OS.ok ?_;constructor)|refine IM.mk λ_=>?_
  all_goals try simp only[au,qZ] at*
  all_goals first|omega|(simp;omega)|skip
  exact⟨gI (by omega),by rw[mH (T:=P1) hi,cC];rfl⟩
 rintro⟨a,b,c,d,e,f,g⟩ ⟨e1,e2,e3⟩;simp only[aD] at e1 e2 e3;obtain⟨rfl,rfl,rfl,rfl⟩:=e3;subst e1;subst e2;refine bF (λY=>(by dsimp only[au] at Y;omega)) λ_=>ar ?_
 rw[cP];rfl
theorem Wa (w:WT) (h:VL w):Ok (mM w) λs=>NB 0 s/\s.2.1.length=w.1.length/\s.2.2.1.length=w.2.2.2.1.length/\s.2.2.2.length=w.2.2.2.2.1.length:=
 aha (KU w h) ⟨⟨T7 h,by have:=h.c;simp[ce0];omega,by have:=h.f;simp[fu0];omega,by have:=h.t;simp;omega⟩,by simp[ce0],by simp[fu0],by simp⟩
theorem Qm (l:List ET) (i t:Int) (I:List Int) (hl:l.length<=1000000000) (hi:0<=i/\i<=l.length) (hn:I.length<=1000000000):Ok (rq (l,i,t,I)) λb=>b=ai->∀ y∈I,K6 (l.take i.toNat) t y:=by
 unfold rq aZ bL bf bx je bA aY cK aE cE;refine bZ I.length (λk x=>x=(k:Int)/\∀ j:Nat,j<k->K6 (l.take i.toNat) t (aJ (T:=.int .i64) I (j:Int))) ?_ ?_ ⟨rfl,λj hj=>(by omega)⟩
 .rintro k x hk ⟨rfl,Y⟩;refine bF (λM=>?_) λM=>(by dsimp only[au] at M;omega)
  refine qc (λx=>(i-x.2.2).toNat) (λx=>0<=x.2.2/\x.2.2<=i/\x.1=((fl (l.take x.2.2.toNat) t).length:Int)/\(x.2.1=ai->K6 (l.take x.2.2.toNat) t (aJ (T:=.int .i64) I (k:Int)))) ?_ ⟨by simp,hi.1,by simp[fl],λh=>(by cases h)⟩;rintro⟨a,b,(c:Int)⟩ ⟨U,c1,Z,hb⟩;dsimp only at U c1 Z hb;subst Z;obtain⟨c,rfl⟩:∃ n:Nat,c=(n:Int):=⟨c.toNat,by omega⟩
  rw[c6] at hb;dsimp only;rw[c6];have hfl:=Xg (l.take c) t;have htl:=qa c l;refine bF (λJ=>?_) λJ=>?_
  .have J:(c:Int)<i:=J;have htk:l.take (c+1)=l.take c++[aJ (T:=tE) l (c:Int)]:=mH (T:=tE) (by omega);refine aX (λy=>y.1=((fl (l.take (c+1)) t).length:Int)/\(y.2=ai->K6 (l.take (c+1)) t (aJ (T:=.int .i64) I (k:Int)))) ?_ ?_
   .rw[htk,uB];refine aS U (by first|omega|(dsimp only;omega)) (aR ?_);refine ca (λhne=>ar ⟨by rw[wO hne];simp,λh=>(hb h).app _⟩) λhe=>?_
    have he:(aJ (T:=tE) l (c:Int)).1=t:=he;refine aX (λy=>y=ai->K6 (l.take c++[aJ (T:=tE) l (c:Int)]) t (aJ (T:=.int .i64) I (k:Int))) ?_ λy hy=>ar ⟨?_,hy⟩
    .refine aP (λh=>ar λ_=>(hb h).app _) λ_=>?_
     refine aS (by omega) (by first|omega|(dsimp only;omega)) (aR ?_);refine aK (λhn=>?_) λ_=>ar λh=>(by cases h)
     have hq:tB (aJ (T:=tE) l (c:Int))=ai->K6 (l.take c++[aJ (T:=tE) l (c:Int)]) t (aJ (T:=.int .i64) I (k:Int)):=λh=>by
      rw[<- he] at hn ⊢;exact K6.last h hn.symm
     refine aS U (by first|omega|(dsimp only;omega)) (aR ?_);refine aK (λh=>ar λ_=>hq (by unfold tB;rw[aQ h];rfl)) λ_=>?_
     exact aS U (by first|omega|(dsimp only;omega)) (aR (ar λh=>hq (by unfold tB;rw[h];simp)))
    .dsimp only;rw[zw he,gI (by omega)];simp
   .rintro⟨p,q⟩ ⟨hp,hq⟩;refine ar ?_;dsimp only at hp hq ⊢;rw[gI (by omega),c6];exact⟨⟨by omega,by omega,hp,hq⟩,by omega⟩
  .refine ax (P:=λr=>match r with|.inl y=>y=((k+1:Nat):Int)/\∀ j:Nat,j<k+1->K6 (l.take i.toNat) t (aJ (T:=.int .i64) I (j:Int))|.inr r=>r=ai->∀ y∈I,K6 (l.take i.toNat) t y) ?_ λr hr=>ar ?_
   .refine em (λ_=>ar λh=>(by cases h)) λh=>ar ⟨gI (by omega),λj hj=>?_⟩
    rcases b9 j k with h1|h1
    .exact Y j h1
    .have:=hb h;have hci:c=i.toNat:=by have J:i<=(c:Int):=J;omega
     rw[show j=k by omega,<-hci];exact this
   .cases r with
    |inl y=>exact hr
    |inr r=>exact hr
 .rintro x ⟨rfl,Y⟩;refine bF (λM=>(by dsimp only[au] at M;omega)) λ_=>ar λ_=>ir (T:=.int .i64) Y
def CN (l:List ET) (c:List Int):Prop:=∀ t:Int,0<=t->t<c.length->aJ (T:=.int .i64) c t=((fl l t).length:Int)
theorem rL {T:Ty} (xs:List T.den) (j k:Int) (x:T.den) (hj:0<=j) (I:j<xs.length) (hk:0<=k):aJ (cQ xs j x) k=if k=j then x else aJ xs k:=by
 unfold aJ cQ;rw[aA,aA,oU];by_cases h:k=j
 .subst h;rw[aF rfl,aF rfl,aF (by omega)];rfl
 .rw[ay (by omega),ay h]
theorem CN.next {l:List ET} {c:List Int} (h:CN l c) (e:ET) (h0:0<=e.1) (h1:e.1<c.length) (hl:l.length<1000000):CN (l++[e]) (cQ c e.1 (bc .i64 (aJ (T:=.int .i64) c e.1+1))):=λt t0 t1=>by
 rw[bV] at t1;have:=Xg l e.1;rw[rL (T:=.int .i64) _ _ _ _ h0 h1 t0,uB];split
 .rename_i h2;subst h2;rw[zw rfl,h _ h0 h1,gI (by omega)];simp
 .rename_i h2;rw[wO λI=>h2 I.symm,h _ t0 t1];simp
structure EvF (w:WT) (e:ET):Prop where
 nm:NM w e.2.1 e.2.2.1
 t0:0<=e.1
 t1:e.1<w.2.2.2.2.1.length
 cd:∀ c∈w.2.2.1,0<=c.2/\c.2<w.2.1.length
theorem adg (w:WT) (l:List ET) (hd:∀ e∈l,e.2.2.2.2.2.1.length<=1000000000/\e.2.2.2.2.2.2.length<=1000000000):Ok (ug (w,l)) λy=>y.2=0->(VL w/\SV0 w)/\(∀ e∈l,EvF w e)/\∃ sy ce fu,Acw w l sy ce fu:=by
 unfold ug cA bL fk bx bA aY cK aE cE;refine bF (λ_=>ar λh=>(by cases h)) λhl=>?_
 dsimp only[au] at hl;refine ax (Bt w) λb hb=>?_
 refine em (λ_=>ar λh=>(by cases h)) λh=>?_
 obtain⟨hv,hsv⟩:=hb h;refine aT (KU w hv) ?_;have hs:NB 0 (PN w,ce0 w,fu0 w,aG w.2.2.2.2.1.length 0):=⟨T7 hv,by have:=hv.c;simp[ce0];omega,by have:=hv.f;simp[fu0];omega,by have:=hv.t;simp;omega⟩
 have hw:w.2.2.1.length<=1000:=by have:=hv.d;omega
 refine bZ l.length (λi x=>x.1=(i:Int)/\x.2.1=(w,l)/\NB i x.2.2/\(∀ k:Nat,k<i->EvF w (aJ (T:=tE) l (k:Int)))/\Acw w (l.take i) x.2.2.1 x.2.2.2.1 x.2.2.2.2.1/\CN (l.take i) x.2.2.2.2.2/\x.2.2.2.2.2.length=w.2.2.2.2.1.length) ?_ ?_ ⟨rfl,rfl,hs,λk hk=>(by omega),.nil,λt t0 t1=>?_,by simp⟩
 .rintro i ⟨a,b,s⟩ hi ⟨e1,e2,e3,Y,U,e6,Z⟩;dsimp only at e1 e2 e3 Y U e6 Z;subst e1;subst e2;refine bF (λI=>?_) λI=>(by dsimp only[au] at I;omega)
  refine b8 (aR ?_);have hmem:=bJ (T:=tE) (xs:=l) (j:=(i:Int)) (by omega) (by omega);obtain⟨d1,d2⟩:=hd _ hmem;refine ax (Fu w s e3 hw _ d1 d2) λy hy=>?_
  refine aX (λx=>x.2.1=(w,l)/\x.2.2.2=y.1/\(x.1=aj->y.2=ai/\(∀ z∈(aJ (T:=tE) l (i:Int)).2.2.2.2.2.1,K6 (l.take i) (aJ (T:=tE) l (i:Int)).1 z)/\∀ z∈(aJ (T:=tE) l (i:Int)).2.2.2.2.2.2,K6 (l.take i) (aJ (T:=tE) l (i:Int)).1 z)) ?_ ?_
  .refine em (λ_=>ar ⟨rfl,rfl,λh=>(by cases h)⟩) λh=>?_
   refine ax (Qm l _ _ _ (by omega) ⟨by dsimp only;omega,by dsimp only;omega⟩ d1) λb1 hr1=>?_
   refine em (λ_=>ar ⟨rfl,rfl,λh=>(by cases h)⟩) λhb1=>?_
   refine ax (Qm l _ _ _ (by omega) ⟨by dsimp only;omega,by dsimp only;omega⟩ d2) λb2 hr2=>ar ⟨rfl,rfl,λhb2=>⟨h,hr1 hb1,hr2 (by simpa using hb2)⟩⟩
  .rintro⟨c,p,q,r⟩ ⟨f1,f2,f3⟩;dsimp only at f1 f2 f3;subst f1;subst f2;refine aP (λ_=>ar λh=>(by cases h)) λh=>?_
   obtain⟨f4,r1,r2⟩:=f3 h;obtain⟨J,g2,M,I⟩:=hy.1 f4;refine ar ?_;dsimp only;have htk:l.take (i+1)=l.take i++[aJ (T:=tE) l (i:Int)]:=mH (T:=tE) hi;have hc:=e6 _ J.t0 (by rw[Z];exact J.t1);have hnx:=gO Prod.fst I;have hac:=U.snoc (e:=aJ (T:=tE) l (i:Int)) ⟨J,M.rd,M.s1,M.s2,M.de,M.fr,by rw[<- hc];exact M.nd,by rw[<- hc];exact M.nf,r1,r2,M.va⟩;refine ⟨gI (by omega),rfl,g2.NB e3 (by omega),λk hk=>?_,by rw[htk,I];exact hac,by rw[htk,I];exact e6.next _ J.t0 (by rw[Z];exact J.t1) (by rw[bI];omega),by rw[I];unfold nxP;rw[bV];exact Z⟩;rcases b9 k i with h1|h1
   .exact Y k h1
   .rw[show k=i by omega];exact⟨J.nm,J.t0,J.t1,J.cd⟩
 .rintro⟨a,b,s⟩ ⟨e1,e2,e3,Y,U,_⟩;dsimp only at e1 e2 e3 Y U;subst e1;subst e2;rw[cP] at U;refine bF (λI=>(by dsimp only[au] at I;omega)) λ_=>ar λ_=>⟨⟨hv,hsv⟩,ir (T:=tE) Y,_,_,_,U⟩
 .rw[eO] at t1;obtain⟨t,rfl⟩:∃ n:Nat,t=(n:Int):=⟨t.toNat,by omega⟩
  rw[OJ,aA,lz];split<;>simp[fl]
structure TP (t:List Int×Int):Prop where
 l0:t.1.length<=9223372036854775807
 by_:∀ x∈t.1,0<=x/\x<=255
 a0:0<=t.2
 a1:t.2<=t.1.length
structure uT (t t':List Int×Int):Prop where
 e:t'.1=t.1
 m:t.2<=t'.2
 p:TP t'
theorem uT.refl {t:List Int×Int} (h:TP t):uT t t:=⟨rfl,eT _,h⟩
theorem uT.trans {a b c:List Int×Int} (h:uT a b) (g:uT b c):uT a c:=⟨g.e.trans h.e,Int.le_trans h.m g.m,g.p⟩
theorem gq (n:Int) (t:List Int×Int) (h:TP t):Ok (bz (n,t)) λy=>uT t y.2/\0<=y.1/\(1<=n->y.1<n)/\(t.2<t.1.length->1<=n->t.2<y.2.2):=by
 obtain⟨L,a⟩:=t;have M:=h;obtain⟨l0,hb,a0,a1⟩:=h;dsimp only at l0 hb a0 a1;unfold bz iH bB bA aY aE cE;refine aX (λx=>x.2=(L,a)/\(x.1=ai->a=L.length\/n<1)/\(x.1=aj->a<L.length/\1<=n)) ?_ ?_
 .refine eE (λh=>ar ⟨rfl,λ_=>?_,λh=>(by cases h)⟩) λh=>ar ⟨rfl,λh2=>?_,λh2=>?_⟩
  .dsimp only[au] at h;omega
  .rw[tI] at h2;exact .inr h2
  .rw[gk] at h2;dsimp only[au] at h h2;omega
 rintro⟨b,x⟩ ⟨e,h1,h2⟩;dsimp only at e h1 h2;subst e;refine aP (λh=>ar ⟨uT.refl M,eT _,λJ=>(by dsimp only;omega),λJ U=>?_⟩) λh=>?_
 .have:=h1 h;dsimp only at J;omega
 obtain⟨q1,q2⟩:=h2 h;refine aR ?_;have e1:bc .i64 (a+1)=a+1:=hX (by omega) (by omega);dsimp only;rw[e1,hX (n:=a+1-1) (by omega) (by omega),show a+1-1=a by omega];have I:=hb _ (bJ (T:=.int .u8) (xs:=L) (j:=a) a0 q1);refine aS a0 q1 (aR ?_);generalize (aJ _ a)=z at I;have I:0<=z/\z<=255:=I;rw[hX (n:=z) (by omega) (by omega)];refine wj (by omega) (ar ?_);dsimp only;refine ⟨⟨rfl,by dsimp only;omega,⟨l0,hb,by dsimp only;omega,by dsimp only;omega⟩⟩,Int.tmod_nonneg _ I.1,λ_=>?_,λ_ _=>by omega⟩;exact Int.tmod_lt_of_pos _ (by omega)
theorem TU (s:SY) (hs:s.2.2.2.length<=1000) (y:List Int×List Int×List Int):Ok (kW (s,y)) λl=>l.length<=s.2.2.2.length:=by
 unfold kW bL bf bx bB bA aY cK aE cE;refine bZ s.2.2.2.length (λi x=>x.1=(i:Int)/\x.2.length<=i) ?_ ?_ ⟨rfl,by simp⟩
 .rintro i ⟨a,b⟩ hi ⟨e1,e2⟩;dsimp only at e1 e2;subst e1;with_reducible repeat' first|(refine OS.ok ?_;constructor)|refine IM.mk λ_=>?_
  all_goals try simp only[au,qZ] at*
  all_goals first|omega|(simp;omega)|skip
  .exact⟨gI (by omega),by simp;omega⟩
  .exact⟨gI (by omega),by omega⟩
 .rintro⟨a,b⟩ ⟨e1,e2⟩;dsimp only at e1 e2;subst e1;refine bF (λI=>(by dsimp only[au] at I;omega)) λ_=>ar e2
theorem X8 (k u:Int) (t:List Int×Int) (h:TP t):Ok (oF ((k,u),t)) λy=>uT t y.2/\(k=3\/k=4->0<=y.1/\y.1<5):=by
 unfold oF bf kB aE cE;rcases @IQ k with rfl|rfl|rfl|rfl|rfl|rfl|rfl|rfl|rfl|rfl|rfl|rfl|rfl|rfl|rfl|rfl|rfl|rfl|rfl|rfl|rfl|rfl|rfl|⟨hk,J⟩
 case inr.inr.inr.inr.inr.inr.inr.inr.inr.inr.inr.inr.inr.inr.inr.inr.inr.inr.inr.inr.inr.inr.inr=>
  simp only[hk 1 (by decide) (by decide),hk 2 (by decide) (by decide),hk 3 (by decide) (by decide),hk 4 (by decide) (by decide),hk 5 (by decide) (by decide),hk 6 (by decide) (by decide),hk 7 (by decide) (by decide),hk 8 (by decide) (by decide),hk 9 (by decide) (by decide),hk 10 (by decide) (by decide),hk 11 (by decide) (by decide),hk 12 (by decide) (by decide),hk 13 (by decide) (by decide),hk 14 (by decide) (by decide),hk 15 (by decide) (by decide),hk 16 (by decide) (by decide),hk 17 (by decide) (by decide),hk 18 (by decide) (by decide),hk 19 (by decide) (by decide),hk 20 (by decide) (by decide),hk 21 (by decide) (by decide),hk 22 (by decide) (by decide),hk 23 (by decide) (by decide),aV,bp,s7];exact ar ⟨uT.refl h,λh=>(by first|omega|(simp at h;done)|(rcases h with h|h<;>cases h;done))⟩
 all_goals simp only[aV,bp,s7]
 all_goals first
  |exact ar ⟨uT.refl h,λh=>(by first|omega|(simp at h;done)|(rcases h with h|h<;>cases h;done))⟩
  |exact ax (gq 2 t h) λy I=>ar ⟨I.1,λh=>(by first|omega|(simp at h;done)|(rcases h with h|h<;>cases h;done))⟩
  |exact ax (gq 3 t h) λy I=>ar ⟨I.1,λh=>(by first|omega|(simp at h;done)|(rcases h with h|h<;>cases h;done))⟩
  |skip
 all_goals
  refine ax (gq 8 t h) λy I=>?_
  have h1:=I.2.1;have h2:=I.2.2.1 (by omega);refine aS h1 (by simp;omega) (aS h1 (by simp;omega) (aR (ar ⟨I.1,λ_=>?_⟩)));have:∀ z:Int,z∈([0,0,0,1,1,2,3,4]:List Int)->0<=z/\z<5:=by decide
  exact this _ (bJ (T:=.int .i64) h1 (by simp;omega))
structure SZ (n:Nat) (s:SN):Prop where
 nb:NB n s
 c:s.2.1.length=5
 f:s.2.2.1.length=1
 k:s.2.2.2.length=4
theorem SZ.step {n:Nat} {s y:SN} (h:SZ n s) (hp:SP n s y) (hn:n+1<=100000):SZ (n+1) y:=
 ⟨hp.NB h.nb hn,by rw[hp.c];exact h.c,by rw[hp.f];exact h.f,by rw[hp.k];exact h.k⟩
theorem XV {n:Nat} (s:SN) (hs:SZ n s) (k o:Int) (M:k=3->0<=o/\o<5) (t:List Int×Int) (h:TP t):Ok (qh ((s,k,o),t)) λy=>uT t y.2:=by
 obtain⟨s1,s2,Y,U⟩:=s;have hc:=hs.c;have hf:=hs.f;have hth:=hs.nb.sb.th;dsimp only at hc hf hth;have J:=TU s1 hth (s2,Y,U);unfold qh aZ bf bx bA aY aE;rcases @IQ k with rfl|rfl|rfl|rfl|rfl|rfl|rfl|rfl|rfl|rfl|rfl|rfl|rfl|rfl|rfl|rfl|rfl|rfl|rfl|rfl|rfl|rfl|rfl|⟨hk,Z⟩
 case inr.inr.inr.inr.inr.inr.inr.inr.inr.inr.inr.inr.inr.inr.inr.inr.inr.inr.inr.inr.inr.inr.inr=>
  simp only[hk 1 (by decide) (by decide),hk 2 (by decide) (by decide),hk 3 (by decide) (by decide),hk 4 (by decide) (by decide),hk 5 (by decide) (by decide),hk 6 (by decide) (by decide),hk 7 (by decide) (by decide),hk 8 (by decide) (by decide),hk 9 (by decide) (by decide),hk 10 (by decide) (by decide),hk 11 (by decide) (by decide),hk 12 (by decide) (by decide),hk 13 (by decide) (by decide),hk 14 (by decide) (by decide),hk 15 (by decide) (by decide),hk 16 (by decide) (by decide),hk 17 (by decide) (by decide),hk 18 (by decide) (by decide),hk 19 (by decide) (by decide),hk 20 (by decide) (by decide),hk 21 (by decide) (by decide),hk 22 (by decide) (by decide),hk 23 (by decide) (by decide),aV,bp,s7];exact ar (uT.refl h)
 all_goals simp only[aV,bp,s7]
 all_goals first
  |exact ar (uT.refl h)
  |exact ax (gq 2 t h) λy I=>ar I.1
  |exact ax (gq 3 t h) λy I=>ar I.1
  |exact ax J λy I=>ar (uT.refl h)
  |exact aS (by decide) (by omega) (aR (ar (uT.refl h)))
  |exact aS (M rfl).1 (by have:=(M rfl).2;omega) (aR (ar (uT.refl h)))
  |skip
 refine ax J λl hl=>?_
 refine bF (λh1=>?_) λ_=>ar (uT.refl h)
 refine ax (gq _ t h) λy I=>?_
 dsimp only[au] at h1;have h2:=I.2.2.1 (by dsimp only[au];omega);exact aS I.2.1 h2 (aR (ar I.1))
theorem ae3 (t:List Int×Int) (h:TP t) (r:List Int) (hr:r.length<=1000000):Ok (gC (t,r)) λy=>y.1.length<=r.length/\uT t y.2.1/\y.2.2=r:=by
 unfold gC aZ bL bx iH bB kB aY cK aE cE;refine bZ r.length (λi x=>x.1=(i:Int)/\uT t x.2.1/\x.2.2.1=r/\x.2.2.2.length<=i) ?_ ?_ ⟨rfl,uT.refl h,rfl,by simp⟩
 .rintro i ⟨a,b,c,d⟩ hi ⟨e1,e2,e3,U⟩;dsimp only at e1 e2 e3 U;subst e1;subst e3;refine bF (λM=>?_) λM=>(by dsimp only[au] at M;omega)
  refine aX (λx=>uT t x.1/\x.2.1=c/\x.2.2.length<=i+1) ?_ ?_
  .refine b8 (b8 (aR ?_));refine aX (λx=>uT t x.2.1/\x.2.2=(c,d)) ?_ ?_
   .refine aP (λ_=>?_) λ_=>ar ⟨e2,rfl⟩
    exact ax (gq 2 b e2.p) λy Z=>ar ⟨e2.trans Z.1,rfl⟩
   .rintro⟨p,q,u⟩ ⟨I,J⟩;dsimp only at I J;subst J;refine aP (λ_=>?_) λ_=>ar ⟨I,rfl,by dsimp only;omega⟩
    exact bh (by simp;omega) (by omega) (ar ⟨I,rfl,by simp;omega⟩)
  .rintro⟨p,q,u⟩ ⟨I,J,Y⟩;dsimp only at I J Y;subst J;refine ar ?_;dsimp only;exact⟨gI (by omega),I,rfl,Y⟩
 .rintro⟨a,b,c,d⟩ ⟨e1,e2,e3,U⟩;dsimp only at e1 e2 e3 U;subst e1;subst e3;refine bF (λM=>(by dsimp only[au] at M;omega)) λ_=>ar ⟨U,e2,rfl⟩
theorem aay:tD ()=af [3,3,3,3,3,4,4,4,4,4,5,5,5,6,6,6,7,7,7,8,9,10,11,12,13,14,14,15,16,16,17,17,18,18,19,20,1,1,2,21,22,23,23]:=rfl
abbrev RR:Type:=List Int×List Int×List Int×List Int
structure RB4 (m:Nat) (r:RR):Prop where
 r0:r.1.length<=m
 r1:r.2.1.length<=m
 r2:r.2.2.1.length<=m
 r3:r.2.2.2.length<=m
theorem abp {n:Nat} (s:SN) (hs:SZ n s) (w:WT) (hw:w.1.length=5) (t:List Int×Int) (h:TP t) (r:RR) (hr:RB4 1000000 r):Ok (qi ((s,w),t,r)) λy=>uT t y.2.1/\y.2.2=r/\(t.2<t.1.length->t.2<y.2.1.2)/\y.1.2.2.2.2.2.1.length<=1000000/\y.1.2.2.2.2.2.2.length<=1000000:=by
 obtain⟨r0,r1,r2,r3⟩:=r;obtain⟨h0,h1,h2,h3⟩:=hr;dsimp only at h0 h1 h2 h3;unfold qi D' Prod.p11 Prod.p12 aZ bk bw cA dV kE Aa Cn Prod.q11 Prod.q12 cX fk bf bB bA aY aE;refine ax (gq 4 t h) λy hy=>?_
 refine aT aay ?_;refine ax (gq _ y.2 hy.1.p) λz hz=>?_
 obtain⟨y1,yt⟩:=y;obtain⟨z1,zt⟩:=z;obtain⟨ty,yy0,yy1,yy2⟩:=hy;obtain⟨tz,zz0,zz1,_⟩:=hz;dsimp only at ty yy0 yy1 yy2 tz zz0 zz1;have yy1:=yy1 (by decide);have hzl:=zz1 (by decide);refine aS zz0 hzl (aR ?_);generalize (aJ _ z1)=k;refine ax (gq 6 zt tz.p) λv hv=>?_
 obtain⟨v1,vt⟩:=v;have tv:=hv.1;dsimp only at tv;have tt:=(ty.trans tz).trans tv;have hadv:t.2<t.1.length->t.2<vt.2:=λh=>by
  have:=yy2 h (by decide);have:=tz.m;have:=tv.m;omega
 refine aX (λx=>x.1=vt/\x.2.1=r0/\x.2.2.1=r1/\x.2.2.2.1=r2/\x.2.2.2.2.1=r3/\x.2.2.2.2.2.1=s/\x.2.2.2.2.2.2.1=w) ?_ ?_
 .refine aX (λx=>x.2.1=vt/\x.2.2.1=r0/\x.2.2.2.1=r1/\x.2.2.2.2.1=r2/\x.2.2.2.2.2.1=r3/\x.2.2.2.2.2.2.1=s/\x.2.2.2.2.2.2.2.1=w) ?_ ?_
  .with_reducible repeat' first|(refine OS.ok ?_;constructor)|refine IM.mk λ_=>?_
   all_goals exact⟨rfl,rfl,rfl,rfl,rfl,rfl,rfl⟩
  .rintro⟨p,q⟩ hq;dsimp only at hq;with_reducible repeat' first|(refine OS.ok ?_;constructor)|refine IM.mk λ_=>?_
   all_goals exact hq
 rintro⟨x1,x2,x3,x4,x5,x6,x7,x8,x9,x10⟩ ⟨J,Y,f3,f4,f5,f6,U⟩;dsimp only at J Y f3 f4 f5 f6 U;subst J;subst Y;subst f3;subst f4;subst f5;subst f6;subst U;refine ax (X8 _ _ _ tv.p) λo Z=>?_
 obtain⟨o1,ot⟩:=o;obtain⟨to,Z⟩:=Z;dsimp only at to Z;refine ax (XV _ hs _ _ (λhk=>Z (.inl hk)) _ to.p) λq hq=>?_
 obtain⟨q1,qt⟩:=q;dsimp only at hq;have M:=(tt.trans to).trans hq;have hadv2:t.2<t.1.length->t.2<qt.2:=λh=>by have:=hadv h;have:=to.m;have:=hq.m;omega
 have row:∀ (T:List Int×Int) (c:List Int) {R:Type} (k:List Int×((List Int×Int)×List Int)->Option R) (Q:R->Prop),uT t T->c.length<=1000000->(∀ v T',uT T T'->v.length<=1000000->Ok (k (v,T',c)) Q)->Ok (obind (gC (T,c)) k) Q:=λT c R k Q I hc hk=>by
  refine ax (ae3 T I.p c hc) λy hy=>?_
  obtain⟨a,b,d⟩:=y;obtain⟨g1,g2,g3⟩:=hy;dsimp only at g1 g2 g3;subst g3;exact hk a b g2 (by omega)
 refine aX (λx=>uT t x.1/\(t.2<t.1.length->t.2<x.1.2)/\x.2.1=x2/\x.2.2.1=x3/\x.2.2.2.1=x4/\x.2.2.2.2.1=x5/\x.2.2.2.2.2.2.2.2.2.2.2.length<=1000000) ?_ ?_
 .refine aX (λx=>x.2.1=qt/\x.2.2.1=x2/\x.2.2.2.1=x3/\x.2.2.2.2.1=x4/\x.2.2.2.2.2.1=x5) ?_ ?_
  .refine aK (λ_=>ar ⟨rfl,rfl,rfl,rfl,rfl⟩) λ_=>?_
   refine aK (λhk=>?_) λ_=>aK (λhk=>?_) λ_=>ar ⟨rfl,rfl,rfl,rfl,rfl⟩
   .exact aS (Z (.inl hk)).1 (by dsimp only;rw[hw];exact (Z (.inl hk)).2) (aR (ar ⟨rfl,rfl,rfl,rfl,rfl⟩))
   .exact aS (Z (.inr hk)).1 (by dsimp only;rw[hw];exact (Z (.inr hk)).2) (aR (ar ⟨rfl,rfl,rfl,rfl,rfl⟩))
  .rintro⟨b,p1,p2,p3,p4,p5,p6⟩ ⟨J,Y,f3,f4,f5⟩;dsimp only at J Y f3 f4 f5;subst J;subst Y;subst f3;subst f4;subst f5;refine aP (λ_=>?_) λ_=>ar ⟨M,hadv2,rfl,rfl,rfl,rfl,by simp⟩
   have adv3:∀ T',uT p1 T'->t.2<t.1.length->t.2<T'.2:=λT' I h=>by have:=hadv2 h;have:=I.m;omega
   refine aK (λ_=>?_) λ_=>aK (λ_=>?_) λ_=>aK (λ_=>?_) λ_=>aK (λ_=>?_) λ_=>?_
   .refine row p1 p2 _ _ M h0 λv T' I hv=>?_
    refine dx (lB rfl (AQ ?_));exact ar ⟨M.trans I,adv3 T' I,rfl,rfl,rfl,rfl,hv⟩
   .refine row p1 p3 _ _ M h1 λv T' I hv=>?_
    refine dx (lB rfl (AQ ?_));exact ar ⟨M.trans I,adv3 T' I,rfl,rfl,rfl,rfl,hv⟩
   .refine row p1 p4 _ _ M h2 λv T' I hv=>?_
    refine dx (lB rfl (AQ ?_));exact ar ⟨M.trans I,adv3 T' I,rfl,rfl,rfl,rfl,hv⟩
   .refine row p1 p5 _ _ M h3 λv T' I hv=>?_
    refine dx (lB rfl (AQ ?_));exact ar ⟨M.trans I,adv3 T' I,rfl,rfl,rfl,rfl,hv⟩
   .omega
 rintro⟨u1,u2,u3,u4,u5,u6,u7,u8,u9,u10,u11,u12⟩ ⟨J,Y,f3,f4,f5,f6,U⟩;dsimp only at J Y f3 f4 f5 f6 U;subst f3;subst f4;subst f5;subst f6;refine aX (λx=>uT t x.1/\(t.2<t.1.length->t.2<x.1.2)/\x.2.1=u2/\x.2.2.1=u3/\x.2.2.2.1=u4/\x.2.2.2.2.1=u5/\x.2.2.2.2.2.2.2.2.2.2.2.1.length<=1000000/\x.2.2.2.2.2.2.2.2.2.2.2.2.length<=1000000) ?_ ?_
 .refine aX (λx=>x.2=(u1,u2,u3,u4,u5,u6,u7,u8,u9,u10,u11,u12)) ?_ ?_
  .with_reducible repeat' first|(refine OS.ok ?_;constructor)|refine IM.mk λ_=>?_
   all_goals rfl
  .rintro⟨b,x⟩ e;dsimp only at e;subst e;refine aP (λ_=>?_) λ_=>ar ⟨J,Y,rfl,rfl,rfl,rfl,U,by simp⟩
   have adv3:∀ T',uT u1 T'->t.2<t.1.length->t.2<T'.2:=λT' I h=>by have:=Y h;have:=I.m;omega
   refine aK (λ_=>?_) λ_=>aK (λ_=>?_) λ_=>aK (λ_=>?_) λ_=>aK (λ_=>?_) λ_=>?_
   .refine row u1 u2 _ _ J h0 λv T' I hv=>?_
    refine dx (lB rfl (AQ ?_));exact ar ⟨J.trans I,adv3 T' I,rfl,rfl,rfl,rfl,U,hv⟩
   .refine row u1 u3 _ _ J h1 λv T' I hv=>?_
    refine dx (lB rfl (AQ ?_));exact ar ⟨J.trans I,adv3 T' I,rfl,rfl,rfl,rfl,U,hv⟩
   .refine row u1 u4 _ _ J h2 λv T' I hv=>?_
    refine dx (lB rfl (AQ ?_));exact ar ⟨J.trans I,adv3 T' I,rfl,rfl,rfl,rfl,U,hv⟩
   .refine row u1 u5 _ _ J h3 λv T' I hv=>?_
    refine dx (lB rfl (AQ ?_));exact ar ⟨J.trans I,adv3 T' I,rfl,rfl,rfl,rfl,U,hv⟩
   .omega
 rintro⟨a1,a2,a3,a4,a5,a6,a7⟩ ⟨g1,g2,g3,g4,g5,g6,g7,g8⟩;dsimp only at g1 g2 g3 g4 g5 g6 g7 g8;subst g3;subst g4;subst g5;subst g6;exact ar ⟨g1,rfl,g2,g7,g8⟩
def ZD (e:ET):Prop:=e.2.2.2.2.2.1.length<=1000000/\e.2.2.2.2.2.2.length<=1000000
theorem aea {m:Nat} (hm:m<=1000) (s:SN) (hs:SZ m s) (w:WT) (hw:w.1.length=5) (hwt:w.2.2.2.2.1.length=4) (hwc:w.2.2.1.length<=1000) (n:Int) (hn:n<=60) (t:List Int×Int) (h:TP t):Ok (sj ((s,w,n,aj),t)) λy=>(∀ e∈y.1,ZD e)/\y.1.length<=60:=by
 unfold sj aZ bk bw cA dV kE Aa Cn Prod.q10 bL cX fk kD pZ Prod.q9 bf bx bB bA aY cK aE;refine dx (dx (dx (eP (by dsimp only[au];omega) (eP (eT _) (bh (by dsimp only[au];omega) (by omega) (WV (by dsimp only[au];omega) ?_))))));refine aX (λx=>x=(t,s,w,[],[],[],[])) ⟨_,rfl,rfl⟩ ?_;rintro x rfl;refine qc (λx=>((t.1.length:Int)-x.1.2).toNat) (λx=>uT t x.1/\x.2.2.1=w/\SZ (m+x.2.2.2.1.length) x.2.1/\x.2.2.2.1.length<=60/\(∀ e∈x.2.2.2.1,ZD e)/\RB4 x.2.2.2.1.length x.2.2.2.2) ?_ ⟨uT.refl h,rfl,(by simpa using hs),by simp,λe he=>(by cases he),⟨by simp,by simp,by simp,by simp⟩⟩;rintro⟨I,s,w',out,r⟩ ⟨i1,i2,U,i4,i5,i6⟩;dsimp only at i1 i2 U i4 i5 i6;subst i2;refine aX (λx=>x.2=(I,s,w',out,r)/\(x.1=ai->out.length<60/\I.2<I.1.length)) ?_ ?_
 .refine bF (λh1=>ar ⟨rfl,λh2=>?_⟩) λ_=>ar ⟨rfl,λh=>(by cases h)⟩
  rw[tI] at h2;dsimp only[au] at h1 h2;exact⟨by omega,h2⟩
 rintro⟨b,x⟩ ⟨e,hb⟩;dsimp only at e hb;subst e;refine aP (λh1=>?_) λ_=>ar ⟨i5,i4⟩
 obtain⟨ho,ht⟩:=hb h1;obtain⟨q0,q1,q2,q3⟩:=id i6;refine aX (λx=>uT I x.1/\I.2<x.1.2/\x.2.2.1=w'/\SZ (m+x.2.2.2.1.length) x.2.1/\x.2.2.2.1.length<=60/\(∀ e∈x.2.2.2.1,ZD e)/\RB4 x.2.2.2.1.length x.2.2.2.2) ?_ ?_
 .refine ax (abp s U w' hw I i1.p r ⟨by omega,by omega,by omega,by omega⟩) λy hy=>?_
  obtain⟨ev,tp',r'⟩:=y;obtain⟨j1,j2,j3,M,J⟩:=hy;dsimp only at j1 j2 j3 M J;subst j2;have j3:=j3 ht;refine dx (lB rfl (dx (lB rfl (dx (lB rfl (dx (lB rfl (AQ ?_))))))));refine ax (Fu w' s U.nb hwc ev (by omega) (by omega)) λz hz=>?_
  refine em (λ_=>ar ⟨j1,j3,rfl,U,i4,i5,i6⟩) λh2=>?_
  obtain⟨z1,z2⟩:=z;obtain⟨hE,hS,_⟩:=hz.1 h2;have hS2:=U.step hS (by omega);refine aX (λx=>x.1=tp'/\x.2.2.1=w'/\x.2.2.2.1=out/\ZD x.2.2.2.2.1/\x.2.2.2.2.2.1=z1/\RB4 (out.length+1) x.2.2.2.2.2.2) ?_ ?_
  .refine aX (λx=>x.2=(tp',s,w',out,ev,z1,r')) ?_ ?_
   .refine aK (λ_=>ar rfl) λ_=>ar rfl
   .rintro⟨b,x⟩ e;dsimp only at e;subst e;have hk:=U.k;obtain⟨ev1,ev2⟩:=ev;have t0:=hE.t0;have t1:=hE.t1;rw[hwt] at t1;dsimp only at t0 t1;refine aP (λ_=>?_) λ_=>ar ⟨rfl,rfl,rfl,⟨M,J⟩,rfl,⟨by dsimp only;omega,by dsimp only;omega,by dsimp only;omega,by dsimp only;omega⟩⟩
    refine aK (λ_=>?_) λ_=>aK (λ_=>?_) λ_=>aK (λ_=>?_) λ_=>aK (λ_=>?_) λ_=>?_
    .exact aS (by decide) (by dsimp only;omega) (aR (bh (by simp;omega) (by omega) (ar ⟨rfl,rfl,rfl,⟨M,J⟩,rfl,⟨by simp;omega,by dsimp only;omega,by dsimp only;omega,by dsimp only;omega⟩⟩)))
    .exact aS (by decide) (by dsimp only;omega) (aR (bh (by simp;omega) (by omega) (ar ⟨rfl,rfl,rfl,⟨M,J⟩,rfl,⟨by dsimp only;omega,by simp;omega,by dsimp only;omega,by dsimp only;omega⟩⟩)))
    .exact aS (by decide) (by dsimp only;omega) (aR (bh (by simp;omega) (by omega) (ar ⟨rfl,rfl,rfl,⟨M,J⟩,rfl,⟨by dsimp only;omega,by dsimp only;omega,by simp;omega,by dsimp only;omega⟩⟩)))
    .exact aS (by decide) (by dsimp only;omega) (aR (bh (by simp;omega) (by omega) (ar ⟨rfl,rfl,rfl,⟨M,J⟩,rfl,⟨by dsimp only;omega,by dsimp only;omega,by dsimp only;omega,by simp;omega⟩⟩)))
    .dsimp only at *;omega
  .rintro⟨x1,x2,x3,x4,x5,x6,x7⟩ ⟨k1,k2,k3,k4,Z,Y⟩;dsimp only at k1 k2 k3 k4 Z Y;subst k1;subst k2;subst k3;subst Z;refine bh (by simp;omega) (by omega) (ar ⟨j1,j3,rfl,?_,by simp;omega,λe he=>?_,?_⟩)
   .dsimp only;rw[bu,dR,<-px];exact hS2
   .rcases bQ.1 he with he|he
    .exact i5 e he
    .rw[aL] at he;subst he;exact k4
   .dsimp only;rw[bu,dR];exact Y
 rintro⟨tp',s',w'',out',r'⟩ ⟨k1,k2,k3,k4,Z,Y,k7⟩;dsimp only at k1 k2 k3 k4 Z Y k7;have e1:=i1.e;have a1:=k1.p.a1;have e2:=k1.e;refine ar ⟨⟨i1.trans k1,k3,k4,Z,Y,k7⟩,?_⟩;dsimp only;rw[e2,e1] at a1;omega
def C0:List (List UInt8×Int×Int×Bool×Int):=[([120],0,0,aj,0),([121],0,0,aj,1),([118],0,0,ai,0),([113],0,2,aj,0),([113],1,2,aj,0)]
def GY:List (List UInt8×Bool):=[([109],aj),([110],aj),([114],ai)]
def Ms:List (List UInt8×Int):=[([99],0)]
def Tk:List (List UInt8):=[[102]]
def v9:List (List UInt8):=[[109,97,105,110],[116,49],[116,50],[116,51]]
structure WX (w:WT):Prop where
 c:w.1=C0
 l:w.2.1=GY
 d:w.2.2.1=Ms
 f:w.2.2.2.1=Tk
 t:∃ n,1<=n/\n<=4/\w.2.2.2.2.1=v9.take n
 s:w.2.2.2.2.2.length<=60
 v:SV0 w
structure W0 (w:WT):Prop where
 c:w.1.length=5
 l:w.2.1.length=3
 d:w.2.2.1.length=1
 f:w.2.2.2.1.length=1
 t:w.2.2.2.2.1.length=4
 s:w.2.2.2.2.2.length<=24
 x:WX w
theorem W0.vl {w:WT} (h:W0 w):VL w:=⟨by rw[h.c];decide,by rw[h.l];decide,by rw[h.d];decide,by rw[h.f];decide,by rw[h.t];decide,by rw[h.t];decide,by have:=h.s;omega⟩
def nxS (i j:Nat):Int×Int:=if j=0 then (if i=0 then (0,0) else ((i:Int)-1,6)) else (i,j)
theorem WA {T:Int} {l:List (Int×Int×Int)} {s:Int×Int×Int}:Li T (l++[s])=TE T (Li T l) s:=by unfold Li;rw[dQ];rfl
theorem S6:Ok (nF ()) W0:=by
 unfold nF aZ bk bw cA fk bx bB cK aE cE;refine bZ 4 (λi x=>x.1=(i:Int)/\x.2.1=C0/\x.2.2.1=GY/\x.2.2.2.1=Ms/\x.2.2.2.2.1=Tk/\x.2.2.2.2.2.1=v9/\x.2.2.2.2.2.2.length<=6*i/\Li 4 x.2.2.2.2.2.2=af (nxS i 0)) ?_ ?_ ⟨rfl,rfl,rfl,rfl,rfl,rfl,by simp,rfl⟩
 .rintro i ⟨a,w1,w2,w3,w4,w5,w6⟩ hi ⟨e1,e2,e3,Z,Y,I,e7,U⟩;dsimp only at e1 e2 e3 Z Y I e7 U;subst e1;have hl5:w5.length=4:=by rw[I];rfl
  refine bF (λ_=>?_) λg=>(by dsimp only[au] at g;simp at g;omega)
  refine bZ 6 (λj x=>x.1=(j:Int)/\x.2.1=w1/\x.2.2.1=w2/\x.2.2.2.1=w3/\x.2.2.2.2.1=w4/\x.2.2.2.2.2.1=w5/\x.2.2.2.2.2.2.length<=6*i+j/\Li 4 x.2.2.2.2.2.2=af (nxS i j)) ?_ ?_ ⟨rfl,rfl,rfl,rfl,rfl,rfl,by dsimp only;omega,U⟩
  .rintro j ⟨b,v1,v2,v3,v4,v5,v6⟩ hj ⟨d1,d2,d3,d4,d5,d6,d7,d8⟩;dsimp only at d1 d2 d3 d4 d5 d6 d7 d8;subst d1;refine dk ?_;refine bh (by simp;omega) (by omega) (ar ?_);dsimp only;refine ⟨gI (by omega),d2,d3,d4,d5,d6,by simp;omega,?_⟩;rw[WA,d8];by_cases J:j=0
   .subst J;by_cases M:i=0
    .subst M;rfl
    .rw[show nxS i 0=((i:Int)-1,6) by unfold nxS;simp[M],show nxS i (0+1)=((i:Int),1) by unfold nxS;simp];unfold TE;dsimp only;rw[ay (λh=>by have:=h.1;omega),aF ⟨by omega,by omega,rfl⟩]
   .rw[show nxS i j=((i:Int),(j:Int)) by unfold nxS;simp[J],show nxS i (j+1)=((i:Int),(j:Int)+1) by unfold nxS;simp];unfold TE;dsimp only;rw[aF ⟨rfl,rfl⟩]
  .rintro⟨b,v1,v2,v3,v4,v5,v6⟩ ⟨d1,d2,d3,d4,d5,d6,d7,d8⟩;dsimp only at d1 d2 d3 d4 d5 d6 d7 d8;subst d1;subst d2;subst d3;subst d4;subst d5;subst d6;refine dg (ar ?_);dsimp only;refine ⟨gI (by omega),e2,e3,Z,Y,I,by omega,?_⟩;rw[d8];unfold nxS;simp
 .rintro⟨a,w1,w2,w3,w4,w5,w6⟩ ⟨e1,e2,e3,Z,Y,I,e7,U⟩;dsimp only at e1 e2 e3 Z Y I e7 U;subst e1;subst e2;subst e3;subst Z;subst Y;subst I;refine bF (λg=>(by dsimp only[au] at g;simp[v9] at g)) λ_=>ar ?_
  refine ⟨rfl,rfl,rfl,rfl,rfl,by dsimp only;omega,rfl,rfl,rfl,rfl,⟨4,by decide,by decide,rfl⟩,by dsimp only;omega,?_⟩;unfold SV0;show Li 4 w6≠ah;rw[U];simp
theorem SZ.mono {n m:Nat} {s:SN} (h:SZ n s) (hnm:n<=m) (hm:m<=100000):SZ m s:=
 ⟨⟨⟨hm,h.nb.sb.lk,λl hl=>dh (h.nb.sb.rd l hl) hnm,h.nb.sb.dn,h.nb.sb.th⟩,h.nb.c,h.nb.f,h.nb.k⟩,h.c,h.f,h.k⟩
theorem V_ (w:WT) (I:W0 w):Ok (mM w) λs=>SZ 0 s:=by
 refine (Wa w I.vl).mono λs hs=>⟨hs.1,?_,?_,?_⟩
 .rw[hs.2.1,I.c]
 .rw[hs.2.2.1,I.f]
 .rw[hs.2.2.2,I.t]
structure WB (w:WT):Prop where
 c:w.1.length<=12
 l:w.2.1.length<=4
 d:w.2.2.1.length<=2
 f:w.2.2.2.1.length<=2
 t:w.2.2.2.2.1.length<=4
 s:w.2.2.2.2.2.length<=60
theorem VL.wb {w:WT} (h:VL w):WB w:=⟨h.c,h.l,h.d,h.f,h.t,h.s⟩
structure TR (y:WT×List ET):Prop where
 wb:WB y.1
 vl:VL y.1
 ev:∀ e∈y.2,EvF y.1 e
 len:y.2.length<=400
 ls:∀ e∈y.2,ZD e
 wx:WX y.1
 ac:∃ sy ce fu,Acw y.1 y.2 sy ce fu
theorem Ik (L:List Int) (n:Int) (hl:L.length<=9223372036854775807) (hb:∀ x∈L,0<=x/\x<=255):Ok (qj (L,n)) TR:=by
 unfold qj aZ bk bw dA cX bx iH je bB kB aY cK aE cE;refine aX (λx=>x.length<=600/\∀ z∈x,0<=z/\z<=255) ?_ ?_
 .refine bF (λg=>?_) λg=>?_
  .dsimp only[au] at g;refine dx (eP (by omega) (eP (by dsimp only;omega) (ar ⟨by dsimp only;rw[bI];simp;omega,λz I=>hb z (gY I)⟩)))
  .dsimp only[au] at g;exact ar ⟨by dsimp only;omega,hb⟩
 rintro L' ⟨hL,hB⟩;refine ax S6 λw J=>?_
 have hvl:=J.vl;refine ax (V_ w J) λs hs=>?_
 refine ax (gq 3 (L',0) ⟨by dsimp only;omega,hB,by dsimp only;omega,by dsimp only;omega⟩) λy hy=>?_
 obtain⟨Z,yt⟩:=y;obtain⟨ty,yy0,yy1,_⟩:=hy;have yy1:=yy1 (by decide);dsimp only at ty yy0 yy1;have ew:bc .i64 (1+Z)=1+Z:=hX (by omega) (by omega);refine qc (λx=>(1+Z+1-x.1).toNat) (λx=>1<=x.1/\x.1<=2+Z/\x.2.1=yt/\x.2.2.1=w/\x.2.2.2.1=s/\((x.2.2.2.2.length:Nat):Int)<=2*x.1/\∀ e∈x.2.2.2.2,ZD e) ?_ ⟨by dsimp only;omega,by dsimp only;omega,rfl,rfl,rfl,by simp,λe he=>?_⟩
 .rintro⟨a,t,w',s',es⟩ ⟨e1,e2,e3,e4,e5,e6,e7⟩;dsimp only at e1 e2 e3 e4 e5 e6 e7;subst e3;subst e4;subst e5;refine eE (λg=>?_) λg=>?_
  .dsimp only at g;rw[ew] at g;refine bh (by simp;omega) (by omega) (ar ?_);dsimp only;rw[hX (n:=a+1) (by omega) (by omega)];refine ⟨⟨by omega,by omega,rfl,rfl,rfl,by simp;omega,λe he=>?_⟩,by omega⟩;rcases bQ.1 he with he|he
   .exact e7 e he
   .simp only[bm,cw,gi] at he;rcases he with he|he<;>subst he<;>exact⟨by simp,by simp⟩
  .refine ax (P:=TR) ?_ λr hr=>ar hr
   refine bZ es.length (λi x=>x.1=(i:Int)/\TP x.2.1/\x.2.2.1=w'/\SZ i x.2.2.2.1/\x.2.2.2.2.1=es/\x.2.2.2.2.2.length<=i/\∀ e∈x.2.2.2.2.2,ZD e) ?_ ?_ ⟨rfl,ty.p,rfl,hs,rfl,by simp,λe he=>(by cases he)⟩
   .rintro i ⟨b,t,w',s',es',out⟩ hi ⟨d1,d2,Y,M,U,d6,d7⟩;dsimp only at d1 d2 Y M U d6 d7;subst d1;subst Y;subst U;refine dk ?_;refine aX (λx=>TP x.1/\x.2.1=w'/\SZ (i+1) x.2.2.1/\x.2.2.2.1=es'/\x.2.2.2.2.length<=i+1/\∀ e∈x.2.2.2.2,ZD e) ?_ ?_
    .refine b8 (b8 (aR ?_));have I:=e7 _ (bJ (T:=.st (.pr (.int .i64) (.pr (.int .i64) (.pr (.int .i64) (.pr (.int .i64) (.pr (.int .i64) (.pr (.sl (.int .i64)) (.sl (.int .i64))))))))) (xs:=es') (j:=(i:Int)) (by omega) (by omega));revert I;generalize (aJ _ _)=z;intro I;refine ax (Fu w' s' M.nb (by rw[J.d];decide) z (by have:=I.1;omega) (by have:=I.2;omega)) λv hv=>?_
     refine aP (λh=>?_) λh=>ar ⟨d2,rfl,M.mono (by omega) (by omega),rfl,by dsimp only;omega,d7⟩
     refine bh (by simp;omega) (by omega) (ar ⟨d2,rfl,M.step (hv.1 h).2.1 (by omega),rfl,by simp;omega,λe he=>?_⟩);rcases bQ.1 he with he|he
     .exact d7 e he
     .rw[aL] at he;subst he;exact I
    .rintro⟨t,w'',s'',es'',out'⟩ ⟨f1,f2,f3,f4,f5,f6⟩;dsimp only at f1 f2 f3 f4 f5 f6;refine ar ?_;dsimp only;exact⟨gI (by omega),f1,f2,f3,f4,f5,f6⟩
   .rintro⟨b,t,w',s',es',out⟩ ⟨d1,d2,Y,M,U,d6,d7⟩;dsimp only at d1 d2 Y M U d6 d7;subst d1;subst Y;subst U;refine dg ?_;refine ax (P:=TR) ?_ λr hr=>ar hr
    have hmin:G8 (iD n 0) 60<=60:=by
     unfold G8;split
     .omega
     .rename_i h;simp[fQ] at h;exact h
    refine ax (aea (by omega) s' M w' J.c J.t (by rw[J.d];decide) _ hmin t d2) λv hv=>?_
    refine bh (by have:=hv.2;dsimp only;omega) (by omega) ?_;have hall:∀ e∈out++v.1,ZD e:=λe he=>by
     rcases bQ.1 he with he|he
     .exact d7 e he
     .exact hv.1 e he
    refine ax (adg w' (out++v.1) λe he=>by have:=hall e he;exact⟨by have:=this.1;omega,by have:=this.2;omega⟩) λc hc=>?_
    refine ca (λ_=>?_) λh=>?_
    .exact ax S6 λu hu=>ar ⟨hu.vl.wb,hu.vl,λe he=>(by cases he),by simp,λe he=>(by cases he),hu.x,_,_,_,.nil⟩
    .exact ar ⟨(hc h).1.1.wb,(hc h).1.1,(hc h).2.1,by have:=hv.2;simp;omega,hall,J.x,(hc h).2.2⟩
 .rw[aL] at he;subst he;exact⟨by simp,by simp⟩
abbrev IT:Type:=Int×Int×Int×Int×Int×Int
abbrev CT:Type:=WT×List (Int×List IT)
theorem rY (a b:Int):jp (a,b)=af (decide (0<=a/\a<b)):=by
 refine cB ?_;unfold jp iH aE;with_reducible repeat' first|(refine OS.ok ?_;constructor)|refine IM.mk λ_=>?_
 .by_cases h:a<b<;>simp[*,fQ]
 .simp;omega
theorem Fv (k:Int):pI k=af (decide (1<=k/\k<=5)):=by
 refine cB ?_;unfold pI iH aE;with_reducible repeat' first|(refine OS.ok ?_;constructor)|refine IM.mk λ_=>?_
 .by_cases h:k<=5<;>simp[*,c7]
 .simp;omega
def iO (i:IT):List Int:=
 if i.1=1\/i.1=6\/i.1=10\/i.1=27 then [i.2.1]
 else if i.1=2\/i.1=3 then [i.2.1,i.2.2.1]
 else if i.1=4 then [i.2.1,i.2.2.1,i.2.2.2.1]
 else if i.1=7 then [i.2.1,i.2.2.2.1]
 else if i.1=8\/i.1=26 then [i.2.2.1]
 else if i.1=9 then [i.2.2.1,i.2.2.2.1]
 else []
theorem tM (i:IT):jE i=af (iO i):=by
 obtain⟨I,i2⟩:=i;unfold jE iO aZ bk bw bf aE;by_cases h1:I=1
 .subst h1;rfl
 by_cases h2:I=6
 .subst h2;rfl
 by_cases h3:I=10
 .subst h3;rfl
 by_cases h4:I=27
 .subst h4;rfl
 by_cases h5:I=2
 .subst h5;rfl
 by_cases h6:I=3
 .subst h6;rfl
 by_cases Z:I=4
 .subst Z;rfl
 by_cases Y:I=7
 .subst Y;rfl
 by_cases U:I=8
 .subst U;rfl
 by_cases M:I=26
 .subst M;rfl
 by_cases J:I=9
 .subst J;rfl
 simp only[h1,h2,h3,h4,h5,h6,Z,Y,U,M,J,cu,bcF,jnr,gi,ef]
theorem CI (z:IT):(iO z).length<=3:=by
 unfold iO
 (repeat' split)<;>simp
theorem aax (l:List IT) (a:Int) (hl:l.length<=1000000):Ok (pl (l,a)) λ_=>True:=by
 unfold pl bf bx iH bA aY cK aE cE;refine qc (λx=>((l.length:Int)+1-x.2).toNat) (λx=>0<=x.2/\x.2<=(l.length:Int)+1) ?_ ⟨by dsimp only;omega,by dsimp only;omega⟩;rintro⟨(a:Int),(n:Int)⟩ ⟨h0,h1⟩;dsimp only at h0 h1;refine eE (λg=>?_) λ_=>ar trivial
 dsimp only[au] at g;refine aX (λ_=>True) ?_ λb _=>ar ?_
 .refine aX (λb=>b=aj->0<=a/\a<(l.length:Int)) ?_ ?_
  .refine bF (λ_=>ar λh=>(by cases h)) λI=>ar λh=>?_
   rw[kf] at h;dsimp only[au] at h I;exact⟨I,h⟩
  .intro b hb;refine aP (λ_=>ar trivial) λh=>?_
   obtain⟨q0,q1⟩:=hb h;refine aS q0 (by dsimp only;omega) (aR ?_);refine aT (Fv _) ?_;refine em (λ_=>ar trivial) λ_=>?_
   refine aS q0 (by dsimp only;omega) (aR ?_);refine aK (λ_=>?_) λ_=>ar trivial
   exact aS q0 (by dsimp only;omega) (aR (ar trivial))
 .dsimp only;rw[hX (by omega) (by omega)];exact⟨⟨by omega,by omega⟩,by omega⟩
structure AR (w:WT) (b n:Int):Prop where
 b0:0<=b
 b1:b<w.1.length
 ix:(aJ (T:=P1) w.1 b).2.1=0
 sz:¬(aJ (T:=P1) w.1 b).2.2.1=0
 sn:(aJ (T:=P1) w.1 b).2.2.1=n
theorem SM (w:WT) (b n:Int):Ok (m6 (w,b,n)) λr=>r=ai->AR w b n:=by
 unfold m6 bf je bA aY aE;refine gB ?_;refine aT (rY _ _) ?_;refine aK (λh=>?_) λ_=>ar (ar λh=>(by cases h))
 refine aS h.1 h.2 (aR (aK (λh1=>?_) λ_=>ar (ar λh=>(by cases h))));refine aS h.1 h.2 (aR (ca (λh2=>?_) λ_=>ar (ar λh=>(by cases h))));exact aS h.1 h.2 (aR (ar (ar λI=>⟨h.1,h.2,h1,h2,bn I⟩)))
theorem Ui (w:WT) (i:IT):Ok (lG (w,i)) λb=>b=ai->(i.1=7->AR w i.2.2.1 i.2.2.2.2.1)/\(i.1=9->AR w i.2.1 i.2.2.2.2.1):=by
 have I:∀ {b:Bool},¬i.1=7->¬i.1=9->b=ai->(i.1=7->AR w i.2.2.1 i.2.2.2.2.1)/\(i.1=9->AR w i.2.1 i.2.2.2.2.1):=λh1 h2 _=>⟨λh=>(h1 h).elim,λh=>(h2 h).elim⟩
 unfold lG aZ bk bw cA dV bf iH bA aY aE;simp only[rY,WY];refine aK (λU=>?_) λ_=>?_
 .refine aX (λ_=>True) ?_ λ_ _=>ar (I (by have U:i.1=6:=U;omega) (by have U:i.1=6:=U;omega))
  refine aK (λh=>?_) λ_=>ar trivial
  exact aS h.1 h.2 (aR (ar trivial))
 refine aK (λJ=>?_) λ_=>?_
 .refine aX (λ_=>True) ?_ λ_ _=>ar (I (by have J:i.1=8:=J;omega) (by have J:i.1=8:=J;omega))
  refine aK (λh=>?_) λ_=>ar trivial
  exact aS h.1 h.2 (aR (ar trivial))
 refine aK (λM=>?_) λY=>?_
 .exact ax (SM _ _ _) λ_ h=>ar λh2=>⟨λ_=>h h2,λh9=>by have M:i.1=7:=M;omega⟩
 refine aK (λh9=>?_) λZ=>?_
 .exact ax (SM _ _ _) λ_ h=>ar λh2=>⟨λM=>(Y M).elim,λ_=>h h2⟩
 have I:∀ {b:Bool},b=ai->(i.1=7->AR w i.2.2.1 i.2.2.2.2.1)/\(i.1=9->AR w i.2.1 i.2.2.2.2.1):=I Y Z;refine aX (λx=>x.2=(w,i)) (aK (λ_=>ar rfl) λ_=>ar rfl) ?_;rintro⟨b,x⟩ e;dsimp only at e;subst e;refine aP (λ_=>?_) λ_=>?_
 .refine aX (λ_=>True) ?_ λ_ _=>ar I
  refine aK (λh=>?_) λ_=>ar trivial
  exact aS h.1 h.2 (aR (ar trivial))
 refine aX (λx=>x.2=(w,i)) (aK (λ_=>ar rfl) λ_=>aK (λ_=>ar rfl) λ_=>aK (λ_=>ar rfl) λ_=>ar rfl) ?_;rintro⟨b,x⟩ e;dsimp only at e;subst e;refine aP (λ_=>?_) λ_=>?_
 .refine aX (λ_=>True) ?_ λ_ _=>ar I
  refine aK (λh=>?_) λ_=>ar trivial
  exact aS h.1 h.2 (aR (ar trivial))
 refine aX (λx=>x.2=(w,i)) (aK (λ_=>ar rfl) λ_=>aK (λ_=>ar rfl) λ_=>ar rfl) ?_;rintro⟨b,x⟩ e;dsimp only at e;subst e;refine aP (λ_=>ar I) λ_=>?_
 refine aX (λx=>x.2=(w,i)) (aK (λ_=>ar rfl) λ_=>ar rfl) ?_;rintro⟨b,x⟩ e;dsimp only at e;subst e;with_reducible repeat' first|(refine OS.ok ?_;constructor)|refine IM.mk λ_=>?_
 all_goals exact I
structure VI (n:Int) (i:IT):Prop where
 o1:1<=i.1
 o2:i.1<=28
 r:∀ j∈iO i,0<=j/\j<n
structure VT (t:Int×List IT):Prop where
 r0:0<=t.1
 r1:t.1<=32
 i:∀ i∈t.2,VI t.1 i
structure VJ (w:WT) (k:Int) (i:IT):Prop where
 a7:i.1=7->AR w i.2.2.1 i.2.2.2.2.1
 a9:i.1=9->AR w i.2.1 i.2.2.2.2.1
 se:i.1=28->i.2.2.2.2.2= -1
 si:¬i.1=28->0<=i.2.2.2.2.2/\i.2.2.2.2.2<w.2.2.2.2.2.length/\(aJ (T:=x_) w.2.2.2.2.2 i.2.2.2.2.2).1=k
theorem Ic (w:WT) (k:Int) (c:Int×List IT) (hc:c.2.length<=1000000):Ok (im (w,k,c)) λb=>b=ai->VT c/\∀ i∈c.2,VJ w k i:=by
 unfold im aZ bk bw cA bL cX pZ bf bx je bA aY cK aE cE;refine aX (λx=>x.2=(w,c)/\(x.1=aj->0<=c.1/\c.1<=32)) ?_ ?_
 .refine bF (λ_=>ar ⟨rfl,λh=>(by cases h)⟩) λh0=>bF (λ_=>ar ⟨rfl,λh=>(by cases h)⟩) λh1=>ar ⟨rfl,λ_=>⟨h0,h1⟩⟩
 rintro⟨b,x⟩ ⟨e,hb⟩;dsimp only at e hb;subst e;refine aP (λ_=>ar λh=>(by cases h)) λh=>?_
 obtain⟨r0,r1⟩:=hb h;refine bZ c.2.length (λi x=>x.1=(i:Int)/\x.2=(w,c)/\∀ q:Nat,q<i->VI c.1 (aJ (T:=BD) c.2 (q:Int))/\VJ w k (aJ (T:=BD) c.2 (q:Int))) ?_ ?_ ⟨rfl,rfl,λk hk=>by omega⟩
 .rintro i ⟨a,x⟩ hi ⟨e1,e2,e3⟩;dsimp only at e1 e2 e3;subst e1;subst e2;refine dk ?_;refine b8 (aR ?_);generalize M:(aJ _ _)=z;refine aX (λx=>x.2=(w,c,z)/\(x.1=aj->(1<=z.1/\z.1<=28)/\(z.1=7->AR w z.2.2.1 z.2.2.2.2.1)/\(z.1=9->AR w z.2.1 z.2.2.2.2.1))) ?_ ?_
  .refine bF (λ_=>ar ⟨rfl,λh=>(by cases h)⟩) λh0=>bF (λ_=>ar ⟨rfl,λh=>(by cases h)⟩) λh1=>?_
   refine aP (λ_=>ar ⟨rfl,λh=>(by cases h)⟩) λ_=>?_
   refine ax (Ui w z) λy U=>?_
   refine em (λ_=>ar ⟨rfl,λh=>(by cases h)⟩) λhyt=>?_
   exact ax (aax c.2 _ hc) λy _=>ar ⟨rfl,λ_=>⟨⟨h0,h1⟩,U hyt⟩⟩
  rintro⟨b,x⟩ ⟨e,hb⟩;dsimp only at e hb;subst e;refine aP (λ_=>ar λh=>(by cases h)) λh=>?_
  obtain⟨⟨o1,o2⟩,a7,a9⟩:=hb h;refine aX (λx=>x.2=(w,c,z)/\(x.1=aj->(z.1=28->z.2.2.2.2.2= -1)/\(¬z.1=28->0<=z.2.2.2.2.2/\z.2.2.2.2.2<w.2.2.2.2.2.length/\(aJ (T:=x_) w.2.2.2.2.2 z.2.2.2.2.2).1=k))) ?_ ?_
  .simp only[rY,WY];refine aK (λI=>?_) λI=>?_
   .refine ca (λ_=>ar ⟨rfl,λh=>(by cases h)⟩) λhm=>?_
    exact ca (λh=>(h I).elim) λ_=>ar ⟨rfl,λ_=>⟨λ_=>hm,λh=>(h I).elim⟩⟩
   .refine ca (λ_=>?_) λh=>(I h).elim
    refine ca (λ_=>ar ⟨rfl,λh=>(by cases h)⟩) λh=>?_
    exact aS h.1 h.2 (aR (ar ⟨rfl,λh2=>⟨λY=>(I Y).elim,λ_=>⟨h.1,h.2,by simpa using h2⟩⟩⟩))
  rintro⟨b,x⟩ ⟨e,hsi⟩;dsimp only at e hsi;subst e;refine aP (λ_=>ar λh=>(by cases h)) λhbs=>?_
  obtain⟨se,si⟩:=hsi hbs;refine aX (λx=>x.2=(w,c,z)) ?_ ?_
  .simp only[rY,WY];with_reducible repeat' first|(refine OS.ok ?_;constructor)|refine IM.mk λ_=>?_
   all_goals rfl
  rintro⟨b,x⟩ e;dsimp only at e;subst e;refine aP (λ_=>ar λh=>(by cases h)) λ_=>?_
  refine aT (tM z) ?_;refine bZ (iO z).length (λj x=>x.1=(j:Int)/\x.2=(w,c)/\∀ k:Nat,k<j->0<=aJ (T:=.int .i64) (iO z) (k:Int)/\aJ (T:=.int .i64) (iO z) (k:Int)<c.1) ?_ ?_ ⟨rfl,rfl,λk hk=>by omega⟩
  .rintro j ⟨a,x⟩ hj ⟨d1,d2,J⟩;dsimp only at d1 d2 J;subst d1;subst d2;refine dk ?_;refine b8 (aR ?_);refine aT (rY _ _) ?_;refine ca (λ_=>ar λh=>(by cases h)) λh=>ar ?_
   dsimp only at h ⊢;have hj32:(iO z).length<=3:=CI z;refine ⟨gI (by omega),rfl,λk hk=>?_⟩;rcases b9 k j with h1|h1
   .exact J k h1
   .rw[show k=j by omega];exact h
  .rintro⟨a,x⟩ ⟨d1,d2,J⟩;dsimp only at d1 d2 J;subst d1;subst d2;refine dg (ar ?_);dsimp only;refine ⟨gI (by omega),rfl,λk hk=>?_⟩;rcases b9 k i with h1|h1
   .exact e3 k h1
   .rw[show k=i by omega,M];exact⟨⟨o1,o2,ir (T:=.int .i64) J⟩,⟨a7,a9,se,si⟩⟩
 .rintro⟨a,x⟩ ⟨e1,e2,e3⟩;dsimp only at e1 e2 e3;subst e1;subst e2;refine dg (ar λ_=>⟨⟨r0,r1,ir (T:=BD) (p:=VI c.1) λq hq=>(e3 q hq).1⟩,ir (T:=BD) (p:=VJ w k) λq hq=>(e3 q hq).2⟩)
structure VC (c:CT):Prop where
 vl:VL c.1
 tl:c.2.length=c.1.2.2.2.2.1.length
 t:∀ t∈c.2,VT t
 sv:SV0 c.1
 j:∀ k:Nat,k<c.2.length->∀ i∈(aJ (T:=vZ) c.2 (k:Int)).2,VJ c.1 (k:Int) i
structure CB (c:CT):Prop where
 th:c.2.length<=1000000
 ins:∀ t∈c.2,t.2.length<=1000000
 rg:∀ t∈c.2,1<=t.1
 wx:WX c.1
 ok:jD c=af ai
theorem S9 (c:CT) (h1:c.2.length<=1000000) (h2:∀ t∈c.2,t.2.length<=1000000):Ok (jD c) λb=>b=ai->VC c:=by
 obtain⟨w,l⟩:=c;dsimp only at h1 h2;unfold jD bw bx bA aY cK aE cE;refine aX (λx=>x.2=(w,l)/\(x.1=aj->(VL w/\SV0 w)/\l.length=w.2.2.2.2.1.length)) ?_ ?_
 .refine ax (Bt w) λb hb=>?_
  refine em (λ_=>ar ⟨rfl,λh=>(by cases h)⟩) λh=>ar ⟨rfl,λM=>⟨hb h,?_⟩⟩
  simp at M;omega
 rintro⟨b,x⟩ ⟨e,I⟩;dsimp only at e I;subst e;refine aP (λ_=>ar λh=>(by cases h)) λh=>?_
 obtain⟨⟨hv,hsv⟩,hl⟩:=I h;refine bZ l.length (λi x=>x.1=(i:Int)/\x.2=(w,l)/\∀ k:Nat,k<i->VT (aJ (T:=vZ) l (k:Int))/\∀ q∈(aJ (T:=vZ) l (k:Int)).2,VJ w (k:Int) q) ?_ ?_ ⟨rfl,rfl,λk hk=>by omega⟩
 .rintro i ⟨a,x⟩ hi ⟨e1,e2,e3⟩;dsimp only at e1 e2 e3;subst e1;subst e2;refine dk ?_;refine b8 (aR ?_);have hm:=bJ (T:=vZ) (xs:=l) (j:=(i:Int)) (by omega) (by omega);revert hm;generalize J:(aJ (T:=vZ) l (i:Int))=z;intro hm;refine ax (Ic w _ z (h2 z hm)) λb hb=>?_
  refine em (λ_=>ar λh=>(by cases h)) λh=>ar ?_
  dsimp only;refine ⟨gI (by omega),rfl,λk hk=>?_⟩;rcases b9 k i with h1|h1
  .exact e3 k h1
  .rw[show k=i by omega,J];exact hb h
 .rintro⟨a,x⟩ ⟨e1,e2,e3⟩;dsimp only at e1 e2 e3;subst e1;subst e2;refine dg (ar λ_=>⟨hv,hl,ir (T:=vZ) (p:=VT) λk hk=>(e3 k hk).1,hsv,λk hk=>(e3 k hk).2⟩)
abbrev TT:Type:=Int×List Int×List (List Int)×Int
structure TL (F:Int->Prop) (E:Nat) (l:List Int):Prop where
 a:Hx l
 m:∀ y∈l,0<=y/\y<(E:Int)
 f:∀ y∈l,F y
theorem Ps:∀ (l:List Int) (lo hi:Int),Hx l->(∀ y∈l,lo<=y/\y<hi)->(l.length:Int)<=max 0 (hi-lo)
 |[],lo,hi,_,_=>by simp;omega
 |x::r,lo,hi,h,hm=>by
  have h1:=hm x (dj ..);have h2:=Ps r (x+1) hi h.2 λy I=>⟨by have:=h.1 y I;omega,(hm y (cI _ I)).2⟩
  rw[b7];omega
variable {F:Int->Prop}
theorem TL.len {E:Nat} {l:List Int} (h:TL F E l):l.length<=E:=by
 have:=Ps l 0 E h.a h.m;omega
theorem TL.nil (E:Nat):TL F E []:=⟨trivial,λy I=>(by cases I),λy I=>(by cases I)⟩
theorem TL.uni {E:Nat} {a b:List Int} (J:TL F E a) (hb:TL F E b):TL F E (xm a b):=
 ⟨P0 a b,λy I=>by
   rcases Ie.1 I with h|h
   .exact J.m y h
   .exact hb.m y h,λy I=>(Ie.1 I).elim (J.f y) (hb.f y)⟩
theorem TL.mono {E M:Nat} {J:Int->Prop} {l:List Int} (h:TL F E l) (hf:E<=M) (U:∀ y,F y->J y):TL J M l:=⟨h.a,λy I=>⟨(h.m y I).1,by have:=(h.m y I).2;omega⟩,λy I=>U y (h.f y I)⟩
structure TH (F:Int->Prop) (E:Nat) (s:TT):Prop where
 r:s.2.1.length<=32
 t:s.2.2.1.length<=32
 l:∀ l∈s.2.2.1,TL F E l
 e0:0<=s.2.2.2
 e1:s.2.2.2<=(E:Int)
theorem TH.zero (E:Nat):TH F E (0,[],[],0):=⟨by simp,by simp,λl hl=>(by cases hl),by simp,by simp⟩
theorem TH.mono {E J:Nat} {I:Int->Prop} {s:TT} (h:TH F E s) (hf:E<=J) (M:∀ y,F y->I y):TH I J s:=⟨h.r,h.t,λl hl=>(h.l l hl).mono hf M,h.e0,by have:=h.e1;omega⟩
theorem dc (s:TT) (E:Nat) (Y:E<=100000) (h:TH F E s):cj s=af ((s.1,s.2.2.2),s.2.1,s.2.2.1):=by
 obtain⟨h1,h2,U,h4,Z⟩:=h;refine cB ?_;unfold cj aZ bk bw bL cX bx bB bA aY cK aE cE;refine bh (by simp;omega) (by omega) ?_;refine bZ s.2.2.1.length (λi x=>x.1=(i:Int)/\x.2.1=s/\x.2.2.2.1=(s.1,s.2.2.2)/\x.2.2.2.2.1=s.2.1/\x.2.2.2.2.2=s.2.2.1.take i) ?_ ?_ ⟨rfl,rfl,rfl,rfl,rfl⟩
 .rintro i ⟨a,b,c,d,e,f⟩ hi ⟨e1,e2,e3,J,I⟩;dsimp only at e1 e2 e3 J I;subst e1;subst e2;subst I;refine dk ?_;refine b8 (aR ?_);have M:=(U _ (bJ (T:=.sl (.int .i64)) (xs:=b.2.2.1) (j:=(i:Int)) (by omega) (by omega))).len;refine bh (by simp only[jT,bN];exact dh M (by omega)) (by omega) ?_;refine bh (by simp;omega) (by omega) (ar ?_);dsimp only;refine ⟨gI (by omega),rfl,e3,J,?_⟩;rw[mH (T:=.sl (.int .i64)) hi];rfl
 .rintro⟨a,b,c,d,e,f⟩ ⟨e1,e2,e3,J,I⟩;dsimp only at e1 e2 e3 J I;subst e1;subst e2;subst I;refine dg (ar ?_);show (d,e,_)=_;rw[e3,J,cP]
theorem v_ (b:Bool):Ok (fY b) λ_=>True:=by
 unfold fY;with_reducible repeat' first|(refine OS.ok ?_;constructor)|refine IM.mk λ_=>?_
 all_goals trivial
theorem FG (n:Int):Ok (mh n) λ_=>True:=by
 unfold mh bx aE;with_reducible repeat' first|(refine OS.ok ?_;constructor)|refine IM.mk λ_=>?_
 all_goals trivial
theorem acs (x:Int×Int):Ok (ul x) λ_=>True:=by
 unfold ul bf;refine aK (λ_=>ar trivial) λ_=>aK (λ_=>?_) λ_=>ar trivial
 exact ax (v_ _) λ_ _=>ar trivial
theorem ZS (x:Int×Int×Int):Ok (su x) λ_=>True:=by
 unfold su bf je bB aE;have t1:∀ b,Ok (obind (fY b) λy=>af (y,ai)) λ_=>True:=λb=>ax (v_ _) λ_ _=>ar trivial
 refine aK (λ_=>ar trivial) λ_=>aK (λ_=>ar trivial) λ_=>aK (λ_=>ar trivial) λ_=>?_
 refine aK (λ_=>aK (λ_=>ar trivial) λh=>wj h (ar trivial)) λ_=>?_
 refine aK (λ_=>aK (λ_=>ar trivial) λh=>wj h (ar trivial)) λ_=>?_
 refine aK (λ_=>t1 _) λ_=>aK (λ_=>t1 _) λ_=>aK (λ_=>t1 _) λ_=>aK (λ_=>t1 _) λ_=>aK (λ_=>t1 _) λ_=>aK (λ_=>t1 _) λ_=>?_
 refine aK (λ_=>aX (λ_=>True) (ca (λ_=>ax (v_ _) λ_ _=>ar trivial) λ_=>ax (v_ _) λ_ _=>ar trivial) λ_ _=>ar trivial) λ_=>?_
 exact aK (λ_=>aX (λ_=>True) (ca (λ_=>ax (v_ _) λ_ _=>ar trivial) λ_=>ax (v_ _) λ_ _=>ar trivial) λ_ _=>ar trivial) λ_=>ar trivial
theorem XX (E:Nat) (hE:E<=100000) (i:IT) (p:Int×Int) (R:List Int) (T:List (List Int)) (hr:∀ j∈iO i,0<=j/\j<(R.length:Int)) (o1:1<=i.1) (o2:i.1<=5) (hR:R.length<=32) (I:T.length=R.length) (hl:∀ l∈T,TL F E l):Ok (wz ((i,p),R,T)) λy=>y.1.1.2=p.2/\y.2.1.length=R.length/\y.2.2.length=T.length/\∀ l∈y.2.2,TL F E l:=by
 unfold wz aZ bk bw ck bf bx bB bA kB aY cK aE cE;refine aT (tM i) ?_;have h3:=CI i;refine bZ (iO i).length (λj x=>x.1=(j:Int)/\x.2.1=R/\x.2.2.1=T/\x.2.2.2.1=i/\x.2.2.2.2.1=p) ?_ ?_ ⟨rfl,rfl,rfl,rfl,rfl⟩
 .rintro j ⟨a,b,c,d,e⟩ hj ⟨e1,e2,e3,Z,M⟩;dsimp only at e1 e2 e3 Z M;subst e1;subst e2;subst e3;subst Z;refine dk ?_;have hz:=hr _ (bJ (T:=.int .i64) (xs:=iO d) (j:=(j:Int)) (by omega) (by omega));refine aX (λx=>x.2=(b,c,d,e)/\x.1=aj) ?_ ?_
  .refine b8 (aR ?_);refine bF (λg=>?_) λ_=>?_
   .dsimp only at g;omega
   refine b8 (aR (ar ⟨rfl,?_⟩));dsimp only;rw[kf];exact hz.2
  rintro⟨b',x⟩ ⟨Y,U⟩;dsimp only at Y U;subst Y;subst U;refine aP (λh=>(by cases h)) λ_=>ar ?_
  dsimp only;exact⟨gI (by omega),rfl,rfl,rfl,M⟩
 .rintro⟨a,b,c,d,e⟩ ⟨e1,e2,e3,Z,M⟩;dsimp only at e1 e2 e3 Z M;subst e1;subst e2;subst e3;subst Z;refine dg ?_;obtain⟨e,e'⟩:=e;dsimp only at M;subst M;refine ax (P:=λy=>y.1.1.2=e.2/\y.2.1.length=b.length/\y.2.2.length=c.length/\∀ l∈y.2.2,TL F E l) ?_ λr hr=>ar hr
  have hA:d.1≠5->0<=d.2.1/\d.2.1<(b.length:Int):=λh5=>hr _ (by
   unfold iO;(repeat' split)<;>simp<;>omega)
  have hB:2<=d.1->d.1≠5->0<=d.2.2.1/\d.2.2.1<(b.length:Int):=λh2 h5=>hr _ (by
   unfold iO;(repeat' split)<;>simp<;>omega)
  have hC:d.1=4->0<=d.2.2.2.1/\d.2.2.2.1<(b.length:Int):=λh5=>hr _ (by
   unfold iO;(repeat' split)<;>simp<;>omega)
  have hg:∀ {j:Int},0<=j->j<(b.length:Int)->TL F E (aJ (T:=.sl (.int .i64)) c j):=λh0 h1=>hl _ (bJ (T:=.sl (.int .i64)) (xs:=c) h0 (by rw[I];exact h1))
  refine aX (λx=>x.2.1=b/\x.2.2.1=c/\x.2.2.2.1=d/\x.2.2.2.2.1=e/\TL F E x.1.2.2/\d.1≠5) ?_ ?_
  .refine aK (λ_=>ar ⟨rfl,rfl,rfl,hl⟩) λJ=>?_
   refine aK (λ_=>ar ⟨rfl,rfl,rfl,rfl,TL.nil E,J⟩) λn1=>?_
   dsimp only at n1 J;obtain⟨b0,b1⟩:=hB (by omega) J;refine aK (λ_=>?_) λn2=>?_
   .refine aS b0 b1 (aS b0 b1 (aR ?_));refine aS b0 (by dsimp only;rw[I];exact b1) (aS b0 (by dsimp only;rw[I];exact b1) (aR ?_));exact ar ⟨rfl,rfl,rfl,rfl,hg b0 b1,J⟩
   refine aK (λ_=>?_) λn3=>?_
   .refine ax (FG _) λy _=>?_
    refine aS b0 b1 (aS b0 b1 (aR ?_));refine ax (acs _) λy _=>?_
    refine aS b0 (by dsimp only;rw[I];exact b1) (aS b0 (by dsimp only;rw[I];exact b1) (aR ?_));exact ar ⟨rfl,rfl,rfl,rfl,hg b0 b1,J⟩
   dsimp only at n2 n3;obtain⟨c0,c1⟩:=hC (by omega);refine ax (FG _) λy _=>?_
   refine aS b0 b1 (aS b0 b1 (aR ?_));refine aS c0 c1 (aS c0 c1 (aR ?_));refine ax (ZS _) λy _=>?_
   refine aS b0 (by dsimp only;rw[I];exact b1) (aS b0 (by dsimp only;rw[I];exact b1) (aR ?_));refine aS c0 (by dsimp only;rw[I];exact c1) (aS c0 (by dsimp only;rw[I];exact c1) (aR ?_));have g1:=hg b0 b1;have g2:=hg c0 c1;refine aT (S_ _ _ (dh g1.len (by omega)) (dh g2.len (by omega))) ?_;exact ar ⟨rfl,rfl,rfl,rfl,g1.uni g2,J⟩
  rintro⟨⟨v,ok,tn⟩,b',c',d',e',e''⟩ ⟨Y,U,f3,f4,f5,f6⟩;dsimp only at Y U f3 f4 f5 f6;subst Y;subst U;subst f3;subst f4;obtain⟨a0,a1⟩:=hA f6;have ht:=f5.len;refine bh (by simp;omega) (by omega) ?_;refine aS a0 a1 (aS a0 a1 (aS a0 (by dsimp only;rw[I];exact a1) (aS a0 (by dsimp only;rw[I];exact a1) (ar ?_))));refine ⟨rfl,bV ..,bV ..,λl hm=>?_⟩;rcases CA hm with h|h
  .exact hl l h
  .rw[h];exact f5
theorem Zo (E:Nat) (Z:E<=100000) (c:Int×List IT) (hc:c.2.length<=1000000) (hv:VT c) (s:TT) (h:TH F E s):Ok (mZ (c,s)) λy=>TH F E y.1/\(y.1.2.1.length=0\/y.1.2.2.2=s.2.2.2):=by
 unfold mZ aZ bk bw bL dA cX bf bx iH je bB bA aY cK aE cE;have J:=h;obtain⟨h1,h2,h3,h4,h5⟩:=h;refine aX (λx=>x.2.1=c/\x.2.2.1=s/\(x.1=aj->(s.2.1.length:Int)=c.1/\(s.2.2.1.length:Int)=c.1)) ?_ ?_
 .refine ca (λ_=>ar ⟨rfl,rfl,λh=>(by cases h)⟩) λg=>ar ⟨rfl,rfl,λh=>?_⟩
  simp at h;exact⟨g,h⟩
 rintro⟨b,c',s',z⟩ ⟨e1,e2,e3⟩;dsimp only at e1 e2 e3;subst e1;subst e2;refine aP (λ_=>ar ⟨TH.zero E,.inl rfl⟩) λhb=>?_
 obtain⟨q1,q2⟩:=e3 hb;refine aT (dc s' E Z J) ?_;refine qc (λx=>((c'.2.length:Int)+1-x.1).toNat) (λx=>0<=x.1/\x.1<=(c'.2.length:Int)+1/\x.2.1=c'/\x.2.2.1.2=s'.2.2.2/\x.2.2.2.2.1.length=s'.2.1.length/\x.2.2.2.2.2.length=s'.2.2.1.length/\∀ l∈x.2.2.2.2.2,TL F E l) ?_ ⟨by dsimp only;omega,by dsimp only;omega,rfl,rfl,rfl,rfl,h3⟩;rintro⟨(n:Int),c,⟨(I:Int),ev⟩,z',R,T⟩ ⟨n0,n1,e1,e2,e3,e4,M⟩;dsimp only at n0 n1 e1 e2 e3 e4 M;subst e1;subst e2;refine eE (λg=>?_) λ_=>ar ⟨TH.zero E,.inl rfl⟩
 dsimp only[au] at g;refine aX (λx=>x.2=(c,(I,s'.2.2.2),z',R,T)/\(x.1=aj->0<=I/\I<(c.2.length:Int))) ?_ ?_
 .refine bF (λ_=>ar ⟨rfl,λh=>(by cases h)⟩) λg1=>ar ⟨rfl,λh=>?_⟩
  dsimp only at g1 h;rw[kf] at h;exact⟨g1,h⟩
 rintro⟨b',x⟩ ⟨f1,f2⟩;dsimp only at f1 f2;subst f1;refine aP (λ_=>ar ⟨TH.zero E,.inl rfl⟩) λhb=>?_
 obtain⟨p0,p1⟩:=f2 hb;refine aS p0 p1 (aR ?_);have hi:=hv.i _ (bJ (T:=BD) (xs:=c.2) (j:=I) p0 p1);revert hi;generalize (aJ (T:=BD) _ _)=i;intro hi;refine aT (Fv _) ?_;refine ca (λ_=>ar ⟨⟨by dsimp only;omega,by dsimp only;omega,M,h4,h5⟩,.inr rfl⟩) λhsil=>?_
 refine aK (λ_=>ar ⟨TH.zero E,.inl rfl⟩) λhn=>?_
 dsimp only[au] at hn;refine ax (XX E Z i (I,s'.2.2.2) R T (λj hj=>by have:=hi.r j hj;omega) hsil.1 hsil.2 (by omega) (by omega) M) λy hy=>?_
 obtain⟨⟨⟨pc',ev'⟩,ok⟩,R',T'⟩:=y;obtain⟨k1,k2,Y,U⟩:=hy;dsimp only at k1 k2 Y U;refine dx (lB Y.symm (dx (lB k2.symm (AQ ?_))));refine em (λ_=>ar ⟨TH.zero E,.inl rfl⟩) λ_=>ar ?_
 dsimp only;rw[hX (by omega) (by omega)];exact⟨⟨by omega,by omega,rfl,k1,by omega,by omega,U⟩,by omega⟩
abbrev ST:Type:=SY×List Int×List Int×List TT
structure TF (c:Int×List IT) (t:TT):Prop where
 p0:0<=t.1
 p1:t.1<(c.2.length:Int)
 r:(t.2.1.length:Int)=c.1
 t:(t.2.2.1.length:Int)=c.1
structure FSx (c:CT) (s:ST):Prop where
 vc:VC c
 cd:∀ d∈c.1.2.2.1,0<=d.2/\d.2<(c.1.2.1.length:Int)
 e3:s.1.2.2.2.length=c.1.2.2.2.2.1.length
 ce:s.2.1.length=c.1.1.length
 fu:s.2.2.1.length=c.1.2.2.2.1.length
 th:s.2.2.2.length=c.2.length
 t:∀ k:Nat,k<c.2.length->TF (aJ (T:=vZ) c.2 (k:Int)) (aJ (T:=uM) s.2.2.2 (k:Int))
def FQ (L:List ET) (k:Int) (y:Int):Prop:=1<=y/\K6 L k y
structure SV (n:Nat) (L:List ET) (s:ST):Prop where
 sb:SB n s.1
 ln:L.length=n
 t:∀ k:Nat,k<s.2.2.2.length->TH (FQ L k) n (aJ (T:=uM) s.2.2.2 (k:Int))
theorem SV.ti {n:Nat} {L:List ET} {s:ST} (h:SV n L s) {k:Int} (h0:0<=k) (h1:k<(s.2.2.2.length:Int)):TH (FQ L k) n (aJ (T:=uM) s.2.2.2 k):=by
 have:=h.t k.toNat (by omega);rw[show ((k.toNat:Nat):Int)=k by omega] at this;exact this
structure TG (c:CT) (L:List ET) (sy:SY) (k:Int) (t:TT):Prop where
 ev:t.2.2.2=((fl L k).length:Int)
 wi:(aJ (T:=jA) sy.2.2.2 k).1=3\/(aJ (T:=jA) sy.2.2.2 k).1=4->(aJ (T:=BD) (aJ (T:=vZ) c.2 k).2 t.1).1=21
 nw:(fl L k).length=0->(aJ (T:=jA) sy.2.2.2 k).1=0\/(aJ (T:=jA) sy.2.2.2 k).1=1
structure Lj (c:CT) (L:List ET) (s:ST):Prop where
 ac:Acw c.1 L s.1 s.2.1 s.2.2.1
 t:∀ k:Nat,k<s.2.2.2.length->(aJ (T:=uM) s.2.2.2 (k:Int)).2.1.length=0\/TG c L s.1 (k:Int) (aJ (T:=uM) s.2.2.2 (k:Int))
theorem af7 (c:CT) (s:ST) (hc:CB c):Ok (wy (c,s)) λb=>b=ai->FSx c s:=by
 unfold wy aZ bk dA cX bx iH je bA aY cK aE cE;refine aX (λx=>x.2=(c,s)/\(x.1=aj->VC c/\(∀ d∈c.1.2.2.1,0<=d.2/\d.2<(c.1.2.1.length:Int))/\s.1.2.2.2.length=c.1.2.2.2.2.1.length/\s.2.1.length=c.1.1.length/\s.2.2.1.length=c.1.2.2.2.1.length/\s.2.2.2.length=c.2.length)) ?_ ?_
 .refine ax (S9 c hc.th hc.ins) λb hb=>?_
  refine em (λ_=>ar ⟨rfl,λh=>(by cases h)⟩) λh=>?_
  have hv:=hb h;refine ax (PK c.1 s.1 (by have:=hv.vl.d;omega)) λb2 I=>?_
  refine em (λ_=>ar ⟨rfl,λh=>(by cases h)⟩) λh2=>?_
  obtain⟨J,_,_,Z⟩:=I h2;refine ca (λ_=>ar ⟨rfl,λh=>(by cases h)⟩) λk1=>?_
  refine ca (λ_=>ar ⟨rfl,λh=>(by cases h)⟩) λk2=>ar ⟨rfl,λU=>⟨hv,J,Z,?_,?_,?_⟩⟩
  .dsimp only[au] at k1;omega
  .dsimp only[au] at k2;omega
  .simp at U;omega
 rintro⟨b,x⟩ ⟨e,hb⟩;dsimp only at e hb;subst e;refine aP (λ_=>ar λh=>(by cases h)) λh=>?_
 obtain⟨hv,hcd,Y,hce,hfu,hth⟩:=hb h;have hcl:=hc.th;refine bZ c.2.length (λi x=>x.1=(i:Int)/\x.2=(c,s)/\∀ k:Nat,k<i->TF (aJ (T:=vZ) c.2 (k:Int)) (aJ (T:=uM) s.2.2.2 (k:Int))) ?_ ?_ ⟨rfl,rfl,λk hk=>by omega⟩
 .rintro i ⟨a,x⟩ hi ⟨e1,e2,e3⟩;dsimp only at e1 e2 e3;subst e1;subst e2;refine dk ?_;have hin:((i:Nat):Int)<(c.2.length:Int):=by omega
  refine b8 (aR ?_);refine aX (λx=>x.2=(c,s)/\(x.1=aj->TF (aJ (T:=vZ) c.2 (i:Int)) (aJ (T:=uM) s.2.2.2 (i:Int)))) ?_ ?_
  .refine bF (λ_=>ar ⟨rfl,λh=>(by cases h)⟩) λg0=>?_
   refine aS (by dsimp only;omega) hin (aR ?_);refine eE (λ_=>ar ⟨rfl,λh=>(by cases h)⟩) λJ=>?_
   refine aS (by dsimp only;omega) hin (aR ?_);refine ca (λ_=>ar ⟨rfl,λh=>(by cases h)⟩) λg2=>?_
   refine aS (by dsimp only;omega) hin (aR (ar ⟨rfl,λM=>⟨g0,J,g2,?_⟩⟩));simp at M;exact M
  rintro⟨b,x⟩ ⟨e,hb⟩;dsimp only at e hb;subst e;refine aP (λ_=>ar λh=>(by cases h)) λh=>ar ?_
  dsimp only;refine ⟨gI (by omega),rfl,λk hk=>?_⟩;rcases b9 k i with h1|h1
  .exact e3 k h1
  .rw[show k=i by omega];exact hb h
 .rintro⟨a,x⟩ ⟨e1,e2,e3⟩;dsimp only at e1 e2 e3;subst e1;subst e2;refine dg (ar λ_=>⟨hv,hcd,Y,hce,hfu,hth,e3⟩)
theorem ah8 {i:IT} (h:i.1=6\/i.1=7\/i.1=27\/i.1=10):i.2.1∈iO i:=by
 unfold iO;(repeat' split)<;>simp<;>omega
theorem ah7 {i:IT} (h:i.1=8\/i.1=9\/i.1=26):i.2.2.1∈iO i:=by
 unfold iO;(repeat' split)<;>simp<;>omega
theorem alv {i:IT} (h:i.1=7\/i.1=9):i.2.2.2.1∈iO i:=by
 unfold iO;(repeat' split)<;>simp<;>omega
structure KD (op k:Int):Prop where
 ld:k=3->op=6\/op=7
 st:k=4->op=8\/op=9
 br:k=5->op=10
 se:k=22->op=26
 ge:k=23->op=27
 e1:k=2->op=28
 n1:¬k=1
 n17:¬k=17
 wt:k=16->op=21
 e2:¬k=0->op=28->k=2
 d7:¬k=0->op=7->k=3
 d8:¬k=0->op=8->k=4
 d9:¬k=0->op=9->k=4
 d10:¬k=0->op=10->k=5
 d26:¬k=0->op=26->k=22
theorem aen (op:Int):Ok (wv op) λk=>KD op k:=by
 unfold wv bx kB aE;refine aX (λx=>x.2=[3,3,4,4,5,6,7,8,9,10,11,12,13,14,15,16,18,19,20,21,22,23,2]/\(x.1=aj->6<=op/\op<=28)) ?_ ?_
 .refine bF (λ_=>ar ⟨rfl,λh=>(by cases h)⟩) λg=>ar ⟨rfl,λh=>?_⟩
  dsimp only at h;rw[gk] at h;exact⟨g,h⟩
 rintro⟨b,x⟩ ⟨e,hb⟩;dsimp only at e hb;subst e;refine aP (λ_=>ar (by constructor<;>first|decide|(intro h;first|(exact (h rfl).elim)|(cases h;done)))) λh=>?_
 obtain⟨h1,h2⟩:=hb h;dsimp only;rw[hX (n:=op-6) (by omega) (by omega)];refine aS (by omega) (by simp;omega) (aS (by omega) (by simp;omega) (aR (ar ?_)));have:op=6\/op=7\/op=8\/op=9\/op=10\/op=11\/op=12\/op=13\/op=14\/op=15\/op=16\/op=17\/op=18\/op=19\/op=20\/op=21\/op=22\/op=23\/op=24\/op=25\/op=26\/op=27\/op=28:=by omega
 rcases this with rfl|rfl|rfl|rfl|rfl|rfl|rfl|rfl|rfl|rfl|rfl|rfl|rfl|rfl|rfl|rfl|rfl|rfl|rfl|rfl|rfl|rfl|rfl;all_goals (constructor<;>decide)
theorem Tj (a n:Int):Ok (rA (a,n)) λr=>n=2->r=0\/r=1:=by
 unfold rA bx bB aE;refine bF (λ_=>ar λh=>(by dsimp only at *;omega)) λh=>?_
 dsimp only at h;refine wj (by dsimp only;omega) ?_;have t1:=Int.tmod_lt_of_pos a (b:=n) (by omega);have I:=Int.lt_tmod_of_pos a (b:=n) (by omega);refine aX (λr=>n=2->r=0\/r=1) (bF (λg=>ar λh2=>?_) λg=>ar λh2=>?_) λ_ h=>ar h
 .dsimp only at g ⊢;rw[hX (by omega) (by omega)];omega
 .dsimp only at g ⊢;omega
theorem Qx (i:IT) (t:TT) (hr:∀ j∈iO i,0<=j/\j<(t.2.1.length:Int)):Ok (sr (i,t)) λo=>(i.1=7->i.2.2.1=3->i.2.2.2.2.1=2->o=3\/o=4)/\(i.1=9->i.2.1=3->i.2.2.2.2.1=2->o=3\/o=4):=by
 unfold sr aZ bk bw bf bA aE;have J:i.1=7\/i.1=9->0<=i.2.2.2.1/\i.2.2.2.1<(t.2.1.length:Int):=λh=>hr _ (by
  unfold iO;(repeat' split)<;>simp<;>omega)
 have M:∀ {o:Int},¬i.1=7->¬i.1=9->(i.1=7->i.2.2.1=3->i.2.2.2.2.1=2->o=3\/o=4)/\(i.1=9->i.2.1=3->i.2.2.2.2.1=2->o=3\/o=4):=λh1 h2=>⟨λh=>(h1 h).elim,λh=>(h2 h).elim⟩
 have wk:∀ {b r n:Int},b=3->n=2->(n=2->r=0\/r=1)->bc .i64 (b+r)=3\/bc .i64 (b+r)=4:=λh1 h2 I=>by
  have:=I h2;rw[hX (by omega) (by omega)];omega
 refine aX (λx=>x.2=(i,t)/\(x.1=ai->i.1=6\/i.1=27)) (aK (λh=>ar ⟨rfl,λ_=>.inl h⟩) λ_=>ar ⟨rfl,λh=>.inr (bn h)⟩) ?_;rintro⟨b,x⟩ ⟨e,hb⟩;dsimp only at e hb;subst e;refine aP (λh=>ar (M (by have:=hb h;omega) (by have:=hb h;omega))) λ_=>?_
 refine aK (λh=>?_) λU=>?_
 .exact aS (J (.inl h)).1 (J (.inl h)).2 (aR (ax (Tj _ _) λy Y=>ar ⟨λ_ I Z=>wk I Z Y,λh9=>by dsimp only at h;omega⟩))
 refine aK (λh=>?_) λn9=>?_
 .exact aS (J (.inr h)).1 (J (.inr h)).2 (aR (ax (Tj _ _) λy Y=>ar ⟨λh7=>(U h7).elim,λ_ I Z=>wk I Z Y⟩))
 refine aX (λ_=>True) ?_ λx _=>aP (λ_=>ar (M U n9)) λ_=>ar (M U n9)
 with_reducible repeat' first|(refine OS.ok ?_;constructor)|refine IM.mk λ_=>?_
 all_goals trivial
theorem ahq {w:WT} (I:w.1=C0) {b n:Int} (h:AR w b n):b=3/\n=2:=by
 obtain⟨b0,b1,ix,sz,sn⟩:=h;rw[I] at b1 ix sz sn;have b1:b<5:=b1;rcases (by omega:b=0\/b=1\/b=2\/b=3\/b=4) with rfl|rfl|rfl|rfl|rfl
 .exact (sz rfl).elim
 .exact (sz rfl).elim
 .exact (sz rfl).elim
 .exact⟨rfl,sn.symm⟩
 .exact cR ix (by decide)
theorem ah1 {w:WT} (I:w.1=C0) {o:Int} (h:o=3\/o=4):¬(aJ (T:=P1) w.1 o).2.2.1=0:=by
 rw[I];rcases h with rfl|rfl<;>decide
structure PE (n:Nat) (c:CT) (s:ST) (t:Int) (e:ET):Prop where
 fs:FSx c s
 t0:0<=t
 t1:t<(c.2.length:Int)
 et:e.1=t
 d:e.2.2.2.2.2.1.length<=n
 f:e.2.2.2.2.2.2.length<=n
 a:e.2.1=3\/e.2.1=23\/e.2.1=5->0<=(aJ (T:=BD) (aJ (T:=vZ) c.2 t).2 (aJ (T:=uM) s.2.2.2 t).1).2.1/\(aJ (T:=BD) (aJ (T:=vZ) c.2 t).2 (aJ (T:=uM) s.2.2.2 t).1).2.1<((aJ (T:=uM) s.2.2.2 t).2.1.length:Int)
 b:e.2.1=4\/e.2.1=22->0<=(aJ (T:=BD) (aJ (T:=vZ) c.2 t).2 (aJ (T:=uM) s.2.2.2 t).1).2.2.1/\(aJ (T:=BD) (aJ (T:=vZ) c.2 t).2 (aJ (T:=uM) s.2.2.2 t).1).2.2.1<((aJ (T:=uM) s.2.2.2 t).2.1.length:Int)
structure PS (c:CT) (L:List ET) (s:ST) (t:Int) (e:ET):Prop where
 tg:TG c L s.1 t (aJ (T:=uM) s.2.2.2 t)
 s1:e.2.1=1\/e.2.1=2->e.2.2.2.2.1= -1
 s2:¬(e.2.1=1\/e.2.1=2)->0<=e.2.2.2.2.1/\e.2.2.2.2.1<c.1.2.2.2.2.2.length/\(aJ (T:=x_) c.1.2.2.2.2.2 e.2.2.2.2.1).1=t
 de:0<e.2.2.2.2.2.1.length->e.2.1=5\/(e.2.1=3\/e.2.1=4)/\¬(aJ (T:=P1) c.1.1 e.2.2.1).2.2.1=0
 fr:0<e.2.2.2.2.2.2.length->e.2.1=4\/e.2.1=22
 da:Hx e.2.2.2.2.2.1
 dq:∀ y∈e.2.2.2.2.2.1,FQ L t y
 fa:Hx e.2.2.2.2.2.2
 fq:∀ y∈e.2.2.2.2.2.2,FQ L t y
 wt:e.2.1=16->(aJ (T:=BD) (aJ (T:=vZ) c.2 t).2 (aJ (T:=uM) s.2.2.2 t).1).1=21
theorem We (n:Nat) (hn:n<=100000) (c:CT) (L:List ET) (s:ST) (hc:CB c) (hs:SV n L s) (hI:Lj c L s) (t:Int):Ok (nI (c,s,t)) λy=>y.2=ai->PE n c s t y.1/\PS c L s t y.1:=by
 unfold nI aZ bk bw bL dA cX bf bx bB bA aY aE;refine aX (λx=>x.2.1=c/\x.2.2.1=s/\(x.1=aj->FSx c s/\0<=t/\t<(c.2.length:Int))) ?_ ?_
 .refine ax (af7 c s hc) λb hb=>?_
  refine em (λ_=>ar ⟨rfl,rfl,λh=>(by cases h)⟩) λh=>?_
  refine bF (λ_=>ar ⟨rfl,rfl,λh=>(by cases h)⟩) λg0=>ar ⟨rfl,rfl,λg1=>?_⟩
  dsimp only at g0 g1;rw[kf] at g1;exact⟨hb h,g0,g1⟩
 rintro⟨b,c',s',z⟩ ⟨e1,e2,hb⟩;dsimp only at e1 e2 hb;subst e1;subst e2;refine aP (λ_=>ar λh=>(by cases h)) λh=>?_
 obtain⟨hf,t0,t1⟩:=hb h;have hk:((t.toNat:Nat):Int)=t:=by omega
 have htf:=hf.t t.toNat (by omega);rw[hk] at htf;have hvt:=hf.vc.t _ (bJ (T:=vZ) (xs:=c'.2) (j:=t) t0 t1);have hth:=hs.ti t0 (by rw[hf.th];exact t1);have key:∀ e:ET,e.1=t->e.2.2.2.2.2.1.length<=n->e.2.2.2.2.2.2.length<=n->(e.2.1=1\/e.2.1=17\/KD (aJ (T:=BD) (aJ (T:=vZ) c'.2 t).2 (aJ (T:=uM) s'.2.2.2 t).1).1 e.2.1)->PE n c' s' t e:=by
  intro e h1 h2 h3 J;have hi:=hvt.i _ (bJ (T:=BD) (xs:=(aJ (T:=vZ) c'.2 t).2) (j:=(aJ (T:=uM) s'.2.2.2 t).1) htf.p0 htf.p1);refine ⟨hf,t0,t1,h1,h2,h3,λh5=>?_,λh5=>?_⟩
  .rw[htf.r];rcases J with J|J|J
   .omega
   .omega
   .refine hi.r _ ?_;have a1:=J.ld;have a2:=J.ge;have a3:=J.br;revert a1 a2 a3 h5;generalize (aJ (T:=BD) (aJ (T:=vZ) c'.2 t).2 (aJ (T:=uM) s'.2.2.2 t).1)=i;intro h5 a1 a2 a3;exact ah8 (by omega)
  .rw[htf.r];rcases J with J|J|J
   .omega
   .omega
   .refine hi.r _ ?_;have a1:=J.st;have a2:=J.se;revert a1 a2 h5;generalize (aJ (T:=BD) (aJ (T:=vZ) c'.2 t).2 (aJ (T:=uM) s'.2.2.2 t).1)=i;intro h5 a1 a2;exact ah7 (by omega)
 have hir:=(hvt.i _ (bJ (T:=BD) (xs:=(aJ (T:=vZ) c'.2 t).2) (j:=(aJ (T:=uM) s'.2.2.2 t).1) htf.p0 htf.p1)).r;rw[<- htf.r] at hir;have hrg:=hc.rg _ (bJ (T:=vZ) (xs:=c'.2) (j:=t) t0 t1);have htg:TG c' L s'.1 t (aJ (T:=uM) s'.2.2.2 t):=by
  have:=hI.t t.toNat (by rw[hf.th];omega);rw[hk] at this;refine this.resolve_left λh=>?_
  have:=htf.r;omega
 have hvj:=hf.vc.j t.toNat (by omega);rw[hk] at hvj;have hvj:=hvj _ (bJ (T:=BD) (xs:=(aJ (T:=vZ) c'.2 t).2) (j:=(aJ (T:=uM) s'.2.2.2 t).1) htf.p0 htf.p1);have hC0:=hc.wx.c;refine aS t0 (by dsimp only;rw[hf.th];exact t1) (aR ?_);refine aS t0 t1 (aR ?_);refine aS htf.p0 htf.p1 (aR ?_);have t4:t<(s'.1.2.2.2.length:Int):=by rw[hf.e3,<-hf.vc.tl];exact t1
 have tz:(aJ (T:=uM) s'.2.2.2 t).2.2.1.length=(aJ (T:=uM) s'.2.2.2 t).2.1.length:=by have:=htf.r;have:=htf.t;omega
 refine aS t0 t4 (aR ?_);refine aK (λ_=>ar λ_=>⟨key _ rfl (li _) (li _) (.inl rfl),⟨htg,λ_=>rfl,λh=>(h (.inl rfl)).elim,λh=>(by cases h),λh=>(by cases h),trivial,λy Z=>(by cases Z),trivial,λy Z=>(by cases Z),λh=>(by cases h)⟩⟩) λ_=>?_
 refine aK (λJ=>aS t0 t4 (aR (ar λ_=>⟨key _ rfl (li _) (li _) (.inr (.inl rfl)),⟨htg,λh=>(by rcases h with h|h<;>cases h),λ_=>hvj.si (by rw[htg.wi (.inr J)];decide),λh=>(by cases h),λh=>(by cases h),trivial,λy Z=>(by cases Z),trivial,λy Z=>(by cases Z),λh=>(by cases h)⟩⟩))) λ_=>?_
 refine aK (λ_=>?_) λ_=>ar λh=>(by cases h)
 refine ax (aen _) λk I=>?_
 refine ax (Qx _ _ hir) λo ho=>?_
 refine aK (λ_=>ar λh=>(by cases h)) λM=>?_
 have fin:∀ e:ET,e.1=t->e.2.1=k->e.2.2.1=o->e.2.2.2.2.1=(aJ (T:=BD) (aJ (T:=vZ) c'.2 t).2 (aJ (T:=uM) s'.2.2.2 t).1).2.2.2.2.2->(0<e.2.2.2.2.2.1.length->(aJ (T:=BD) (aJ (T:=vZ) c'.2 t).2 (aJ (T:=uM) s'.2.2.2 t).1).1=10\/(aJ (T:=BD) (aJ (T:=vZ) c'.2 t).2 (aJ (T:=uM) s'.2.2.2 t).1).1=7\/(aJ (T:=BD) (aJ (T:=vZ) c'.2 t).2 (aJ (T:=uM) s'.2.2.2 t).1).1=9)->(0<e.2.2.2.2.2.2.length->(aJ (T:=BD) (aJ (T:=vZ) c'.2 t).2 (aJ (T:=uM) s'.2.2.2 t).1).1=8\/(aJ (T:=BD) (aJ (T:=vZ) c'.2 t).2 (aJ (T:=uM) s'.2.2.2 t).1).1=9\/(aJ (T:=BD) (aJ (T:=vZ) c'.2 t).2 (aJ (T:=uM) s'.2.2.2 t).1).1=26)->TL (FQ L t) n e.2.2.2.2.2.1->TL (FQ L t) n e.2.2.2.2.2.2->PE n c' s' t e/\PS c' L s' t e:=by
  intro e h1 h2 h3 J h5 h6 h7 h8;refine ⟨key e h1 h7.len h8.len (.inr (.inr (h2▸I))),htg,λh=>?_,λh=>?_,λh=>?_,λh=>?_,h7.a,h7.f,h8.a,h8.f,λh=>I.wt (h2▸h)⟩
  .rw[J];rw[h2] at h;exact hvj.se (I.e1 (h.resolve_left I.n1))
  .rw[J];rw[h2] at h;exact hvj.si λh9=>h (.inr (I.e2 M h9))
  .rw[h2,h3];rcases h5 h with g|g|g
   .exact .inl (I.d10 M g)
   .obtain⟨q1,q2⟩:=ahq hC0 (hvj.a7 g);exact .inr ⟨.inl (I.d7 M g),ah1 hC0 (ho.1 g q1 q2)⟩
   .obtain⟨q1,q2⟩:=ahq hC0 (hvj.a9 g);exact .inr ⟨.inr (I.d9 M g),ah1 hC0 (ho.2 g q1 q2)⟩
  .rw[h2];rcases h6 h with g|g|g
   .exact .inl (I.d8 M g)
   .exact .inl (I.d9 M g)
   .exact .inr (I.d26 M g)
 clear key htg hvj ho hC0 hrg;revert fin htf hvt hth hir tz I;dsimp only;generalize (aJ (T:=uM) s'.2.2.2 t)=th;generalize (aJ (T:=BD) _ th.1)=i;intro htf hvt hth hir tz I fin;have hlen:∀ {j:Int},0<=j->j<(th.2.2.1.length:Int)->TL (FQ L t) n (aJ (T:=.sl (.int .i64)) th.2.2.1 j):=λh0 h1=>hth.l _ (bJ (T:=.sl (.int .i64)) (xs:=th.2.2.1) h0 h1)
 have hA:i.1=10->0<=i.2.1/\i.2.1<(th.2.2.1.length:Int):=λh=>by
  rw[tz];exact hir _ (ah8 (.inr (.inr (.inr h))))
 have hB:i.1=8\/i.1=9\/i.1=26->0<=i.2.2.1/\i.2.2.1<(th.2.2.1.length:Int):=λh=>by
  rw[tz];exact hir _ (ah7 (h))
 have hC:i.1=7\/i.1=9->0<=i.2.2.2.1/\i.2.2.2.1<(th.2.2.1.length:Int):=λh=>by
  rw[tz];exact hir _ (alv (h))
 refine aX (λx=>x.2.1=th/\x.2.2.1=i/\(x.2.2.2.1.1=t/\x.2.2.2.1.2.1=k/\x.2.2.2.1.2.2.1=o/\x.2.2.2.1.2.2.2.2=i.2.2.2.2.2)/\TL (FQ L t) n x.2.2.2.2/\(0<x.2.2.2.2.length->i.1=10\/i.1=7\/i.1=9)) ?_ ?_
 .refine aK (λh=>?_) λ_=>?_
  .obtain⟨a0,a1⟩:=hA h;refine aS a0 a1 (aR ?_);have:=hlen a0 a1;exact bh (dh this.len (by omega)) (by omega) (ar ⟨rfl,rfl,⟨rfl,rfl,rfl,rfl⟩,this,λ_=>.inl h⟩)
  refine aX (λx=>x.2.2.1=th/\x.2.2.2.1=i/\(x.2.2.2.2.1=t/\x.2.2.2.2.2.1=k/\x.2.2.2.2.2.2.1=o/\x.2.2.2.2.2.2.2.2=i.2.2.2.2.2)/\(x.1=ai->i.1=7\/i.1=9)) ?_ ?_
  .refine aK (λh=>ar ⟨rfl,rfl,⟨rfl,rfl,rfl,rfl⟩,λ_=>.inl h⟩) λ_=>ar ⟨rfl,rfl,⟨rfl,rfl,rfl,rfl⟩,λh=>.inr (bn h)⟩
  rintro⟨b,z0,th',Y,t',k',z1⟩ ⟨e1,e2,e3,U⟩;dsimp only at e1 e2 e3 U;subst e1;subst e2;refine aP (λh=>?_) λ_=>ar ⟨rfl,rfl,e3,TL.nil n,λh=>(by cases h)⟩
  obtain⟨a0,a1⟩:=hC (U h);refine aS a0 a1 (aR ?_);have:=hlen a0 a1;exact bh (dh this.len (by omega)) (by omega) (ar ⟨rfl,rfl,e3,this,λ_=>.inr (U h)⟩)
 rintro⟨z0,th',Y,⟨t',k',z1⟩,ds⟩ ⟨e1,e2,e3,hd,hd2⟩;dsimp only at e1 e2 e3 hd hd2;subst e1;subst e2;refine aX (λx=>(x.2.1.1=t/\x.2.1.2.1=k/\x.2.1.2.2.1=o/\x.2.1.2.2.2.2=Y.2.2.2.2.2)/\x.2.2.1=ds/\TL (FQ L t) n x.2.2.2/\(0<x.2.2.2.length->Y.1=8\/Y.1=9\/Y.1=26)) ?_ ?_
 .refine aX (λx=>x.2=(z0,th',Y,(t',k',z1),ds)/\(x.1=ai->Y.1=8\/Y.1=9\/Y.1=26)) ?_ ?_
  .exact aK (λh=>ar ⟨rfl,λ_=>.inl h⟩) λ_=>aK (λh=>ar ⟨rfl,λ_=>.inr (.inl h)⟩) λ_=>ar ⟨rfl,λh=>.inr (.inr (bn h))⟩
  rintro⟨b,x⟩ ⟨e,U⟩;dsimp only at e U;subst e;refine aP (λh=>?_) λ_=>ar ⟨e3,rfl,TL.nil n,λh=>(by cases h)⟩
  obtain⟨a0,a1⟩:=hB (U h);refine aS a0 a1 (aR ?_);have:=hlen a0 a1;exact bh (dh this.len (by omega)) (by omega) (ar ⟨e3,rfl,this,λ_=>U h⟩)
 rintro⟨z2,⟨t2,k2,o2,z3,si⟩,d2,f2⟩ ⟨e1,e2,h1,h2⟩;dsimp only at e1 e2 h1 h2;subst e2;obtain⟨g1,g2,g3,g4⟩:=e1;exact ar λ_=>fin _ g1 g2 g3 g4 hd2 h2 hd h1
theorem aig {n:Nat} {k:Int} (h0:0<=k) (h1:k<n):(aJ (T:=jA) (XU n) k).1=0\/(aJ (T:=jA) (XU n) k).1=1:=by
 have hm:=bJ (T:=jA) (xs:=XU n) h0 (by rw[HG];exact h1);revert hm;generalize aJ (T:=jA) (XU n) k=z;intro hm;cases n with
 |zero=>cases hm
 |succ n=>
  rcases bm.1 hm with rfl|hm
  .exact .inr rfl
  .rw[py hm];exact .inl rfl
theorem Wb (c:CT) (hvt:jD c=af ai) (hv:VC c):Ok (uh c) λs=>SV 0 [] s/\Lj c [] s:=by
 unfold uh aZ bk bw cA bL dA cX fk bx v7 bB bA aY cK aE cE;refine aT hvt (em (λh=>(by cases h)) λ_=>?_);obtain⟨vc,vl,vd,Z,_,Y,_⟩:=id hv.vl;have htl:=hv.tl;refine aT (KV c.1 hv.vl) ?_;refine bZ c.1.1.length (λi x=>x.1=(i:Int)/\x.2.1=c/\x.2.2.2.1=PN c.1/\x.2.2.2.2=(c.1.1.take i).map λc=>c.2.2.2.2) ?_ ?_ ⟨rfl,rfl,rfl,rfl⟩
 .rintro i ⟨a,c',z,U,l⟩ hi ⟨e1,e2,e3,I⟩;dsimp only at e1 e2 e3 I;subst e1;subst e2;subst e3;subst I;refine dk ?_;refine b8 (aR (bh (by simp;omega) (by omega) (ar ?_)));dsimp only;exact⟨gI (by omega),rfl,rfl,by rw[mH (T:=P1) hi,cC];rfl⟩
 rintro⟨a,c',z,U,l⟩ ⟨e1,e2,e3,I⟩;dsimp only at e1 e2 e3 I;subst e1;subst e2;subst e3;rw[cP] at I;subst I;refine dg ?_;refine ax (P:=λs=>SV 0 [] s/\Lj c' [] s) ?_ λr hr=>ar hr
 refine bZ c'.1.2.2.2.1.length (λi x=>x.1=(i:Int)/\x.2.1=c'/\x.2.2.2.1=PN c'.1/\x.2.2.2.2.1=ce0 c'.1/\x.2.2.2.2.2=aG i 0) ?_ ?_ ⟨rfl,rfl,rfl,rfl,rfl⟩
 .rintro i ⟨a,c,z,y,l,f⟩ hi ⟨e1,e2,e3,I,J⟩;dsimp only at e1 e2 e3 I J;subst e1;subst e2;subst e3;subst J;refine dk ?_;refine bh (by simp;omega) (by omega) (ar ?_);dsimp only;exact⟨gI (by omega),rfl,rfl,I,by rw[uK]⟩
 rintro⟨a,c,z,y,l,f⟩ ⟨e1,e2,e3,I,J⟩;dsimp only at e1 e2 e3 I J;subst e1;subst e2;subst e3;subst I;subst J;refine dg ?_;refine ax (P:=λs=>SV 0 [] s/\Lj c [] s) ?_ λr hr=>ar hr
 refine bZ c.2.length (λi x=>x.1=(i:Int)/\x.2.1=c/\x.2.2.2.1=PN c.1/\x.2.2.2.2.1=ce0 c.1/\x.2.2.2.2.2.1=fu0 c.1/\x.2.2.2.2.2.2.length=i/\∀ t∈x.2.2.2.2.2.2,(∀ F,TH F 0 t)/\t.2.2.2=0) ?_ ?_ ⟨rfl,rfl,rfl,rfl,rfl,rfl,λt ht=>(by cases ht)⟩
 .rintro i ⟨a,c,z,y,l,f,th⟩ hi ⟨e1,e2,e3,I,e4b,J,M⟩;dsimp only at e1 e2 e3 I e4b J M;subst e1;subst e2;subst e3;refine dk ?_;have hin:((i:Nat):Int)<(c.2.length:Int):=by omega
  have hvt:=hv.t _ (bJ (T:=vZ) (xs:=c.2) (j:=(i:Int)) (by omega) hin);have q0:=hvt.r0;have q1:=hvt.r1;refine aS (by dsimp only;omega) hin (aR ?_);refine dx (dx (eP q0 (eP (eT _) (bh (by dsimp only;omega) (by omega) ?_))));refine aS (by dsimp only;omega) hin (aR ?_);refine dx (dx (eP q0 (eP (eT _) (bh (by dsimp only;omega) (by omega) ?_))));refine bh (by simp;omega) (by omega) (ar ?_);dsimp only;refine ⟨gI (by omega),rfl,rfl,I,e4b,by simp;omega,λt ht=>?_⟩;rcases bQ.1 ht with h|h
  .exact M t h
  .rw[aL] at h;subst h;refine ⟨λF=>⟨?_,?_,λl hl=>?_,eT _,eT _⟩,rfl⟩
   .dsimp only;rw[eO];omega
   .dsimp only;rw[eO];omega
   .rw[py hl];exact TL.nil 0
 .rintro⟨a,c,z,y,l,f,th⟩ ⟨e1,e2,e3,I,e4b,J,M⟩;dsimp only at e1 e2 e3 I e4b J M;subst e1;subst e2;subst e3;subst I;subst e4b;refine dg (ar ?_);have hm:∀ k:Nat,k<th.length->_:=λk hk=>M _ (bJ (T:=uM) (xs:=th) (j:=(k:Int)) (by omega) (by omega))
  refine ⟨⟨T7 hv.vl,rfl,λk hk=>(hm k hk).1 _⟩,⟨.nil,λk hk=>.inr ?_⟩⟩;dsimp only at hk;have hst:=aig (n:=c.1.2.2.2.2.1.length) (k:=(k:Int)) (by omega) (by omega);exact⟨(hm k hk).2,λh=>(by rcases hst with q|q<;>rcases h with h|h<;>exact cR (q.symm.trans h) (by decide)),λ_=>hst⟩
theorem Ih {th:List (Int×Int×Bool)} {t x j:Int} (h0:0<=t) (h1:t<th.length) (hj:0<=j):(aJ (T:=jA) (ya th t x) j).1=if j=t then x else (aJ (T:=jA) th j).1:=by
 unfold ya;rw[rL (T:=jA) _ _ _ _ h0 h1 hj];split<;>rfl
theorem ahj {th:List (Int×Int×Bool)} {t x j:Int} (h0:0<=t) (h1:t<th.length) (hj:0<=j):(aJ (T:=jA) (cdP th t x) j).1=(aJ (T:=jA) th j).1:=by
 unfold cdP;rw[rL (T:=jA) _ _ _ _ h0 h1 hj];split
 .rename_i h;rw[h]
 .rfl
theorem ahp {th:List (Int×Int×Bool)} {t j:Int} {x:Bool} (h0:0<=t) (h1:t<th.length) (hj:0<=j):(aJ (T:=jA) (atP th t x) j).1=(aJ (T:=jA) th j).1:=by
 unfold atP;rw[rL (T:=jA) _ _ _ _ h0 h1 hj];split
 .rename_i h;rw[h]
 .rfl
theorem ahb {j:Int} (hj:0<=j):∀ (l:List Int) (th:List (Int×Int×Bool)),(∀ u:Int,u∈l->0<=u/\u<th.length)->(aJ (T:=jA) (CQ th l) j).1=if j∈l then 4 else (aJ (T:=jA) th j).1
 |[],th,_=>by simp[CQ]
 |x::r,th,h=>by
  have I:=h x (dj ..);have J:=ahb hj r (ya th x 4) λu hu=>by unfold ya;rw[bV];exact h u (cI _ hu)
  have e:CQ th (x::r)=CQ (ya th x 4) r:=rfl;rw[e,J,Ih I.1 I.2 hj];by_cases h1:j∈r
  .rw[aF h1,aF (cI _ h1)]
  .rw[ay h1];by_cases h2:j=x
   .rw[aF h2,aF (by rw[h2];exact dj ..)]
   .rw[ay h2,ay λh=>(bm.1 h).elim h2 h1]
theorem H0 {l:List Int} (u:Int) (hl:¬l.length=0):Bs l u∈l:=by
 unfold Bs;rw[ay hl];split
 .rename_i h;exact sZ.1 h
 .exact bJ (T:=.int .i64) (by omega) (by omega)
theorem SU {w:WT} {s:SY} {t k o u v:Int} {sy:SY} (h:(sy,v)=re w s t k o u):re w s t k o v=(sy,v):=by
 by_cases hk:k=18
 .subst hk;rw[Fr] at h ⊢;by_cases hl:(wl s.2.2.2 o s.2.2.2.length).length=0
  .rw[aF hl] at h ⊢;exact h.symm
  .rw[ay hl] at h ⊢;have hm:=H0 u hl;generalize wl s.2.2.2 o s.2.2.2.length=l at h hl hm ⊢;obtain⟨rfl,rfl⟩:=Prod.mk.inj h;have:Bs l (Bs l u)=Bs l u:=by
    rw[Bs,ay hl,aF (sZ.2 hm)]
   rw[this]
 .rw[XI _ _ _ _ _ _ u hk,<-h]
theorem ajd {w:WT} {s:SY} {t k o:Int} (u:Int) (he:EN w s t k o) (hr:Wd w s t k o) {j:Int} (h0:0<=j):(¬j=t->(aJ (T:=jA) (re w s t k o u).1.2.2.2 j).1=(aJ (T:=jA) s.2.2.2 j).1\/((aJ (T:=jA) s.2.2.2 j).1=3/\(aJ (T:=jA) (re w s t k o u).1.2.2.2 j).1=4)\/((aJ (T:=jA) s.2.2.2 j).1=0/\(aJ (T:=jA) (re w s t k o u).1.2.2.2 j).1=1))/\(j=t->¬k=16->¬(aJ (T:=jA) (re w s t k o u).1.2.2.2 j).1=3/\¬(aJ (T:=jA) (re w s t k o u).1.2.2.2 j).1=4):=by
 have t0:=he.t0;have t1:t<s.2.2.2.length:=by have:=he.t1;have:=he.e3;omega
 have M:=hr.r;have hml:∀ u:Int,u∈wl s.2.2.2 o s.2.2.2.length->0<=u/\u<s.2.2.2.length:=λu hu=>⟨(rj.1 hu).1,(rj.1 hu).2.1⟩
 have h3:∀ u:Int,u∈wl s.2.2.2 o s.2.2.2.length->(aJ (T:=jA) s.2.2.2 u).1=3:=λu hu=>by
  have:=(rj.1 hu).2.2;unfold H8 at this;rw[av] at this;exact bn this.1
 have same:¬k=1->¬k=17->∀ th:List (Int×Int×Bool),(aJ (T:=jA) th j).1=(aJ (T:=jA) s.2.2.2 j).1->(¬j=t->(aJ (T:=jA) th j).1=(aJ (T:=jA) s.2.2.2 j).1\/((aJ (T:=jA) s.2.2.2 j).1=3/\(aJ (T:=jA) th j).1=4)\/((aJ (T:=jA) s.2.2.2 j).1=0/\(aJ (T:=jA) th j).1=1))/\(j=t->¬k=16->¬(aJ (T:=jA) th j).1=3/\¬(aJ (T:=jA) th j).1=4):=λa b th h=>⟨λ_=>.inl h,λh2 _=>by rw[h,h2,M a b];decide⟩
 have st:∀ x:Int,¬x=3\/k=16->¬x=4->∀ th:List (Int×Int×Bool),(aJ (T:=jA) th j).1=(if j=t then x else (aJ (T:=jA) s.2.2.2 j).1)->(¬j=t->(aJ (T:=jA) th j).1=(aJ (T:=jA) s.2.2.2 j).1\/((aJ (T:=jA) s.2.2.2 j).1=3/\(aJ (T:=jA) th j).1=4)\/((aJ (T:=jA) s.2.2.2 j).1=0/\(aJ (T:=jA) th j).1=1))/\(j=t->¬k=16->¬(aJ (T:=jA) th j).1=3/\¬(aJ (T:=jA) th j).1=4):=λx hx hx4 th h=>⟨λhn=>.inl (by rw[h,ay hn]),λh2 h16=>by rw[h,aF h2];exact⟨hx.resolve_right h16,hx4⟩⟩
 have U:∀ x:Int,t<(ya s.2.2.2 t x).length:=λx=>by unfold ya;rw[bV];exact t1
 by_cases k1:k=1
 .subst k1;exact st 2 (.inl (by decide)) (by decide) _ (Ih t0 t1 h0)
 by_cases k2:k=2
 .subst k2;exact st 5 (.inl (by decide)) (by decide) _ (Ih t0 t1 h0)
 by_cases k16:k=16
 .subst k16;exact st 3 (.inr rfl) (by decide) _ ((ahj t0 (U _) h0).trans (Ih t0 t1 h0))
 by_cases I:k=17
 .subst I;exact st 2 (.inl (by decide)) (by decide) _ ((ahj t0 (U _) h0).trans (Ih t0 t1 h0))
 by_cases k14:k=14
 .subst k14;exact same k1 I _ (ahp t0 t1 h0)
 by_cases k15:k=15
 .subst k15;exact same k1 I _ (ahp t0 t1 h0)
 by_cases k18:k=18
 .subst k18;rw[Fr];by_cases hl:(wl s.2.2.2 o s.2.2.2.length).length=0
  .rw[aF hl];exact same k1 I _ rfl
  .rw[ay hl];have hc:=H0 u hl;have Y:=hml _ hc;have J:=h3 _ hc;dsimp only;rw[Ih Y.1 Y.2 h0];generalize Bs (wl s.2.2.2 o s.2.2.2.length) u=c at J;by_cases hj:j=c
   .rw[aF hj,hj];exact⟨λ_=>.inr (.inl ⟨J,rfl⟩),λh _=>by rw[h,M k1 I] at J;exact cR J (by decide)⟩
   .rw[ay hj];exact⟨λ_=>.inl rfl,λh _=>by rw[h,M k1 I];decide⟩
 by_cases k19:k=19
 .subst k19;show (_->(aJ (T:=jA) (CQ _ _) j).1=_\/_/\(aJ (T:=jA) (CQ _ _) j).1=_\/_/\(aJ (T:=jA) (CQ _ _) j).1=_)/\(_->_->¬(aJ (T:=jA) (CQ _ _) j).1=_/\¬(aJ (T:=jA) (CQ _ _) j).1=_)
  rw[ahb h0 _ _ hml];by_cases hj:j∈wl s.2.2.2 o s.2.2.2.length
  .rw[aF hj];have J:=h3 _ hj;exact⟨λ_=>.inr (.inl ⟨J,rfl⟩),λh _=>by rw[h,M k1 I] at J;exact cR J (by decide)⟩
  .rw[ay hj];exact⟨λ_=>.inl rfl,λh _=>by rw[h,M k1 I];decide⟩
 by_cases k20:k=20
 .subst k20;obtain⟨o0,o1⟩:=he.nm.th (.inl rfl);obtain⟨hot,ho0⟩:=hr.sp rfl;have Z:o<s.2.2.2.length:=by rw[he.e3];exact o1
  show (_->(aJ (T:=jA) (ya _ _ _) j).1=_\/_/\(aJ (T:=jA) (ya _ _ _) j).1=_\/_/\(aJ (T:=jA) (ya _ _ _) j).1=_)/\(_->_->¬(aJ (T:=jA) (ya _ _ _) j).1=_/\¬(aJ (T:=jA) (ya _ _ _) j).1=_)
  rw[Ih o0 Z h0];by_cases hj:j=o
  .rw[aF hj,hj];exact⟨λ_=>.inr (.inr ⟨ho0,rfl⟩),λh _=>(hot h).elim⟩
  .rw[ay hj];exact⟨λ_=>.inl rfl,λh _=>by rw[h,M k1 I];decide⟩
 refine same k1 I _ ?_;unfold re;rw[ay k1,ay k2];repeat' split
 all_goals first|rfl|omega
theorem af6 {e e':ET} (h1:e'.1=e.1) (h2:e'.2.1=e.2.1) (t:Int):fl [e'] t=fl [e] t:=by
 by_cases h:e.1=t
 .rw[zw h,zw (h1.trans h)];unfold tB;rw[h2]
 .rw[wO h,wO (λg=>h (h1.symm.trans g))]
theorem agu {L:List ET} {e e':ET} (h1:e'.1=e.1) (h2:e'.2.1=e.2.1) {k y:Int} (h:FQ (L++[e]) k y):FQ (L++[e']) k y:=by
 unfold FQ K6 at h ⊢;rw[uB,af6 h1 h2,<-uB];exact h
theorem Jh {T:Ty} (xs:List T.den) (i k:Nat) (x:T.den) (hi:i<xs.length):aJ (xs.set i x) (k:Int)=if k=i then x else aJ xs (k:Int):=by
 refine (rL xs (i:Int) (k:Int) x (by omega) (by omega) (by omega)).trans ?_;by_cases h:k=i
 .rw[aF h,aF (by omega)]
 .rw[ay h,ay (by omega)]
def SQ (n:Nat) (c:CT) (L:List ET) (y:ST×ET×Bool):Prop:=y.2.2=ai->SV (n+1) (L++[y.2.1]) y.1/\Lj c (L++[y.2.1]) y.1/\EvF c.1 y.2.1/\ZD y.2.1
theorem aga {n:Nat} (hn:n+1<=100000) {c:CT} {L:List ET} {s:ST} {i:Nat} {kd o v0 si:Int} {ds fs:List Int} {sy:SY} (hs:SV n L s) (hI:Lj c L s) (hp:PE n c s (i:Int) ((i:Int),kd,o,v0,si,ds,fs)) (hm:PS c L s (i:Int) ((i:Int),kd,o,v0,si,ds,fs)) (he:EN c.1 s.1 (i:Int) kd o) (hr:Wd c.1 s.1 (i:Int) kd o) (ha:AP n s.1 sy) (I:Int) (ce fu:List Int) (t':TT) (hap:(re c.1 s.1 (i:Int) kd o I).1=sy) (hva:VA c.1 s.1 s.2.1 s.2.2.1 (i:Int) kd o I) (hce:ce=Y6 s.2.1 ((i:Int),kd,o,I,si,ds,fs)) (hfu:fu=ZW s.2.2.1 ((i:Int),kd,o,I,si,ds,fs)) (ht:TH (FQ (L++[((i:Int),kd,o,v0,si,ds,fs)]) (i:Int)) (n+1) t') (hg:t'.2.1.length=0\/t'.2.2.2=bc .i64 ((aJ (T:=uM) s.2.2.2 (i:Int)).2.2.2+1)/\(kd=16->t'.1=(aJ (T:=uM) s.2.2.2 (i:Int)).1)):SQ n c L ((sy,ce,fu,s.2.2.2.set i t'),((i:Int),kd,o,I,si,ds,fs),ai):=by
 intro _;have q1:=hp.t1;have q2:=hp.fs.th;have q3:=hp.fs.e3;have q4:=hp.fs.vc.tl;have hil:i<s.2.2.2.length:=by omega
 have hln:=hs.ln;refine ⟨⟨ha.toSB hs.sb hn,by simp[hln],λk hk=>?_⟩,⟨?_,λk hk=>?_⟩,⟨he.nm,he.t0,he.t1,he.cd⟩,⟨dh hp.d (by omega),dh hp.f (by omega)⟩⟩
 .dsimp only at hk ⊢;rw[sO] at hk;rw[Jh (T:=uM) _ _ _ _ hil];split
  .rename_i h;subst h;exact ht.mono (bW _) λy J=>agu (e:=((k:Int),kd,o,v0,si,ds,fs)) (e':=((k:Int),kd,o,I,si,ds,fs)) rfl rfl J
  .exact (hs.t k hk).mono (by omega) λy J=>⟨J.1,J.2.app _⟩
 .rw[<- hap,hce,hfu];exact hI.ac.snoc (e:=((i:Int),kd,o,I,si,ds,fs)) ⟨he,hr,hm.s1,hm.s2,hm.de,hm.fr,⟨hm.da,λx U=>⟨(hm.dq x U).1,(hm.dq x U).2.lt⟩⟩,⟨hm.fa,λx U=>⟨(hm.fq x U).1,(hm.fq x U).2.lt⟩⟩,λy J=>(hm.dq y J).2,λy J=>(hm.fq y J).2,hva⟩
 .dsimp only at hk ⊢;rw[sO] at hk;rw[Jh (T:=uM) _ _ _ _ hil];obtain⟨Ii,st2⟩:=ajd I he hr (j:=(k:Int)) (by omega);rw[hap] at Ii st2;have hfl:=Xg L (i:Int);split
  .rename_i h;subst h;rcases hg with hg|⟨g1,g2⟩
   .exact .inl hg
   .refine .inr ⟨?_,λZ=>?_,λM=>?_⟩
    .rw[g1,hm.tg.ev,uB,zw rfl,gI (by omega)];simp
    .have Y:kd=16:=vF λh=>Z.elim (st2 rfl h).1 (st2 rfl h).2
     rw[g2 Y];exact hm.wt Y
    .rw[uB,zw rfl] at M;simp at M
  .rename_i h;have hki:¬(k:Int)=(i:Int):=by omega
   have hfo:∀ e:ET,e.1=(i:Int)->fl (L++[e]) (k:Int)=fl L (k:Int):=λe h=>by
    rw[uB,wO (by rw[h];exact λh=>hki h.symm),iU]
   have Ii:=Ii hki;refine (hI.t k hk).imp id λg=>⟨by rw[hfo _ rfl];exact g.ev,λZ=>g.wi (by
    rcases Ii with h1|⟨h1,_⟩|⟨_,h1⟩
    .rw[<- h1];exact Z
    .exact .inl h1
    .exact Z.elim (λh=>cR (h1.symm.trans h) (by decide)) λh=>cR (h1.symm.trans h) (by decide)),λM=>?_⟩
   rw[hfo _ rfl] at M;have g2:=g.nw M;rcases Ii with h1|⟨h1,_⟩|⟨_,h1⟩
   .rw[h1];exact g2
   .exact (g2.elim (λh=>cR (h1.symm.trans h) (by decide)) λh=>cR (h1.symm.trans h) (by decide))
   .exact .inr h1
theorem kn {α R:Type} (o:Option α):obind o (λ_=>(ah:Option R))=ah:=by cases o<;>rfl
theorem oO {R:Type} (b:Bool):chk b (λ_=>(ah:Option R))=ah:=by cases b<;>rfl
theorem rX {α R:Type} (x:α):lt x (λ_=>(ah:Option R))=ah:=rfl
def PR {R:Type} (o:Option R) (Q:R->Prop):Prop:=o=ah\/Ok o Q
theorem PR.or {R:Type} {a b:Option R} {Q:R->Prop} (I:PR a Q) (hb:PR b Q):PR (orE a b) Q:=by
 rcases I with rfl|⟨y,rfl,h⟩
 .exact hb
 .exact .inr ⟨y,rfl,h⟩
theorem Ok.orL {R:Type} {a b:Option R} {Q:R->Prop} (I:Ok a Q):Ok (orE a b) Q:=by
 obtain⟨y,rfl,h⟩:=I;exact⟨y,rfl,h⟩
theorem PR.orR {R:Type} {a b:Option R} {Q:R->Prop} (I:PR a Q) (hb:Ok b Q):Ok (orE a b) Q:=by
 rcases I with rfl|⟨y,rfl,h⟩
 .exact hb
 .exact⟨y,rfl,h⟩
theorem Ig {n:Nat} (hn:n+1<=100000) {c:CT} {L:List ET} {s:ST} {t u:Int} (hc:CB c) (hs:SV n L s) (U:Lj c L s) (G:Option (ST×ET×Bool)->Prop) (Y:∀ y,SQ n c L y->G (af y)) (k:ET×Bool->SY×Int×Bool->Option (ST×ET×Bool))
 (hk:∀ e v sy,PE n c s t e->PS c L s t e->EN c.1 s.1 t e.2.1 e.2.2.1->Wd c.1 s.1 t e.2.1 e.2.2.1->AP n s.1 sy->(sy,v)=re c.1 s.1 t e.2.1 e.2.2.1 u->G (k (e,ai) (sy,v,ai))):
 G (obind (nI (c,s,t)) λI=>bcase (!I.2) (af ((([],0,[],[]),[],[],[]),(0,0,0,0,0,[],[]),aj)) (obind (pi (c.1,s.1,t,I.1.2.1,I.1.2.2.1,u)) λJ=>bcase (!J.2.2) (af ((([],0,[],[]),[],[],[]),(0,0,0,0,0,[],[]),aj)) (k I J))):=by
 have M:=Y ((([],0,[],[]),[],[],[]),(0,0,0,0,0,[],[]),aj) λh=>(by cases h)
 obtain⟨⟨e,b⟩,h1,h2⟩:=We n (by omega) c L s hc hs U t;rw[h1,WY];cases b with
 |false=>exact M
 |true=>
  obtain⟨hp,hm⟩:=h2 rfl;have hcd:c.1.2.2.1.length<=1000:=by have:=hp.fs.vc.vl.d;omega
  obtain⟨⟨sy,v,b⟩,h3,Z,_,_⟩:=TA c.1 s.1 hs.sb hcd t e.2.1 e.2.2.1 u;have e0:∀ {R:Type} (a b:Option R),bcase (!ai) a b=b:=λ_ _=>rfl
  rw[e0,h3,WY];cases b with
  |false=>exact M
  |true=>
   obtain⟨g1,g2,g3,g4⟩:=Z rfl;exact hk e v sy hp hm g1 g2 g3 g4
theorem ZP {E:Nat} {L:List ET} (sy:SY) (ce fu:List Int) (a:TT) (h:SV E L (sy,ce,fu,[a])) (hce:ce.length<=1000) (hfu:fu.length<=1000):mY (sy,ce,fu,[a])=af ((sy.2.1,sy.1,sy.2.2.1,sy.2.2.2).1,(sy.2.1,sy.1,sy.2.2.1,sy.2.2.2).2.1,(sy.2.1,sy.1,sy.2.2.1,sy.2.2.2).2.2.1,(sy.2.1,sy.1,sy.2.2.1,sy.2.2.2).2.2.2,(([]:List Int)++ce),(([]:List Int)++fu),((a.1,a.2.2.2),a.2.1,a.2.2.1)):=by
 have J:=h.sb.n1;have I:TH (FQ L 0) E a:=h.t 0 (by simp);refine cB ?_;unfold mY aZ bL bx bB bA aY;refine aT (qS sy h.sb) ?_;refine bh (by simp;omega) (by omega) (bh (by simp;omega) (by omega) ?_);refine fI rfl (bg rfl (aR (aT (dc a E J I) ?_)));exact fJ rfl (ar rfl)
theorem Tv (sy:SY) (ce fu:List Int) (l:List TT) (h0:l.length<=4) (h:l.length≠1):mY (sy,ce,fu,l)=ah:=by
 unfold mY aZ bL bx bB bA aY;rcases l with _|⟨a,_|⟨b,_|⟨c,_|⟨d,_|⟨e,l⟩⟩⟩⟩⟩;all_goals first|(simp at h;done)|(exfalso;simp only[b7] at h0;omega)|simp[fQ,kn,oO,rX,bcT,bcF]
theorem ZO {E:Nat} {L:List ET} (sy:SY) (ce fu:List Int) (a b:TT) (h:SV E L (sy,ce,fu,[a,b])) (hce:ce.length<=1000) (hfu:fu.length<=1000):mX (sy,ce,fu,[a,b])=af ((sy.2.1,sy.1,sy.2.2.1,sy.2.2.2).1,(sy.2.1,sy.1,sy.2.2.1,sy.2.2.2).2.1,(sy.2.1,sy.1,sy.2.2.1,sy.2.2.2).2.2.1,(sy.2.1,sy.1,sy.2.2.1,sy.2.2.2).2.2.2,(([]:List Int)++ce),(([]:List Int)++fu),(((a.1,a.2.2.2),a.2.1,a.2.2.1).1.1,((a.1,a.2.2.2),a.2.1,a.2.2.1).1.2,((b.1,b.2.2.2),b.2.1,b.2.2.1).1.1,((b.1,b.2.2.2),b.2.1,b.2.2.1).2.1,((b.1,b.2.2.2),b.2.1,b.2.2.1).2.2,((b.1,b.2.2.2),b.2.1,b.2.2.1).1.2),((a.1,a.2.2.2),a.2.1,a.2.2.1).2):=by
 have I:=h.sb.n1;have J:TH (FQ L 0) E a:=h.t 0 (by simp);have hb:TH (FQ L 1) E b:=h.t 1 (by simp);refine cB ?_;unfold mX aZ bL bx bB bA aY;refine aT (qS sy h.sb) ?_;refine bh (by simp;omega) (by omega) (bh (by simp;omega) (by omega) ?_);refine fI rfl (bg rfl (aR (aT (dc a E I J) ?_)));refine fI rfl (bg rfl (aR (aT (dc b E I hb) ?_)));exact fJ rfl (ar rfl)
theorem Tu (sy:SY) (ce fu:List Int) (l:List TT) (h0:l.length<=4) (h:l.length≠2):mX (sy,ce,fu,l)=ah:=by
 unfold mX aZ bL bx bB bA aY;rcases l with _|⟨a,_|⟨b,_|⟨c,_|⟨d,_|⟨e,l⟩⟩⟩⟩⟩;all_goals first|(simp at h;done)|(exfalso;simp only[b7] at h0;omega)|simp[fQ,kn,oO,rX,bcT,bcF]
theorem ZN {E:Nat} {L:List ET} (sy:SY) (ce fu:List Int) (a b:TT) (h:SV E L (sy,ce,fu,[a,b])) (hce:ce.length<=1000) (hfu:fu.length<=1000):mW (sy,ce,fu,[a,b])=af ((sy.2.1,sy.1,sy.2.2.1,sy.2.2.2).1,(sy.2.1,sy.1,sy.2.2.1,sy.2.2.2).2.1,(sy.2.1,sy.1,sy.2.2.1,sy.2.2.2).2.2.1,(sy.2.1,sy.1,sy.2.2.1,sy.2.2.2).2.2.2,(([]:List Int)++ce),(([]:List Int)++fu),((((a.1,a.2.2.2),a.2.1,a.2.2.1).1.1,((a.1,a.2.2.2),a.2.1,a.2.2.1).2.1,((a.1,a.2.2.2),a.2.1,a.2.2.1).2.2,((a.1,a.2.2.2),a.2.1,a.2.2.1).1.2),((b.1,b.2.2.2),b.2.1,b.2.2.1).1),((b.1,b.2.2.2),b.2.1,b.2.2.1).2):=by
 have I:=h.sb.n1;have J:TH (FQ L 0) E a:=h.t 0 (by simp);have hb:TH (FQ L 1) E b:=h.t 1 (by simp);refine cB ?_;unfold mW aZ bL bx bB bA aY;refine aT (qS sy h.sb) ?_;refine bh (by simp;omega) (by omega) (bh (by simp;omega) (by omega) ?_);refine fI rfl (bg rfl (aR (aT (dc a E I J) ?_)));refine fI rfl (bg rfl (aR (aT (dc b E I hb) ?_)));exact fJ rfl (ar rfl)
theorem Tt (sy:SY) (ce fu:List Int) (l:List TT) (h0:l.length<=4) (h:l.length≠2):mW (sy,ce,fu,l)=ah:=by
 unfold mW aZ bL bx bB bA aY;rcases l with _|⟨a,_|⟨b,_|⟨c,_|⟨d,_|⟨e,l⟩⟩⟩⟩⟩;all_goals first|(simp at h;done)|(exfalso;simp only[b7] at h0;omega)|simp[fQ,kn,oO,rX,bcT,bcF]
theorem ZM {E:Nat} {L:List ET} (sy:SY) (ce fu:List Int) (a b c:TT) (h:SV E L (sy,ce,fu,[a,b,c])) (hce:ce.length<=1000) (hfu:fu.length<=1000):mV (sy,ce,fu,[a,b,c])=af ((sy.2.1,sy.1,sy.2.2.1,sy.2.2.2).1,(sy.2.1,sy.1,sy.2.2.1,sy.2.2.2).2.1,(sy.2.1,sy.1,sy.2.2.1,sy.2.2.2).2.2.1,(sy.2.1,sy.1,sy.2.2.1,sy.2.2.2).2.2.2,(([]:List Int)++ce),(([]:List Int)++fu),(((a.1,a.2.2.2),a.2.1,a.2.2.1).1.1,((a.1,a.2.2.2),a.2.1,a.2.2.1).1.2,(((b.1,b.2.2.2),b.2.1,b.2.2.1).1.1,((b.1,b.2.2.2),b.2.1,b.2.2.1).2.1,((b.1,b.2.2.2),b.2.1,b.2.2.1).2.2,((b.1,b.2.2.2),b.2.1,b.2.2.1).1.2),((c.1,c.2.2.2),c.2.1,c.2.2.1).1.1,((c.1,c.2.2.2),c.2.1,c.2.2.1).2.1,((c.1,c.2.2.2),c.2.1,c.2.2.1).2.2,((c.1,c.2.2.2),c.2.1,c.2.2.1).1.2),((a.1,a.2.2.2),a.2.1,a.2.2.1).2):=by
 have I:=h.sb.n1;have J:TH (FQ L 0) E a:=h.t 0 (by simp);have hb:TH (FQ L 1) E b:=h.t 1 (by simp);have hc:TH (FQ L 2) E c:=h.t 2 (by simp);refine cB ?_;unfold mV aZ bL bx bB bA aY;refine aT (qS sy h.sb) ?_;refine bh (by simp;omega) (by omega) (bh (by simp;omega) (by omega) ?_);refine fI rfl (bg rfl (aR (aT (dc a E I J) ?_)));refine fI rfl (bg rfl (aR (aT (dc b E I hb) ?_)));refine fI rfl (bg rfl (aR (aT (dc c E I hc) ?_)));exact fJ rfl (ar rfl)
theorem Ts (sy:SY) (ce fu:List Int) (l:List TT) (h0:l.length<=4) (h:l.length≠3):mV (sy,ce,fu,l)=ah:=by
 unfold mV aZ bL bx bB bA aY;rcases l with _|⟨a,_|⟨b,_|⟨c,_|⟨d,_|⟨e,l⟩⟩⟩⟩⟩;all_goals first|(simp at h;done)|(exfalso;simp only[b7] at h0;omega)|simp[fQ,kn,oO,rX,bcT,bcF]
theorem ZL {E:Nat} {L:List ET} (sy:SY) (ce fu:List Int) (a b c:TT) (h:SV E L (sy,ce,fu,[a,b,c])) (hce:ce.length<=1000) (hfu:fu.length<=1000):mU (sy,ce,fu,[a,b,c])=af ((sy.2.1,sy.1,sy.2.2.1,sy.2.2.2).1,(sy.2.1,sy.1,sy.2.2.1,sy.2.2.2).2.1,(sy.2.1,sy.1,sy.2.2.1,sy.2.2.2).2.2.1,(sy.2.1,sy.1,sy.2.2.1,sy.2.2.2).2.2.2,(([]:List Int)++ce),(([]:List Int)++fu),((((a.1,a.2.2.2),a.2.1,a.2.2.1).1.1,((a.1,a.2.2.2),a.2.1,a.2.2.1).2.1,((a.1,a.2.2.2),a.2.1,a.2.2.1).2.2,((a.1,a.2.2.2),a.2.1,a.2.2.1).1.2),((b.1,b.2.2.2),b.2.1,b.2.2.1).1.1,((b.1,b.2.2.2),b.2.1,b.2.2.1).1.2,((c.1,c.2.2.2),c.2.1,c.2.2.1).1.1,((c.1,c.2.2.2),c.2.1,c.2.2.1).2.1,((c.1,c.2.2.2),c.2.1,c.2.2.1).2.2,((c.1,c.2.2.2),c.2.1,c.2.2.1).1.2),((b.1,b.2.2.2),b.2.1,b.2.2.1).2):=by
 have I:=h.sb.n1;have J:TH (FQ L 0) E a:=h.t 0 (by simp);have hb:TH (FQ L 1) E b:=h.t 1 (by simp);have hc:TH (FQ L 2) E c:=h.t 2 (by simp);refine cB ?_;unfold mU aZ bL bx bB bA aY;refine aT (qS sy h.sb) ?_;refine bh (by simp;omega) (by omega) (bh (by simp;omega) (by omega) ?_);refine fI rfl (bg rfl (aR (aT (dc a E I J) ?_)));refine fI rfl (bg rfl (aR (aT (dc b E I hb) ?_)));refine fI rfl (bg rfl (aR (aT (dc c E I hc) ?_)));exact fJ rfl (ar rfl)
theorem Tr (sy:SY) (ce fu:List Int) (l:List TT) (h0:l.length<=4) (h:l.length≠3):mU (sy,ce,fu,l)=ah:=by
 unfold mU aZ bL bx bB bA aY;rcases l with _|⟨a,_|⟨b,_|⟨c,_|⟨d,_|⟨e,l⟩⟩⟩⟩⟩;all_goals first|(simp at h;done)|(exfalso;simp only[b7] at h0;omega)|simp[fQ,kn,oO,rX,bcT,bcF]
theorem ZK {E:Nat} {L:List ET} (sy:SY) (ce fu:List Int) (a b c:TT) (h:SV E L (sy,ce,fu,[a,b,c])) (hce:ce.length<=1000) (hfu:fu.length<=1000):mT (sy,ce,fu,[a,b,c])=af ((sy.2.1,sy.1,sy.2.2.1,sy.2.2.2).1,(sy.2.1,sy.1,sy.2.2.1,sy.2.2.2).2.1,(sy.2.1,sy.1,sy.2.2.1,sy.2.2.2).2.2.1,(sy.2.1,sy.1,sy.2.2.1,sy.2.2.2).2.2.2,(([]:List Int)++ce),(([]:List Int)++fu),((((a.1,a.2.2.2),a.2.1,a.2.2.1).1.1,((a.1,a.2.2.2),a.2.1,a.2.2.1).2.1,((a.1,a.2.2.2),a.2.1,a.2.2.1).2.2,((a.1,a.2.2.2),a.2.1,a.2.2.1).1.2),(((b.1,b.2.2.2),b.2.1,b.2.2.1).1.1,((b.1,b.2.2.2),b.2.1,b.2.2.1).2.1,((b.1,b.2.2.2),b.2.1,b.2.2.1).2.2,((b.1,b.2.2.2),b.2.1,b.2.2.1).1.2),((c.1,c.2.2.2),c.2.1,c.2.2.1).1),((c.1,c.2.2.2),c.2.1,c.2.2.1).2):=by
 have I:=h.sb.n1;have J:TH (FQ L 0) E a:=h.t 0 (by simp);have hb:TH (FQ L 1) E b:=h.t 1 (by simp);have hc:TH (FQ L 2) E c:=h.t 2 (by simp);refine cB ?_;unfold mT aZ bL bx bB bA aY;refine aT (qS sy h.sb) ?_;refine bh (by simp;omega) (by omega) (bh (by simp;omega) (by omega) ?_);refine fI rfl (bg rfl (aR (aT (dc a E I J) ?_)));refine fI rfl (bg rfl (aR (aT (dc b E I hb) ?_)));refine fI rfl (bg rfl (aR (aT (dc c E I hc) ?_)));exact fJ rfl (ar rfl)
theorem Tq (sy:SY) (ce fu:List Int) (l:List TT) (h0:l.length<=4) (h:l.length≠3):mT (sy,ce,fu,l)=ah:=by
 unfold mT aZ bL bx bB bA aY;rcases l with _|⟨a,_|⟨b,_|⟨c,_|⟨d,_|⟨e,l⟩⟩⟩⟩⟩;all_goals first|(simp at h;done)|(exfalso;simp only[b7] at h0;omega)|simp[fQ,kn,oO,rX,bcT,bcF]
theorem ZJ {E:Nat} {L:List ET} (sy:SY) (ce fu:List Int) (a b c d:TT) (h:SV E L (sy,ce,fu,[a,b,c,d])) (hce:ce.length<=1000) (hfu:fu.length<=1000):mS (sy,ce,fu,[a,b,c,d])=af ((sy.2.1,sy.1,sy.2.2.1,sy.2.2.2).1,(sy.2.1,sy.1,sy.2.2.1,sy.2.2.2).2.1,(sy.2.1,sy.1,sy.2.2.1,sy.2.2.2).2.2.1,(sy.2.1,sy.1,sy.2.2.1,sy.2.2.2).2.2.2,(([]:List Int)++ce),(([]:List Int)++fu),(((a.1,a.2.2.2),a.2.1,a.2.2.1).1.1,((a.1,a.2.2.2),a.2.1,a.2.2.1).1.2,(((b.1,b.2.2.2),b.2.1,b.2.2.1).1.1,((b.1,b.2.2.2),b.2.1,b.2.2.1).2.1,((b.1,b.2.2.2),b.2.1,b.2.2.1).2.2,((b.1,b.2.2.2),b.2.1,b.2.2.1).1.2),(((c.1,c.2.2.2),c.2.1,c.2.2.1).1.1,((c.1,c.2.2.2),c.2.1,c.2.2.1).2.1,((c.1,c.2.2.2),c.2.1,c.2.2.1).2.2,((c.1,c.2.2.2),c.2.1,c.2.2.1).1.2),((d.1,d.2.2.2),d.2.1,d.2.2.1).1.1,((d.1,d.2.2.2),d.2.1,d.2.2.1).2.1,((d.1,d.2.2.2),d.2.1,d.2.2.1).2.2,((d.1,d.2.2.2),d.2.1,d.2.2.1).1.2),((a.1,a.2.2.2),a.2.1,a.2.2.1).2):=by
 have I:=h.sb.n1;have J:TH (FQ L 0) E a:=h.t 0 (by simp);have hb:TH (FQ L 1) E b:=h.t 1 (by simp);have hc:TH (FQ L 2) E c:=h.t 2 (by simp);have hd:TH (FQ L 3) E d:=h.t 3 (by simp);refine cB ?_;unfold mS aZ bL bx bB bA aY;refine aT (qS sy h.sb) ?_;refine bh (by simp;omega) (by omega) (bh (by simp;omega) (by omega) ?_);refine fI rfl (bg rfl (aR (aT (dc a E I J) ?_)));refine fI rfl (bg rfl (aR (aT (dc b E I hb) ?_)));refine fI rfl (bg rfl (aR (aT (dc c E I hc) ?_)));refine fI rfl (bg rfl (aR (aT (dc d E I hd) ?_)));exact fJ rfl (ar rfl)
theorem Tp (sy:SY) (ce fu:List Int) (l:List TT) (h0:l.length<=4) (h:l.length≠4):mS (sy,ce,fu,l)=ah:=by
 unfold mS aZ bL bx bB bA aY;rcases l with _|⟨a,_|⟨b,_|⟨c,_|⟨d,_|⟨e,l⟩⟩⟩⟩⟩;all_goals first|(simp at h;done)|(exfalso;simp only[b7] at h0;omega)|simp[fQ,kn,oO,rX,bcT,bcF]
theorem ZI {E:Nat} {L:List ET} (sy:SY) (ce fu:List Int) (a b c d:TT) (h:SV E L (sy,ce,fu,[a,b,c,d])) (hce:ce.length<=1000) (hfu:fu.length<=1000):mR (sy,ce,fu,[a,b,c,d])=af ((sy.2.1,sy.1,sy.2.2.1,sy.2.2.2).1,(sy.2.1,sy.1,sy.2.2.1,sy.2.2.2).2.1,(sy.2.1,sy.1,sy.2.2.1,sy.2.2.2).2.2.1,(sy.2.1,sy.1,sy.2.2.1,sy.2.2.2).2.2.2,(([]:List Int)++ce),(([]:List Int)++fu),((((a.1,a.2.2.2),a.2.1,a.2.2.1).1.1,((a.1,a.2.2.2),a.2.1,a.2.2.1).2.1,((a.1,a.2.2.2),a.2.1,a.2.2.1).2.2,((a.1,a.2.2.2),a.2.1,a.2.2.1).1.2),((b.1,b.2.2.2),b.2.1,b.2.2.1).1.1,((b.1,b.2.2.2),b.2.1,b.2.2.1).1.2,(((c.1,c.2.2.2),c.2.1,c.2.2.1).1.1,((c.1,c.2.2.2),c.2.1,c.2.2.1).2.1,((c.1,c.2.2.2),c.2.1,c.2.2.1).2.2,((c.1,c.2.2.2),c.2.1,c.2.2.1).1.2),((d.1,d.2.2.2),d.2.1,d.2.2.1).1.1,((d.1,d.2.2.2),d.2.1,d.2.2.1).2.1,((d.1,d.2.2.2),d.2.1,d.2.2.1).2.2,((d.1,d.2.2.2),d.2.1,d.2.2.1).1.2),((b.1,b.2.2.2),b.2.1,b.2.2.1).2):=by
 have I:=h.sb.n1;have J:TH (FQ L 0) E a:=h.t 0 (by simp);have hb:TH (FQ L 1) E b:=h.t 1 (by simp);have hc:TH (FQ L 2) E c:=h.t 2 (by simp);have hd:TH (FQ L 3) E d:=h.t 3 (by simp);refine cB ?_;unfold mR aZ bL bx bB bA aY;refine aT (qS sy h.sb) ?_;refine bh (by simp;omega) (by omega) (bh (by simp;omega) (by omega) ?_);refine fI rfl (bg rfl (aR (aT (dc a E I J) ?_)));refine fI rfl (bg rfl (aR (aT (dc b E I hb) ?_)));refine fI rfl (bg rfl (aR (aT (dc c E I hc) ?_)));refine fI rfl (bg rfl (aR (aT (dc d E I hd) ?_)));exact fJ rfl (ar rfl)
theorem To (sy:SY) (ce fu:List Int) (l:List TT) (h0:l.length<=4) (h:l.length≠4):mR (sy,ce,fu,l)=ah:=by
 unfold mR aZ bL bx bB bA aY;rcases l with _|⟨a,_|⟨b,_|⟨c,_|⟨d,_|⟨e,l⟩⟩⟩⟩⟩;all_goals first|(simp at h;done)|(exfalso;simp only[b7] at h0;omega)|simp[fQ,kn,oO,rX,bcT,bcF]
theorem ZH {E:Nat} {L:List ET} (sy:SY) (ce fu:List Int) (a b c d:TT) (h:SV E L (sy,ce,fu,[a,b,c,d])) (hce:ce.length<=1000) (hfu:fu.length<=1000):mQ (sy,ce,fu,[a,b,c,d])=af ((sy.2.1,sy.1,sy.2.2.1,sy.2.2.2).1,(sy.2.1,sy.1,sy.2.2.1,sy.2.2.2).2.1,(sy.2.1,sy.1,sy.2.2.1,sy.2.2.2).2.2.1,(sy.2.1,sy.1,sy.2.2.1,sy.2.2.2).2.2.2,(([]:List Int)++ce),(([]:List Int)++fu),((((a.1,a.2.2.2),a.2.1,a.2.2.1).1.1,((a.1,a.2.2.2),a.2.1,a.2.2.1).2.1,((a.1,a.2.2.2),a.2.1,a.2.2.1).2.2,((a.1,a.2.2.2),a.2.1,a.2.2.1).1.2),(((b.1,b.2.2.2),b.2.1,b.2.2.1).1.1,((b.1,b.2.2.2),b.2.1,b.2.2.1).2.1,((b.1,b.2.2.2),b.2.1,b.2.2.1).2.2,((b.1,b.2.2.2),b.2.1,b.2.2.1).1.2),((c.1,c.2.2.2),c.2.1,c.2.2.1).1.1,((c.1,c.2.2.2),c.2.1,c.2.2.1).1.2,((d.1,d.2.2.2),d.2.1,d.2.2.1).1.1,((d.1,d.2.2.2),d.2.1,d.2.2.1).2.1,((d.1,d.2.2.2),d.2.1,d.2.2.1).2.2,((d.1,d.2.2.2),d.2.1,d.2.2.1).1.2),((c.1,c.2.2.2),c.2.1,c.2.2.1).2):=by
 have I:=h.sb.n1;have J:TH (FQ L 0) E a:=h.t 0 (by simp);have hb:TH (FQ L 1) E b:=h.t 1 (by simp);have hc:TH (FQ L 2) E c:=h.t 2 (by simp);have hd:TH (FQ L 3) E d:=h.t 3 (by simp);refine cB ?_;unfold mQ aZ bL bx bB bA aY;refine aT (qS sy h.sb) ?_;refine bh (by simp;omega) (by omega) (bh (by simp;omega) (by omega) ?_);refine fI rfl (bg rfl (aR (aT (dc a E I J) ?_)));refine fI rfl (bg rfl (aR (aT (dc b E I hb) ?_)));refine fI rfl (bg rfl (aR (aT (dc c E I hc) ?_)));refine fI rfl (bg rfl (aR (aT (dc d E I hd) ?_)));exact fJ rfl (ar rfl)
theorem Tn (sy:SY) (ce fu:List Int) (l:List TT) (h0:l.length<=4) (h:l.length≠4):mQ (sy,ce,fu,l)=ah:=by
 unfold mQ aZ bL bx bB bA aY;rcases l with _|⟨a,_|⟨b,_|⟨c,_|⟨d,_|⟨e,l⟩⟩⟩⟩⟩;all_goals first|(simp at h;done)|(exfalso;simp only[b7] at h0;omega)|simp[fQ,kn,oO,rX,bcT,bcF]
theorem ZG {E:Nat} {L:List ET} (sy:SY) (ce fu:List Int) (a b c d:TT) (h:SV E L (sy,ce,fu,[a,b,c,d])) (hce:ce.length<=1000) (hfu:fu.length<=1000):mP (sy,ce,fu,[a,b,c,d])=af ((sy.2.1,sy.1,sy.2.2.1,sy.2.2.2).1,(sy.2.1,sy.1,sy.2.2.1,sy.2.2.2).2.1,(sy.2.1,sy.1,sy.2.2.1,sy.2.2.2).2.2.1,(sy.2.1,sy.1,sy.2.2.1,sy.2.2.2).2.2.2,(([]:List Int)++ce),(([]:List Int)++fu),((((a.1,a.2.2.2),a.2.1,a.2.2.1).1.1,((a.1,a.2.2.2),a.2.1,a.2.2.1).2.1,((a.1,a.2.2.2),a.2.1,a.2.2.1).2.2,((a.1,a.2.2.2),a.2.1,a.2.2.1).1.2),(((b.1,b.2.2.2),b.2.1,b.2.2.1).1.1,((b.1,b.2.2.2),b.2.1,b.2.2.1).2.1,((b.1,b.2.2.2),b.2.1,b.2.2.1).2.2,((b.1,b.2.2.2),b.2.1,b.2.2.1).1.2),(((c.1,c.2.2.2),c.2.1,c.2.2.1).1.1,((c.1,c.2.2.2),c.2.1,c.2.2.1).2.1,((c.1,c.2.2.2),c.2.1,c.2.2.1).2.2,((c.1,c.2.2.2),c.2.1,c.2.2.1).1.2),((d.1,d.2.2.2),d.2.1,d.2.2.1).1),((d.1,d.2.2.2),d.2.1,d.2.2.1).2):=by
 have I:=h.sb.n1;have J:TH (FQ L 0) E a:=h.t 0 (by simp);have hb:TH (FQ L 1) E b:=h.t 1 (by simp);have hc:TH (FQ L 2) E c:=h.t 2 (by simp);have hd:TH (FQ L 3) E d:=h.t 3 (by simp);refine cB ?_;unfold mP aZ bL bx bB bA aY;refine aT (qS sy h.sb) ?_;refine bh (by simp;omega) (by omega) (bh (by simp;omega) (by omega) ?_);refine fI rfl (bg rfl (aR (aT (dc a E I J) ?_)));refine fI rfl (bg rfl (aR (aT (dc b E I hb) ?_)));refine fI rfl (bg rfl (aR (aT (dc c E I hc) ?_)));refine fI rfl (bg rfl (aR (aT (dc d E I hd) ?_)));exact fJ rfl (ar rfl)
theorem Tl (sy:SY) (ce fu:List Int) (l:List TT) (h0:l.length<=4) (h:l.length≠4):mP (sy,ce,fu,l)=ah:=by
 unfold mP aZ bL bx bB bA aY;rcases l with _|⟨a,_|⟨b,_|⟨c,_|⟨d,_|⟨e,l⟩⟩⟩⟩⟩;all_goals first|(simp at h;done)|(exfalso;simp only[b7] at h0;omega)|simp[fQ,kn,oO,rX,bcT,bcF]
theorem kdx (k:Int):k=1\/k=16\/k=2\/k=3\/k=23\/k=4\/k=22\/k=5\/((k=1)=False/\(k=16)=False/\(k=2)=False/\(k=3)=False/\(k=23)=False/\(k=4)=False/\(k=22)=False/\(k=5)=False):=by
 by_cases h:k=1\/k=16\/k=2\/k=3\/k=23\/k=4\/k=22\/k=5
 .omega
 .repeat (first|exact⟨eq_false (by omega),eq_false (by omega),eq_false (by omega),eq_false (by omega),eq_false (by omega),eq_false (by omega),eq_false (by omega),eq_false (by omega)⟩|refine Or.inr ?_)
def KR {Z:Type} (n:Nat) (I:CT) (L:List ET) (i:Nat) (u:Int) (l:List TT) (z:Z) (k:Int->(CT×SY×(Int×Int)×Int×(Int×Int×Int×Int×Int)×ET×(Int×Int)×(List Int)×(List Int)×Z×(List Int)×List (List Int))->Option (ST×ET×Bool)):Prop:=
 ∀ (F:Int->Prop) (p:Int) (sy:SY) (kd o v si:Int) (ds fs ce fu R:List Int) (T:List (List Int)) (ev:Int),
  (kd≠16->kd≠2->Ok (mZ (aJ (T:=vZ) I.2 (i:Int),(p,R,T,bc .i64 (ev+1)))) λy=>TH F (n+1) y.1/\(y.1.2.1.length=0\/y.1.2.2.2=bc .i64 (ev+1)))->
  (kd=16\/kd=2->TH F (n+1) (p,R,T,bc .i64 (ev+1)))->
  (∀ t',TH F (n+1) t'->(t'.2.1.length=0\/t'.2.2.2=bc .i64 (ev+1)/\(kd=16->t'.1=p))->SQ n I L ((sy,ce,fu,l.set i t'),((i:Int),kd,o,v,si,ds,fs),ai))->(i:Int)<(I.2.length:Int)->
  ∀ J,Ok (k p (I,sy,((i:Int),u),0,(0,0,0,0,0),((i:Int),kd,o,v,si,ds,fs),(J,ev),ce,fu,z,R,T)) (SQ n I L)
theorem Bu {Z:Type} (N i:Nat) {M:SY×(List Int)×(List Int)×List TT->Option (Int×(List (Int×List Int))×(List Bool)×(List (Int×Int×Bool))×(List Int)×(List Int)×Z×(List Int)×List (List Int))} {pc ev:Z->Int} {k:Int->(CT×SY×(Int×Int)×Int×(Int×Int×Int×Int×Int)×ET×(Int×Int)×(List Int)×(List Int)×Z×(List Int)×List (List Int))->Option (ST×ET×Bool)} {n:Nat} (hn:n+1<=100000) (I:CT) (L:List ET) (s:ST) (t u:Int) (hc:CB I) (hs:SV n L s) (hI:Lj I L s)
 (h0:∀ sy ce fu (l:List TT),l.length<=4->l.length≠N->M (sy,ce,fu,l)=ah)
 (h1:∀ sy ce fu (l:List TT),SV n L (sy,ce,fu,l)->ce.length<=1000->fu.length<=1000->l.length=N->i<N/\∃ y,M (sy,ce,fu,l)=af y/\y.2.2.2.2.1=ce/\y.2.2.2.2.2.1=fu/\y.2.2.2.2.2.2.2.1=(aJ (T:=uM) l (i:Int)).2.1/\y.2.2.2.2.2.2.2.2=(aJ (T:=uM) l (i:Int)).2.2.1/\pc y.2.2.2.2.2.2.1=(aJ (T:=uM) l (i:Int)).1/\ev y.2.2.2.2.2.2.1=(aJ (T:=uM) l (i:Int)).2.2.2/\KR n I L i u l y.2.2.2.2.2.2.1 k):
 PR (SG (i:Int) M pc ev k (I,s,t,u)) (SQ n I L)/\(s.2.2.2.length=N->t=(i:Int)->Ok (SG (i:Int) M pc ev k (I,s,t,u)) (SQ n I L)):=by
 by_cases hz:s.2.2.2.length=N/\t=(i:Int)
 .obtain⟨U,rfl⟩:=hz;suffices h:Ok (SG (i:Int) M pc ev k (I,s,(i:Int),u)) (SQ n I L) from ⟨.inr h,λ_ _=>h⟩
  unfold SG D' Prod.p11 Prod.p12 aZ bk bw cA dV kE Aa Cn Prod.q10 Prod.q11 Prod.q13 bL dA kD Prod.q9 ck bf bA kB aE;refine Ig hn hc hs hI (λo=>Ok o (SQ n I L)) (λy h=>ar h) _ λe v sy hp hm he hr ha hq=>?_
  obtain⟨sy0,ce,fu,l⟩:=s;obtain⟨e1,kd,o,e4,site,ds,fs⟩:=e;have het:=hp.et;dsimp only at U he hr ha hq het;subst het;have vl:=hp.fs.vc.vl;have hce:=hp.fs.ce;have hfu:=hp.fs.fu;dsimp only at hce hfu;obtain⟨hiN,⟨q1,q2,q3,q4,ce',fu',z,R0,T0⟩,hcp,g1,g2,g3,g4,hpc,hve,hk⟩:=h1 sy0 ce fu l hs (by have:=vl.c;omega) (by have:=vl.f;omega) U;dsimp only at g1 g2 g3 g4 hpc hve hk;rw[g1,g2,g3,g4] at hcp;obtain⟨_,_,nmce,_,_,_,nmfu,_,_,_⟩:=id he.nm;have t1:(i:Int)<(I.2.length:Int):=hp.t1;have htf:TF (aJ (T:=vZ) I.2 (i:Int)) (aJ (T:=uM) l (i:Int)):=hp.fs.t i (by omega);have hA:=hp.a;have Y:=hp.b;dsimp only at hA Y;have hvt:=hp.fs.vc.t _ (bJ (T:=vZ) (xs:=I.2) (j:=(i:Int)) (by omega) t1);have hci:=hc.ins _ (bJ (T:=vZ) (xs:=I.2) (j:=(i:Int)) (by omega) t1);have hth:TH (FQ L (i:Int)) n (aJ (T:=uM) l (i:Int)):=hs.t i (by dsimp only;omega);have done:=aga hn hs hI hp hm he hr ha;have htg:=hm.tg;have hrun:=hr.r;dsimp only at done htg;have hgv:kd=3\/kd=23->FQ (L++[((i:Int),kd,o,e4,site,ds,fs)]) (i:Int) (aJ (T:=uM) l (i:Int)).2.2.2:=λh3=>by
   have h2:=hrun (by omega) (by omega);have hn0:¬(fl L (i:Int)).length=0:=λh=>(htg.nw h).elim (λg=>cR (h2.symm.trans g) (by decide)) λg=>cR (h2.symm.trans g) (by decide)
   refine ⟨by rw[htg.ev];omega,K6.last (e:=((i:Int),kd,o,e4,site,ds,fs)) ?_ htg.ev⟩;unfold tB;rcases h3 with h|h
   .rw[aQ h];rfl
   .simp[h]
  have vaA:¬kd=3->¬kd=23->¬kd=5->VA I.1 sy0 ce fu (i:Int) kd o v:=λa b c=>⟨λh=>(a h).elim,λh=>(b h).elim,λh=>(c h).elim,λ_ _ _ _ _=>by rw[SU hq]⟩
  have apA:(re I.1 sy0 (i:Int) kd o v).1=sy:=by rw[SU hq]
  have apB:¬kd=18->∀ v',(re I.1 sy0 (i:Int) kd o v').1=sy:=λh v'=>by rw[XI _ _ _ _ _ _ u h,<-hq]
  have keep:∀ x∈(aJ (T:=uM) l (i:Int)).2.2.1,TL (FQ (L++[((i:Int),kd,o,e4,site,ds,fs)]) (i:Int)) (n+1) x:=λx hx=>(hth.l x hx).mono (by omega) λy J=>⟨J.1,J.2.app _⟩
  clear g3 g4 hm hI hrun htg;revert done hgv keep;generalize FQ (L++[((i:Int),kd,o,e4,site,ds,fs)]) (i:Int)=F;generalize aJ (T:=uM) l (i:Int)=th at hcp hpc hve htf hA Y hth ⊢;intro done hgv keep;refine aT hcp ?_;dsimp only;rw[hpc,hve];refine fI (aQ rfl) ?_;refine aS (by omega) t1 (aR (aS htf.p0 htf.p1 (aR ?_)));have htz:th.2.2.1.length=th.2.1.length:=by have:=htf.r;have:=htf.t;omega
  have fin:∀ (p:Int) (R:List Int) (T:List (List Int)),R.length=th.2.1.length->T.length=th.2.2.1.length->(∀ x∈T,TL F (n+1) x)->Ok (mZ (aJ (T:=vZ) I.2 (i:Int),(p,R,T,bc .i64 (th.2.2.2+1)))) λy=>TH F (n+1) y.1/\(y.1.2.1.length=0\/y.1.2.2.2=bc .i64 (th.2.2.2+1)):=λp R T h1 h2 h3=>by
   have a1:=hth.e0;have a2:=hth.e1;have a3:=hth.r;have a4:=hth.t;rw[hX (n:=th.2.2.2+1) (by omega) (by omega)];exact Zo (n+1) hn _ hci hvt _ ⟨by dsimp only;omega,by dsimp only;omega,h3,by dsimp only;omega,by dsimp only;omega⟩
  have mark:kd=3\/kd=23->∀ j:Int,∀ x∈cQ th.2.2.1 j [th.2.2.2],TL F (n+1) x:=λh3 j x hx=>by
   rcases CA hx with h|h
   .exact keep x h
   .rw[h];exact⟨⟨λy J=>(by cases J),trivial⟩,λy J=>by rw[aL] at J;have:=hth.e0;have:=hth.e1;rw[J];exact⟨by omega,by omega⟩,λy J=>by rw[aL] at J;rw[J];exact hgv h3⟩
  have nopark:TH F (n+1) (th.1,th.2.1,th.2.2.1,bc .i64 (th.2.2.2+1)):=by
   have a1:=hth.e0;have a2:=hth.e1;rw[hX (n:=th.2.2.2+1) (by omega) (by omega)];exact⟨hth.r,hth.t,keep,by dsimp only;omega,by dsimp only;omega⟩
  clear hp hs hc h0 h1 hcp g1 g2 hr ha hq he;generalize (aJ (T:=BD) (aJ (T:=vZ) I.2 (i:Int)).2 th.1)=ins at hA Y ⊢;rcases kdx kd with rfl|rfl|rfl|rfl|rfl|rfl|rfl|rfl|⟨k1,k2,k3,k4,k5,k6,k7,k8⟩
  case inr.inr.inr.inr.inr.inr.inr.inr=>
   simp only[k1,k2,k3,k4,k5,k6,k7,k8,aV,bp,s7];refine hk F _ _ _ _ _ _ _ _ _ _ _ _ _ (λ_ _=>fin _ _ _ rfl rfl keep) (λh=>by rw[k2,k3] at h;exact (h.elim id id).elim) (λt' h g=>?_) t1 _;exact done v ce fu t' apA (vaA (of_eq_false k4) (of_eq_false k5) (of_eq_false k8)) (ay (of_eq_false k6)).symm (ay (of_eq_false k7)).symm h (g.imp id λh=>⟨h.1,λh2=>(of_eq_false k2 h2).elim⟩)
  all_goals simp only[aV,bp,s7]
  .refine hk F _ _ _ _ _ _ _ _ _ _ _ _ _ (λ_ _=>fin _ _ _ rfl rfl keep) (λh=>by omega) (λt' h g=>?_) t1 _;exact done v ce fu t' apA (vaA (by decide) (by decide) (by decide)) rfl rfl h (g.imp id λh=>⟨h.1,λh2=>(by cases h2)⟩)
  .refine hk F _ _ _ _ _ _ _ _ _ _ _ _ _ (λh _=>(h rfl).elim) (λ_=>nopark) (λt' h g=>?_) t1 _;exact done v ce fu t' apA (vaA (by decide) (by decide) (by decide)) rfl rfl h g
  .refine hk F _ _ _ _ _ _ _ _ _ _ _ _ _ (λ_ h=>(h rfl).elim) (λ_=>nopark) (λt' h g=>?_) t1 _;exact done v ce fu t' apA (vaA (by decide) (by decide) (by decide)) rfl rfl h (g.imp id λh=>⟨h.1,λh2=>(by cases h2)⟩)
  .obtain⟨o0,o1⟩:=nmce (.inl rfl);rw[<- hce] at o1;obtain⟨a0,a1⟩:=hA (.inl rfl);have a2:ins.2.1<(th.2.2.1.length:Int):=by rw[htz];exact a1
   refine gB (aS o0 o1 (aS o0 o1 (ar ?_)));simp only[aV,bp,s7];refine gB (aS a0 a1 (aS a0 a1 (aS a0 a2 (aS a0 a2 (ar ?_)))));refine hk F _ _ _ _ _ _ _ _ _ _ _ _ _ (λ_ _=>fin _ _ _ (bV ..) (bV ..) (mark (.inl rfl) _)) (λh=>by omega) (λt' h g=>?_) t1 _;exact done _ ce fu t' (apB (by decide) _) ⟨λ_=>rfl,λh=>(by cases h),λh=>(by cases h),λh=>(h rfl).elim⟩ rfl rfl h (g.imp id λh=>⟨h.1,λh2=>(by cases h2)⟩)
  .obtain⟨o0,o1⟩:=nmfu (.inr rfl);rw[<- hfu] at o1;obtain⟨a0,a1⟩:=hA (.inr (.inl rfl));have a2:ins.2.1<(th.2.2.1.length:Int):=by rw[htz];exact a1
   refine gB (aS o0 o1 (aS o0 o1 (ar ?_)));simp only[aV,bp,s7];refine gB (aS a0 a1 (aS a0 a1 (aS a0 a2 (aS a0 a2 (ar ?_)))));refine hk F _ _ _ _ _ _ _ _ _ _ _ _ _ (λ_ _=>fin _ _ _ (bV ..) (bV ..) (mark (.inr rfl) _)) (λh=>by omega) (λt' h g=>?_) t1 _;exact done _ ce fu t' (apB (by decide) _) ⟨λh=>(by cases h),λ_=>rfl,λh=>(by cases h),λ_ h=>(h rfl).elim⟩ rfl rfl h (g.imp id λh=>⟨h.1,λh2=>(by cases h2)⟩)
  .obtain⟨o0,o1⟩:=nmce (.inr rfl);rw[<- hce] at o1;obtain⟨a0,a1⟩:=Y (.inl rfl);refine gB (aS a0 a1 (aS a0 a1 (aS o0 o1 (aS o0 o1 (ar ?_)))));simp only[aV,bp,s7];refine hk F _ _ _ _ _ _ _ _ _ _ _ _ _ (λ_ _=>fin _ _ _ rfl rfl keep) (λh=>by omega) (λt' h g=>?_) t1 _;exact done _ _ fu t' (apB (by decide) _) ⟨λh=>(by cases h),λh=>(by cases h),λh=>(by cases h),λ_ _ _ h=>(h rfl).elim⟩ rfl rfl h (g.imp id λh=>⟨h.1,λh2=>(by cases h2)⟩)
  .obtain⟨o0,o1⟩:=nmfu (.inl rfl);rw[<- hfu] at o1;obtain⟨a0,a1⟩:=Y (.inr rfl);refine gB (aS a0 a1 (aS a0 a1 (aS o0 o1 (aS o0 o1 (ar ?_)))));simp only[aV,bp,s7];refine hk F _ _ _ _ _ _ _ _ _ _ _ _ _ (λ_ _=>fin _ _ _ rfl rfl keep) (λh=>by omega) (λt' h g=>?_) t1 _;exact done _ ce _ t' (apB (by decide) _) ⟨λh=>(by cases h),λh=>(by cases h),λh=>(by cases h),λ_ _ _ _ h=>(h rfl).elim⟩ rfl rfl h (g.imp id λh=>⟨h.1,λh2=>(by cases h2)⟩)
  .obtain⟨a0,a1⟩:=hA (.inr (.inr rfl));refine gB (aS a0 a1 (aS a0 a1 (aK (λ_=>ar ?_) λ_=>ar ?_)));all_goals
    simp only[aV,bp,s7];refine hk F _ _ _ _ _ _ _ _ _ _ _ _ _ (λ_ _=>fin _ _ _ rfl rfl keep) (λh=>by omega) (λt' h g=>?_) t1 _;exact done _ ce fu t' (apB (by decide) _) ⟨λh=>(by cases h),λh=>(by cases h),λ_=>(by decide),λ_ _ h=>(h rfl).elim⟩ rfl rfl h (g.imp id λh=>⟨h.1,λh2=>(by cases h2)⟩)
 .refine ⟨?_,λh1 h2=>(hz ⟨h1,h2⟩).elim⟩;unfold SG D' Prod.p11 Prod.p12 aZ bk bw cA dV kE Aa Cn Prod.q10 Prod.q11 Prod.q13 bL dA kD Prod.q9 ck bf bA kB aE;refine Ig hn hc hs hI (λo=>PR o (SQ n I L)) (λy h=>.inr (ar h)) _ λe v sy hp _ _ _ _ _=>.inl ?_
  obtain⟨sy0,ce,fu,l⟩:=s;have vl:=hp.fs.vc.vl;by_cases hl:l.length=N
  .have ht:¬t=(i:Int):=λh=>hz ⟨hl,h⟩
   dsimp only;cases M (sy0,ce,fu,l) with
   |none=>rfl
   |some y=>rw[WY,bG ht];rfl
  .show obind (M (sy0,ce,fu,l)) _=ah;rw[h0 sy0 ce fu l (by have h1:l.length=I.2.length:=hp.fs.th;have:=hp.fs.vc.tl;have:=vl.t;omega) hl];rfl
theorem Bv {Z W V:Type} {n:Nat} {U:CT} {L:List ET} {i:Nat} {u:Int} {l:List TT} {z:Z} {t1:Z->List Int->List (List Int)->W} {J:W->V} {I:V->TT->List TT} (Y:∀ R T t',I (J (t1 z R T)) t'=l.set i t'):KR n U L i u l z (KG (i:Int) t1 J I):=by
 intro F p sy kd o v si ds fs ce fu R T ev fin park done ht pc;unfold KG D' aZ bk bw cA dV kE Aa Cn Prod.q10 Prod.q11 pZ bf je bA aE cE;dsimp only;have done:∀ t',TH F (n+1) t'->(t'.2.1.length=0\/t'.2.2.2=bc .i64 (ev+1)/\(kd=16->t'.1=p))->SQ n U L ((sy,ce,fu,I (J (t1 z R T)) t'),((i:Int),kd,o,v,si,ds,fs),ai):=λt' h g=>by rw[Y];exact done t' h g
 by_cases h1:kd=16
 .subst h1;exact gB (gB (fJ rfl (ar (fJ rfl (ar (fI (aQ rfl) (ar (done _ (park (.inl rfl)) (.inr ⟨rfl,λ_=>rfl⟩)))))))))
 by_cases h2:kd=2
 .subst h2;exact gB (gB (fI rfl (ar (fJ rfl (ar (fI (aQ rfl) (ar (done _ (park (.inr rfl)) (.inr ⟨rfl,λh=>(by cases h)⟩)))))))))
 rw[bG h1,bG h2];exact gB (gB (fI rfl (ar (fI rfl (aS (dS i) ht (aR (ax (fin h1 h2) λy M=>ar (fI (aQ rfl) (ar (done _ M.1 (M.2.imp id λh=>⟨h,λh2=>(h1 h2).elim⟩)))))))))))
theorem Zf {n:Nat} (hn:n+1<=100000) (I:CT) (L:List ET) (s:ST) (t u:Int) (hc:CB I) (hs:SV n L s) (J:Lj I L s):PR (mO (I,s,t,u)) (SQ n I L)/\(s.2.2.2.length=4->t=0->Ok (mO (I,s,t,u)) (SQ n I L)):=by
 refine Bu 4 0 hn I L s t u hc hs J Tp λsy ce fu l hs hce hfu hl=>⟨by decide,?_⟩
 obtain⟨a,b,c,d,rfl⟩:∃ a b c d,l=[a,b,c,d]:=by
  rcases l with _|⟨a,_|⟨b,_|⟨c,_|⟨d,_|⟨e,l⟩⟩⟩⟩⟩;all_goals first|exact⟨_,_,_,_,rfl⟩|(simp at hl;done)|(exfalso;simp only[b7] at hl;omega)
 refine ⟨_,ZJ sy ce fu a b c d hs hce hfu,rfl,rfl,rfl,rfl,rfl,rfl,Bv λR T t'=>rfl⟩
theorem Ze {n:Nat} (hn:n+1<=100000) (I:CT) (L:List ET) (s:ST) (t u:Int) (hc:CB I) (hs:SV n L s) (J:Lj I L s):PR (mN (I,s,t,u)) (SQ n I L)/\(s.2.2.2.length=4->t=1->Ok (mN (I,s,t,u)) (SQ n I L)):=by
 refine Bu 4 1 hn I L s t u hc hs J To λsy ce fu l hs hce hfu hl=>⟨by decide,?_⟩
 obtain⟨a,b,c,d,rfl⟩:∃ a b c d,l=[a,b,c,d]:=by
  rcases l with _|⟨a,_|⟨b,_|⟨c,_|⟨d,_|⟨e,l⟩⟩⟩⟩⟩;all_goals first|exact⟨_,_,_,_,rfl⟩|(simp at hl;done)|(exfalso;simp only[b7] at hl;omega)
 refine ⟨_,ZI sy ce fu a b c d hs hce hfu,rfl,rfl,rfl,rfl,rfl,rfl,Bv λR T t'=>rfl⟩
theorem Zd {n:Nat} (hn:n+1<=100000) (I:CT) (L:List ET) (s:ST) (t u:Int) (hc:CB I) (hs:SV n L s) (J:Lj I L s):PR (lw (I,s,t,u)) (SQ n I L)/\(s.2.2.2.length=4->t=2->Ok (lw (I,s,t,u)) (SQ n I L)):=by
 refine Bu 4 2 hn I L s t u hc hs J Tn λsy ce fu l hs hce hfu hl=>⟨by decide,?_⟩
 obtain⟨a,b,c,d,rfl⟩:∃ a b c d,l=[a,b,c,d]:=by
  rcases l with _|⟨a,_|⟨b,_|⟨c,_|⟨d,_|⟨e,l⟩⟩⟩⟩⟩;all_goals first|exact⟨_,_,_,_,rfl⟩|(simp at hl;done)|(exfalso;simp only[b7] at hl;omega)
 refine ⟨_,ZH sy ce fu a b c d hs hce hfu,rfl,rfl,rfl,rfl,rfl,rfl,Bv λR T t'=>rfl⟩
theorem Zc {n:Nat} (hn:n+1<=100000) (I:CT) (L:List ET) (s:ST) (t u:Int) (hc:CB I) (hs:SV n L s) (J:Lj I L s):PR (j8 (I,s,t,u)) (SQ n I L)/\(s.2.2.2.length=4->t=3->Ok (j8 (I,s,t,u)) (SQ n I L)):=by
 refine Bu 4 3 hn I L s t u hc hs J Tl λsy ce fu l hs hce hfu hl=>⟨by decide,?_⟩
 obtain⟨a,b,c,d,rfl⟩:∃ a b c d,l=[a,b,c,d]:=by
  rcases l with _|⟨a,_|⟨b,_|⟨c,_|⟨d,_|⟨e,l⟩⟩⟩⟩⟩;all_goals first|exact⟨_,_,_,_,rfl⟩|(simp at hl;done)|(exfalso;simp only[b7] at hl;omega)
 refine ⟨_,ZG sy ce fu a b c d hs hce hfu,rfl,rfl,rfl,rfl,rfl,rfl,Bv λR T t'=>rfl⟩
theorem Zi {n:Nat} (hn:n+1<=100000) (I:CT) (L:List ET) (s:ST) (t u:Int) (hc:CB I) (hs:SV n L s) (J:Lj I L s):PR (js (I,s,t,u)) (SQ n I L)/\(s.2.2.2.length=3->t=0->Ok (js (I,s,t,u)) (SQ n I L)):=by
 refine Bu 3 0 hn I L s t u hc hs J Ts λsy ce fu l hs hce hfu hl=>⟨by decide,?_⟩
 obtain⟨a,b,c,rfl⟩:∃ a b c,l=[a,b,c]:=by
  rcases l with _|⟨a,_|⟨b,_|⟨c,_|⟨d,_|⟨e,l⟩⟩⟩⟩⟩;all_goals first|exact⟨_,_,_,rfl⟩|(simp at hl;done)|(exfalso;simp only[b7] at hl;omega)
 refine ⟨_,ZM sy ce fu a b c hs hce hfu,rfl,rfl,rfl,rfl,rfl,rfl,Bv λR T t'=>rfl⟩
theorem Zh {n:Nat} (hn:n+1<=100000) (I:CT) (L:List ET) (s:ST) (t u:Int) (hc:CB I) (hs:SV n L s) (J:Lj I L s):PR (iI (I,s,t,u)) (SQ n I L)/\(s.2.2.2.length=3->t=1->Ok (iI (I,s,t,u)) (SQ n I L)):=by
 refine Bu 3 1 hn I L s t u hc hs J Tr λsy ce fu l hs hce hfu hl=>⟨by decide,?_⟩
 obtain⟨a,b,c,rfl⟩:∃ a b c,l=[a,b,c]:=by
  rcases l with _|⟨a,_|⟨b,_|⟨c,_|⟨d,_|⟨e,l⟩⟩⟩⟩⟩;all_goals first|exact⟨_,_,_,rfl⟩|(simp at hl;done)|(exfalso;simp only[b7] at hl;omega)
 refine ⟨_,ZL sy ce fu a b c hs hce hfu,rfl,rfl,rfl,rfl,rfl,rfl,Bv λR T t'=>rfl⟩
theorem Zg {n:Nat} (hn:n+1<=100000) (I:CT) (L:List ET) (s:ST) (t u:Int) (hc:CB I) (hs:SV n L s) (J:Lj I L s):PR (hY (I,s,t,u)) (SQ n I L)/\(s.2.2.2.length=3->t=2->Ok (hY (I,s,t,u)) (SQ n I L)):=by
 refine Bu 3 2 hn I L s t u hc hs J Tq λsy ce fu l hs hce hfu hl=>⟨by decide,?_⟩
 obtain⟨a,b,c,rfl⟩:∃ a b c,l=[a,b,c]:=by
  rcases l with _|⟨a,_|⟨b,_|⟨c,_|⟨d,_|⟨e,l⟩⟩⟩⟩⟩;all_goals first|exact⟨_,_,_,rfl⟩|(simp at hl;done)|(exfalso;simp only[b7] at hl;omega)
 refine ⟨_,ZK sy ce fu a b c hs hce hfu,rfl,rfl,rfl,rfl,rfl,rfl,Bv λR T t'=>rfl⟩
theorem Zk {n:Nat} (hn:n+1<=100000) (I:CT) (L:List ET) (s:ST) (t u:Int) (hc:CB I) (hs:SV n L s) (J:Lj I L s):PR (gD (I,s,t,u)) (SQ n I L)/\(s.2.2.2.length=2->t=0->Ok (gD (I,s,t,u)) (SQ n I L)):=by
 refine Bu 2 0 hn I L s t u hc hs J Tu λsy ce fu l hs hce hfu hl=>⟨by decide,?_⟩
 obtain⟨a,b,rfl⟩:∃ a b,l=[a,b]:=by
  rcases l with _|⟨a,_|⟨b,_|⟨c,_|⟨d,_|⟨e,l⟩⟩⟩⟩⟩;all_goals first|exact⟨_,_,rfl⟩|(simp at hl;done)|(exfalso;simp only[b7] at hl;omega)
 refine ⟨_,ZO sy ce fu a b hs hce hfu,rfl,rfl,rfl,rfl,rfl,rfl,Bv λR T t'=>rfl⟩
theorem Zj {n:Nat} (hn:n+1<=100000) (I:CT) (L:List ET) (s:ST) (t u:Int) (hc:CB I) (hs:SV n L s) (J:Lj I L s):PR (gf (I,s,t,u)) (SQ n I L)/\(s.2.2.2.length=2->t=1->Ok (gf (I,s,t,u)) (SQ n I L)):=by
 refine Bu 2 1 hn I L s t u hc hs J Tt λsy ce fu l hs hce hfu hl=>⟨by decide,?_⟩
 obtain⟨a,b,rfl⟩:∃ a b,l=[a,b]:=by
  rcases l with _|⟨a,_|⟨b,_|⟨c,_|⟨d,_|⟨e,l⟩⟩⟩⟩⟩;all_goals first|exact⟨_,_,rfl⟩|(simp at hl;done)|(exfalso;simp only[b7] at hl;omega)
 refine ⟨_,ZN sy ce fu a b hs hce hfu,rfl,rfl,rfl,rfl,rfl,rfl,Bv λR T t'=>rfl⟩
theorem Zl {n:Nat} (hn:n+1<=100000) (I:CT) (L:List ET) (s:ST) (t u:Int) (hc:CB I) (hs:SV n L s) (J:Lj I L s):PR (gg (I,s,t,u)) (SQ n I L)/\(s.2.2.2.length=1->t=0->Ok (gg (I,s,t,u)) (SQ n I L)):=by
 refine Bu 1 0 hn I L s t u hc hs J Tv λsy ce fu l hs hce hfu hl=>⟨by decide,?_⟩
 obtain⟨a,rfl⟩:∃ a,l=[a]:=by
  rcases l with _|⟨a,_|⟨b,_|⟨c,_|⟨d,_|⟨e,l⟩⟩⟩⟩⟩;all_goals first|exact⟨_,rfl⟩|(simp at hl;done)|(exfalso;simp only[b7] at hl;omega)
 refine ⟨_,ZP sy ce fu a hs hce hfu,rfl,rfl,rfl,rfl,rfl,rfl,Bv λR T t'=>rfl⟩
theorem Zm {n:Nat} (hn:n+1<=100000) (c:CT) (L:List ET) (s:ST) (t u:Int) (hc:CB c) (hs:SV n L s) (Z:Lj c L s):Ok (Ah (c,s,t,u)) (SQ n c L):=by
 unfold Ah;have I:=Zf hn c L s t u hc hs Z;have J:=Ze hn c L s t u hc hs Z;have M:=Zd hn c L s t u hc hs Z;have U:=Zc hn c L s t u hc hs Z;have Y:=Zi hn c L s t u hc hs Z;have a31:=Zh hn c L s t u hc hs Z;have a32:=Zg hn c L s t u hc hs Z;have a20:=Zk hn c L s t u hc hs Z;have a21:=Zj hn c L s t u hc hs Z;have a10:=Zl hn c L s t u hc hs Z;by_cases hz:s.2.2.2.length<=4/\0<=t/\t<(s.2.2.2.length:Int)
 .obtain⟨h1,h2,h3⟩:=hz;have:(s.2.2.2.length=4/\t=0)\/(s.2.2.2.length=4/\t=1)\/(s.2.2.2.length=4/\t=2)\/(s.2.2.2.length=4/\t=3)\/(s.2.2.2.length=3/\t=0)\/(s.2.2.2.length=3/\t=1)\/(s.2.2.2.length=3/\t=2)\/(s.2.2.2.length=2/\t=0)\/(s.2.2.2.length=2/\t=1)\/(s.2.2.2.length=1/\t=0):=by omega
  rcases this with h|h|h|h|h|h|h|h|h|h
  .exact (I.2 h.1 h.2).orL
  .exact I.1.orR (J.2 h.1 h.2).orL
  .exact I.1.orR (J.1.orR (M.2 h.1 h.2).orL)
  .exact I.1.orR (J.1.orR (M.1.orR (U.2 h.1 h.2).orL))
  .exact I.1.orR (J.1.orR (M.1.orR (U.1.orR (Y.2 h.1 h.2).orL)))
  .exact I.1.orR (J.1.orR (M.1.orR (U.1.orR (Y.1.orR (a31.2 h.1 h.2).orL))))
  .exact I.1.orR (J.1.orR (M.1.orR (U.1.orR (Y.1.orR (a31.1.orR (a32.2 h.1 h.2).orL)))))
  .exact I.1.orR (J.1.orR (M.1.orR (U.1.orR (Y.1.orR (a31.1.orR (a32.1.orR (a20.2 h.1 h.2).orL))))))
  .exact I.1.orR (J.1.orR (M.1.orR (U.1.orR (Y.1.orR (a31.1.orR (a32.1.orR (a20.1.orR (a21.2 h.1 h.2).orL)))))))
  .exact I.1.orR (J.1.orR (M.1.orR (U.1.orR (Y.1.orR (a31.1.orR (a32.1.orR (a20.1.orR (a21.1.orR (a10.2 h.1 h.2)))))))))
 .refine Ok.orL ?_;unfold mO aZ bk dA;refine Ig hn hc hs Z (λo=>Ok o (SQ n c L)) (λy h=>ar h) _ λe v sy hp _ _ _ _ _=>(hz ?_).elim
  have h1:s.2.2.2.length=c.2.length:=hp.fs.th;have h2:c.2.length=c.1.2.2.2.2.1.length:=hp.fs.vc.tl;have h3:c.1.2.2.2.2.1.length<=4:=hp.fs.vc.vl.t;have h4:0<=t:=hp.t0;have h5:t<(c.2.length:Int):=hp.t1;exact⟨by omega,h4,by omega⟩
theorem af4 (c:CT) (s:ST) (l:List (Int×Int)) (hc:CB c) (hs:SV 0 [] s) (hI:Lj c [] s) (hl:l.length<=9223372036854775806):Ok (ww (c,s,l)) λy=>y.1.length<=400/\(∀ e∈y.1,EvF c.1 e/\ZD e)/\∃ sy ce fu,Acw c.1 y.1 sy ce fu:=by
 unfold ww aZ bk dA bx bB bA aY cK aE cE;refine qc (λx=>((l.length:Int)-x.1).toNat) (λx=>0<=x.1/\x.2.2.1=c/\SV x.2.1.length x.2.1 x.2.2.2.1/\Lj c x.2.1 x.2.2.2.1/\x.2.1.length<=400/\∀ e∈x.2.1,EvF c.1 e/\ZD e) ?_ ⟨eT _,rfl,hs,hI,by simp,λe he=>(by cases he)⟩;rintro⟨(i:Int),es,c',s',z⟩ ⟨U,e1,e2,eI,e3,I⟩;dsimp only at U e1 e2 eI e3 I;subst e1;refine aX (λx=>x.2=(es,c',s',z)/\(x.1=ai->i<(l.length:Int)/\es.length<400)) ?_ ?_
 .refine bF (λg=>ar ⟨rfl,λh=>⟨g,?_⟩⟩) λ_=>ar ⟨rfl,λh=>(by cases h)⟩
  dsimp only at h;rw[tI] at h;dsimp only[au] at h;omega
 rintro⟨b,x⟩ ⟨Z,Y⟩;dsimp only at Z Y;subst Z;refine aP (λh=>?_) λ_=>ar ⟨e3,I,_,_,_,eI.ac⟩
 obtain⟨g1,g2⟩:=Y h;refine aX (λx=>x.2.1=c'/\SV x.1.length x.1 x.2.2.1/\Lj c' x.1 x.2.2.1/\x.1.length<=400/\∀ e∈x.1,EvF c'.1 e/\ZD e) ?_ ?_
 .refine aS U g1 (aR ?_);refine ax (Zm (n:=es.length) (by omega) c' es s' _ _ hc e2 eI) λy hy=>?_
  refine aP (λh=>?_) λ_=>ar ⟨rfl,e2,eI,e3,I⟩
  obtain⟨h1,hJ,h2,h3⟩:=hy h;refine bh (by simp;omega) (by omega) (ar ⟨rfl,?_,hJ,by simp;omega,λe he=>?_⟩)
  .dsimp only;rw[bu,dR];exact h1
  .rcases bQ.1 he with he|he
   .exact I e he
   .rw[aL] at he;subst he;exact⟨h2,h3⟩
 rintro⟨es',c2,s2,z2⟩ ⟨k1,k2,kI,M,J⟩;dsimp only at k1 k2 kI M J;subst k1;refine ar ?_;dsimp only;rw[hX (n:=i+1) (by omega) (by omega)];exact⟨⟨by omega,rfl,k2,kI,M,J⟩,by omega⟩
theorem CB.vc {c:CT} (hc:CB c):VC c:=by
 obtain⟨b,h1,h2⟩:=S9 c hc.th hc.ins;rw[hc.ok] at h1;cases h1;exact h2 rfl
theorem ajx (c:CT) (l:List (Int×Int)) (hc:CB c) (hl:l.length<=9223372036854775806):Ok (y_ (c,l)) λy=>TR y.1:=by
 unfold y_;refine aT hc.ok (em (λh=>(by cases h)) λ_=>?_);have hv:=hc.vc;refine ax (Wb c hc.ok hv) λs hs=>?_
 refine ax (af4 c s l hc hs.1 hs.2 hl) λy I=>ar ?_
 exact⟨hv.vl.wb,hv.vl,λe he=>(I.2.1 e he).1,by have:=I.1;dsimp only;omega,λe he=>(I.2.1 e he).2,hc.wx,I.2.2⟩
theorem Wk (l:List Int) (hl:l.length<=1000000):Ok (oM l) λy=>y.length=l.length:=by
 unfold oM bx bB bA aY cK aE cE;refine bZ l.length (λi x=>x.1=(i:Int)/\x.2.length=i) ?_ ?_ ⟨rfl,rfl⟩
 .rintro i ⟨a,b⟩ hi ⟨e1,e2⟩;dsimp only at e1 e2;subst e1;refine dk ?_;refine b8 (aR (b8 (aR (bh (by simp;omega) (by omega) (ar ?_)))));dsimp only;exact⟨gI (by omega),by simp;omega⟩
 .rintro⟨a,b⟩ ⟨e1,e2⟩;dsimp only at e1 e2;subst e1;exact dg (ar e2)
end
end Go.Proofs.YthehadcddfilhaaGreatDoor.AI
