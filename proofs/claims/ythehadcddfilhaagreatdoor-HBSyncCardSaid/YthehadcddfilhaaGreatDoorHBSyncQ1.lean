/-
  Texts of the proof, part 2 of 5: what is used to prove the statement. No condition.
-/
import Derived.Test.YthehadcddfilhaaGreatDoorHBSyncQ0
namespace Go.Proofs.YthehadcddfilhaaGreatDoor.AI
open Go.RowKit
set_option maxRecDepth 100000
set_option maxHeartbeats 4000000
set_option linter.unusedVariables false
set_option linter.unusedSimpArgs false
open _root_.Bool renaming true→ai,false→aj
open _root_.Int renaming ofNat_eq_natCast→au,ofNat→aO,reduceEq→aT,toNat→aU,reduceNeg→bp,toNat_natCast→gB
open _root_.List renaming length→al,replicate→aG,length_cons→bY,take→dM,length_singleton→eD,range→eS,cons_append→gi,length_nil→jS,take_succ_cons→vB,foldl_cons→E0
open _root_.Nat renaming beq→aC,blt→gf
open _root_.Option renaming some→af,none→ah,map_some→ca,getD_some→uE
open _root_.Prod renaming p2→aX,p3→bl,p4→bw,q3→bL,p5→cz,q5→cS,q4→dw,p6→ef,q6→fc,q7→ky,p7→kz,q8→pN,p8→zD,p9→BZ,p10→DB
open _root_.Sum renaming inr→bW,inl→nh
noncomputable section
abbrev Kd0:Ty:=(.st (.pr vz (.pr vz (.pr vz (.pr vz (.pr vz (.pr vz (.pr (.sl aN) (.pr vz (.sl aN))))))))))
abbrev Kd1:Ty:=(.st (.pr .bool .bool))
abbrev Yd0:=((List (List Int))×(List (List Int))×(List (List Int))×(List (List Int))×(List (List Int))×(List (List Int))×(List Int)×(List (List Int))×List Int)
abbrev Yd1:=((List Int)×(List (List Int))×(List (List Int))×(List (List Int))×(List (List Int))×(List (List Int))×(List (List Int))×(List (List Int))×(List Int)×List Int)
abbrev Yd2:=(Int×gA×(List Bool)×List du)
abbrev Yd3:=(Int×gI×gq×(List fe)×b_×b_×List (Int×Int×Int))
abbrev Yd4:=(dJ×Int×Int×Int×Int×Int×(List Int)×List Int)
abbrev Yd5:=(List (Int×Int))
abbrev Yd6:=(Int×(List Bool)×List du)
def LU {α R:Type} [DecidableEq α] (a b:α) (r:Option R):Option R:=if a=b then r else ah
theorem Pd {α R:Type} [DecidableEq α] (a b:α) (r:Option R):LU a b r=same a b r:=by unfold LU same;by_cases h:a=b<;>simp[h]
theorem Pc {α R:Type} [DecidableEq α] {a b:α} (h:a=b) (r:Option R):LU a b r=r:=by unfold LU;rw[aE h]
def jt (x:(List Int)×Int):Option (Int):=
 (jn (α:=Bool) (bz x.2 0 (aF ai) (aF (c5 (aZ x.1) x.2))) λI=>(bcase I (af 0) (vI x.2 x.1 (af (aJ (T:=aN) x.1 x.2)))))
def uT (it:zw) (x:(List Int)×List Int):Option (List Int):=
 (bF (c5 0 (ko (aZ x.1) (aZ x.2))&&c5 (ko (aZ x.1) (aZ x.2)) (ko (aZ x.1) (aZ x.2))&&bd (aU (ko (aZ x.1) (aZ x.2))) 8) (it (Int×List Int) _ (λI=>(bz I.1 (aO (al (aG (aU (ko (aZ x.1) (aZ x.2))) (0:Int)))) (obind (jt (x.1,I.1)) λM=>(obind (jt (x.2,I.1)) λJ=>(ck (fI I.1 (al I.2)) (cP ((cF I.1),(cO I.2 I.1 (ko M J))))))) (aF I.2))) (0,(aG (aU (ko (aZ x.1) (aZ x.2))) (0:Int)))))
def yz (x:(List Int)×List Int):Option (List Int):=uT @iter x
def ll (x:(List Int)×List Int):Option (List Int):=uT @gk x
def Nl (x:List Int):Option (List Int):=
 (bcase (aC (al x) 0) (EJ (af ([]:List Int)) (bF (bd (al ([]:List Int)+al x) 8) (af (([]:List Int)++x)))) (bF (bd (al ([]:List Int)+al x) 8) (af (([]:List Int)++x))))
def Bw (x:List Int):Option (List Int):=chk (bd (al x) 8) λ_=>af x
def xf (it:zw) (x:List (List Int)):Option (List (List Int)):=
 (bF (c5 0 (aZ x)&&c5 (aZ x) (aZ x)&&bd (aU (aZ x)) 24) (it (Int×List (List Int)) _ (λI=>(bz I.1 (aZ x) (vI I.1 x (obind (Bw (aJ (T:=(.sl aN)) x I.1)) λJ=>(ck (fI I.1 (al I.2)) (cP ((cF I.1),(cO I.2 I.1 J)))))) (aF I.2))) (0,(aG (aU (aZ x)) ([]:List Int)))))
def Bo (x:List (List Int)):Option (List (List Int)):=xf @iter x
def il (x:List (List Int)):Option (List (List Int)):=xf @gk x
def H5 (x:List Int):Option (List Int):=
 (bcase (aC (al x) 0) (EJ (af ([]:List Int)) (bF (bd (al ([]:List Int)+al x) 8) (af (([]:List Int)++x)))) (bF (bd (al ([]:List Int)+al x) 8) (af (([]:List Int)++x))))
def oP (x:List Int):Option (List Int):=chk (bd (al x) 8) λ_=>af x
def tX (x:(List (List Int))×(List (List Int))×(List (List Int))×(List (List Int))×(List (List Int))×(List (List Int))×(List Int)×(List (List Int))×List Int):Option ((List Int)×(List (List Int))×(List (List Int))×(List (List Int))×(List (List Int))×(List (List Int))×(List (List Int))×(List (List Int))×List Int):=
 (obind (il x.1) λy1=>(obind (il x.2.1) λy2=>(obind (il x.p2) λy3=>(obind (il x.p3) λZ=>(obind (il x.p4) λY=>(obind (il x.p5) λU=>(obind (oP x.p6) λM=>(obind (il x.p7) λJ=>(obind (oP x.q8) λI=>(af (M,y1,y2,y3,Z,Y,U,J,I)))))))))))
def tC (x:Int×List (List Int)):Option ((List Int)×List (List Int)):=
 (jn (α:=Bool×List (List Int)) (bz x.1 0 (aF (ai,x.2)) (aF ((c5 (aZ x.2) x.1),x.2))) λI=>(bcase I.1 (af (([]:List Int),I.2)) (ck (fI x.1 (al I.2)) (af ((aJ (T:=(.sl aN)) I.2 x.1),I.2)))))
def tZ (x:gH×(List Int)×dJ×(List (List Int))×(List (List Int))×(List (List Int))×(List (List Int))×(List (List Int))×(List (List Int))×(List (List Int))×List Int):Option ((List (List Int))×gH×(List Int)×dJ×(List (List Int))×(List (List Int))×(List (List Int))×(List (List Int))×(List (List Int))×(List (List Int))×(List (List Int))×List Int):=
 (bf x.1.2.1 1 (ck (fI x.1.1 (al x.p4)) (af ([(aJ (T:=(.sl aN)) x.p4 x.1.1)],(x.1.1,x.1.2.1,x.1.p2,x.1.p3,x.1.p4,x.1.p5,x.1.q6),x.2.1,(x.p2.1,x.p2.2.1,x.p2.p2,x.p2.p3,x.p2.p4,x.p2.q5),x.p3,x.p4,x.p5,x.p6,x.p7,x.p8,x.p9,x.q10))) (bf x.1.2.1 21 (ck (fI x.1.p2 (al x.p3)) (af ([(aJ (T:=(.sl aN)) x.p3 x.1.p2)],(x.1.1,x.1.2.1,x.1.p2,x.1.p3,x.1.p4,x.1.p5,x.1.q6),x.2.1,(x.p2.1,x.p2.2.1,x.p2.p2,x.p2.p3,x.p2.p4,x.p2.q5),x.p3,x.p4,x.p5,x.p6,x.p7,x.p8,x.p9,x.q10))) (jn (α:=Bool×gH×(List Int)×dJ×(List (List Int))×(List (List Int))×(List (List Int))×(List (List Int))×(List (List Int))×(List (List Int))×(List (List Int))×List Int) (bf x.1.2.1 6 (aF ((decide ((x.1.2.1:Int)=6)),(x.1.1,x.1.2.1,x.1.p2,x.1.p3,x.1.p4,x.1.p5,x.1.q6),x.2.1,(x.p2.1,x.p2.2.1,x.p2.p2,x.p2.p3,x.p2.p4,x.p2.q5),x.p3,x.p4,x.p5,x.p6,x.p7,x.p8,x.p9,x.q10)) (aF ((decide ((x.1.2.1:Int)=10)),(x.1.1,x.1.2.1,x.1.p2,x.1.p3,x.1.p4,x.1.p5,x.1.q6),x.2.1,(x.p2.1,x.p2.2.1,x.p2.p2,x.p2.p3,x.p2.p4,x.p2.q5),x.p3,x.p4,x.p5,x.p6,x.p7,x.p8,x.p9,x.q10))) λI=>(bcase I.1 (ck (fI I.2.1.p2 (al I.p6)) (ck (fI I.2.1.p2 (al I.p7)) (af ([(aJ (T:=(.sl aN)) I.p6 I.2.1.p2),(aJ (T:=(.sl aN)) I.p7 I.2.1.p2)],(I.2.1.1,I.2.1.2.1,I.2.1.p2,I.2.1.p3,I.2.1.p4,I.2.1.p5,I.2.1.q6),I.p2,(I.p3.1,I.p3.2.1,I.p3.p2,I.p3.p3,I.p3.p4,I.p3.q5),I.p4,I.p5,I.p6,I.p7,I.p8,I.p9,I.p10,I.q11)))) (bf x.1.2.1 8 (ck (fI I.2.1.p2 (al I.p6)) (af ([(aJ (T:=(.sl aN)) I.p6 I.2.1.p2)],(I.2.1.1,I.2.1.2.1,I.2.1.p2,I.2.1.p3,I.2.1.p4,I.2.1.p5,I.2.1.q6),I.p2,(I.p3.1,I.p3.2.1,I.p3.p2,I.p3.p3,I.p3.p4,I.p3.q5),I.p4,I.p5,I.p6,I.p7,I.p8,I.p9,I.p10,I.q11))) (bf x.1.2.1 17 (vI I.2.1.p2 I.p3.p2 (obind (tC ((aJ (T:=k_) I.p3.p2 I.2.1.p2).2,I.p6)) λM=>(bF (aC (al I.p6) (al M.2)&&ai) (obind (tC ((aJ (T:=k_) I.p3.p2 I.2.1.p2).2,I.p7)) λJ=>(bF (aC (al I.p7) (al J.2)&&ai) (ck (fI I.2.1.1 (al I.p10)) (af ([M.1,J.1,(aJ (T:=(.sl aN)) I.p10 I.2.1.1)],(I.2.1.1,I.2.1.2.1,I.2.1.p2,I.2.1.p3,I.2.1.p4,I.2.1.p5,I.2.1.q6),I.p2,(I.p3.1,I.p3.2.1,I.p3.p2,I.p3.p3,I.p3.p4,I.p3.q5),I.p4,I.p5,M.2,J.2,I.p8,I.p9,I.p10,I.q11)))))))) (bf x.1.2.1 3 (ck (fI I.2.1.p2 (al I.p8)) (af ([(aJ (T:=(.sl aN)) I.p8 I.2.1.p2)],(I.2.1.1,I.2.1.2.1,I.2.1.p2,I.2.1.p3,I.2.1.p4,I.2.1.p5,I.2.1.q6),I.p2,(I.p3.1,I.p3.2.1,I.p3.p2,I.p3.p3,I.p3.p4,I.p3.q5),I.p4,I.p5,I.p6,I.p7,I.p8,I.p9,I.p10,I.q11))) (bf x.1.2.1 23 (ck (fI I.2.1.p2 (al I.p9)) (af ([(aJ (T:=(.sl aN)) I.p9 I.2.1.p2)],(I.2.1.1,I.2.1.2.1,I.2.1.p2,I.2.1.p3,I.2.1.p4,I.2.1.p5,I.2.1.q6),I.p2,(I.p3.1,I.p3.2.1,I.p3.p2,I.p3.p3,I.p3.p4,I.p3.q5),I.p4,I.p5,I.p6,I.p7,I.p8,I.p9,I.p10,I.q11))) (bf x.1.2.1 12 (af ([I.p2],(I.2.1.1,I.2.1.2.1,I.2.1.p2,I.2.1.p3,I.2.1.p4,I.2.1.p5,I.2.1.q6),I.p2,(I.p3.1,I.p3.2.1,I.p3.p2,I.p3.p3,I.p3.p4,I.p3.q5),I.p4,I.p5,I.p6,I.p7,I.p8,I.p9,I.p10,I.q11)) (af (([]:List (List Int)),(I.2.1.1,I.2.1.2.1,I.2.1.p2,I.2.1.p3,I.2.1.p4,I.2.1.p5,I.2.1.q6),I.p2,(I.p3.1,I.p3.2.1,I.p3.p2,I.p3.p3,I.p3.p4,I.p3.q5),I.p4,I.p5,I.p6,I.p7,I.p8,I.p9,I.p10,I.q11)))))))))))
def zQ (it:zw) (x:gI×gq×(List fe)×b_×b_×List (Int×Int×Int)):Option Yd0:=
 (ck (c5 0 (aZ x.p4)&&c5 (aZ x.p4) (aZ x.p4)&&bd (aU (aZ x.p4)) 24) (ck (c5 0 (aZ x.2.1)&&c5 (aZ x.2.1) (aZ x.2.1)&&bd (aU (aZ x.2.1)) 24) (bF (c5 0 (aZ x.1)&&c5 (aZ x.1) (aZ x.1)&&bd (aU (aZ x.1)) 24) (bF (c5 0 (aZ x.p3)&&c5 (aZ x.p3) (aZ x.p3)&&bd (aU (aZ x.p3)) 24) (bF (c5 0 (aZ x.p4)&&c5 (aZ x.p4) (aZ x.p4)&&bd (aU (aZ x.p4)) 24) (bF (c5 0 (aZ x.p4)&&c5 (aZ x.p4) (aZ x.p4)&&bd (aU (aZ x.p4)) 8) (it (Int×(List (List Int))×(List (List Int))×(List (List Int))×(List (List Int))×(List (List Int))×(List (List Int))×(List (List Int))×List Int) _ (λI=>(bz I.1 (aO (al (aG (aU (aZ x.p4)) (0:Int)))) (ck (fI I.1 (al I.q8)) (cP ((cF I.1),I.2.1,I.p2,I.p3,I.p4,I.p5,I.p6,I.p7,(cO I.q8 I.1 (-1))))) (aF (I.2.1,I.p2,I.p3,I.p4,I.p5,I.p6,([]:List Int),I.p7,I.q8)))) (0,(aG (aU (aZ x.p4)) ([]:List Int)),(aG (aU (aZ x.p4)) ([]:List Int)),(aG (aU (aZ x.2.1)) ([]:List Int)),(aG (aU (aZ x.2.1)) ([]:List Int)),(aG (aU (aZ x.1)) ([]:List Int)),(aG (aU (aZ x.p3)) ([]:List Int)),(aG (aU (aZ x.p4)) ([]:List Int)),(aG (aU (aZ x.p4)) (0:Int))))))))))
def DV (x:gI×gq×(List fe)×b_×b_×List (Int×Int×Int)):Option Yd0:=zQ @iter x
def pB (x:gI×gq×(List fe)×b_×b_×List (Int×Int×Int)):Option Yd0:=zQ @gk x
def sa (x:(List Int)×Int):Option (List Int):=
 (jn (α:=Bool) (jz 0 x.2 (aF (fO x.2 4)) (aF aj)) λM=>(jn (α:=Int) (bcase M (aF (ko (aZ x.1) (cF x.2))) (aF (aZ x.1))) λI=>(bF (c5 0 I&&c5 I I&&bd (aU I) 8) (jn (α:=List Int) (jn (α:=Bool×List Int) (bcase M (ck (fI x.2 (al (Sn (aG (aU I) (0:Int)) x.1))) (aF ((fO (aJ (T:=aN) (Sn (aG (aU I) (0:Int)) x.1) x.2) 9223372036854775807),(Sn (aG (aU I) (0:Int)) x.1)))) (aF (aj,(Sn (aG (aU I) (0:Int)) x.1)))) λJ=>(bcase J.1 (ck (fI x.2 (al J.2)) (ck (fI x.2 (al J.2)) (aF (cO J.2 x.2 (bm .i64 ((aJ (T:=aN) J.2 x.2)+1)))))) (aF J.2))) λU=>(af U)))))
def vV (x:List Int):Option ((List Int)×List Int):=
 (bF (bd (al ([]:List Int)+al x) 8) (af ((([]:List Int)++x),x)))
def uM (x:List Int):Option (List Int):=obind (vV x) λy=>LU y.2 x (af y.1)
def Hg (it:zw) (x:(List Int)×List Int):Option ((List Int)×List Int):=
 (bF (c5 0 (ko (aZ x.1) (aZ x.2))&&c5 (ko (aZ x.1) (aZ x.2)) (ko (aZ x.1) (aZ x.2))&&bd (aU (ko (aZ x.1) (aZ x.2))) 8) (it (Int×(List Int)×List Int) _ (λI=>(bz I.1 (aO (al (aG (aU (ko (aZ x.1) (aZ x.2))) (0:Int)))) (obind (jt (x.1,I.1)) λM=>(obind (jt (I.2.1,I.1)) λJ=>(ck (fI I.1 (al I.2.2)) (cP ((cF I.1),I.2.1,(cO I.2.2 I.1 (ko M J))))))) (aF (I.2.2,I.2.1)))) (0,x.2,(aG (aU (ko (aZ x.1) (aZ x.2))) (0:Int)))))
def Ni (x:(List Int)×List Int):Option ((List Int)×List Int):=Hg @iter x
def s6 (x:(List Int)×List Int):Option ((List Int)×List Int):=Hg @gk x
def Bv (x:(List Int)×List Int):Option (List Int):=obind (s6 x) λy=>LU y.2 x.2 (af y.1)
def lB (x:Int×(List (List Int))×List Int):Option ((List (List Int))×List Int):=
 (jn (α:=Bool×(List (List Int))×List Int) (jz 0 x.1 (aF ((fO x.1 (aZ x.2.1)),x.2.1,x.2.2)) (aF (aj,x.2.1,x.2.2))) λI=>(bcase I.1 (ck (fI x.1 (al I.2.1)) (obind (Bv ((aJ (T:=(.sl aN)) I.2.1 x.1),I.2.2)) λJ=>(ck (fI x.1 (al I.2.1)) (af ((cO I.2.1 x.1 J),I.2.2))))) (af (I.2.1,I.2.2))))
def vQ (x:Int×(List Int)×(List (List Int))×(List (List Int))×(List (List Int))×(List (List Int))×(List (List Int))×(List (List Int))×(List (List Int))×(List Int)×List Int):Option Yd1:=
 (obind (uM x.q10) λI=>(ck (fI x.1 (al x.p8)) (ck (fI x.1 (al x.p9)) (af (x.2.1,x.p2,x.p3,x.p4,x.p5,x.p6,x.p7,(cO x.p8 x.1 I),(cO x.p9 x.1 (-1)),x.q10)))))
def zP (it:zw) (x:Yd4×(List Int)×(List (List Int))×(List (List Int))×(List (List Int))×(List (List Int))×(List (List Int))×(List (List Int))×(List (List Int))×(List Int)×List Int):Option Yd1:=
 (obind (uM x.q10) λy1=>(ck (fI x.1.2.1 (al x.p2)) (jn (α:=(List Int)×(List (List Int))×(List (List Int))×(List (List Int))×(List (List Int))×(List (List Int))×(List (List Int))×(List (List Int))×(List Int)×List Int) (bf x.1.p2 20 (obind (uM x.q10) λy3=>(ck (fI x.1.p3 (al x.p3)) (aF (x.2.1,(cO x.p2 x.1.2.1 y1),(cO x.p3 x.1.p3 y3),x.p4,x.p5,x.p6,x.p7,x.p8,x.p9,x.q10)))) (jn (α:=Bool×(List Int)×(List (List Int))×(List (List Int))×(List (List Int))×(List (List Int))×(List (List Int))×(List (List Int))×(List (List Int))×(List Int)×(List Int)×dJ×Int×Int×Int×Int×Int×(List Int)×List Int) (bf x.1.p2 7 (aF ((decide ((x.1.p2:Int)=7)),x.2.1,(cO x.p2 x.1.2.1 y1),x.p3,x.p4,x.p5,x.p6,x.p7,x.p8,x.p9,x.q10,(x.1.1.1,x.1.1.2.1,x.1.1.p2,x.1.1.p3,x.1.1.p4,x.1.1.q5),x.1.2.1,x.1.p2,x.1.p3,x.1.p4,x.1.p5,x.1.p6,x.1.q7)) (aF ((decide ((x.1.p2:Int)=11)),x.2.1,(cO x.p2 x.1.2.1 y1),x.p3,x.p4,x.p5,x.p6,x.p7,x.p8,x.p9,x.q10,(x.1.1.1,x.1.1.2.1,x.1.1.p2,x.1.1.p3,x.1.1.p4,x.1.1.q5),x.1.2.1,x.1.p2,x.1.p3,x.1.p4,x.1.p5,x.1.p6,x.1.q7))) λI=>(bcase I.1 (obind (lB (I.p14,I.p4,I.p10)) λy5=>(bF (aC (al I.p10) (al y5.2)&&(aC (al I.p4) (al y5.1)&&ai)) (aF (I.2.1,I.p2,I.p3,y5.1,I.p5,I.p6,I.p7,I.p8,I.p9,y5.2)))) (bf x.1.p2 9 (obind (lB (I.p14,I.p5,I.p10)) λy6=>(bF (aC (al I.p10) (al y6.2)&&(aC (al I.p5) (al y6.1)&&ai)) (aF (I.2.1,I.p2,I.p3,I.p4,y6.1,I.p6,I.p7,I.p8,I.p9,y6.2)))) (bf x.1.p2 16 (ck (fI I.p12 (al I.p9)) (vI I.p14 I.p11.p2 (obind (lB ((aJ (T:=k_) I.p11.p2 I.p14).2,I.p4,I.p10)) λy7=>(bF (aC (al I.p10) (al y7.2)&&(aC (al I.p4) (al y7.1)&&ai)) (aF (I.2.1,I.p2,I.p3,y7.1,I.p5,I.p6,I.p7,I.p8,(cO I.p9 I.p12 I.p14),y7.2)))))) (bf x.1.p2 4 (vI I.p14 I.p11.1 (bcase (((((aJ (T:=kx) I.p11.1 I.p14).2).2).2).1) (obind (lB (I.p14,I.p6,I.p10)) λy8=>(bF (aC (al I.p10) (al y8.2)&&(aC (al I.p6) (al y8.1)&&ai)) (aF (I.2.1,I.p2,I.p3,I.p4,I.p5,y8.1,I.p7,I.p8,I.p9,y8.2)))) (aF (I.2.1,I.p2,I.p3,I.p4,I.p5,I.p6,I.p7,I.p8,I.p9,I.p10)))) (bf x.1.p2 22 (obind (lB (I.p14,I.p7,I.p10)) λy9=>(bF (aC (al I.p10) (al y9.2)&&(aC (al I.p7) (al y9.1)&&ai)) (aF (I.2.1,I.p2,I.p3,I.p4,I.p5,I.p6,y9.1,I.p8,I.p9,y9.2)))) (bf x.1.p2 13 (obind (Bv (I.2.1,I.p10)) λy10=>(aF (y10,I.p2,I.p3,I.p4,I.p5,I.p6,I.p7,I.p8,I.p9,I.p10))) (bf x.1.p2 18 (jn (α:=Bool×(List Int)×(List (List Int))×(List (List Int))×(List (List Int))×(List (List Int))×(List (List Int))×(List (List Int))×(List (List Int))×(List Int)×(List Int)×Int×Int×Int×Int×Int×(List Int)×List Int) (jz 0 I.p15 (aF ((fO I.p15 (aZ I.p8)),I.2.1,I.p2,I.p3,I.p4,I.p5,I.p6,I.p7,I.p8,I.p9,I.p10,I.p12,I.p13,I.p14,I.p15,I.p16,I.p17,I.q18)) (aF (aj,I.2.1,I.p2,I.p3,I.p4,I.p5,I.p6,I.p7,I.p8,I.p9,I.p10,I.p12,I.p13,I.p14,I.p15,I.p16,I.p17,I.q18))) λM=>(bcase M.1 (obind (vQ (M.p14,M.2.1,M.p2,M.p3,M.p4,M.p5,M.p6,M.p7,M.p8,M.p9,M.p10)) λY=>(bF (aC (al M.p10) (al Y.q9)&&(aC (al M.p9) (al Y.p8)&&(aC (al M.p8) (al Y.p7)&&(aC (al M.p7) (al Y.p6)&&(aC (al M.p6) (al Y.p5)&&(aC (al M.p5) (al Y.p4)&&(aC (al M.p4) (al Y.p3)&&(aC (al M.p3) (al Y.p2)&&(aC (al M.p2) (al Y.2.1)&&ai))))))))) (aF (Y.1,Y.2.1,Y.p2,Y.p3,Y.p4,Y.p5,Y.p6,Y.p7,Y.p8,Y.q9)))) (aF (M.2.1,M.p2,M.p3,M.p4,M.p5,M.p6,M.p7,M.p8,M.p9,M.p10)))) (bf x.1.p2 19 (it (Int×(List Int)×(List (List Int))×(List (List Int))×(List (List Int))×(List (List Int))×(List (List Int))×(List (List Int))×(List (List Int))×(List Int)×(List Int)×Int×Int×Int×Int×Int×(List Int)×List Int) _ (λJ=>(bz J.1 (aZ I.p9) (jn (α:=(List Int)×(List (List Int))×(List (List Int))×(List (List Int))×(List (List Int))×(List (List Int))×(List (List Int))×(List (List Int))×(List Int)×(List Int)×Int×Int×Int×Int×Int×(List Int)×List Int) (ck (fI J.1 (al J.p9)) (bf (aJ (T:=aN) J.p9 J.1) J.p13 (obind (vQ (J.1,J.2.1,J.p2,J.p3,J.p4,J.p5,J.p6,J.p7,J.p8,J.p9,J.p10)) λU=>(bF (aC (al J.p10) (al U.q9)&&(aC (al J.p9) (al U.p8)&&(aC (al J.p8) (al U.p7)&&(aC (al J.p7) (al U.p6)&&(aC (al J.p6) (al U.p5)&&(aC (al J.p5) (al U.p4)&&(aC (al J.p4) (al U.p3)&&(aC (al J.p3) (al U.p2)&&(aC (al J.p2) (al U.2.1)&&ai))))))))) (aF (U.1,U.2.1,U.p2,U.p3,U.p4,U.p5,U.p6,U.p7,U.p8,U.q9,J.p11,J.p12,J.p13,J.p14,J.p15,J.p16,J.q17)))) (aF (J.2.1,J.p2,J.p3,J.p4,J.p5,J.p6,J.p7,J.p8,J.p9,J.p10,J.p11,J.p12,J.p13,J.p14,J.p15,J.p16,J.q17)))) λZ=>(cP ((cF J.1),Z.1,Z.2.1,Z.p2,Z.p3,Z.p4,Z.p5,Z.p6,Z.p7,Z.p8,Z.p9,Z.p10,Z.p11,Z.p12,Z.p13,Z.p14,Z.p15,Z.q16))) (aF (bW (J.2.1,J.p2,J.p3,J.p4,J.p5,J.p6,J.p7,J.p8,J.p9,J.p10))))) (0,I.2.1,I.p2,I.p3,I.p4,I.p5,I.p6,I.p7,I.p8,I.p9,I.p10,I.p12,I.p13,I.p14,I.p15,I.p16,I.p17,I.q18)) (aF (I.2.1,I.p2,I.p3,I.p4,I.p5,I.p6,I.p7,I.p8,I.p9,I.p10)))))))))))) λx2=>(af (x2.1,x2.2.1,x2.p2,x2.p3,x2.p4,x2.p5,x2.p6,x2.p7,x2.p8,x2.q9)))))
def DU (x:Yd4×(List Int)×(List (List Int))×(List (List Int))×(List (List Int))×(List (List Int))×(List (List Int))×(List (List Int))×(List (List Int))×(List Int)×List Int):Option Yd1:=zP @iter x
def rk (x:Yd4×(List Int)×(List (List Int))×(List (List Int))×(List (List Int))×(List (List Int))×(List (List Int))×(List (List Int))×(List (List Int))×(List Int)×List Int):Option Yd1:=zP @gk x
def CI (it:zw) (x:dJ×Yd0×Int×Int×Int×Int×Int×(List Int)×List Int):Option (Yd0×List Int):=
 (obind (tX (x.2.1.1,x.2.1.2.1,x.2.1.p2,x.2.1.p3,x.2.1.p4,x.2.1.p5,x.2.1.p6,x.2.1.p7,x.2.1.q8)) λU=>(ck (fI x.p2 (al U.2.1)) (obind (tZ ((x.p2,x.p3,x.p4,x.p5,x.p6,x.p7,x.q8),U.1,(x.1.1,x.1.2.1,x.1.p2,x.1.p3,x.1.p4,x.1.q5),U.2.1,U.p2,U.p3,U.p4,U.p5,U.p6,U.p7,U.q8)) λJ=>(bF (aC (al U.q8) (al J.q11)&&(aC (al U.p7) (al J.p10)&&(aC (al U.p6) (al J.p9)&&(aC (al U.p5) (al J.p8)&&(aC (al U.p4) (al J.p7)&&(aC (al U.p3) (al J.p6)&&(aC (al U.p2) (al J.p5)&&(aC (al U.2.1) (al J.p4)&&ai)))))))) (it (Int×dJ×gH×(List Int)×(List Int)×(List (List Int))×(List (List Int))×(List (List Int))×(List (List Int))×(List (List Int))×(List (List Int))×(List (List Int))×List Int) _ (λI=>(bz I.1 (aZ J.1) (vI I.1 J.1 (obind (ll (I.p4,(aJ (T:=(.sl aN)) J.1 I.1))) λZ=>(cP ((cF I.1),(I.2.1.1,I.2.1.2.1,I.2.1.p2,I.2.1.p3,I.2.1.p4,I.2.1.q5),(I.p2.1,I.p2.2.1,I.p2.p2,I.p2.p3,I.p2.p4,I.p2.p5,I.p2.q6),I.p3,Z,I.p5,I.p6,I.p7,I.p8,I.p9,I.p10,I.p11,I.q12)))) (obind (obind (sa (I.p4,I.p2.1)) λY=>(obind (rk (((I.2.1.1,I.2.1.2.1,I.2.1.p2,I.2.1.p3,I.2.1.p4,I.2.1.q5),I.p2.1,I.p2.2.1,I.p2.p2,I.p2.p3,I.p2.p4,I.p2.p5,I.p2.q6),I.p3,I.p5,I.p6,I.p7,I.p8,I.p9,I.p10,I.p11,I.q12,Y)) λM=>(bF (aC (al Y) (al M.q9)&&(aC (al I.q12) (al M.p8)&&(aC (al I.p11) (al M.p7)&&(aC (al I.p10) (al M.p6)&&(aC (al I.p9) (al M.p5)&&(aC (al I.p8) (al M.p4)&&(aC (al I.p7) (al M.p3)&&(aC (al I.p6) (al M.p2)&&(aC (al I.p5) (al M.2.1)&&ai))))))))) (af ((M.2.1,M.p2,M.p3,M.p4,M.p5,M.p6,M.1,M.p7,M.p8),M.q9))))) λr=>af (bW r)))) (0,(J.p3.1,J.p3.2.1,J.p3.p2,J.p3.p3,J.p3.p4,J.p3.q5),(J.2.1.1,J.2.1.2.1,J.2.1.p2,J.2.1.p3,J.2.1.p4,J.2.1.p5,J.2.1.q6),J.p2,(aJ (T:=(.sl aN)) U.2.1 x.p2),J.p4,J.p5,J.p6,J.p7,J.p8,J.p9,J.p10,J.q11))))))
def HY (x:dJ×Yd0×Int×Int×Int×Int×Int×(List Int)×List Int):Option (Yd0×List Int):=CI @iter x
def r_ (x:dJ×Yd0×Int×Int×Int×Int×Int×(List Int)×List Int):Option (Yd0×List Int):=CI @gk x
def qW (x:dJ×Int):Option (Int):=
 (jn (α:=Bool×gI×gq×(List fe)×b_×b_×List (Int×Int×Int)) (bz x.2 0 (aF (ai,x.1.1,x.1.2.1,x.1.p2,x.1.p3,x.1.p4,x.1.q5)) (aF ((c5 (aZ x.1.p2) x.2),x.1.1,x.1.2.1,x.1.p2,x.1.p3,x.1.p4,x.1.q5))) λI=>(bcase I.1 (af (-1)) (vI x.2 I.p3 (af ((aJ (T:=k_) I.p3 x.2).2)))))
def oy (x:dJ×Int×Int×Int×Int×Int×(List Int)×List Int):Option (Int×Bool):=
 (jn (α:=Bool×dJ×Int×Int×Int×Int×Int×(List Int)×List Int) (bf x.p2 6 (aF ((decide ((x.p2:Int)=6)),(x.1.1,x.1.2.1,x.1.p2,x.1.p3,x.1.p4,x.1.q5),x.2.1,x.p2,x.p3,x.p4,x.p5,x.p6,x.q7)) (aF ((decide ((x.p2:Int)=10)),(x.1.1,x.1.2.1,x.1.p2,x.1.p3,x.1.p4,x.1.q5),x.2.1,x.p2,x.p3,x.p4,x.p5,x.p6,x.q7))) λI=>(bcase I.1 (af (I.p4,aj)) (bf x.p2 8 (af (I.p4,ai)) (bf x.p2 17 (obind (qW ((I.2.1.1,I.2.1.2.1,I.2.1.p2,I.2.1.p3,I.2.1.p4,I.2.1.q5),I.p4)) λJ=>(af (J,aj))) (af ((-1),aj))))))
def ox (x:dJ×Int×Int×Int×Int×Int×(List Int)×List Int):Option (Int×Bool):=
 (jn (α:=Bool×dJ×Int×Int×Int×Int×Int×(List Int)×List Int) (bf x.p2 7 (aF ((decide ((x.p2:Int)=7)),(x.1.1,x.1.2.1,x.1.p2,x.1.p3,x.1.p4,x.1.q5),x.2.1,x.p2,x.p3,x.p4,x.p5,x.p6,x.q7)) (aF ((decide ((x.p2:Int)=11)),(x.1.1,x.1.2.1,x.1.p2,x.1.p3,x.1.p4,x.1.q5),x.2.1,x.p2,x.p3,x.p4,x.p5,x.p6,x.q7))) λI=>(bcase I.1 (af (I.p4,aj)) (bf x.p2 9 (af (I.p4,ai)) (bf x.p2 16 (obind (qW ((I.2.1.1,I.2.1.2.1,I.2.1.p2,I.2.1.p3,I.2.1.p4,I.2.1.q5),I.p4)) λJ=>(af (J,aj))) (af ((-1),aj))))))
def rx (it:zw) (x:List UInt8):Option (Bool):=
 (lt (aJ (T:=(.st (.pr .str (.pr .str (.pr .str (.pr .str (.pr .str (.pr .str (.pr .str (.pr .str (.pr .str (.pr .str (.pr .str (.pr .str (.pr .str (.pr .str (.pr .str (.pr .str (.pr .str (.pr .str (.pr .str (.pr .str (.pr .str .str))))))))))))))))))))))) ([kwV]) 0) λI=>(it (Int) _ (λJ=>(bz J 22 (bF (c5 0 J&&fO J 22) (lt (aJ (T:=.str) [I.1,I.2.1,I.p2,I.p3,I.p4,I.p5,I.p6,I.p7,I.p8,I.p9,I.p10,I.p11,I.p12,I.p13,I.p14,I.p15,I.p16,I.p17,I.p18,I.p19,I.p20,I.q21] J) λM=>(bcase (decide ((x:List UInt8)=M)) (aF ai) (cP (cF J))))) (aF aj))) 0))
def qV (x:List UInt8):Option (Bool):=rx @iter x
def kP (x:List UInt8):Option (Bool):=rx @gk x
def vp (it:zw) (x:List UInt8):Option (Bool):=
 (jn (α:=Bool) (bz (aZ x) 1 (aF ai) (bz 12 (aZ x) (aF ai) (obind (kP x) λU=>(aF U)))) λZ=>(bcase Z (af aj) (it (List (fe×Unit)) _ (λI=>(bcase (gf (No I) (al (OT I))) (bF (fO (zY (OT I) (aO (No I))) 128) (jn (α:=List (fe×Unit)) (jn (α:=Bool×List (fe×Unit)) (jz 97 (zY (OT I) (aO (No I))) (jz (zY (OT I) (aO (No I))) 122 (aF (ai,[(((OT I),(aO ((No I)+1))),())])) (jz 65 (zY (OT I) (aO (No I))) (aF ((c5 (zY (OT I) (aO (No I))) 90),[(((OT I),(aO ((No I)+1))),())])) (aF (aj,[(((OT I),(aO ((No I)+1))),())])))) (jz 65 (zY (OT I) (aO (No I))) (aF ((c5 (zY (OT I) (aO (No I))) 90),[(((OT I),(aO ((No I)+1))),())])) (aF (aj,[(((OT I),(aO ((No I)+1))),())])))) λJ=>(bcase J.1 (aF J.2) (jn (α:=Bool×List (fe×Unit)) (bz 0 (aO (No I)) (bf (zY (OT I) (aO (No I))) 95 (aF (ai,J.2)) (jz 48 (zY (OT I) (aO (No I))) (aF ((c5 (zY (OT I) (aO (No I))) 57),J.2)) (aF (aj,J.2)))) (aF (aj,J.2))) λM=>(bcase M.1 (aF M.2) (cP (bW aj)))))) λY=>(cP Y))) (aF ai))) ([((x,0),())]))))
def vi (x:List UInt8):Option (Bool):=vp @iter x
def ou (x:List UInt8):Option (Bool):=vp @gk x
def xk (it:zw) (x:(List Int)×Int):Option (Int):=
 (it (Int) _ (λI=>(bz I (aZ x.1) (bK aN x.1 I λJ=>(bf x.2 J (aF I) (cP (cF I)))) (aF (-1)))) 0)
def Bq (x:(List Int)×Int):Option (Int):=xk @iter x
def rm (x:(List Int)×Int):Option (Int):=xk @gk x
def kn (x:(List Int)×Int):Option (Bool):=
 (obind (rm x) λI=>(af (c5 0 I)))
def oE (x:(List Int)×Int×Int):Option (Bool):=
 (obind (jt (x.1,x.2.2)) λI=>(af (c5 x.2.1 I)))
def tY (x:Int×Int×Int×Int×Int×(List Int)×List Int):Option (Bool):=
 (jn (α:=Bool) (bf x.2.1 3 (aF ai) (aF (decide ((x.2.1:Int)=4)))) λI=>(af I))
def qh (x:(dJ×List gH)×Int×Int):Option (Bool):=
 (bK iL x.1.2 x.2.1 λM=>(bK iL x.1.2 x.2.2 λJ=>(jn (α:=Bool×(dJ×List gH)×gH×Int×Int×Int×Int×Int×(List Int)×List Int) (bf M.1 J.1 (aF (ai,x.1,M,J)) (aF ((!decide ((M.p2:Int)=J.p2)),x.1,M,J))) λI=>(bcase I.1 (af aj) (jn (α:=Bool×gH×Int×Int×Int×Int×Int×(List Int)×List Int) (obind (tY I.p2) λy5=>(bcase (!y5) (aF (ai,I.2.2)) (obind (tY I.q3) λZ=>(bcase (!Z) (aF (ai,I.2.2)) (bK kx I.2.1.1.1 I.p2.p2 λY=>(aF (Y.2.2.2.1,I.2.2))))))) λU=>(bcase U.1 (af aj) (jn (α:=Bool) (bf U.2.1.2.1 4 (aF ai) (aF (decide ((U.p3:Int)=4)))) λx8=>(af x8))))))))
def xd (it:zw) (x:List gH):Option Yd5:=
 (bF (c5 0 (aZ x)&&c5 (aZ x) (aZ x)&&bd (aU (aZ x)) 16) (it (Int×Yd5×List (Int×Int)) _ (λI=>(bz I.1 (aZ x) (bK iL x I.1 λJ=>(ck (fI I.1 (al I.2.2)) (cP ((cF I.1),(DX (K:=aN) (V:=aN) J.1 (bm .i64 ((vR (K:=aN) (V:=aN) J.1 I.2.1 0)+1)) I.2.1),(cO I.2.2 I.1 ((vR (K:=aN) (V:=aN) J.1 (DX (K:=aN) (V:=aN) J.1 (bm .i64 ((vR (K:=aN) (V:=aN) J.1 I.2.1 0)+1)) I.2.1) 0),J.1)))))) (aF I.2.2))) (0,([]:List (Int×Int)),(aG (aU (aZ x)) ((0,0):Int×Int)))))
def Bn (x:List gH):Option Yd5:=xd @iter x
def pi (x:List gH):Option Yd5:=xd @gk x
def sC (x:Int×Int):Option (Bool):=
 (jn (α:=Bool) (jz 0 x.1 (aF (fO x.1 x.2)) (aF aj)) λI=>(af I))
def sD (x:dJ×Int×Bool):Option (Bool):=
 (jn (α:=Bool) (obind (sC (x.2.1,(aZ x.1.2.1))) λJ=>(bcase J (bK qD x.1.2.1 x.2.1 λI=>(aF ((I.2==x.2.2) !=aj))) (aF aj))) λM=>(af M))
def oa (it:zw) (x:List RK):Option (b_×Bool):=
 (it (Int×List (List UInt8)) _ (λM=>(bz M.1 (aZ x) (jn (α:=Int×List (List UInt8)) (bK kx x M.1 λI=>(bF (bd (al M.2+al ([I.1])) 16) (bf I.p2 0 (iT I.2.1 0 (cP (bW (([]:List (List UInt8)),aj))) (aF ((cF M.1),(M.2++([I.1]))))) (jn (α:=Bool×b_×(List UInt8)×Int×Int×Bool×Int) (bz I.p2 1 (aF (ai,(M.2++([I.1])),I)) (bz 4 I.p2 (aF (ai,(M.2++([I.1])),I)) (bcase I.p3 (aF (ai,(M.2++([I.1])),I)) (aF ((fO (bm .i64 ((aZ x)-M.1)) I.p2),(M.2++([I.1])),I))))) λY=>(bcase Y.1 (cP (bW (([]:List (List UInt8)),aj))) (it (Int×b_×(List UInt8)×Int×Int×Bool×Int) _ (λJ=>(bz J.1 Y.p4 (bK kx x (bm .i64 (M.1+J.1)) λU=>(bcase (OU (.pr .str (.pr aN (.pr aN (.pr .bool (.pr aN .un))))) (U.1,U.2.1,U.p2,U.p3,U.q4,()) (J.p2,J.1,J.p4,J.p5,J.q6,()) !=ai) (aF (nh (bW (([]:List (List UInt8)),aj)))) (cP ((cF J.1),J.2.1,J.p2,J.1,J.q4)))) (aF (bW ((bm .i64 (M.1+J.p4)),J.2.1))))) (0,Y.2))))))) λZ=>(cP Z)) (aF (M.2,ai)))) (0,([]:List (List UInt8))))
def nX (x:List RK):Option (b_×Bool):=oa @iter x
def gX (x:List RK):Option (b_×Bool):=oa @gk x
def n_ (it:zw) (x:dJ×List (List UInt8)):Option (Bool):=
 (bF (bd (al (x.2:List (List UInt8))) 16) (it (Int×dJ×List (List UInt8)) _ (λJ=>(bz J.1 (aZ x.1.2.1) (bK qD x.1.2.1 J.1 λz2=>(bF (bd (al J.2.2+al ([z2.1])) 16) (cP ((cF J.1),J.2.1,(J.2.2++([z2.1])))))) (obind (it (Int×dJ×List (List UInt8)) _ (λI=>(bz I.1 (aZ J.2.1.p2) (bK k_ J.2.1.p2 I.1 λZ=>(bF (bd (al I.2.2+al ([Z.1])) 16) (cP ((cF I.1),I.2.1,(I.2.2++([Z.1])))))) (obind (bF (bd (al I.2.2+al I.2.1.p3) 16) (bF (bd (al (I.2.2++I.2.1.p3)+al I.2.1.p4) 16) (it (Int×gq×List (List UInt8)) _ (λM=>(bz M.1 (aO (al ((I.2.2++I.2.1.p3)++I.2.1.p4))) (kZ (.str) M.2.2 M.1 λU=>(jn (α:=Bool×gq×List (List UInt8)) (obind (ou U) λy8=>(bcase (!y8) (aF (ai,M.2)) (aF ((vR (K:=.str) (V:=.bool) U M.2.1 aj),M.2)))) λY=>(bcase Y.1 (aF aj) (cP ((cF M.1),(DX (K:=.str) (V:=.bool) U ai Y.2.1),Y.2.2))))) (aF ai))) (0,([]:List ((List UInt8)×Bool)),((I.2.2++I.2.1.p3)++I.2.1.p4))))) λr=>af (bW r)))) (0,J.2)) λr=>af (bW r)))) (0,x)))
def nW (x:dJ×List (List UInt8)):Option (Bool):=n_ @iter x
def dK (x:dJ×List (List UInt8)):Option (Bool):=n_ @gk x
def kF (it:zw) (x:gI×gq×(List fe)×b_×b_×List (Int×Int×Int)):Option (Bool):=
 (it ((Int×Int×Int)×gI×gq×(List fe)×b_×b_×List (Int×Int×Int)) _ (λI=>(bz I.1.2.2 (aZ x.q5) (bK oe x.q5 I.1.2.2 λU=>(jn (α:=Bool×dJ×Int×Int×Int) (bz U.1 I.1.1 (aF (ai,I.2,U)) (aF ((c5 (aZ I.p5) U.1),I.2,U))) λM=>(bcase M.1 (aF aj) (jn (α:=(Int×Int)×dJ×Int×Int×Int) (bz I.1.1 M.p2 (aF ((M.p2,0),M.2)) (aF ((I.1.1,I.1.2.1),M.2))) λJ=>(iT J.p3 J.1.2 (aF aj) (cP ((J.1.1,(cF J.1.2),(cF I.1.2.2)),J.2.1))))))) (aF ai))) ((0,0,0),x))
def nV (x:gI×gq×(List fe)×b_×b_×List (Int×Int×Int)):Option (Bool):=kF @iter x
def fQ (x:gI×gq×(List fe)×b_×b_×List (Int×Int×Int)):Option (Bool):=kF @gk x
def kG (it:zw) (x:gI×gq×(List fe)×b_×b_×List (Int×Int×Int)):Option (Bool):=
 (jn (α:=Bool×gI×gq×(List fe)×b_×b_×List (Int×Int×Int)) (bz 12 (aZ x.1) (aF (ai,x)) (bz 4 (aZ x.2.1) (aF (ai,x)) (bz 2 (aZ x.p2) (aF (ai,x)) (bz 2 (aZ x.p3) (aF (ai,x)) (aF ((fO 60 (aZ x.q5)),x)))))) λM=>(bcase M.1 (af aj) (jn (α:=Bool×gI×gq×(List fe)×b_×b_×List (Int×Int×Int)) (bz (aZ M.p5) 1 (aF (ai,M.2)) (aF ((fO 4 (aZ M.p5)),M.2))) λJ=>(bcase J.1 (af aj) (obind (gX J.2.1) λY=>(jn (α:=Bool×gI×gq×(List fe)×b_×b_×List (Int×Int×Int)) (bcase (!Y.2) (aF (ai,J.2)) (obind (dK (J.2,Y.1)) λy5=>(aF ((!y5),J.2)))) λU=>(bcase U.1 (af aj) (it Yd3 _ (λI=>(bz I.1 (aZ U.p3) (bK k_ U.p3 I.1 λZ=>(obind (sD (I.2,Z.2,aj)) λy8=>(bcase (!y8) (aF aj) (cP ((cF I.1),I.2))))) (obind (obind (fQ I.2) λy9=>(af y9)) λr=>af (bW r)))) (0,U.2)))))))))
def nY (x:gI×gq×(List fe)×b_×b_×List (Int×Int×Int)):Option (Bool):=kG @iter x
def dL (x:gI×gq×(List fe)×b_×b_×List (Int×Int×Int)):Option (Bool):=kG @gk x
def vq (it:zw) (x:gI×gq×(List fe)×b_×b_×List (Int×Int×Int)):Option oW:=
 (bF (c5 0 (aZ x.2.1)&&c5 (aZ x.2.1) (aZ x.2.1)&&bd (aU (aZ x.2.1)) 32) (bF (c5 0 (aZ x.p3)&&c5 (aZ x.p3) (aZ x.p3)&&bd (aU (aZ x.p3)) 1) (bF (c5 0 (aZ x.p4)&&c5 (aZ x.p4) (aZ x.p4)&&bd (aU (aZ x.p4)) 24) (it (Int×Int×Int×gA×(List Bool)×List du) _ (λI=>(bz I.1 (aO (al (aG (aU (aZ x.2.1)) ((0,[]):Int×List Int)))) (ck (fI I.1 (al I.p3)) (cP ((cF I.1),I.2.1,I.p2,(cO I.p3 I.1 ((-1),(aJ (T:=dV) I.p3 I.1).2)),I.q4))) (obind (jn (α:=Int×Int×gA×(List Bool)×List du) (bz 0 (aZ I.q5) (ck (fI 0 (al I.q5)) (aF (I.2.1,I.p2,I.p3,I.p4,(cO I.q5 0 (1,(aJ (T:=h_) I.q5 0).2))))) (aF I.2)) λJ=>(af (J.p2,J.2.1,J.q3))) λr=>af (bW r)))) (0,0,(-1),(aG (aU (aZ x.2.1)) ((0,[]):Int×List Int)),(aG (aU (aZ x.p3)) (aj:Bool)),(aG (aU (aZ x.p4)) ((0,(0,aj)):Int×Int×Bool)))))))
def vk (x:gI×gq×(List fe)×b_×b_×List (Int×Int×Int)):Option oW:=vq @iter x
def oA (x:gI×gq×(List fe)×b_×b_×List (Int×Int×Int)):Option oW:=vq @gk x
def ql (it:zw) (x:gI×gq×(List fe)×b_×b_×List (Int×Int×Int)):Option eA:=
 (obind (oA x) λM=>(bF (c5 0 0&&c5 0 (aZ x.1)&&bd (aU (aZ x.1)) 8) (bF (c5 0 (aZ x.p3)&&c5 (aZ x.p3) (aZ x.p3)&&bd (aU (aZ x.p3)) 8) (bF (c5 0 (aZ x.p4)&&c5 (aZ x.p4) (aZ x.p4)&&bd (aU (aZ x.p4)) 8) (it (Int×Int×oW×(List Int)×(List Int)×List Int) _ (λI=>(bz I.1 (aZ x.1) (bK kx x.1 I.1 λJ=>(bF (bd (al I.p3+al ([J.q4])) 8) (cP ((cF I.1),I.2.1,I.p2,(I.p3++([J.q4])),I.q4)))) (aF I.2.2))) (0,0,M,(aG (aU 0) (0:Int)),(aG (aU (aZ x.p3)) (0:Int)),(aG (aU (aZ x.p4)) (0:Int))))))))
def pW (x:gI×gq×(List fe)×b_×b_×List (Int×Int×Int)):Option eA:=ql @iter x
def dg (x:gI×gq×(List fe)×b_×b_×List (Int×Int×Int)):Option eA:=ql @gk x
def kg (it:zw) (x:(List Bool)×Int×Int×Int×Int×Int×(List Int)×List Int):Option (Bool):=
 (it (Int) _ (λI=>(bz I 2 (bF (c5 0 I&&fO I 2) (lt (aJ (T:=(.sl aN)) [x.p6,x.q7] I) λU=>(it (Int) _ (λM=>(bz M (aZ U) (bK aN U M λJ=>(jn (α:=Bool) (bz J 0 (aF ai) (jz (aZ x.1) J (aF ai) (bK (.bool) x.1 J λY=>(aF (!Y))))) λZ=>(bcase Z (aF (bW aj)) (cP (cF M))))) (aF (nh (cF I))))) 0))) (aF ai))) 0)
def mC (x:(List Bool)×Int×Int×Int×Int×Int×(List Int)×List Int):Option (Bool):=kg @iter x
def cg (x:(List Bool)×Int×Int×Int×Int×Int×(List Int)×List Int):Option (Bool):=kg @gk x
def eU (x:Int×Int):Option (Bool):=
 (jn (α:=Bool) (jz 0 x.1 (aF (fO x.1 x.2)) (aF aj)) λI=>(af I))
def lU (x:dJ×Int×Int):Option (Bool):=
 (jn (α:=Bool×gI×gq×(List fe)×b_×b_×List (Int×Int×Int)) (bf x.2.1 1 (aF ((decide ((x.2.1:Int)=1)),x.1)) (bf x.2.1 2 (aF ((decide ((x.2.1:Int)=2)),x.1)) (bf x.2.1 5 (aF ((decide ((x.2.1:Int)=5)),x.1)) (bf x.2.1 12 (aF ((decide ((x.2.1:Int)=12)),x.1)) (bf x.2.1 13 (aF ((decide ((x.2.1:Int)=13)),x.1)) (bf x.2.1 14 (aF ((decide ((x.2.1:Int)=14)),x.1)) (aF ((decide ((x.2.1:Int)=15)),x.1)))))))) λx1=>(bcase x1.1 (af (decide ((x.2.2:Int)=(-1)))) (jn (α:=Bool×gI×gq×(List fe)×b_×b_×List (Int×Int×Int)) (bf x.2.1 3 (aF ((decide ((x.2.1:Int)=3)),x1.2)) (aF ((decide ((x.2.1:Int)=4)),x1.2))) λZ=>(bcase Z.1 (obind (eU (x.2.2,(aZ Z.2.1))) λy3=>(af y3)) (jn (α:=Bool×gI×gq×(List fe)×b_×b_×List (Int×Int×Int)) (bf x.2.1 6 (aF ((decide ((x.2.1:Int)=6)),Z.2)) (aF ((decide ((x.2.1:Int)=7)),Z.2))) λU=>(bcase U.1 (jn (α:=Bool) (obind (eU (x.2.2,(aZ U.p2))) λy6=>(bcase y6 (bK qD U.p2 x.2.2 λz7=>(aF (!z7.2))) (aF aj))) λx5=>(af x5)) (jn (α:=Bool×gI×gq×(List fe)×b_×b_×List (Int×Int×Int)) (bf x.2.1 8 (aF ((decide ((x.2.1:Int)=8)),U.2)) (bf x.2.1 9 (aF ((decide ((x.2.1:Int)=9)),U.2)) (bf x.2.1 10 (aF ((decide ((x.2.1:Int)=10)),U.2)) (aF ((decide ((x.2.1:Int)=11)),U.2))))) λM=>(bcase M.1 (jn (α:=Bool) (obind (eU (x.2.2,(aZ M.p2))) λy10=>(bcase y10 (bK qD M.p2 x.2.2 λz11=>(aF z11.2)) (aF aj))) λx9=>(af x9)) (jn (α:=Bool×gI×gq×(List fe)×b_×b_×List (Int×Int×Int)) (bf x.2.1 16 (aF ((decide ((x.2.1:Int)=16)),M.2)) (bf x.2.1 17 (aF ((decide ((x.2.1:Int)=17)),M.2)) (bf x.2.1 18 (aF ((decide ((x.2.1:Int)=18)),M.2)) (aF ((decide ((x.2.1:Int)=19)),M.2))))) λJ=>(bcase J.1 (obind (eU (x.2.2,(aZ J.p3))) λy13=>(af y13)) (jn (α:=Bool×gI×gq×(List fe)×b_×b_×List (Int×Int×Int)) (bf x.2.1 20 (aF ((decide ((x.2.1:Int)=20)),J.2)) (aF ((decide ((x.2.1:Int)=21)),J.2))) λI=>(bcase I.1 (obind (eU (x.2.2,(aZ I.p5))) λy15=>(af y15)) (jn (α:=Bool×gI×gq×(List fe)×b_×b_×List (Int×Int×Int)) (bf x.2.1 22 (aF ((decide ((x.2.1:Int)=22)),I.2)) (aF ((decide ((x.2.1:Int)=23)),I.2))) λY=>(bcase Y.1 (obind (eU (x.2.2,(aZ Y.p4))) λy17=>(af y17)) (af aj)))))))))))))))
def s9 (it:zw) (x:dJ×gA×Int×(List Bool)×List du):Option (Bool):=
 (jn (α:=Bool×gI×gq×(List fe)×b_×b_×List (Int×Int×Int)) (iT (aZ x.2.1) (aZ x.1.2.1) (aF (ai,x.1)) (iT (aZ x.p3) (aZ x.1.p3) (aF (ai,x.1)) (aF ((!decide (((aZ x.q4):Int)=(aZ x.1.p4))),x.1)))) λJ=>(bcase J.1 (af aj) (it Yd3 _ (λI=>(bz I.1 (aZ J.p3) (bK k_ J.p3 I.1 λM=>(obind (eU (M.2,(aZ I.p2))) λU=>(bcase (!U) (aF aj) (cP ((cF I.1),I.2))))) (aF ai))) (0,J.2))))
def wW (x:dJ×gA×Int×(List Bool)×List du):Option (Bool):=s9 @iter x
def kc (x:dJ×gA×Int×(List Bool)×List du):Option (Bool):=s9 @gk x
def oz (x:dJ×oW×Int×Int×Int):Option (Bool):=
 (bf x.p3 6 (bK dV x.2.1.1 x.q4 λz1=>(af (decide ((z1.1:Int)=(-1))))) (bf x.p3 10 (jn (α:=Bool) (bK dV x.2.1.1 x.q4 λz3=>(bf z3.1 (-1) (bK dV x.2.1.1 x.q4 λz4=>(aF (decide (((aZ z4.2):Int)=0)))) (aF aj))) λx2=>(af x2)) (bf x.p3 8 (jn (α:=Bool) (bK dV x.2.1.1 x.q4 λz6=>(bf z6.1 (-1) (bK dV x.2.1.1 x.q4 λz7=>(obind (kn (z7.2,x.p2)) λy8=>(aF (!y8)))) (aF aj))) λx5=>(af x5)) (jn (α:=Bool×dJ×gA×Int×(List Bool)×List du) (bf x.p3 7 (aF ((decide ((x.p3:Int)=7)),x.1,x.2.1)) (aF ((decide ((x.p3:Int)=11)),x.1,x.2.1))) λJ=>(bcase J.1 (bK dV J.p2 x.q4 λz10=>(af (decide ((z10.1:Int)=x.p2)))) (bf x.p3 9 (bK dV J.p2 x.q4 λz11=>(obind (kn (z11.2,x.p2)) λy12=>(af y12))) (bf x.p3 12 (af (decide ((J.p3:Int)=(-1)))) (bf x.p3 13 (af (decide ((J.p3:Int)=x.p2))) (bf x.p3 14 (bK h_ J.q5 x.p2 λz13=>(af (!z13.2.2))) (bf x.p3 15 (bK h_ J.q5 x.p2 λz14=>(af z14.2.2)) (jn (α:=Bool×dJ×gA×Int×(List Bool)×List du) (bf x.p3 16 (aF ((decide ((x.p3:Int)=16)),J.2)) (bf x.p3 18 (aF ((decide ((x.p3:Int)=18)),J.2)) (aF ((decide ((x.p3:Int)=19)),J.2)))) λI=>(bcase I.1 (bK k_ I.2.1.p2 x.q4 λz16=>(bK dV I.p2 z16.2 λz17=>(af (decide ((z17.1:Int)=x.p2))))) (bf x.p3 20 (jn (α:=Bool) (iT x.q4 x.p2 (bK h_ I.q5 x.q4 λZ=>(aF (decide ((Z.1:Int)=0)))) (aF aj)) λx18=>(af x18)) (bf x.p3 21 (jn (α:=Bool) (iT x.q4 x.p2 (bK h_ I.q5 x.q4 λY=>(aF (decide ((Y.1:Int)=5)))) (aF aj)) λx20=>(af x20)) (bf x.p3 22 (bK (.bool) I.p4 x.q4 λU=>(af (!U))) (bf x.p3 23 (bK (.bool) I.p4 x.q4 λM=>(af M)) (af ai)))))))))))))))))
def i_ (x:dJ×oW×Int×Int×Int):Option (Bool):=
 (jn (α:=Bool×dJ×gA×Int×(List Bool)×List du) (obind (kc (x.1,x.2.1)) λy2=>(bcase (!y2) (aF (ai,x.1,x.2.1)) (obind (eU (x.p2,(aZ x.1.p4))) λy3=>(bcase (!y3) (aF (ai,x.1,x.2.1)) (obind (lU (x.1,x.q3)) λZ=>(aF ((!Z),x.1,x.2.1))))))) λI=>(bcase I.1 (af aj) (bK h_ I.q5 x.p2 λJ=>(bf x.p3 1 (af (decide ((J.1:Int)=1))) (bf x.p3 17 (jn (α:=Bool) (bf J.1 4 (bf J.2.1 x.q4 (bK k_ I.2.1.p2 x.q4 λY=>(bK dV I.p2 Y.2 λU=>(aF (decide ((U.1:Int)=(-1)))))) (aF aj)) (aF aj)) λx6=>(af x6)) (jn (α:=Bool) (bf J.1 2 (obind (oz (I.2.1,I.2.2,x.2.2)) λM=>(aF M)) (aF aj)) λx9=>(af x9)))))))
def kO (x:dJ×oW×(List Int)×(List Int)×List Int):Option (Bool):=
 (jn (α:=Bool) (obind (kc (x.1,x.2.1)) λI=>(bcase I (bf (aZ x.p2) (aZ x.1.1) (bf (aZ x.p3) (aZ x.1.p3) (aF (decide (((aZ x.q4):Int)=(aZ x.1.p4)))) (aF aj)) (aF aj)) (aF aj))) λJ=>(af J))
def jA (x:dJ×Int×Int×Int×Int×Int×(List Int)×List Int):Option (Bool):=
 (jn (α:=Bool×dJ×Int×Int×Int×Int×Int×(List Int)×List Int) (bf x.p2 1 (aF (ai,x)) (aF ((decide ((x.p2:Int)=2)),x))) λI=>(bcase I.1 (af (decide ((I.p6:Int)=(-1)))) (jn (α:=Bool) (jz 0 I.p6 (bz I.p6 (aZ I.2.1.q5) (bK oe I.2.1.q5 I.p6 λJ=>(aF (decide ((J.1:Int)=I.p2)))) (aF aj)) (aF aj)) λM=>(af M))))
def jk (it:zw) (x:dJ×eA×Int×Int×Int×Int×Int×(List Int)×List Int):Option (Bool):=
 (jn (α:=Bool×eA×Int×Int×Int×Int×Int×(List Int)×List Int) (bf x.p3 3 (bK kx x.1.1 x.p4 λz2=>(aF ((!decide ((z2.2.2.1:Int)=0)),x.2))) (bf x.p3 4 (bK kx x.1.1 x.p4 λz3=>(aF ((!decide ((z3.2.2.1:Int)=0)),x.2))) (aF (aj,x.2)))) λI=>(jn (α:=eA×gH×Bool×Bool) (bf I.p3 5 (bf I.p3 4 (aF (I.2.1,I.2.2,ai,ai)) (aF (I.2.1,I.2.2,ai,(decide ((I.p3:Int)=22))))) (bf I.p3 4 (aF (I.2.1,I.2.2,I.1,ai)) (aF (I.2.1,I.2.2,I.1,(decide ((I.p3:Int)=22)))))) λx4=>(it (Int×eA×gH×Bool×Bool) _ (λJ=>(bz J.1 2 (bF (c5 0 J.1&&fO J.1 2) (lt (aJ (T:=(.sl aN)) [x4.2.1.p5,x4.2.1.q6] J.1) λZ=>(jn (α:=Bool×eA×gH×Bool×Bool) (bz 0 (aZ Z) (bF (c5 0 J.1&&fO J.1 2) (bF (fI J.1 2) (lt (aJ (T:=.bool) [J.p3,J.q4] J.1) λz8=>(aF ((!z8),J.2))))) (aF (aj,J.2))) λx7=>(bcase x7.1 (aF aj) (it ((Int×Int)×eA×gH×Bool×Bool) _ (λM=>(bz M.1.2 (aZ Z) (bK aN Z M.1.2 λU=>(jn (α:=Bool×eA×gH×Bool×Bool) (jz U M.1.1 (aF (ai,M.2)) (bK aN M.2.1.q3 M.p2.1 λz12=>(aF ((c5 z12 U),M.2)))) λY=>(bcase Y.1 (aF (bW aj)) (cP ((U,(cF M.1.2)),Y.2))))) (aF (nh ((cF J.1),M.2))))) ((0,0),x7.2)))))) (aF ai))) (0,x4))))
def ly (x:dJ×eA×Int×Int×Int×Int×Int×(List Int)×List Int):Option (Bool):=jk @iter x
def eQ (x:dJ×eA×Int×Int×Int×Int×Int×(List Int)×List Int):Option (Bool):=jk @gk x
def lE (it:zw) (x:eA×Int×Int×Int×Int×Int×(List Int)×List Int):Option (Bool):=
 (bf x.p2 3 (bK aN x.1.2.1 x.p3 λz1=>(af (decide ((x.p4:Int)=z1)))) (bf x.p2 23 (bK aN x.1.p2 x.p3 λz2=>(af (decide ((x.p4:Int)=z2)))) (bf x.p2 5 (jn (α:=Bool) (bf x.p4 0 (aF ai) (aF (decide ((x.p4:Int)=1)))) λx3=>(af x3)) (jn (α:=Bool×eA×Int×Int×Int×Int×Int×(List Int)×List Int) (bf x.p2 4 (aF ((decide ((x.p2:Int)=4)),x)) (aF ((decide ((x.p2:Int)=22)),x))) λM=>(bcase M.1 (af ai) (bf x.p2 18 (it ((Int×Bool×Int)×Int×Int×Int×Int×Int×(List Int)×List Int) _ (λJ=>(bz J.1.2.2 (aZ M.2.1.1.q3) (jn (α:=(Int×Bool)×Int×Int×Int×Int×Int×(List Int)×List Int) (bK h_ M.2.1.1.q3 J.1.2.2 λz7=>(jn (α:=Bool×Int×Int×Int×Int×Int×(List Int)×List Int) (bf z7.1 3 (aF ((decide ((z7.2.1:Int)=J.p3)),J.2)) (aF (aj,J.2))) λZ=>(bcase Z.1 (bcase J.1.2.1 (aF (((cF J.1.1),ai),Z.2)) (aF (((cF J.1.1),(decide ((Z.p4:Int)=J.1.2.2))),Z.2))) (aF ((J.1.1,J.1.2.1),Z.2))))) λx6=>(cP ((x6.1.1,x6.1.2,(cF J.1.2.2)),x6.2))) (obind (jn (α:=Bool) (bcase J.1.2.1 (aF ai) (bf J.1.1 0 (aF (decide ((J.p4:Int)=(-1)))) (aF aj))) λx9=>(af x9)) λr=>af (bW r)))) ((0,aj,0),M.2.2)) (bf x.p2 19 (it ((Int×Int)×Int×Int×Int×Int×Int×(List Int)×List Int) _ (λI=>(bz I.1.2 (aZ M.2.1.1.q3) (jn (α:=Int×Int×Int×Int×Int×Int×(List Int)×List Int) (bK h_ M.2.1.1.q3 I.1.2 λY=>(jn (α:=Bool×Int×Int×Int×Int×Int×(List Int)×List Int) (bf Y.1 3 (aF ((decide ((Y.2.1:Int)=I.p3)),I.2)) (aF (aj,I.2))) λU=>(bcase U.1 (aF ((cF I.1.1),U.2)) (aF (I.1.1,U.2))))) λx11=>(cP ((x11.1,(cF I.1.2)),x11.2))) (aF (decide ((I.p4:Int)=I.1.1))))) ((0,0),M.2.2)) (af (decide ((M.p5:Int)=0))))))))))
def oY (x:eA×Int×Int×Int×Int×Int×(List Int)×List Int):Option (Bool):=lE @iter x
def gp (x:eA×Int×Int×Int×Int×Int×(List Int)×List Int):Option (Bool):=lE @gk x
def me (x:du×Int):Option (Bool):=
 (jn (α:=Bool) (bf x.1.1 3 (aF (decide ((x.1.2.1:Int)=x.2))) (aF aj)) λI=>(af I))
def H7 (x:List Bool):Option (List Bool):=
 (bcase (aC (al x) 0) (EJ (af ([]:List Bool)) (bF (bd (al ([]:List Bool)+al x) 1) (af (([]:List Bool)++x)))) (bF (bd (al ([]:List Bool)+al x) 1) (af (([]:List Bool)++x))))
def Nk (x:List Bool):Option (List Bool):=chk (bd (al x) 1) λ_=>af x
def D3 (x:List Bool):Option (List Bool):=
 (bcase (aC (al x) 0) (EJ (af ([]:List Bool)) (bF (bd (al ([]:List Bool)+al x) 1) (af (([]:List Bool)++x)))) (bF (bd (al ([]:List Bool)+al x) 1) (af (([]:List Bool)++x))))
def H6 (x:List Bool):Option (List Bool):=chk (bd (al x) 1) λ_=>af x
def H4 (x:List du):Option (List du):=
 (bcase (aC (al x) 0) (EJ (af ([]:List du)) (bF (bd (al ([]:List du)+al x) 24) (af (([]:List du)++x)))) (bF (bd (al ([]:List du)+al x) 24) (af (([]:List du)++x))))
def Nj (x:List du):Option (List du):=chk (bd (al x) 24) λ_=>af x
def DZ (x:List du):Option (List du):=
 (bcase (aC (al x) 0) (EJ (af ([]:List du)) (bF (bd (al ([]:List du)+al x) 24) (af (([]:List du)++x)))) (bF (bd (al ([]:List du)+al x) 24) (af (([]:List du)++x))))
def H3 (x:List du):Option (List du):=chk (bd (al x) 24) λ_=>af x
def D2 (x:List Int):Option (List Int):=
 (bcase (aC (al x) 0) (EJ (af ([]:List Int)) (bF (bd (al ([]:List Int)+al x) 8) (af (([]:List Int)++x)))) (bF (bd (al ([]:List Int)+al x) 8) (af (([]:List Int)++x))))
def yD (x:List Int):Option (List Int):=chk (bd (al x) 8) λ_=>af x
def rQ (it:zw) (x:gA×Int×(List Bool)×List du):Option Yd2:=
 (bF (c5 0 (aZ x.1)&&c5 (aZ x.1) (aZ x.1)&&bd (aU (aZ x.1)) 32) (it (Int×oW×Int×List (Int×List Int)) _ (λI=>(bz I.1 (aZ x.1) (bK dV x.1 I.1 λJ=>(obind (Bw J.2) λY=>(ck (fI I.1 (al I.q3)) (cP ((cF I.1),I.2.1,I.p2,(cO I.q3 I.1 (J.1,Y))))))) (obind (obind (H6 I.2.1.p2) λU=>(obind (H3 I.2.1.q3) λM=>(af (I.2.1.2.1,I.q3,U,M)))) λr=>af (bW r)))) (0,x,0,(aG (aU (aZ x.1)) ((0,[]):Int×List Int)))))
def vj (x:gA×Int×(List Bool)×List du):Option Yd2:=rQ @iter x
def km (x:gA×Int×(List Bool)×List du):Option Yd2:=rQ @gk x
def qp (it:zw) (x:(Int×Int×Int)×gA×(List Bool)×List du):Option Yd2:=
 (it ((Int×Int)×gA×(List Bool)×(List du)×Int) _ (λI=>(bz I.1.2 (aZ x.q3) (jn (α:=Int×gA×(List Bool)×(List du)×Int) (kZ h_ I.p3 I.1.2 λU=>(jn (α:=Bool×gA×(List Bool)×(List du)×Int) (obind (me (U,x.1.2.1)) λY=>(bcase Y (bz I.1.1 0 (aF (ai,I.2)) (aF ((decide ((I.1.2:Int)=x.1.2.2)),I.2))) (aF (aj,I.2)))) λJ=>(bcase J.1 (aF (I.1.2,J.2)) (aF (I.1.1,J.2))))) λM=>(cP ((M.1,(cF I.1.2)),M.2))) (obind (jn (α:=gA×(List Bool)×List du) (jz 0 I.1.1 (ck (fI I.1.1 (al I.p3)) (aF (I.2.1,I.p2,(cO I.p3 I.1.1 (4,(aJ (T:=h_) I.p3 I.1.1).2))))) (aF (I.2.1,I.p2,I.p3))) λZ=>(af (I.1.1,Z))) λr=>af (bW r)))) (((-1),0),x.2.1,x.p2,x.q3,x.1.1))
def tM (x:(Int×Int×Int)×gA×(List Bool)×List du):Option Yd2:=qp @iter x
def jF (x:(Int×Int×Int)×gA×(List Bool)×List du):Option Yd2:=qp @gk x
def mm (it:zw) (x:(Int×Int)×gA×(List Bool)×List du):Option Yd2:=
 (it ((Int×Int)×gA×(List Bool)×(List du)×Int) _ (λI=>(bz I.1.2 (aZ x.q3) (jn (α:=Int×gA×(List Bool)×(List du)×Int) (kZ h_ I.p3 I.1.2 λM=>(obind (me (M,x.1.2)) λU=>(bcase U (ck (fI I.1.2 (al I.p3)) (aF ((cF I.1.1),I.2.1,I.p2,(cO I.p3 I.1.2 (4,(aJ (T:=h_) I.p3 I.1.2).2)),I.q4))) (aF (I.1.1,I.2))))) λJ=>(cP ((J.1,(cF I.1.2)),J.2))) (aF (I.1.1,I.2.1,I.p2,I.p3)))) ((0,0),x.2.1,x.p2,x.q3,x.1.1))
def pY (x:(Int×Int)×gA×(List Bool)×List du):Option Yd2:=mm @iter x
def gQ (x:(Int×Int)×gA×(List Bool)×List du):Option Yd2:=mm @gk x
def qi (x:Int):Option (Bool):=
 (af (!decide ((x:Int)=x)))
def vn (x:Int×Int):Option (Bool):=
 (jn (α:=Bool) (obind (qi x.1) λJ=>(bcase J (obind (qi x.2) λI=>(bcase (!I) (aF ai) (aF (fO x.1 x.2)))) (aF (fO x.1 x.2)))) λM=>(af M))
def ri (x:Int):Option (Int):=
 (jz 4294967296 x ah (jz 65536 x ah (jz 256 x ah (vI (bm .u8 x) ([0,1,2,2,3,3,3,3,4,4,4,4,4,4,4,4,5,5,5,5,5,5,5,5,5,5,5,5,5,5,5,5,6,6,6,6,6,6,6,6,6,6,6,6,6,6,6,6,6,6,6,6,6,6,6,6,6,6,6,6,6,6,6,6,7,7,7,7,7,7,7,7,7,7,7,7,7,7,7,7,7,7,7,7,7,7,7,7,7,7,7,7,7,7,7,7,7,7,7,7,7,7,7,7,7,7,7,7,7,7,7,7,7,7,7,7,7,7,7,7,7,7,7,7,7,7,7,7,8,8,8,8,8,8,8,8,8,8,8,8,8,8,8,8,8,8,8,8,8,8,8,8,8,8,8,8,8,8,8,8,8,8,8,8,8,8,8,8,8,8,8,8,8,8,8,8,8,8,8,8,8,8,8,8,8,8,8,8,8,8,8,8,8,8,8,8,8,8,8,8,8,8,8,8,8,8,8,8,8,8,8,8,8,8,8,8,8,8,8,8,8,8,8,8,8,8,8,8,8,8,8,8,8,8,8,8,8,8,8,8,8,8,8,8,8,8,8,8,8,8,8,8,8,8,8,8]) (af (bm .i64 (0+(bm .i64 (zY ([0,1,2,2,3,3,3,3,4,4,4,4,4,4,4,4,5,5,5,5,5,5,5,5,5,5,5,5,5,5,5,5,6,6,6,6,6,6,6,6,6,6,6,6,6,6,6,6,6,6,6,6,6,6,6,6,6,6,6,6,6,6,6,6,7,7,7,7,7,7,7,7,7,7,7,7,7,7,7,7,7,7,7,7,7,7,7,7,7,7,7,7,7,7,7,7,7,7,7,7,7,7,7,7,7,7,7,7,7,7,7,7,7,7,7,7,7,7,7,7,7,7,7,7,7,7,7,7,8,8,8,8,8,8,8,8,8,8,8,8,8,8,8,8,8,8,8,8,8,8,8,8,8,8,8,8,8,8,8,8,8,8,8,8,8,8,8,8,8,8,8,8,8,8,8,8,8,8,8,8,8,8,8,8,8,8,8,8,8,8,8,8,8,8,8,8,8,8,8,8,8,8,8,8,8,8,8,8,8,8,8,8,8,8,8,8,8,8,8,8,8,8,8,8,8,8,8,8,8,8,8,8,8,8,8,8,8,8,8,8,8,8,8,8,8,8,8,8,8,8,8,8,8,8,8,8]) (bm .u8 x))))))))))
def tW (x:Int):Option (Int):=
 (obind (ri x) λI=>(af I))
def jV (it:zw) (x:(Int×Int)×List Int):Option (List Int):=
 (it (Int×List Int) _ (λM=>(bz M.1 x.1.2 (it (Int×List Int) _ (λI=>(jn (α:=Bool×List Int) (bz x.1.1 I.1 (kZ aN I.2 I.1 λz4=>(kZ aN I.2 (bm .i64 (I.1-1)) λZ=>(obind (vn (z4,Z)) λy6=>(aF (y6,I.2))))) (aF (aj,I.2))) λJ=>(bcase J.1 (kZ aN J.2 (bm .i64 (I.1-1)) λU=>(kZ aN J.2 I.1 λY=>(ck (fI I.1 (al J.2)) (ck (fI (bm .i64 (I.1-1)) (al (cO J.2 I.1 U))) (cP ((bm .i64 (I.1-1)),(cO (cO J.2 I.1 U) (bm .i64 (I.1-1)) Y))))))) (aF (nh ((cF M.1),J.2)))))) M) (aF M.2))) ((cF x.1.1),x.2))
def jU (x:(Int×Int)×List Int):Option (List Int):=jV @iter x
def fK (x:(Int×Int)×List Int):Option (List Int):=jV @gk x
def nZ (it:zw) (x:(Int×Int×Int)×List Int):Option (List Int):=
 (it ((Int×Int×Int×Bool×Bool)×List Int) _ (λI=>(jz (bm .i64 (I.1.2.1-I.1.1)) 12 (obind (fK ((I.1.1,I.1.2.1),I.2)) λJ=>(bF (aC (al I.2) (al J)&&ai) (aF J))) (bf I.1.p2 0 ah (bcase (!I.1.p3) ah ah)))) ((x.1.1,x.1.2.1,x.1.2.2,ai,ai),x.2))
def nU (x:(Int×Int×Int)×List Int):Option (List Int):=nZ @iter x
def jd (x:(Int×Int×Int)×List Int):Option (List Int):=nZ @gk x
def vU (x:List Int):Option (List Int):=
 (obind (tW (bm .u64 (aZ x))) λJ=>(obind (jd ((0,(aZ x),J),x)) λI=>(bF (aC (al x) (al I)&&ai) (af I))))
def xl (it:zw) (x:List Int):Option (List Int):=
 (bz (aZ x) 2 (af x) (it (Int×List Int) _ (λI=>(bz I.1 (aZ I.2) (kZ aN I.2 I.1 λM=>(kZ aN I.2 (bm .i64 (I.1-1)) λJ=>(bf M J (bF (c5 0 I.1&&fO I.1 (al I.2)) ah) (cP ((cF I.1),I.2))))) (aF I.2))) (1,x)))
def wX (x:List Int):Option (List Int):=xl @iter x
def lD (x:List Int):Option (List Int):=xl @gk x
def oO (x:Int×Int):Option (Bool×Int):=
 (af ((decide ((x.1:Int)=x.2)),x.2))
def ug (it:zw) (x:(List Int)×Int):Option (Int×(List Int)×Int):=
 (it (Int×(List Int)×Int) _ (λI=>(bz I.1 (aZ x.1) (kZ aN I.2.1 I.1 λM=>(obind (oO (M,I.2.2)) λJ=>(bcase J.1 (aF (I.1,I.2.1,J.2)) (cP ((cF I.1),I.2.1,J.2))))) (aF ((-1),I.2)))) (0,x))
def tN (x:(List Int)×Int):Option (Int×(List Int)×Int):=ug @iter x
def mT (x:(List Int)×Int):Option (Int×(List Int)×Int):=ug @gk x
def sH (it:zw) (x:(List Int)×Int):Option (Int×List Int):=
 (obind (mT x) λJ=>(bF (aC (al x.1) (al J.2.1)&&ai) (bf J.1 (-1) ah (it ((Int×Int)×(List Int)×Int) _ (λI=>(bz I.1.2 (aZ I.2.1) (jn (α:=Int×(List Int)×Int) (kZ aN I.2.1 I.1.2 λU=>(obind (oO (U,I.2.2)) λM=>(bcase (!M.1) (ck (fI I.1.1 (al I.2.1)) (aF ((cF I.1.1),(cO I.2.1 I.1.1 U),M.2))) (aF (I.1.1,I.2.1,M.2))))) λY=>(cP ((Y.1,(cF I.1.2)),Y.2))) (obind (ck (c5 0 I.1.1&&fO I.1.1 (al I.2.1)) (bF (c5 0 I.1.1&&fO I.1.1 (al (dM (aU I.1.1) I.2.1++aG (al I.2.1-aU I.1.1) (0:Int)))) (af (I.2.2,(dM (aU I.1.1) (dM (aU I.1.1) I.2.1++aG (al I.2.1-aU I.1.1) (0:Int))))))) λr=>af (bW r)))) ((J.1,(cF J.1)),J.2)))))
def sB (x:(List Int)×Int):Option (Int×List Int):=sH @iter x
def ja (x:(List Int)×Int):Option (Int×List Int):=sH @gk x
def gR (x:dJ×oW×Int×Int×Int×Int):Option (oW×Int×Bool):=
 (obind (i_ (x.1,x.2.1,x.p2,x.p3,x.p4)) λy1=>(bcase (!y1) (af ((([]:List (Int×List Int)),0,([]:List Bool),([]:List du)),0,aj)) (obind (km x.2.1) λJ=>(jn (α:=Int×Int×Int×gA×(List Bool)×List du) (bf x.p3 1 (ck (fI x.p2 (al J.q3)) (aF (0,J.1,0,J.2.1,J.p2,(cO J.q3 x.p2 (2,(aJ (T:=h_) J.q3 x.p2).2))))) (bf x.p3 2 (ck (fI x.p2 (al J.q3)) (aF (0,J.1,0,J.2.1,J.p2,(cO J.q3 x.p2 (5,(aJ (T:=h_) J.q3 x.p2).2))))) (jn (α:=Bool×dJ×Int×Int×Int×gA×(List Bool)×List du) (bf x.p3 6 (aF ((decide ((x.p3:Int)=6)),x.1,J.1,x.p2,0,J.2)) (aF ((decide ((x.p3:Int)=10)),x.1,J.1,x.p2,0,J.2))) λY=>(bcase Y.1 (ck (fI x.p4 (al Y.p5)) (aF (0,Y.p2,Y.p4,(cO Y.p5 x.p4 (Y.p3,(aJ (T:=dV) Y.p5 x.p4).2)),Y.q6))) (jn (α:=Bool×dJ×Int×Int×Int×gA×(List Bool)×List du) (bf x.p3 7 (aF ((decide ((x.p3:Int)=7)),Y.2)) (aF ((decide ((x.p3:Int)=11)),Y.2))) λI=>(bcase I.1 (ck (fI x.p4 (al I.p5)) (aF (0,I.p2,I.p4,(cO I.p5 x.p4 ((-1),(aJ (T:=dV) I.p5 x.p4).2)),I.q6))) (bf x.p3 8 (kZ dV I.p5 x.p4 λz6=>ah) (bf x.p3 9 (kZ dV I.p5 x.p4 λz7=>ah) (bf x.p3 12 (aF (0,I.q3)) (bf x.p3 13 (aF (0,(-1),I.q4)) (bf x.p3 14 (ck (fI I.p3 (al I.q7)) (aF (0,I.p2,I.p4,I.p5,I.p6,(cO I.q7 I.p3 ((aJ (T:=h_) I.q7 I.p3).1,((aJ (T:=h_) I.q7 I.p3).2).1,ai))))) (bf x.p3 15 (ck (fI I.p3 (al I.q7)) (aF (0,I.p2,I.p4,I.p5,I.p6,(cO I.q7 I.p3 ((aJ (T:=h_) I.q7 I.p3).1,((aJ (T:=h_) I.q7 I.p3).2).1,aj))))) (bf x.p3 16 (bK k_ I.2.1.p2 x.p4 λz8=>(ck (fI z8.2 (al I.p5)) (ck (fI I.p3 (al I.q7)) (ck (fI I.p3 (al (cO I.q7 I.p3 (3,(aJ (T:=h_) I.q7 I.p3).2)))) (aF (0,I.p2,I.p4,(cO I.p5 z8.2 ((-1),(aJ (T:=dV) I.p5 z8.2).2)),I.p6,(cO (cO I.q7 I.p3 (3,(aJ (T:=h_) I.q7 I.p3).2)) I.p3 ((aJ (T:=h_) (cO I.q7 I.p3 (3,(aJ (T:=h_) I.q7 I.p3).2)) I.p3).1,x.p4,((aJ (T:=h_) (cO I.q7 I.p3 (3,(aJ (T:=h_) I.q7 I.p3).2)) I.p3).2).2)))))))) (bf x.p3 17 (bK k_ I.2.1.p2 x.p4 λz9=>(ck (fI z9.2 (al I.p5)) (ck (fI I.p3 (al I.q7)) (ck (fI I.p3 (al (cO I.q7 I.p3 (2,(aJ (T:=h_) I.q7 I.p3).2)))) (aF (0,I.p2,I.p4,(cO I.p5 z9.2 (I.p3,(aJ (T:=dV) I.p5 z9.2).2)),I.p6,(cO (cO I.q7 I.p3 (2,(aJ (T:=h_) I.q7 I.p3).2)) I.p3 ((aJ (T:=h_) (cO I.q7 I.p3 (2,(aJ (T:=h_) I.q7 I.p3).2)) I.p3).1,0,((aJ (T:=h_) (cO I.q7 I.p3 (2,(aJ (T:=h_) I.q7 I.p3).2)) I.p3).2).2)))))))) (bf x.p3 18 (obind (jF ((I.p2,x.q4),I.q5)) λU=>(bF (aC (al I.q7) (al U.q3)&&(aC (al I.p6) (al U.p2)&&(aC (al I.p5) (al U.2.1)&&ai))) (aF (U.1,I.p2,I.p4,U.2)))) (bf x.p3 19 (obind (gQ ((I.p2,x.p4),I.q5)) λM=>(bF (aC (al I.q7) (al M.q3)&&(aC (al I.p6) (al M.p2)&&(aC (al I.p5) (al M.2.1)&&ai))) (aF (M.1,I.p2,I.p4,M.2)))) (bf x.p3 20 (ck (fI x.p4 (al I.q7)) (aF (0,I.p2,I.p4,I.p5,I.p6,(cO I.q7 x.p4 (1,(aJ (T:=h_) I.q7 x.p4).2))))) (bf x.p3 22 (ck (fI x.p4 (al I.p6)) (aF (0,I.p2,I.p4,I.p5,(cO I.p6 x.p4 ai),I.q7))) (aF (0,I.p2,I.q4)))))))))))))))))))) λZ=>(af ((Z.p3,Z.2.1,Z.q4),Z.1,ai))))))
def mS (x:gA×Int×(List Bool)×List du):Option (Yd6×(Int×Int×Int)×(List Int)×(List Int)×List Int):=
 (bF (c5 0 (aZ x.1)&&c5 (aZ x.1) (aZ x.1)&&bd (aU (aZ x.1)) 32&&decide (((aZ x.1):Int)=3)) (jn (α:=oW×Int×(Int×Int×Int)×(List Int)×(List Int)×List Int) (bz 0 (aZ x.1) (bK dV x.1 0 λI=>(obind (oP I.2) λU=>(bz 1 (aZ x.1) (bK dV x.1 1 λM=>(obind (oP M.2) λy5=>(bz 2 (aZ x.1) (bK dV x.1 2 λz6=>(obind (oP z6.2) λy7=>(bz 3 (aZ x.1) (bK dV x.1 3 λz8=>(obind (oP z8.2) λy9=>ah)) (aF (x,0,(I.1,M.1,z6.1),U,y5,y7))))) (aF (x,0,(I.1,M.1,0),U,y5,([]:List Int)))))) (aF (x,0,(I.1,0,0),U,([]:List Int),([]:List Int)))))) (aF (x,0,(0,0,0),([]:List Int),([]:List Int),([]:List Int)))) λJ=>(obind (Nk J.1.p2) λZ=>(obind (Nj J.1.q3) λY=>(af ((J.1.2.1,Z,Y),J.2.2))))))
def kS (x:dJ×oW×Int×Int×Int×Int):Option (oW×Int×Bool):=
 (obind (i_ (x.1,x.2.1,x.p2,x.p3,x.p4)) λy1=>(bcase (!y1) (af ((([]:List (Int×List Int)),0,([]:List Bool),([]:List du)),0,aj)) (obind (mS x.2.1) λM=>(jn (α:=Int×Yd6×Int×((Int×List Int)×(Int×List Int)×Int)×Bool×List Int) (bf x.p3 1 (vI x.p2 M.1.2.2 ah) (bf x.p3 2 (vI x.p2 M.1.2.2 ah) (jn (α:=Bool×dJ×Yd6×Int×Int×(Int×Int×Int)×(List Int)×(List Int)×List Int) (bf x.p3 6 (aF ((decide ((x.p3:Int)=6)),x.1,M.1,x.p2,0,M.2)) (aF ((decide ((x.p3:Int)=10)),x.1,M.1,x.p2,0,M.2))) λJ=>(bcase J.1 ah (jn (α:=Bool×dJ×Yd6×Int×Int×(Int×(List Int)×Int×(List Int)×Int)×List Int) (bf x.p3 7 (aF ((decide ((x.p3:Int)=7)),J.2.1,J.p2,J.p3,J.p4,(J.p5.1,J.p6,J.p5.2.1,J.p7,J.p5.2.2),J.q8)) (aF ((decide ((x.p3:Int)=11)),J.2.1,J.p2,J.p3,J.p4,(J.p5.1,J.p6,J.p5.2.1,J.p7,J.p5.2.2),J.q8))) λI=>(bcase I.1 ah (bf x.p3 8 (bf x.p4 0 ah (bf x.p4 1 ah (bf x.p4 2 (bF (bd (al I.q6+al ([I.p3])) 8) (obind (vU (I.q6++([I.p3]))) λY=>(bF (aC (al (I.q6++([I.p3]))) (al Y)&&ai) (obind (lD Y) λZ=>(bF (aC (al Y) (al Z)&&ai) (aF (0,I.p2,I.p4,((I.p5.1,I.p5.2.1),(I.p5.p2,I.p5.p3),I.p5.q4),ai,Z))))))) ah))) (bf x.p3 9 (bf x.p4 0 ah (bf x.p4 1 ah (bf x.p4 2 (obind (ja (I.q6,I.p3)) λy8=>(bF (aC (al I.q6) (al I.q6)&&ai) (aF (0,I.p2,I.p4,((I.p5.1,I.p5.2.1),(I.p5.p2,I.p5.p3),I.p5.q4),aj,y8.2)))) ah))) (bf x.p3 12 (aF (0,(I.p3,I.p2.2),I.p4,((I.p5.1,I.p5.2.1),(I.p5.p2,I.p5.p3),I.p5.q4),ai,I.q6)) (bf x.p3 13 (aF (0,((-1),I.p2.2),I.p4,((I.p5.1,I.p5.2.1),(I.p5.p2,I.p5.p3),I.p5.q4),ai,I.q6)) (bf x.p3 14 (vI I.p3 I.p2.2.2 ah) (bf x.p3 15 (vI I.p3 I.p2.2.2 ah) (bf x.p3 16 ah (bf x.p3 17 ah (bf x.p3 18 ah (bf x.p3 19 ah (bf x.p3 20 (vI x.p4 I.p2.2.2 ah) (bf x.p3 22 (vI x.p4 I.p2.2.1 ah) (aF (0,I.p2,I.p4,((I.p5.1,I.p5.2.1),(I.p5.p2,I.p5.p3),I.p5.q4),ai,I.q6)))))))))))))))))))) λU=>(af (([U.p3.1,U.p3.2.1,(U.p3.2.2,U.q5)],U.2.1),U.1,ai))))))
def rL (x:dJ×oW×Int×Int×Int×Int):Option (oW×Int×Bool):=orE (gR x) (kS x)
def fG (x:dJ×eA×Int×Int×Int×Int×Int×(List Int)×List Int):Option (eA×Bool):=
 (jn (α:=Bool×dJ×eA×gH×Int) (obind (kO (x.1,x.2.1)) λy2=>(bcase (!y2) (aF (ai,x.1,x.2.1,x.2.2,0)) (bz x.p2 0 (aF (ai,x.1,x.2.1,x.2.2,0)) (jz (aZ x.1.p4) x.p2 (aF (ai,x.1,x.2.1,x.2.2,0)) (bz x.p3 1 (aF (ai,x.1,x.2.1,x.2.2,0)) (aF ((fO 23 x.p3),x.1,x.2.1,x.2.2,0))))))) λM=>(bcase M.1 (af (((([]:List (Int×List Int)),0,([]:List Bool),([]:List du)),([]:List Int),([]:List Int),([]:List Int)),aj)) (jn (α:=Bool×dJ×eA×gH×Int) (obind (i_ (M.2.1,M.p2.1,M.p3.1,M.p3.2.1,M.p3.p2)) λy4=>(bcase (!y4) (aF (ai,M.2)) (obind (jA (M.2.1,M.p3)) λy5=>(bcase (!y5) (aF (ai,M.2)) (obind (eQ (M.2.1,M.p2,M.p3)) λy6=>(bcase (!y6) (aF (ai,M.2)) (obind (gp (M.p2,M.p3)) λy7=>(aF ((!y7),M.2))))))))) λx3=>(bcase x3.1 (af (((([]:List (Int×List Int)),0,([]:List Bool),([]:List du)),([]:List Int),([]:List Int),([]:List Int)),aj)) (jn (α:=Int×dJ×eA×gH×Int) (bf x3.p3.2.1 18 (aF (x3.p3.p3,x3.2)) (aF ((-1),x3.2))) λI=>(obind (rL (I.2.1,I.p2.1,I.p3.1,I.p3.2.1,I.p3.p2,I.1)) λy9=>(bcase (!y9.2.2) (af (((([]:List (Int×List Int)),0,([]:List Bool),([]:List du)),([]:List Int),([]:List Int),([]:List Int)),aj)) (obind (yD I.p2.2.1) λY=>(obind (yD I.p2.p2) λU=>(obind (oP I.p2.q3) λZ=>(jn (α:=gH×Int×oW×(List Int)×(List Int)×List Int) (bf I.p3.2.1 4 (ck (fI I.p3.p2 (al Y)) (aF (I.p3,I.q4,y9.1,(cO Y I.p3.p2 I.p3.p3),U,Z))) (bf I.p3.2.1 22 (ck (fI I.p3.p2 (al U)) (aF (I.p3,I.q4,y9.1,Y,(cO U I.p3.p2 I.p3.p3),Z))) (aF (I.p3,I.q4,y9.1,Y,U,Z)))) λJ=>(kZ aN J.q5 J.1.1 λz14=>(ck (fI J.1.1 (al J.q5)) (af ((J.p2,J.p3,J.p4,(cO J.q5 J.1.1 (cF z14))),ai)))))))))))))))
def lG (it:zw) (x:dJ×List gH):Option (Int×Int):=
 (bz 400 (aZ x.2) (af (0,2)) (obind (dL x.1) λy1=>(bcase (!y1) (af (0,1)) (obind (dg x.1) λy2=>(bF (c5 0 (aZ x.1.p4)&&c5 (aZ x.1.p4) (aZ x.1.p4)&&bd (aU (aZ x.1.p4)) 24&&decide (((aZ x.1.p4):Int)=1)) (it (Int×(dJ×List gH)×eA×List Bool) _ (λJ=>(bz J.1 (aZ x.2) (bK iL x.2 J.1 λM=>(obind (fG (J.2.1.1,J.p2,M)) λU=>(jn (α:=Bool×(dJ×List gH)×eA×gH×eA×List Bool) (bf M.1 0 (bcase (!U.2) (aF (ai,J.2.1,J.p2,(0,M.2),U.1,J.q3)) (obind (cg (J.q3,0,M.2)) λZ=>(aF ((!Z),J.2.1,J.p2,(0,M.2),U.1,J.q3)))) ah) λI=>(bcase I.1 (aF (J.1,12)) (jn (α:=(dJ×List gH)×eA×eA×List Bool) (bf I.p3.1 0 (bf I.p3.2.1 3 (bF (bd (al I.q5+al ([ai])) 1) (aF (I.2.1,I.p2,I.p4,(I.q5++([ai]))))) (bF (bd (al I.q5+al ([(decide ((I.p3.2.1:Int)=23))])) 1) (aF (I.2.1,I.p2,I.p4,(I.q5++([(decide ((I.p3.2.1:Int)=23))])))))) ah) λY=>(cP ((cF J.1),Y.1,Y.2.2))))))) (aF (0,0)))) (0,x,y2,([]:List Bool))))))))
def o8 (x:dJ×List gH):Option (Int×Int):=lG @iter x
def ec (x:dJ×List gH):Option (Int×Int):=lG @gk x
def jK (it:zw) (x:dJ×List gH):Option (Int×Int):=
 (bz 400 (aZ x.2) (af (0,2)) (obind (dL x.1) λy1=>(bcase (!y1) (af (0,1)) (obind (dg x.1) λy2=>(bF (c5 0 (aZ x.1.p4)&&c5 (aZ x.1.p4) (aZ x.1.p4)&&bd (aU (aZ x.1.p4)) 24&&decide (((aZ x.1.p4):Int)=2)) (it (Int×(dJ×List gH)×eA×(List Bool)×List Bool) _ (λJ=>(bz J.1 (aZ x.2) (bK iL x.2 J.1 λM=>(obind (fG (J.2.1.1,J.p2,M)) λU=>(jn (α:=Bool×(dJ×List gH)×eA×gH×eA×(List Bool)×List Bool) (bf M.1 0 (bcase (!U.2) (aF (ai,J.2.1,J.p2,(0,M.2),U.1,J.q3)) (obind (cg (J.p3,0,M.2)) λy7=>(aF ((!y7),J.2.1,J.p2,(0,M.2),U.1,J.q3)))) (bf M.1 1 (bcase (!U.2) (aF (ai,J.2.1,J.p2,(1,M.2),U.1,J.q3)) (obind (cg (J.q4,1,M.2)) λZ=>(aF ((!Z),J.2.1,J.p2,(1,M.2),U.1,J.q3)))) ah)) λI=>(bcase I.1 (aF (J.1,12)) (jn (α:=(dJ×List gH)×eA×eA×(List Bool)×List Bool) (bf I.p3.1 0 (bf I.p3.2.1 3 (bF (bd (al I.p5+al ([ai])) 1) (aF (I.2.1,I.p2,I.p4,(I.p5++([ai])),I.q6))) (bF (bd (al I.p5+al ([(decide ((I.p3.2.1:Int)=23))])) 1) (aF (I.2.1,I.p2,I.p4,(I.p5++([(decide ((I.p3.2.1:Int)=23))])),I.q6)))) (bf I.p3.1 1 (bf I.p3.2.1 3 (bF (bd (al I.q6+al ([ai])) 1) (aF (I.2.1,I.p2,I.p4,I.p5,(I.q6++([ai]))))) (bF (bd (al I.q6+al ([(decide ((I.p3.2.1:Int)=23))])) 1) (aF (I.2.1,I.p2,I.p4,I.p5,(I.q6++([(decide ((I.p3.2.1:Int)=23))])))))) ah)) λY=>(cP ((cF J.1),Y.1,Y.2.2))))))) (aF (0,0)))) (0,x,y2,([]:List Bool),([]:List Bool))))))))
def o7 (x:dJ×List gH):Option (Int×Int):=jK @iter x
def dh (x:dJ×List gH):Option (Int×Int):=jK @gk x
def jJ (it:zw) (x:dJ×List gH):Option (Int×Int):=
 (bz 400 (aZ x.2) (af (0,2)) (obind (dL x.1) λy1=>(bcase (!y1) (af (0,1)) (obind (dg x.1) λy2=>(bF (c5 0 (aZ x.1.p4)&&c5 (aZ x.1.p4) (aZ x.1.p4)&&bd (aU (aZ x.1.p4)) 24&&decide (((aZ x.1.p4):Int)=3)) (it (Int×(dJ×List gH)×eA×(List Bool)×(List Bool)×List Bool) _ (λJ=>(bz J.1 (aZ x.2) (bK iL x.2 J.1 λM=>(obind (fG (J.2.1.1,J.p2,M)) λU=>(jn (α:=Bool×(dJ×List gH)×eA×gH×eA×(List Bool)×(List Bool)×List Bool) (bf M.1 0 (bcase (!U.2) (aF (ai,J.2.1,J.p2,(0,M.2),U.1,J.q3)) (obind (cg (J.p3,0,M.2)) λy7=>(aF ((!y7),J.2.1,J.p2,(0,M.2),U.1,J.q3)))) (bf M.1 1 (bcase (!U.2) (aF (ai,J.2.1,J.p2,(1,M.2),U.1,J.q3)) (obind (cg (J.p4,1,M.2)) λy8=>(aF ((!y8),J.2.1,J.p2,(1,M.2),U.1,J.q3)))) (bf M.1 2 (bcase (!U.2) (aF (ai,J.2.1,J.p2,(2,M.2),U.1,J.q3)) (obind (cg (J.q5,2,M.2)) λZ=>(aF ((!Z),J.2.1,J.p2,(2,M.2),U.1,J.q3)))) ah))) λI=>(bcase I.1 (aF (J.1,12)) (jn (α:=(dJ×List gH)×eA×eA×(List Bool)×(List Bool)×List Bool) (bf I.p3.1 0 (bf I.p3.2.1 3 (bF (bd (al I.p5+al ([ai])) 1) (aF (I.2.1,I.p2,I.p4,(I.p5++([ai])),I.q6))) (bF (bd (al I.p5+al ([(decide ((I.p3.2.1:Int)=23))])) 1) (aF (I.2.1,I.p2,I.p4,(I.p5++([(decide ((I.p3.2.1:Int)=23))])),I.q6)))) (bf I.p3.1 1 (bf I.p3.2.1 3 (bF (bd (al I.p6+al ([ai])) 1) (aF (I.2.1,I.p2,I.p4,I.p5,(I.p6++([ai])),I.q7))) (bF (bd (al I.p6+al ([(decide ((I.p3.2.1:Int)=23))])) 1) (aF (I.2.1,I.p2,I.p4,I.p5,(I.p6++([(decide ((I.p3.2.1:Int)=23))])),I.q7)))) (bf I.p3.1 2 (bf I.p3.2.1 3 (bF (bd (al I.q7+al ([ai])) 1) (aF (I.2.1,I.p2,I.p4,I.p5,I.p6,(I.q7++([ai]))))) (bF (bd (al I.q7+al ([(decide ((I.p3.2.1:Int)=23))])) 1) (aF (I.2.1,I.p2,I.p4,I.p5,I.p6,(I.q7++([(decide ((I.p3.2.1:Int)=23))])))))) ah))) λY=>(cP ((cF J.1),Y.1,Y.2.2))))))) (aF (0,0)))) (0,x,y2,([]:List Bool),([]:List Bool),([]:List Bool))))))))
def o6 (x:dJ×List gH):Option (Int×Int):=jJ @iter x
def dH (x:dJ×List gH):Option (Int×Int):=jJ @gk x
def jI (it:zw) (x:dJ×List gH):Option (Int×Int):=
 (bz 400 (aZ x.2) (af (0,2)) (obind (dL x.1) λy1=>(bcase (!y1) (af (0,1)) (obind (dg x.1) λy2=>(bF (c5 0 (aZ x.1.p4)&&c5 (aZ x.1.p4) (aZ x.1.p4)&&bd (aU (aZ x.1.p4)) 24&&decide (((aZ x.1.p4):Int)=4)) (it (Int×(dJ×List gH)×eA×(List Bool)×(List Bool)×(List Bool)×List Bool) _ (λJ=>(bz J.1 (aZ x.2) (bK iL x.2 J.1 λM=>(obind (fG (J.2.1.1,J.p2,M)) λU=>(jn (α:=Bool×(dJ×List gH)×eA×gH×eA×(List Bool)×(List Bool)×(List Bool)×List Bool) (bf M.1 0 (bcase (!U.2) (aF (ai,J.2.1,J.p2,(0,M.2),U.1,J.q3)) (obind (cg (J.p3,0,M.2)) λy7=>(aF ((!y7),J.2.1,J.p2,(0,M.2),U.1,J.q3)))) (bf M.1 1 (bcase (!U.2) (aF (ai,J.2.1,J.p2,(1,M.2),U.1,J.q3)) (obind (cg (J.p4,1,M.2)) λy8=>(aF ((!y8),J.2.1,J.p2,(1,M.2),U.1,J.q3)))) (bf M.1 2 (bcase (!U.2) (aF (ai,J.2.1,J.p2,(2,M.2),U.1,J.q3)) (obind (cg (J.p5,2,M.2)) λy9=>(aF ((!y9),J.2.1,J.p2,(2,M.2),U.1,J.q3)))) (bf M.1 3 (bcase (!U.2) (aF (ai,J.2.1,J.p2,(3,M.2),U.1,J.q3)) (obind (cg (J.q6,3,M.2)) λZ=>(aF ((!Z),J.2.1,J.p2,(3,M.2),U.1,J.q3)))) ah)))) λI=>(bcase I.1 (aF (J.1,12)) (jn (α:=(dJ×List gH)×eA×eA×(List Bool)×(List Bool)×(List Bool)×List Bool) (bf I.p3.1 0 (bf I.p3.2.1 3 (bF (bd (al I.p5+al ([ai])) 1) (aF (I.2.1,I.p2,I.p4,(I.p5++([ai])),I.q6))) (bF (bd (al I.p5+al ([(decide ((I.p3.2.1:Int)=23))])) 1) (aF (I.2.1,I.p2,I.p4,(I.p5++([(decide ((I.p3.2.1:Int)=23))])),I.q6)))) (bf I.p3.1 1 (bf I.p3.2.1 3 (bF (bd (al I.p6+al ([ai])) 1) (aF (I.2.1,I.p2,I.p4,I.p5,(I.p6++([ai])),I.q7))) (bF (bd (al I.p6+al ([(decide ((I.p3.2.1:Int)=23))])) 1) (aF (I.2.1,I.p2,I.p4,I.p5,(I.p6++([(decide ((I.p3.2.1:Int)=23))])),I.q7)))) (bf I.p3.1 2 (bf I.p3.2.1 3 (bF (bd (al I.p7+al ([ai])) 1) (aF (I.2.1,I.p2,I.p4,I.p5,I.p6,(I.p7++([ai])),I.q8))) (bF (bd (al I.p7+al ([(decide ((I.p3.2.1:Int)=23))])) 1) (aF (I.2.1,I.p2,I.p4,I.p5,I.p6,(I.p7++([(decide ((I.p3.2.1:Int)=23))])),I.q8)))) (bf I.p3.1 3 (bf I.p3.2.1 3 (bF (bd (al I.q8+al ([ai])) 1) (aF (I.2.1,I.p2,I.p4,I.p5,I.p6,I.p7,(I.q8++([ai]))))) (bF (bd (al I.q8+al ([(decide ((I.p3.2.1:Int)=23))])) 1) (aF (I.2.1,I.p2,I.p4,I.p5,I.p6,I.p7,(I.q8++([(decide ((I.p3.2.1:Int)=23))])))))) ah)))) λY=>(cP ((cF J.1),Y.1,Y.2.2))))))) (aF (0,0)))) (0,x,y2,([]:List Bool),([]:List Bool),([]:List Bool),([]:List Bool))))))))
def oZ (x:dJ×List gH):Option (Int×Int):=jI @iter x
def d_ (x:dJ×List gH):Option (Int×Int):=jI @gk x
def mi (x:dJ×List gH):Option (Int×Int):=orE (d_ x) (orE (dH x) (orE (dh x) (ec x)))
def xg (it:zw) (x:dJ×List gH):Option ((List (List Int))×Int):=
 (obind (mi x) λY=>(iT Y.2 0 (af (([]:List (List Int)),12)) (obind (pB x.1) λU=>(bF (c5 0 (aZ x.2)&&c5 (aZ x.2) (aZ x.2)&&bd (aU (aZ x.2)) 24) (it (Int×(dJ×List gH)×Yd0×List (List Int)) _ (λI=>(bz I.1 (aZ x.2) (bK iL x.2 I.1 λM=>(obind (r_ (I.2.1.1,I.p2,M)) λJ=>(ck (fI I.1 (al I.q3)) (cP ((cF I.1),I.2.1,J.1,(cO I.q3 I.1 J.2)))))) (aF (I.q3,0)))) (0,x,U,(aG (aU (aZ x.2)) ([]:List Int))))))))
def Bp (x:dJ×List gH):Option ((List (List Int))×Int):=xg @iter x
def pj (x:dJ×List gH):Option ((List (List Int))×Int):=xg @gk x
def zR (it:zw) (x:dJ×List gH):Option (Yd5×Int):=
 (obind (pj x) λY=>(iT Y.2 0 (af (([]:List (Int×Int)),Y.2)) (obind (pi x.2) λy2=>(it (Int×(dJ×List gH)×List (Int×Int)) _ (λJ=>(bz J.1 (aZ x.2) (it (Int×(dJ×List gH)×List (Int×Int)) _ (λI=>(bz I.1 J.1 (jn (α:=(dJ×List gH)×List (Int×Int)) (jn (α:=Bool×(dJ×List gH)×List (Int×Int)) (obind (qh (I.2.1,I.1,J.1)) λy7=>(bcase y7 (bK (.sl aN) Y.1 J.1 λz8=>(bK iE y2 I.1 λZ=>(obind (oE (z8,Z)) λU=>(aF ((!U),I.2))))) (aF (aj,I.2)))) λM=>(bcase M.1 (bF (bd (al M.2.2+al ([(I.1,J.1)])) 16) (aF (M.2.1,(M.2.2++([(I.1,J.1)]))))) (aF M.2))) λx5=>(cP ((cF I.1),x5))) (aF (nh ((cF J.1),I.2))))) (0,J.2)) (aF (J.2.2,0)))) (0,x,([]:List (Int×Int)))))))
def DW (x:dJ×List gH):Option (Yd5×Int):=zR @iter x
def nF (x:dJ×List gH):Option (Yd5×Int):=zR @gk x
def NQ (it:zw) (x:Unit):Option dJ:=
 (it Yd3 _ (λJ=>(bz J.1 (aO (al ([[109,97,105,110],[116,49],[116,50],[116,51]]))) (it Yd3 _ (λI=>(bz I.1 6 (bF (bd (al I.q6+al ([(J.1,I.1,(bm .i64 ((bm .i64 ((bm .i64 (10*J.1))+I.1))+1)))])) 24) (cP ((cF I.1),I.2.1,I.p2,I.p3,I.p4,I.p5,(I.q6++([(J.1,I.1,(bm .i64 ((bm .i64 ((bm .i64 (10*J.1))+I.1))+1)))]))))) (aF (nh ((cF J.1),I.2))))) (0,J.2)) (aF J.2))) (0,[([120],0,0,aj,0),([121],0,0,aj,1),([118],0,0,ai,0),([113],0,2,aj,0),([113],1,2,aj,0)],[([109],aj),([110],aj),([114],ai)],[([99],0)],[[102]],[[109,97,105,110],[116,49],[116,50],[116,51]],([]:List (Int×Int×Int))))
def Nh (x:Unit):Option dJ:=NQ @iter x
def Cp (x:Unit):Option dJ:=NQ @gk x
def wZ (x:Bool):Option (dJ×List gH):=
 (obind (Cp ()) λI=>(jn (α:=dJ×List gH) (bcase x (kZ iL ([(0,1,(-1),0,(-1),([]:List Int),([]:List Int)),(0,20,1,0,0,([]:List Int),([]:List Int)),(1,1,(-1),0,(-1),([]:List Int),([]:List Int)),(0,6,0,0,0,([]:List Int),([]:List Int)),(0,4,0,1,0,([]:List Int),([]:List Int)),(0,7,0,0,0,([]:List Int),([]:List Int)),(1,6,0,0,6,([]:List Int),([]:List Int)),(1,4,0,2,6,([]:List Int),([]:List Int))]) 0 λz3=>(kZ iL ([(0,1,(-1),0,(-1),([]:List Int),([]:List Int)),(0,20,1,0,0,([]:List Int),([]:List Int)),(1,1,(-1),0,(-1),([]:List Int),([]:List Int)),(0,6,0,0,0,([]:List Int),([]:List Int)),(0,4,0,1,0,([]:List Int),([]:List Int)),(0,7,0,0,0,([]:List Int),([]:List Int)),(1,6,0,0,6,([]:List Int),([]:List Int)),(1,4,0,2,6,([]:List Int),([]:List Int))]) 1 λZ=>(kZ iL ([(0,1,(-1),0,(-1),([]:List Int),([]:List Int)),(0,20,1,0,0,([]:List Int),([]:List Int)),(1,1,(-1),0,(-1),([]:List Int),([]:List Int)),(0,6,0,0,0,([]:List Int),([]:List Int)),(0,4,0,1,0,([]:List Int),([]:List Int)),(0,7,0,0,0,([]:List Int),([]:List Int)),(1,6,0,0,6,([]:List Int),([]:List Int)),(1,4,0,2,6,([]:List Int),([]:List Int))]) 2 λY=>(kZ iL ([(0,1,(-1),0,(-1),([]:List Int),([]:List Int)),(0,20,1,0,0,([]:List Int),([]:List Int)),(1,1,(-1),0,(-1),([]:List Int),([]:List Int)),(0,6,0,0,0,([]:List Int),([]:List Int)),(0,4,0,1,0,([]:List Int),([]:List Int)),(0,7,0,0,0,([]:List Int),([]:List Int)),(1,6,0,0,6,([]:List Int),([]:List Int)),(1,4,0,2,6,([]:List Int),([]:List Int))]) 6 λU=>(kZ iL ([(0,1,(-1),0,(-1),([]:List Int),([]:List Int)),(0,20,1,0,0,([]:List Int),([]:List Int)),(1,1,(-1),0,(-1),([]:List Int),([]:List Int)),(0,6,0,0,0,([]:List Int),([]:List Int)),(0,4,0,1,0,([]:List Int),([]:List Int)),(0,7,0,0,0,([]:List Int),([]:List Int)),(1,6,0,0,6,([]:List Int),([]:List Int)),(1,4,0,2,6,([]:List Int),([]:List Int))]) 4 λM=>(kZ iL ([(0,1,(-1),0,(-1),([]:List Int),([]:List Int)),(0,20,1,0,0,([]:List Int),([]:List Int)),(1,1,(-1),0,(-1),([]:List Int),([]:List Int)),(0,6,0,0,0,([]:List Int),([]:List Int)),(0,4,0,1,0,([]:List Int),([]:List Int)),(0,7,0,0,0,([]:List Int),([]:List Int)),(1,6,0,0,6,([]:List Int),([]:List Int)),(1,4,0,2,6,([]:List Int),([]:List Int))]) 7 λJ=>(aF (I,[z3,Z,Y,U,M,J])))))))) (aF (I,[(0,1,(-1),0,(-1),([]:List Int),([]:List Int)),(0,20,1,0,0,([]:List Int),([]:List Int)),(1,1,(-1),0,(-1),([]:List Int),([]:List Int)),(0,6,0,0,0,([]:List Int),([]:List Int)),(0,4,0,1,0,([]:List Int),([]:List Int)),(0,7,0,0,0,([]:List Int),([]:List Int)),(1,6,0,0,6,([]:List Int),([]:List Int)),(1,4,0,2,6,([]:List Int),([]:List Int))]))) λx2=>(af x2)))
def sZ (x:Unit):Option (Bool):=
 (obind (wZ aj) λY=>(obind (nF Y) λM=>(obind (wZ ai) λU=>(obind (nF U) λI=>(jn (α:=Bool) (bf M.2 0 (bf I.2 0 (bf (aZ M.1) 0 (bf (aZ I.1) 1 (bK iE I.1 0 λJ=>(aF (OU (.pr aN (.pr aN .un)) (J.1,J.2,()) (4,5,()) !=aj))) (aF aj)) (aF aj)) (aF aj)) (aF aj)) λZ=>(af Z))))))
def ye:Nat:=1000000000
def jl (a b:List Int):List Int:=(eS (max a.length b.length)).map λi=>ko (a.getD i 0) (b.getD i 0)
theorem vX (a b:List Int):(jl a b).length=max a.length b.length:=by simp[jl]
theorem Bx (a b:List Int) (i:Nat):(jl a b).getD i 0=ko (a.getD i 0) (b.getD i 0):=by
 unfold jl;simp only[ay,bc];by_cases h:i<max a.length b.length
 .rw[F7 h];rfl
 .rw[bQ (by simp only[lm];omega),bQ (l:=a) (by omega),bQ (l:=b) (by omega)];rfl
theorem Kl (c:List Int) (i:Nat):jt (c,(i:Int))=af (c.getD i 0):=by
 unfold jt bz vI aZ aF;simp only[];rw[xD (by omega)];simp only[c4,ju];by_cases h:i<c.length
 .rw[VN (by simp;omega)];simp only[c4];rw[cE (c9 h),ue];rfl
 .rw[qN (by simp;omega)];simp only[cX];rw[ay,bQ (by omega)];rfl
theorem aek (a b:List Int) (U:a.length<=ye) (hb:b.length<=ye):ll (a,b)=af (jl a b):=by
 unfold ye at U hb;unfold ll uT ck bz bF aZ cP aF cF;have hm:max a.length b.length<=1000000000:=by omega
 rw[cE (by simp only[yI];rw[qN (by omega),qN (by omega),wQ (by simp;omega) (by simp;omega)];rfl)];simp only[yI,gB,eE];have:=yG (σ:=Int×List Int) (R:=List Int) (max a.length b.length) (by omega) (λi=>((i:Int),(eS (max a.length b.length)).map λk=>if k<i then ko (a.getD k 0) (b.getD k 0) else 0)) (f:=(λI=>(bcase (fO I.1 (aO (max a.length b.length))) (obind (jt (a,I.1)) λM=>(obind (jt (b,I.1)) λJ=>(chk (fI I.1 (al I.2)) λ_=>(chk (fI I.1 (al I.2)) λ_=>(af (nh ((bm .i64 (I.1+1)),(cO I.2 I.1 (ko M J))))))))) (af (bW I.2))))) (r:=jl a b) ?_ ?_
 .refine Eq.trans ?_ this;congr 1;simp only[Int.natCast_zero,wL,dY,aD,A_];apply dA<;>simp
 .intro i hi;simp only[];rw[v7 (by simp;omega),cX,Kl,Kl,cW,cW,cE (c9 (by simpa using hi)),cE (c9 (by simpa using hi)),qR hi (by omega),fZ];congr 3;apply dA
  .simp
  .intro k h1 h2;simp only[cf,lm] at h2;simp only[uG,qH,m_];by_cases e:i=k
   .subst e;simp
   .by_cases h:k<i
    .rw[aB e,aE h,aE (by omega)]
    .rw[aB e,aB h,aB (by omega)]
 .simp only[];rw[xD (by simp),c4];congr 2;unfold jl;apply pO;intro k hk;rw[aE (m8.1 hk)]
theorem Yi (a b:List Int) (U:a.length<=ye) (hb:b.length<=ye):s6 (a,b)=af (jl a b,b):=by
 unfold ye at U hb;unfold s6 Hg ck bz bF aZ cP aF cF;have hm:max a.length b.length<=1000000000:=by omega
 rw[cE (by simp only[yI];rw[qN (by omega),qN (by omega),wQ (by simp;omega) (by simp;omega)];rfl)];simp only[yI,gB,eE];have:=yG (σ:=Int×List Int×List Int) (R:=List Int×List Int) (max a.length b.length) (by omega) (λi=>((i:Int),b,(eS (max a.length b.length)).map λk=>if k<i then ko (a.getD k 0) (b.getD k 0) else 0)) (f:=(λI=>(bcase (fO I.1 (aO (max a.length b.length))) (obind (jt (a,I.1)) λM=>(obind (jt (I.2.1,I.1)) λJ=>(chk (fI I.1 (al I.2.2)) λ_=>(chk (fI I.1 (al I.2.2)) λ_=>(af (nh ((bm .i64 (I.1+1)),I.2.1,(cO I.2.2 I.1 (ko M J))))))))) (af (bW (I.2.2,I.2.1)))))) (r:=(jl a b,b)) ?_ ?_
 .refine Eq.trans ?_ this;congr 1;simp only[Int.natCast_zero,wL,dY,aD,A_];apply dA<;>simp
 .intro i hi;simp only[];rw[v7 (by simp;omega),cX,Kl,Kl,cW,cW,cE (c9 (by simpa using hi)),cE (c9 (by simpa using hi)),qR hi (by omega),fZ];congr 4;apply dA
  .simp
  .intro k h1 h2;simp only[cf,lm] at h2;simp only[uG,qH,m_];by_cases e:i=k
   .subst e;simp
   .by_cases h:k<i
    .rw[aB e,aE h,aE (by omega)]
    .rw[aB e,aB h,aB (by omega)]
 .simp only[];rw[xD (by simp),c4];congr 3;unfold jl;apply pO;intro k hk;rw[aE (m8.1 hk)]
theorem R3 (a b:List Int) (I:a.length<=ye) (hb:b.length<=ye):Bv (a,b)=af (jl a b):=by
 unfold Bv;rw[Yi a b I hb,cW];exact Pc rfl _
def tk (c:List Int) (t:Nat):List Int:=(c++aG (t+1-c.length) 0).set t (c.getD t 0+1)
theorem LO (c:List Int) (t:Nat):(tk c t).length=max c.length (t+1):=by simp[tk];omega
theorem ajo (c:List Int) (n i:Nat):(c++aG n 0).getD i 0=c.getD i 0:=by
 simp only[ay];by_cases h:i<c.length
 .rw[bO h]
 .rw[b7 (by omega),bQ (l:=c) (by omega),lq];split<;>rfl
theorem Hy (c:List Int) (t i:Nat):(tk c t).getD i 0=if i=t then c.getD t 0+1 else c.getD i 0:=by
 unfold tk;rw[ay,oK];by_cases h:t=i
 .subst h;rw[aE rfl,aE (by simp;omega),aE rfl];rfl
 .rw[aB h,aB (λe=>h e.symm),<-ay,ajo]
theorem Z1 (c:List Int) (n:Nat) (h:c.length<=n):Sn (aG n 0) c=c++aG (n-c.length) 0:=by
 unfold Sn;rw[eE,fR h,List.drop_replicate]
theorem ady (c:List Int) (t:Nat) (hc:c.length<=ye) (ht:t<4) (h0:0<=c.getD t 0) (h1:c.getD t 0<9223372036854775807):sa (c,(t:Int))=af (tk c t):=by
 unfold ye at hc;unfold sa ck jz bF aZ aF cF;simp only[];rw[qN (by omega),cX,ju,v7 (by omega)];simp only[cX,ju];have e1:ko (aO c.length) (bm .i64 ((t:Int)+1))=((max c.length (t+1):Nat):Int):=by
  rw[qR ht (by omega)];exact yI _ _
 rw[e1];rw[cE (by rw[qN (by omega),qN (by omega),wQ (by simp;omega) (by simp;omega)];rfl)];rw[gB];have e2:Sn (aG (max c.length (t+1)) (0:Int)) c=c++aG (t+1-c.length) 0:=by
  rw[Z1 c _ (by omega)];rw[show max c.length (t+1)-c.length=t+1-c.length from by omega]
 rw[e2];have hl:t<(c++aG (t+1-c.length) (0:Int)).length:=by simp;omega
 rw[cE (c9 hl),cE (c9 hl),ju];have e3:aJ (T:=.int .i64) (c++aG (t+1-c.length) (0:Int)) (t:Int)=c.getD t 0:=by
  rw[ue];exact ajo c _ t
 simp only[];rw[e3,v7 h1,cX,cE (c9 hl),cE (c9 hl),cE (c9 hl),cE (c9 hl),ju,aer (by omega) (by omega),fZ];rfl
theorem Si (c:List Int) (hc:c.length<=ye):Bw c=af c:=by
 unfold ye at hc;unfold Bw;rw[cE (wQ (by omega) (by omega))]
theorem MQ (c:List Int) (hc:c.length<=ye):uM c=af c:=by
 unfold ye at hc;unfold uM vV bF;rw[cE (wQ (by simp;omega) (by simp;omega)),cW];exact Pc rfl _
theorem MR (c:List Int) (hc:c.length<=ye):oP c=af c:=Si c hc
def GL (l:List (List Int)):Prop:=l.length<=ye/\∀ c∈l,c.length<=ye
abbrev HTp:Type:=List (List Int)×List (List Int)×List (List Int)×List (List Int)×List (List Int)×List (List Int)×List Int×List (List Int)×List Int
def GH (h:HTp):Prop:=GL h.1/\GL h.2.1/\GL h.2.2.1/\GL h.2.2.2.1/\GL h.2.2.2.2.1/\GL h.2.2.2.2.2.1/\h.2.2.2.2.2.2.1.length<=ye/\GL h.2.2.2.2.2.2.2.1/\h.2.2.2.2.2.2.2.2.length<=ye
theorem IE {l:List (List Int)} {i:Nat} (h:i<l.length):l.getD i []∈l:=by
 rw[ay,aA h];exact uH h
theorem GL.at {l:List (List Int)} (h:GL l) (i:Nat):(l.getD i []).length<=ye:=by
 by_cases hi:i<l.length
 .exact h.2 _ (IE hi)
 .rw[ay,bQ (by omega)];simp
theorem XF (g:List Int->Option (List Int)) (l:List (List Int)) (hl:l.length<=ye) (hg:∀ c∈l,g c=af c):
 gk (σ:=Int×List (List Int)) (λI=>(bcase (fO I.1 (aO (al l))) (chk (fI I.1 (al l)) λ_=>(obind (g (aJ (T:=(.sl (.int .i64))) l I.1)) λJ=>(chk (fI I.1 (al I.2)) λ_=>(chk (fI I.1 (al I.2)) λ_=>(af (nh ((bm .i64 (I.1+1)),(cO I.2 I.1 J)))))))) (af (bW I.2)))) (0,(aG (aU (aO (al l))) ([]:List Int)))=af l:=by
 unfold ye at hl;have:=yG (σ:=Int×List (List Int)) (R:=List (List Int)) l.length (by omega) (λi=>((i:Int),(eS l.length).map λk=>if k<i then l.getD k [] else [])) (f:=(λI=>(bcase (fO I.1 (aO (al l))) (chk (fI I.1 (al l)) λ_=>(obind (g (aJ (T:=(.sl (.int .i64))) l I.1)) λJ=>(chk (fI I.1 (al I.2)) λ_=>(chk (fI I.1 (al I.2)) λ_=>(af (nh ((bm .i64 (I.1+1)),(cO I.2 I.1 J)))))))) (af (bW I.2))))) (r:=l) ?_ ?_
 .refine Eq.trans ?_ this;congr 1;simp only[Int.natCast_zero,wL,dY,aD,A_,au,gB];apply dA<;>simp
 .intro i hi;simp only[];rw[v7 (by simp;omega),cX,cE (c9 hi),ue,show (l.getD i (Ty.zero (.sl (.int .i64))))=l.getD i [] from rfl,hg _ (IE hi),cW,cE (c9 (by simpa using hi)),cE (c9 (by simpa using hi)),qR hi (by omega),fZ];congr 3;apply dA
  .simp
  .intro k h1 h2;simp only[cf,lm] at h2;simp only[uG,qH,m_];by_cases e:i=k
   .subst e;simp
   .by_cases h:k<i
    .rw[aB e,aE h,aE (by omega)]
    .rw[aB e,aB h,aB (by omega)]
 .simp only[];rw[xD (by simp),c4];congr 2;apply dA
  .simp
  .intro k h1 h2;simp only[qH,m_];rw[aE h2,ay,aA h2];rfl
theorem rC (l:List (List Int)) (h:GL l):il l=af l:=by
 have hl:=h.1;unfold ye at hl;unfold il xf ck bz vI bF aZ cP aF cF;rw[cE (by rw[qN (by simp),qN (by omega),wQ (by simp;omega) (by simp;omega)];rfl)];exact XF Bw l h.1 λc hc=>Si c (h.2 c hc)
theorem XG (h:HTp) (g:GH h):tX h=af (h.2.2.2.2.2.2.1,h.1,h.2.1,h.2.2.1,h.2.2.2.1,h.2.2.2.2.1,h.2.2.2.2.2.1,h.2.2.2.2.2.2.2.1,h.2.2.2.2.2.2.2.2):=by
 obtain⟨g1,g2,g3,Z,Y,U,M,J,I⟩:=g;unfold tX aX bl bw cz ef kz pN;rw[rC _ g1,cW,rC _ g2,cW,rC _ g3,cW,rC _ Z,cW,rC _ Y,cW,rC _ U,cW,MR _ M,cW,rC _ J,cW,MR _ I,cW]
abbrev ut:Type:=List (List UInt8×Int×Int×Bool×Int)×List (List UInt8×Bool)×List (List UInt8×Int)×List (List UInt8)×List (List UInt8)×List (Int×Int×Int)
def h0 (w:ut):HTp:=(aG w.2.2.2.2.1.length [],aG w.2.2.2.2.1.length [],aG w.2.1.length [],aG w.2.1.length [],aG w.1.length [],aG w.2.2.2.1.length [],[],aG w.2.2.2.2.1.length [],aG w.2.2.2.2.1.length (-1))
theorem aal (w:ut) (h1:w.1.length<=ye) (h2:w.2.1.length<=ye) (M:w.2.2.2.1.length<=ye) (J:w.2.2.2.2.1.length<=ye):pB w=af (h0 w):=by
 unfold ye at h1 h2 M J;have c:∀ n b:Nat,n<=1000000000->b<=24->(c5 0 (aO n)&&c5 (aO n) (aO n)&&bd (aU (aO n)) b)=ai:=λn b hn hb=>by
  have:n*b<=n*24:=Nat.mul_le_mul_left n hb;rw[qN (by simp),qN (by omega),wQ (by simp;omega) (by simp;omega)];rfl
 unfold pB zQ aX bl bw cz ef kz pN ck bz bF aZ cP aF cF;rw[cE (c _ 24 J (by omega)),cE (c _ 24 J (by omega)),cE (c _ 24 h2 (by omega)),cE (c _ 24 h2 (by omega)),cE (c _ 24 h1 (by omega)),cE (c _ 24 M (by omega)),cE (c _ 24 J (by omega)),cE (c _ 8 J (by omega))];simp only[au,gB,eE];have:=yG (σ:=Int×(List (List Int))×(List (List Int))×(List (List Int))×(List (List Int))×(List (List Int))×(List (List Int))×(List (List Int))×List Int) (R:=HTp) w.2.2.2.2.1.length (by omega) (λi=>((i:Int),aG w.2.2.2.2.1.length [],aG w.2.2.2.2.1.length [],aG w.2.1.length [],aG w.2.1.length [],aG w.1.length [],aG w.2.2.2.1.length [],aG w.2.2.2.2.1.length [],(eS w.2.2.2.2.1.length).map λk=>if k<i then -1 else 0)) (f:=(λI=>(bcase (fO I.1 (w.2.2.2.2.1.length:Int)) (chk (fI I.1 (al I.2.2.2.2.2.2.2.2)) λ_=>(chk (fI I.1 (al I.2.2.2.2.2.2.2.2)) λ_=>(af (nh ((bm .i64 (I.1+1)),I.2.1,I.2.2.1,I.2.2.2.1,I.2.2.2.2.1,I.2.2.2.2.2.1,I.2.2.2.2.2.2.1,I.2.2.2.2.2.2.2.1,(cO I.2.2.2.2.2.2.2.2 I.1 (-1))))))) (af (bW (I.2.1,I.2.2.1,I.2.2.2.1,I.2.2.2.2.1,I.2.2.2.2.2.1,I.2.2.2.2.2.2.1,([]:List Int),I.2.2.2.2.2.2.2.1,I.2.2.2.2.2.2.2.2)))))) (r:=h0 w) ?_ ?_
 .refine Eq.trans ?_ this;congr 1;simp only[Int.natCast_zero,wL,dY,aD,A_];apply dA<;>simp
 .intro i hi;simp only[];rw[v7 (by omega),cX,cE (c9 (by simpa using hi)),cE (c9 (by simpa using hi)),qR hi (by omega),fZ];congr 3;simp only[aD,A_];apply dA
  .simp
  .intro k h1 h2;simp only[cf,lm] at h2;simp only[uG,qH,m_];by_cases e:i=k
   .subst e;simp
   .by_cases h:k<i
    .rw[aB e,aE h,aE (by omega)]
    .rw[aB e,aB h,aB (by omega)]
 .simp only[];rw[xD (by omega),c4];unfold h0;congr 3;simp only[aD,A_];apply dA
  .simp
  .intro k h1 h2;simp only[eE] at h2;simp only[qH,m_,List.getElem_replicate];rw[aE h2]
theorem vZ (x y:Int):ko x y=max x y:=by
 unfold ko;by_cases h:x<y
 .rw[v7 h,aE rfl];omega
 .rw[xD (by omega)];simp;omega
theorem L9 {a b:List Int} (hl:a.length=b.length) (h:∀ i,a.getD i 0=b.getD i 0):a=b:=by
 apply dA hl;intro i h1 h2;have:=h i;simpa[ay,aA h1,aA h2] using this
def En (n:Int) (c:List Int):Prop:=c.length<=4/\∀ i,0<=c.getD i 0/\c.getD i 0<=n
theorem En.nil {n:Int} (h:0<=n):En n []:=⟨by simp,λi=>by simp;exact h⟩
theorem En.mono {n m:Int} {c:List Int} (h:En n c) (hm:n<=m):En m c:=⟨h.1,λi=>⟨(h.2 i).1,Int.le_trans (h.2 i).2 hm⟩⟩
theorem En.jl {n:Int} {a b:List Int} (I:En n a) (hb:En n b):En n (jl a b):=⟨by rw[vX];have:=I.1;have:=hb.1;omega,λi=>by
 rw[Bx];obtain⟨h1,h2⟩:=I.2 i;obtain⟨M,J⟩:=hb.2 i;unfold ko;split<;>exact⟨by assumption,by assumption⟩⟩
theorem En.tk {n:Int} {c:List Int} {t:Nat} (h:En n c) (ht:t<4):En (n+1) (tk c t):=⟨by rw[LO];have:=h.1;omega,λi=>by
 rw[Hy];obtain⟨h1,h2⟩:=h.2 i;obtain⟨J,I⟩:=h.2 t;split<;>omega⟩
theorem agc {n:Int} {c:List Int} (h:En n c):jl [] c=c:=L9 (by simp[vX]) λi=>by
 rw[Bx,vZ];have:=(h.2 i).1;simp only[List.getD_nil];omega
def AX (n:Int) (l:List (List Int)):Prop:=∀ i,En n (l.getD i [])
theorem AX.mono {n m:Int} {l:List (List Int)} (h:AX n l) (hm:n<=m):AX m l:=λi=>(h i).mono hm
theorem AX.set {n:Int} {l:List (List Int)} (h:AX n l) {c:List Int} (hc:En n c) (j:Nat):AX n (l.set j c):=λi=>by
 rw[ay,oK];by_cases e:j=i
 .subst e;rw[aE rfl];split
  .exact hc
  .have:=h j;simp only[ay] at this;rename_i hj;rw[bQ (by omega)] at this;exact this
 .rw[aB e,<-ay];exact h i
theorem AX.repl {n:Int} (h:0<=n) (k:Nat):AX n (aG k []):=λi=>by
 rw[ay,lq];split<;>exact En.nil h
structure HS where
 T:List (List Int)
 S:List (List Int)
 L:List (List Int)
 R:List (List Int)
 C:List (List Int)
 F:List (List Int)
 X:List Int
 N:List (List Int)
 W:List Int
def HS.t (h:HS):HTp:=(h.T,h.S,h.L,h.R,h.C,h.F,h.X,h.N,h.W)
structure EV where
 th:Nat
 k:Nat
 ob:Nat
 va:Int
abbrev WTc:=List (List UInt8×Int)
def Ks (I:WTc) (o:Nat):Nat:=((I.getD o ([],0)).2).toNat
def Hu (I:List (List UInt8×Int×Int×Bool×Int)) (o:Nat):Bool:=(I.getD o ([],0,0,aj,0)).2.2.2.1
def yl (w:ut) (h:HS) (e:EV):List (List Int):=
 if e.k=1 then [h.S.getD e.th []]
 else if e.k=21 then [h.T.getD e.ob []]
 else if e.k=6\/e.k=10 then [h.L.getD e.ob [],h.R.getD e.ob []]
 else if e.k=8 then [h.L.getD e.ob []]
 else if e.k=17 then [h.L.getD (Ks w.2.2.1 e.ob) [],h.R.getD (Ks w.2.2.1 e.ob) [],h.N.getD e.th []]
 else if e.k=3 then [h.C.getD e.ob []]
 else if e.k=23 then [h.F.getD e.ob []]
 else if e.k=12 then [h.X]
 else []
def Gz (w:ut) (h:HS) (e:EV):List Int:=tk ((yl w h e).foldl jl (h.T.getD e.th [])) e.th
def jat (l:List (List Int)) (i:Nat) (c:List Int):List (List Int):=l.set i (jl (l.getD i []) c)
def B4 (p:Nat->Bool) (c:List Int) (h:HS):HS:={h with N:=h.N.mapIdx λu x=>if p u then c else x,W:=h.W.mapIdx λu x=>if p u then -1 else x}
def jm (w:ut) (h:HS) (e:EV) (c:List Int):HS:=
 let h:={h with T:=h.T.set e.th c}
 if e.k=20 then {h with S:=h.S.set e.ob c}
 else if e.k=7\/e.k=11 then {h with L:=jat h.L e.ob c}
 else if e.k=9 then {h with R:=jat h.R e.ob c}
 else if e.k=16 then {h with L:=jat h.L (Ks w.2.2.1 e.ob) c,W:=h.W.set e.th e.ob}
 else if e.k=4 then (if Hu w.1 e.ob then {h with C:=jat h.C e.ob c} else h)
 else if e.k=22 then {h with F:=jat h.F e.ob c}
 else if e.k=13 then {h with X:=jl h.X c}
 else if e.k=18 then (if 0<=e.va/\e.va<h.N.length then {h with N:=h.N.set e.va.toNat c,W:=h.W.set e.va.toNat (-1)} else h)
 else if e.k=19 then B4 (λu=>decide (h.W.getD u 0=(e.ob:Int))) c h
 else h
def O4 (w:ut) (h:HS) (e:EV):HS×List Int:=(jm w h e (Gz w h e),Gz w h e)
structure EOK (w:ut) (h:HS) (e:EV):Prop where
 th4:e.th<4
 th:e.th<h.T.length
 k1:1<=e.k
 k2:e.k<=23
 sp:e.k=20\/e.k=21->e.ob<h.T.length
 lk:6<=e.k/\e.k<=11->e.ob<h.L.length
 cd:e.k=16\/e.k=17->e.ob<w.2.2.1.length/\0<=(w.2.2.1.getD e.ob ([],0)).2/\Ks w.2.2.1 e.ob<h.L.length
 ce:e.k=3\/e.k=4->e.ob<h.C.length/\e.ob<w.1.length
 fu:e.k=22\/e.k=23->e.ob<h.F.length
structure Sp (n:Int) (h:HS):Prop where
 n0:0<=n
 n1:n<=1000000
 T:AX n h.T
 S:AX n h.S
 L:AX n h.L
 R:AX n h.R
 C:AX n h.C
 F:AX n h.F
 X:En n h.X
 N:AX n h.N
 lT:h.T.length<=1000
 lS:h.S.length=h.T.length
 lN:h.N.length=h.T.length
 lW:h.W.length=h.T.length
 lL:h.L.length<=1000
 lR:h.R.length=h.L.length
 lC:h.C.length<=1000
 lF:h.F.length<=1000
theorem En.lb {n:Int} {c:List Int} (h:En n c):c.length<=ye:=by have:=h.1;unfold ye;omega
theorem AX.GL {n:Int} {l:List (List Int)} (h:AX n l) (hl:l.length<=1000):GL l:=⟨by unfold ye;omega,λc hc=>by
 obtain⟨i,hi⟩:=eV hc;have:=(h i).lb
 rwa [ay,hi] at this⟩
theorem Sp.GH {n:Int} {h:HS} (o:Sp n h):GH h.t:=
 ⟨o.T.GL o.lT,o.S.GL (by rw[o.lS];exact o.lT),o.L.GL o.lL,o.R.GL (by rw[o.lR];exact o.lL),o.C.GL o.lC,o.F.GL o.lF,o.X.lb,o.N.GL (by rw[o.lN];exact o.lT),by show h.W.length<=ye;have:=o.lT;rw[o.lW];unfold ye;omega⟩
theorem En.join {n:Int} {a b:List Int} (I:En n a) (hb:En n b):ll (a,b)=af (AI.jl a b):=aek a b I.lb hb.lb
theorem Sy {n:Int} {w:ut} {h:HS} (o:Sp n h) (e:EV):∀ c∈yl w h e,En n c:=by
 intro c hc;unfold yl at hc;repeat' (split at hc)
 all_goals simp only[bi,cu,fY] at hc
 .subst hc;exact o.S _
 .subst hc;exact o.T _
 .rcases hc with rfl|rfl
  .exact o.L _
  .exact o.R _
 .subst hc;exact o.L _
 .rcases hc with rfl|rfl|rfl
  .exact o.L _
  .exact o.R _
  .exact o.N _
 .subst hc;exact o.C _
 .subst hc;exact o.F _
 .subst hc;exact o.X
theorem CL {n:Int}:∀ (l:List (List Int)) (c:List Int),En n c->(∀ x∈l,En n x)->En n (l.foldl jl c)
 |[],_,hc,_=>hc
 |x::r,c,hc,h=>CL r _ (hc.jl (h x (dz ..))) λy I=>h y (cM _ I)
theorem UD {n:Int} {w:ut} {h:HS} (o:Sp n h) {e:EV} (he:e.th<4):En (n+1) (Gz w h e):=(CL _ _ (o.T _) (Sy o e)).tk he
theorem AX.jat {n:Int} {l:List (List Int)} {c:List Int} (h:AX n l) (hc:En n c) (i:Nat):AX n (jat l i c):=h.set ((h i).jl hc) i
theorem AX.mapIdx {n:Int} {l:List (List Int)} {c:List Int} (h:AX n l) (hc:En n c) (p:Nat->Bool):AX n (l.mapIdx λu x=>if p u then c else x):=λi=>by
 rw[ay,DE];have:=h i;rw[ay] at this;cases I:l[i]? with
 |none=>rw[I] at this;exact this
 |some x=>
  rw[I] at this;simp only[ca,uE];split
  .exact hc
  .exact this
theorem ad2 {n:Int} {w:ut} {h:HS} (o:Sp n h) (hn:n+1<=1000000) {e:EV} {c:List Int} (hc:En (n+1) c):Sp (n+1) (jm w h e c):=by
 have m:n<=n+1:=by omega
 have oT:AX (n+1) (h.T.set e.th c):=(o.T.mono m).set hc _;have b:Sp (n+1) {h with T:=h.T.set e.th c}:=⟨by have:=o.n0;omega,hn,oT,o.S.mono m,o.L.mono m,o.R.mono m,o.C.mono m,o.F.mono m,o.X.mono m,o.N.mono m,by simpa using o.lT,by simpa using o.lS,by simpa using o.lN,by simpa using o.lW,o.lL,o.lR,o.lC,o.lF⟩
 unfold jm;simp only[];repeat' split
 .exact {b with S:=(o.S.mono m).set hc _,lS:=by simpa using b.lS}
 .exact {b with L:=(o.L.mono m).jat hc _,lL:=by simpa[jat] using b.lL,lR:=by simpa[jat] using b.lR}
 .exact {b with R:=(o.R.mono m).jat hc _,lR:=by simpa[jat] using b.lR}
 .exact {b with L:=(o.L.mono m).jat hc _,lL:=by simpa[jat] using b.lL,lR:=by simpa[jat] using b.lR,lW:=by simpa using b.lW}
 .exact {b with C:=(o.C.mono m).jat hc _,lC:=by simpa[jat] using b.lC}
 .exact b
 .exact {b with F:=(o.F.mono m).jat hc _,lF:=by simpa[jat] using b.lF}
 .exact {b with X:=(o.X.mono m).jl hc}
 .exact {b with N:=(o.N.mono m).set hc _,lN:=by simpa using b.lN,lW:=by simpa using b.lW}
 .exact b
 .exact {b with N:=(o.N.mono m).mapIdx hc _,lN:=by simpa[B4] using b.lN,lW:=by simpa[B4] using b.lW}
 .exact b
theorem YP {n:Int} {w:ut} {h:HS} (o:Sp n h) (hn:n+1<=1000000) {e:EV} (he:e.th<4):Sp (n+1) (O4 w h e).1:=ad2 o hn (UD o he)
theorem aa5 {a b:Nat} (h:a=b):aC a b=ai:=by subst h;exact rG a
theorem QD (l:List (List Int)) (i:Nat) (h:i<l.length):tC ((i:Int),l)=af (l.getD i [],l):=by
 unfold tC ck bz aZ aF;simp only[];rw[xD (by omega)];simp only[c4,ju];rw[VN (by simp;omega)];simp only[c4];rw[cE (c9 h),cE (c9 h),rz]
theorem tF {n:Int} (l:List (List Int)) (i:Nat) (c:List Int) (h:i<l.length) (hl:AX n l) (hc:En n c):lB ((i:Int),l,c)=af (jat l i c,c):=by
 unfold lB ck jz aZ aF;simp only[];rw[qN (by omega)];simp only[cX,ju];rw[v7 (by simp;omega)];simp only[cX];rw[cE (c9 h),cE (c9 h),rz,R3 _ _ (hl i).lb hc.lb,cW,cE (c9 h),cE (c9 h),fZ];rfl
theorem rq (l:List (List Int)) (i:Nat) (c:List Int):(jat l i c).length=l.length:=by simp[jat]
theorem Vb {n:Int} (h:HS) (u:Nat) (c:List Int) (h1:u<h.N.length) (h2:u<h.W.length) (hc:En n c):vQ ((u:Int),h.X,h.T,h.S,h.L,h.R,h.C,h.F,h.N,h.W,c)=af (h.X,h.T,h.S,h.L,h.R,h.C,h.F,h.N.set u c,h.W.set u (-1),c):=by
 unfold vQ aX bl bw cz ef kz zD BZ Prod.q10 ck;simp only[];rw[MQ c hc.lb,cW,cE (c9 h1),cE (c9 h1),cE (c9 h2),cE (c9 h2),fZ,fZ]
theorem Hb (I:WTc) (i:Nat):aJ (T:=.st (.pr .str (.int .i64))) I (i:Int)=I.getD i ([],0):=ue (T:=.st (.pr .str (.int .i64))) I i
theorem VR (I:List (List UInt8×Int×Int×Bool×Int)) (i:Nat):aJ (T:=.st (.pr .str (.pr (.int .i64) (.pr (.int .i64) (.pr .bool (.int .i64)))))) I (i:Int)=I.getD i ([],0,0,aj,0):=ue (T:=.st (.pr .str (.pr (.int .i64) (.pr (.int .i64) (.pr .bool (.int .i64)))))) I i
abbrev ETp:Type:=Int×Int×Int×Int×Int×List Int×List Int
structure EvT (e:EV) (x:ETp):Prop where
 th:x.1=(e.th:Int)
 k:x.2.1=(e.k:Int)
 ob:e.k∈[3,4,6,7,8,9,10,11,16,17,18,19,20,21,22,23]->x.2.2.1=(e.ob:Int)
 va:x.2.2.2.1=e.va
theorem G9 {k:Nat} {z:Int} (I:z=(k:Int)) (h1:1<=k) (h2:k<=23):(k=1/\z=1)\/(k=2/\z=2)\/(k=3/\z=3)\/(k=4/\z=4)\/(k=5/\z=5)\/(k=6/\z=6)\/(k=7/\z=7)\/(k=8/\z=8)\/(k=9/\z=9)\/(k=10/\z=10)\/(k=11/\z=11)\/(k=12/\z=12)\/(k=13/\z=13)\/(k=14/\z=14)\/(k=15/\z=15)\/(k=16/\z=16)\/(k=17/\z=17)\/(k=18/\z=18)\/(k=19/\z=19)\/(k=20/\z=20)\/(k=21/\z=21)\/(k=22/\z=22)\/(k=23/\z=23):=by
 have h:k=1\/k=2\/k=3\/k=4\/k=5\/k=6\/k=7\/k=8\/k=9\/k=10\/k=11\/k=12\/k=13\/k=14\/k=15\/k=16\/k=17\/k=18\/k=19\/k=20\/k=21\/k=22\/k=23:=by omega
 subst I;rcases h with rfl|rfl|rfl|rfl|rfl|rfl|rfl|rfl|rfl|rfl|rfl|rfl|rfl|rfl|rfl|rfl|rfl|rfl|rfl|rfl|rfl|rfl|rfl<;>simp
theorem UT (a:Nat):(aC a a&&ai)=ai:=by rw[aa5 rfl];rfl
theorem aak {n:Int} {w:ut} {h:HS} (o:Sp n h) {e:EV} (ok:EOK w h e) {x:ETp} (hx:EvT e x):tZ (x,h.X,w,h.T,h.S,h.L,h.R,h.C,h.F,h.N,h.W)=af (yl w h e,x,h.X,w,h.T,h.S,h.L,h.R,h.C,h.F,h.N,h.W):=by
 obtain⟨x1,x2,M,x4,x5,x6,x7⟩:=x;obtain⟨w1,w2,U,w4,w5,w6⟩:=w;obtain⟨th,k,ob,va⟩:=e;obtain⟨q1,Y,q3,q4⟩:=hx;simp only at q1 Y q3 q4;subst q1 q4;have t1:=ok.th;simp only at t1;have fS:fI (th:Int) h.S.length=ai:=c9 (by rw[o.lS];exact t1);have fN:fI (th:Int) h.N.length=ai:=c9 (by rw[o.lN];exact t1);have fT:k=21->fI (ob:Int) h.T.length=ai/\M=(ob:Int):=λe=>by
  subst e;have:=ok.sp (.inr rfl);exact⟨c9 this,q3 (by decide)⟩
 have fL:(k=6\/k=10\/k=8)->fI (ob:Int) h.L.length=ai/\fI (ob:Int) h.R.length=ai/\M=(ob:Int):=λe=>by
  have h1:ob<h.L.length:=ok.lk (by rcases e with rfl|rfl|rfl<;>(simp only[];omega));exact⟨c9 h1,c9 (by rw[o.lR];exact h1),q3 (by rcases e with rfl|rfl|rfl<;>decide)⟩
 have fC:k=3->fI (ob:Int) h.C.length=ai/\M=(ob:Int):=λe=>by
  subst e;have:=(ok.ce (.inl rfl)).1;exact⟨c9 this,q3 (by decide)⟩
 have fF:k=23->fI (ob:Int) h.F.length=ai/\M=(ob:Int):=λe=>by
  subst e;have:=ok.fu (.inr rfl);exact⟨c9 this,q3 (by decide)⟩
 unfold tZ yl DB aX bl bw cz ef kz zD BZ Prod.q10 Prod.q11 cS fc ck bf vI bF aF;rcases G9 Y ok.k1 ok.k2 with ⟨e,e'⟩|⟨e,e'⟩|⟨e,e'⟩|⟨e,e'⟩|⟨e,e'⟩|⟨e,e'⟩|⟨e,e'⟩|⟨e,e'⟩|⟨e,e'⟩|⟨e,e'⟩|⟨e,e'⟩|⟨e,e'⟩|⟨e,e'⟩|⟨e,e'⟩|⟨e,e'⟩|⟨e,e'⟩|⟨e,e'⟩|⟨e,e'⟩|⟨e,e'⟩|⟨e,e'⟩|⟨e,e'⟩|⟨e,e'⟩|⟨e,e'⟩<;>clear Y<;>subst e<;>subst e'
 case inr.inr.inr.inr.inr.inr.inr.inr.inr.inr.inr.inr.inr.inr.inr.inr.inl=>
  have q3:=q3 (by decide);subst q3;obtain⟨d1,d2,Z⟩:=ok.cd (.inr rfl);simp only at d1 d2 Z;have d4:Ks U ob<h.R.length:=by rw[o.lR];exact Z
  have e1:(U.getD ob ([],0)).2=((Ks U ob:Nat):Int):=by unfold Ks;omega
  simp only[aT,cr,cJ,cX,c4,ju,cE,c9 d1,Hb,e1,QD _ _ Z,QD _ _ d4,cW,UT,fN,rz];rfl
 case inr.inr.inl=>
  obtain⟨I,rfl⟩:=fC rfl;simp only[aT,cr,cJ,cX,c4,ju,cE,I,rz];rfl
 case inr.inr.inr.inr.inr.inr.inr.inr.inr.inr.inr.inr.inr.inr.inr.inr.inr.inr.inr.inr.inr.inr=>
  obtain⟨I,rfl⟩:=fF rfl;simp only[aT,cr,cJ,cX,c4,ju,cE,I,rz];rfl
 case inr.inr.inr.inr.inr.inr.inr.inr.inr.inr.inr.inr.inr.inr.inr.inr.inr.inr.inr.inr.inl=>
  obtain⟨I,rfl⟩:=fT rfl;simp only[aT,cr,cJ,cX,c4,ju,cE,I,rz];rfl
 case inl=>
  simp only[aT,cr,cJ,cX,c4,ju,cE,fS,rz];rfl
 case inr.inr.inr.inr.inr.inl=>
  obtain⟨I,J,rfl⟩:=fL (by decide);simp only[aT,cr,cJ,cX,c4,ju,cE,I,J,rz];rfl
 case inr.inr.inr.inr.inr.inr.inr.inr.inr.inl=>
  obtain⟨I,J,rfl⟩:=fL (by decide);simp only[aT,cr,cJ,cX,c4,ju,cE,I,J,rz];rfl
 case inr.inr.inr.inr.inr.inr.inr.inl=>
  obtain⟨I,J,rfl⟩:=fL (by decide);simp only[aT,cr,cJ,cX,c4,ju,cE,I,J,rz];rfl
 all_goals
  simp only[aT,cr,cJ,cX,c4,ju];rfl
theorem L_ {σ R:Type} {f:σ->Option (σ⊕R)} {x0:σ} {r:R} (n:Nat) (hn:n<18446744073709551616) (st:Nat->σ) (I:x0=st 0) (h0:∀ i,i<n->f (st i)=af (.inl (st (i+1)))) (h1:f (st n)=af (.inr r)):gk f x0=af r:=by
 subst I;exact yG n hn st h0 h1
def Kp {α:Type} (p:Nat->Bool) (c:α) (u:Nat) (l:List α):List α:=l.mapIdx λk x=>if decide (k<u)&&p k then c else x
theorem YD {α:Type} (p:Nat->Bool) (c:α) (l:List α):Kp p c 0 l=l:=by
 unfold Kp;apply dA
 .simp
 .intro i h1 h2;simp
theorem Ht {α:Type} (p:Nat->Bool) (c:α) (u:Nat) (l:List α):(Kp p c u l).length=l.length:=by simp[Kp]
theorem O0 {α:Type} (p:Nat->Bool) (c:α) (u:Nat) (l:List α) (h:l.length<=u):Kp p c u l=l.mapIdx λk x=>if p k then c else x:=by
 unfold Kp;apply dA
 .simp
 .intro i h1 h2;simp only[List.length_mapIdx] at h1;simp only[List.getElem_mapIdx];rw[show decide (i<u)=ai from aQ (by omega)];rfl
theorem U' {α:Type} (p:Nat->Bool) (c:α) (u:Nat) (l:List α) (hp:p u=ai):(Kp p c u l).set u c=Kp p c (u+1) l:=by
 unfold Kp;apply dA
 .simp
 .intro i h1 h2;simp only[uG,List.getElem_mapIdx];by_cases e:u=i
  .subst e;simp[hp]
  .rw[aB e];by_cases h:i<u
   .rw[aQ h,aQ (show i<u+1 by omega)]
   .rw[bH h,bH (show ¬i<u+1 by omega)]
theorem OZ {α:Type} (p:Nat->Bool) (c:α) (u:Nat) (l:List α) (hp:p u=aj):Kp p c u l=Kp p c (u+1) l:=by
 unfold Kp;apply dA
 .simp
 .intro i h1 h2;simp only[List.getElem_mapIdx];by_cases e:u=i
  .subst e;simp[hp]
  .by_cases h:i<u
   .rw[aQ h,aQ (show i<u+1 by omega)]
   .rw[bH h,bH (show ¬i<u+1 by omega)]
theorem ag0 (p:Nat->Bool) (c:Int) (u:Nat) (l:List Int):(Kp p c u l).getD u 0=l.getD u 0:=by
 unfold Kp;rw[ay,DE,ay];cases l[u]? with
 |none=>rfl
 |some x=>simp
def HS.e (h:HS) (c:List Int):List Int×List (List Int)×List (List Int)×List (List Int)×List (List Int)×List (List Int)×List (List Int)×List (List Int)×List Int×List Int:=(h.X,h.T,h.S,h.L,h.R,h.C,h.F,h.N,h.W,c)
theorem ZV {n:Int} {w:ut} {h:HS} (o:Sp n h) (hn:n+1<=1000000) {e:EV} (ok:EOK w h e) {x:ETp} (hx:EvT e x) {c:List Int} (hc:En (n+1) c):rk ((w,x),h.e c)=af ((jm w h e c).e c):=by
 obtain⟨x1,x2,x3,I,x5,x6,x7⟩:=x;obtain⟨M,w2,U,w4,w5,w6⟩:=w;obtain⟨th,k,ob,va⟩:=e;obtain⟨q1,q2,q3,q4⟩:=hx;simp only at q1 q2 q3 q4;subst q1 q4;have t1:=ok.th;simp only at t1;have m:n<=n+1:=by omega
 have fT:fI (th:Int) h.T.length=ai:=c9 t1;have fW:fI (th:Int) h.W.length=ai:=c9 (by rw[o.lW];exact t1);have J:=MQ c hc.lb;unfold rk zP HS.e DB Prod.p11 Prod.p12 Prod.p13 Prod.p14 Prod.p15 Prod.p16 Prod.p17 aX bl bw cz ef kz zD BZ Prod.q10 Prod.q16 Prod.q17 Prod.q18 cS ky Prod.q9 ck bf bz jz vI bF aZ cP aF cF;rcases G9 q2 ok.k1 ok.k2 with ⟨e,e'⟩|⟨e,e'⟩|⟨e,e'⟩|⟨e,e'⟩|⟨e,e'⟩|⟨e,e'⟩|⟨e,e'⟩|⟨e,e'⟩|⟨e,e'⟩|⟨e,e'⟩|⟨e,e'⟩|⟨e,e'⟩|⟨e,e'⟩|⟨e,e'⟩|⟨e,e'⟩|⟨e,e'⟩|⟨e,e'⟩|⟨e,e'⟩|⟨e,e'⟩|⟨e,e'⟩|⟨e,e'⟩|⟨e,e'⟩|⟨e,e'⟩<;>clear q2<;>subst e<;>subst e'
 case inr.inr.inr.inr.inr.inr.inr.inr.inr.inr.inr.inr.inr.inr.inr.inr.inr.inr.inr.inl=>
  obtain rfl:=q3 (by decide);have f:fI (ob:Int) h.S.length=ai:=c9 (by rw[o.lS];exact ok.sp (.inl rfl));simp only[aT,cr,cJ,cX,c4,ju,cW,cE,J,fT,f,fZ];rfl
 case inr.inr.inr.inr.inr.inr.inl=>
  obtain rfl:=q3 (by decide);have f:ob<h.L.length:=ok.lk (by simp only[];omega);simp only[aT,cr,cJ,cX,c4,ju,cW,cE,J,fT,fZ,tF _ _ _ f (o.L.mono m) hc,rq,UT];rfl
 case inr.inr.inr.inr.inr.inr.inr.inr.inr.inr.inl=>
  obtain rfl:=q3 (by decide);have f:ob<h.L.length:=ok.lk (by simp only[];omega);simp only[aT,cr,cJ,cX,c4,ju,cW,cE,J,fT,fZ,tF _ _ _ f (o.L.mono m) hc,rq,UT];rfl
 case inr.inr.inr.inr.inr.inr.inr.inr.inl=>
  obtain rfl:=q3 (by decide);have f:ob<h.R.length:=by rw[o.lR];exact ok.lk (by simp only[];omega)
  simp only[aT,cr,cJ,cX,c4,ju,cW,cE,J,fT,fZ,tF _ _ _ f (o.R.mono m) hc,rq,UT];rfl
 case inr.inr.inr.inr.inr.inr.inr.inr.inr.inr.inr.inr.inr.inr.inr.inl=>
  obtain rfl:=q3 (by decide);obtain⟨Z,d2,d3⟩:=ok.cd (.inl rfl);simp only at Z d2 d3;have e1:(U.getD ob ([],0)).2=((Ks U ob:Nat):Int):=by unfold Ks;omega
  simp only[aT,cr,cJ,cX,c4,ju,cW,cE,J,fT,fW,fZ,c9 Z,Hb,e1,tF _ _ _ d3 (o.L.mono m) hc,rq,UT];rfl
 case inr.inr.inr.inl=>
  obtain rfl:=q3 (by decide);obtain⟨Z,d2⟩:=ok.ce (.inr rfl);simp only at Z d2;simp only[aT,cr,cJ,cX,c4,ju,cW,cE,J,fT,fZ,c9 d2,VR];cases hv:(M.getD ob ([],0,0,aj,0)).2.2.2.1 with
  |true=>
   simp only[cX,cW,cE,tF _ _ _ Z (o.C.mono m) hc,rq,UT,ju];have Y:jm (M,w2,U,w4,w5,w6) h ⟨th,4,ob,I⟩ c=if Hu M ob then {h with T:=h.T.set th c,C:=jat h.C ob c} else {h with T:=h.T.set th c}:=rfl
   rw[Y,show Hu M ob=ai from hv];rfl
  |false=>
   simp only[c4,ju];have Y:jm (M,w2,U,w4,w5,w6) h ⟨th,4,ob,I⟩ c=if Hu M ob then {h with T:=h.T.set th c,C:=jat h.C ob c} else {h with T:=h.T.set th c}:=rfl
   rw[Y,show Hu M ob=aj from hv];rfl
 case inr.inr.inr.inr.inr.inr.inr.inr.inr.inr.inr.inr.inr.inr.inr.inr.inr.inr.inr.inr.inr.inl=>
  obtain rfl:=q3 (by decide);have f:ob<h.F.length:=ok.fu (.inl rfl);simp only[aT,cr,cJ,cX,c4,ju,cW,cE,J,fT,fZ,tF _ _ _ f (o.F.mono m) hc,rq,UT];rfl
 case inr.inr.inr.inr.inr.inr.inr.inr.inr.inr.inr.inr.inl=>
  simp only[aT,cr,cJ,cX,c4,ju,cW,cE,J,fT,fZ,R3 _ _ (o.X.mono m).lb hc.lb];rfl
 case inr.inr.inr.inr.inr.inr.inr.inr.inr.inr.inr.inr.inr.inr.inr.inr.inr.inl=>
  simp only[aT,cr,cJ,cX,c4,ju,cW,cE,J,fT,fZ];have Y:jm (M,w2,U,w4,w5,w6) h ⟨th,18,ob,I⟩ c=if 0<=I/\I<h.N.length then {h with T:=h.T.set th c,N:=h.N.set I.toNat c,W:=h.W.set I.toNat (-1)} else {h with T:=h.T.set th c}:=rfl
  rw[Y];by_cases h0:0<=I
  .by_cases h1:I<h.N.length
   .rw[qN h0];simp only[cX,ju];rw[v7 (show I<aO h.N.length from h1)];obtain⟨v,rfl⟩:∃ v:Nat,I=(v:Int):=⟨I.toNat,by omega⟩
    have v1:v<h.N.length:=by omega
    have v2:v<h.W.length:=by rw[o.lW,<-o.lN];exact v1
    have:=Vb {h with T:=h.T.set th c} v c v1 v2 hc;simp only[] at this;simp only[cX,this,cW,sx,cE,aa5 rfl,kD,ju];rw[aE ⟨h0,h1⟩];rfl
   .rw[qN h0];simp only[cX,ju];rw[xD (show aO h.N.length<=I from BV.1 h1)];simp only[c4,ju];rw[aB (λq=>h1 q.2)]
  .rw[VN (by omega)];simp only[c4,ju];rw[aB (λq=>h0 q.1)]
 case inr.inr.inr.inr.inr.inr.inr.inr.inr.inr.inr.inr.inr.inr.inr.inr.inr.inr.inl=>
  obtain rfl:=q3 (by decide);simp only[aT,cr,cJ,cX,c4,ju,cW,cE,J,fT,fZ];rw[L_ (r:=bW (h.X,h.T.set th c,h.S,h.L,h.R,h.C,h.F,Kp (λu=>decide (h.W.getD u 0=(ob:Int))) c h.W.length h.N,Kp (λu=>decide (h.W.getD u 0=(ob:Int))) (-1) h.W.length h.W,c)) h.W.length (by have:=o.lW;have:=o.lT;omega)
   (λi=>((i:Int),h.X,h.T.set th c,h.S,h.L,h.R,h.C,h.F,Kp (λu=>decide (h.W.getD u 0=(ob:Int))) c i h.N,Kp (λu=>decide (h.W.getD u 0=(ob:Int))) (-1) i h.W,c,(th:Int),(19:Int),(ob:Int),I,x5,x6,x7)) ?_ ?_ ?_]
  .simp only[ju];rw[O0 _ _ _ h.W (bT _),O0 _ _ _ h.N (by rw[o.lN,o.lW];exact bT _)];rfl
  .simp only[YD];rfl
  .intro i hi;simp only[];have hN:i<(Kp (λu=>decide (h.W.getD u 0=(ob:Int))) c i h.N).length:=by rw[Ht,o.lN,<-o.lW];exact hi
   have hW:i<(Kp (λu=>decide (h.W.getD u 0=(ob:Int))) (-1) i h.W).length:=by rw[Ht];exact hi
   rw[v7 (by simp;omega),cX,cE (c9 hW),cE (c9 hW),agk,ag0];have ws:=qR hi (show h.W.length<=1099511627776 by have:=o.lW;have:=o.lT;omega);by_cases hp:h.W.getD i 0=(ob:Int)
   .rw[aQ hp,cX];have:=Vb {h with T:=h.T.set th c,N:=Kp (λu=>decide (h.W.getD u 0=(ob:Int))) c i h.N,W:=Kp (λu=>decide (h.W.getD u 0=(ob:Int))) (-1) i h.W} i c hN hW hc;simp only[] at this;rw[this,cW,cE (by simp only[sx,aa5 rfl,kD]),ju,ws,U' _ _ _ _ (aQ hp),U' _ _ _ _ (aQ hp)]
   .rw[bH hp,c4,ju,ws,<-OZ _ _ _ _ (bH hp),<-OZ _ _ _ _ (bH hp)]
  .simp only[];rw[xD (by simp),c4]
 all_goals
  simp only[aT,cr,cJ,cX,c4,ju,cW,cE,J,fT,fZ];rfl
theorem T3 (l:List (List Int)) (c:List Int) (i:Nat) (hi:i<l.length):(l.take (i+1)).foldl jl c=jl ((l.take i).foldl jl c) (l.getD i []):=by
 rw[List.take_add_one,fB,aA hi,ay,aA hi];rfl
theorem O7 (w:ut) (h:HS) (e:EV):(yl w h e).length<=3:=by
 unfold yl;repeat' split
 all_goals simp
theorem agt {n:Int} {w:ut} {h:HS} (o:Sp n h) (e:EV) (i:Nat):0<=((yl w h e).foldl jl (h.T.getD e.th [])).getD i 0/\((yl w h e).foldl jl (h.T.getD e.th [])).getD i 0<9223372036854775807:=by
 have:=(CL _ _ (o.T e.th) (Sy (w:=w) o e)).2 i;have:=o.n1;omega
theorem Fl (w:ut) (h:HS) (e:EV) (c:List Int):(jm w h e c).T.length=h.T.length/\(jm w h e c).S.length=h.S.length/\(jm w h e c).L.length=h.L.length/\(jm w h e c).R.length=h.R.length/\(jm w h e c).C.length=h.C.length/\(jm w h e c).F.length=h.F.length/\(jm w h e c).N.length=h.N.length/\(jm w h e c).W.length=h.W.length:=by
 unfold jm;simp only[];repeat' split
 all_goals simp[jat,B4]
theorem ae1 {n:Int} {w:ut} {h:HS} (o:Sp n h) (hn:n+1<=1000000) {e:EV} (ok:EOK w h e) {x:ETp} (hx:EvT e x):r_ (w,h.t,x)=af ((O4 w h e).1.t,(O4 w h e).2):=by
 have s2:=aak o ok hx;have hce:En (n+1) (Gz w h e):=UD o ok.th4;have en:=ZV o hn ok hx hce;have cp:=XG h.t o.GH;have sl:=O7 w h e;have sE:=Sy (w:=w) o e;have hlen:=Fl w h e (Gz w h e);obtain⟨x1,x2,x3,x4,x5,x6,x7⟩:=x;obtain⟨Z,Y,U,M,J,I⟩:=w;have t1:=hx.th;simp only at t1;subst t1;unfold HS.t at cp;simp only[] at cp;have fT:fI (e.th:Int) h.T.length=ai:=c9 ok.th;unfold r_ CI HS.t DB Prod.p11 aX bl bw cz ef kz zD BZ Prod.q11 Prod.q12 cS fc pN Prod.q9 ck bz vI bF aZ cP cF;simp only[];rw[cp,cW];simp only[];rw[cE fT,cE fT,s2,cW];simp only[];rw[cE (by simp only[aa5 rfl,kD])];refine L_ (yl (Z,Y,U,M,J,I) h e).length (by omega) (λi=>((i:Int),(Z,Y,U,M,J,I),((e.th:Int),x2,x3,x4,x5,x6,x7),h.X,((yl (Z,Y,U,M,J,I) h e).take i).foldl jl (h.T.getD e.th []),h.T,h.S,h.L,h.R,h.C,h.F,h.N,h.W)) ?_ ?_ ?_
 .simp only[rz,List.take_zero,List.foldl_nil];rfl
 .intro i hi;simp only[];rw[v7 (by simp;omega),cX,cE (c9 hi),rz,(CL _ _ (o.T e.th) (λy hy=>sE y (jg hy))).join (sE _ (IE hi)),cW,qR hi (by omega),T3 _ _ _ hi]
 .simp only[];rw[xD (by simp),c4,fR (bT _)];have hl:=agt (w:=(Z,Y,U,M,J,I)) o e e.th;rw[ady _ e.th (CL _ _ (o.T e.th) sE).lb ok.th4 hl.1 hl.2,cW];unfold HS.e at en;unfold Gz at en hlen;rw[en,cW];simp only[];rw[cE (by rw[hlen.1,hlen.2.1,hlen.2.2.1,hlen.2.2.2.1,hlen.2.2.2.2.1,hlen.2.2.2.2.2.1,hlen.2.2.2.2.2.2.1,hlen.2.2.2.2.2.2.2];simp only[aa5 rfl,kD])];rfl
abbrev vD:Ty:=(.st (.pr (.int .i64) (.sl (.st (.pr (.int .i64) (.pr (.int .i64) (.pr (.int .i64) (.pr (.int .i64) (.pr (.int .i64) (.int .i64))))))))))
abbrev Bc:Ty:=(.st (.pr (.int .i64) (.pr (.int .i64) (.pr (.int .i64) (.pr (.int .i64) (.pr (.int .i64) (.int .i64)))))))
abbrev ur:Ty:=(.st (.pr (.int .i64) (.pr (.sl (.int .i64)) (.pr (.sl (.sl (.int .i64))) (.int .i64)))))
abbrev yk:Ty:=(.st (.pr .str (.pr (.int .i64) (.pr (.sl .str) (.sl .sm)))))
abbrev tDc:Ty:=(.st (.pr (.int .i64) (.pr (.int .i64) (.pr .str (.pr (.int .i64) (.pr (.int .i64) .str))))))
abbrev tE:Ty:=(.st (.pr (.int .i64) (.pr (.int .i64) (.pr (.int .i64) (.pr (.int .i64) (.pr (.int .i64) (.pr (.sl (.int .i64)) (.sl (.int .i64)))))))))
abbrev F9:Ty:=(.st (.pr .str .bool))
abbrev OQ:Ty:=(.st (.pr .str (.pr (.int .i64) (.pr (.int .i64) (.pr .bool (.int .i64))))))
abbrev xA:Ty:=(.st (.pr (.int .i64) (.pr (.int .i64) (.int .i64))))
abbrev O2:Ty:=(.st (.pr .str (.int .i64)))
abbrev zH:Ty:=(.st (.pr (.int .i64) (.sl (.int .i64))))
abbrev jy:Ty:=(.st (.pr (.int .i64) (.pr (.int .i64) .bool)))
def Ok {R:Type} (o:Option R) (Q:R->Prop):Prop:=∃ y,o=af y/\Q y
theorem Ok.mono {R:Type} {o:Option R} {Q Q':R->Prop} (h:Ok o Q) (hq:∀ y,Q y->Q' y):Ok o Q':=by obtain⟨y,h1,h2⟩:=h;exact⟨y,h1,hq y h2⟩
theorem ar {R:Type} {y:R} {Q:R->Prop} (h:Q y):Ok (af y) Q:=⟨y,rfl,h⟩
theorem ajp {R:Type} {o:Option R} {y:R} {Q:R->Prop} (e:o=af y) (h:Q y):Ok o Q:=⟨y,e,h⟩
theorem be {R:Type} {b:Bool} {k:Option R} {Q:R->Prop} (h:b=ai) (hk:Ok k Q):Ok (chk b λ_=>k) Q:=by subst h;exact hk
theorem aP {R:Type} {b:Bool} {t f:Option R} {Q:R->Prop} (ht:b=ai->Ok t Q) (hf:b=aj->Ok f Q):Ok (bcase b t f) Q:=by
 cases b with
 |true=>exact ht rfl
 |false=>exact hf rfl
theorem fA {R:Type} {b:Bool} {t f:Option R} {Q:R->Prop} (h:b=ai) (ht:Ok t Q):Ok (bcase b t f) Q:=by subst h;exact ht
theorem fJ {R:Type} {b:Bool} {t f:Option R} {Q:R->Prop} (h:b=aj) (hf:Ok f Q):Ok (bcase b t f) Q:=by subst h;exact hf
theorem ax {α R:Type} {o:Option α} {k:α->Option R} {P:α->Prop} {Q:R->Prop} (h:Ok o P) (hk:∀ x,P x->Ok (k x) Q):Ok (obind o k) Q:=by
 obtain⟨x,rfl,I⟩:=h;exact hk x I
theorem aV {α R:Type} {o:Option α} {k:α->Option R} {x:α} {Q:R->Prop} (h:o=af x) (hk:Ok (k x) Q):Ok (obind o k) Q:=by subst h;exact hk
theorem aS {α R:Type} {x:α} {k:α->Option R} {Q:R->Prop} (h:Ok (k x) Q):Ok (lt x k) Q:=h
theorem aY {α R:Type} {o:Option (R⊕α)} {k:α->Option R} {Q:R->Prop} (P:α->Prop) (h:Ok o λr=>match r with|.inl r=>Q r|.inr x=>P x) (hk:∀ x,P x->Ok (k x) Q):Ok (jn o k) Q:=by
 obtain⟨r,rfl,hr⟩:=h;cases r with
 |inl r=>exact⟨r,rfl,hr⟩
 |inr x=>exact hk x hr
theorem gu {α R:Type} {o:Option (R⊕α)} {k:α->Option R} {Q:R->Prop} (h:Ok o λr=>match r with|.inl r=>Q r|.inr x=>Ok (k x) Q):Ok (jn o k) Q:=aY (λx=>Ok (k x) Q) h λ_ h=>h
theorem ac8 {α R:Type} {a b:α} {r:Option R} {Q:R->Prop} (e:a=b) (h:Ok r Q):Ok (same a b r) Q:=by unfold same;rw[aE e];exact h
theorem pR {σ R:Type} {f:σ->Option (σ⊕R)} {Q:R->Prop} (μ:σ->Nat) (I:σ->Prop) (h:∀ x,I x->Ok (f x) λr=>match r with|.inl y=>I y/\μ y<μ x|.inr r=>Q r) {x:σ} (J:I x):Ok (iter f x) Q:=by
 have key:∀ n x,μ x<n->I x->∃ m r,iterN f m x=af r/\Q r:=by
  intro n;induction n with
  |zero=>intro x hm;omega
  |succ n M=>
   intro x hm J;obtain⟨r,h1,h2⟩:=h x J;cases r with
   |inl y=>
    obtain⟨m,r,Y,U⟩:=M y (by have:=h2.2;omega) h2.1;exact⟨m+1,r,by rw[iterN,h1];exact Y,U⟩
   |inr r=>exact⟨1,r,by rw[iterN,h1],h2⟩
 obtain⟨m,r,h1,h2⟩:=key (μ x+1) x (BU _) J;exact⟨r,yF h1,h2⟩
theorem ci {σ R:Type} {f:σ->Option (σ⊕R)} {Q:R->Prop} (n:Nat) (I:Nat->σ->Prop) (h0:∀ i x,i<n->I i x->Ok (f x) λr=>match r with|.inl y=>I (i+1) y|.inr r=>Q r) (h1:∀ x,I n x->Ok (f x) λr=>match r with|.inl _=>False|.inr r=>Q r) {x:σ} (U:I 0 x):Ok (iter f x) Q:=by
 have key:∀ m i x,i+m=n->I i x->∃ k r,iterN f k x=af r/\Q r:=by
  intro m;induction m with
  |zero=>
   intro i x hi U;have:i=n:=by omega
   subst this;obtain⟨r,M,J⟩:=h1 x U;cases r with
   |inl y=>exact J.elim
   |inr r=>exact⟨1,r,by rw[iterN,M],J⟩
  |succ m Y=>
   intro i x hi U;obtain⟨r,M,J⟩:=h0 i x (by omega) U;cases r with
   |inl y=>
    obtain⟨k,r,g3,Z⟩:=Y (i+1) y (by omega) J;exact⟨k+1,r,by rw[iterN,M];exact g3,Z⟩
   |inr r=>exact⟨1,r,by rw[iterN,M],J⟩
 obtain⟨m,r,M,J⟩:=key n 0 x (by omega) U;exact⟨r,yF M,J⟩
def itQ {σ R:Type} (f:σ->Option (σ⊕R)) (Q:R->Prop):σ⊕R->Prop
 |.inl y=>Ok (iter f y) Q
 |.inr r=>Q r
def jnQ {α R:Type} (k:α->Option R) (Q:R->Prop):R⊕α->Prop
 |.inl r=>Q r
 |.inr x=>Ok (k x) Q
theorem ac7 {σ R:Type} {f:σ->Option (σ⊕R)} {x:σ} {Q:R->Prop} (h:Ok (f x) (itQ f Q)):Ok (iter f x) Q:=by
 obtain⟨r,h1,h2⟩:=h;cases r with
 |inr r=>exact⟨r,yF (n:=1) (by rw[iterN,h1]),h2⟩
 |inl y=>
  obtain⟨z,I,J⟩:=h2;unfold iter at I;split at I
  .exact⟨z,yF (n:=_+1) (by rw[iterN,h1];exact I),J⟩
  .cases I
theorem Vy {σ R:Type} {f:σ->Option (σ⊕R)} {y:σ} {Q:R->Prop} (h:Ok (iter f y) Q):Ok (af (.inl y)) (itQ f Q):=⟨_,rfl,h⟩
theorem Vx {σ R:Type} {f:σ->Option (σ⊕R)} {r:R} {Q:R->Prop} (h:Ok (af r) Q):Ok (af (.inr r)) (itQ f Q):=by
 obtain⟨_,h1,h2⟩:=h;cases h1;exact⟨_,rfl,h2⟩
theorem Vv {α R:Type} {o:Option (R⊕α)} {k:α->Option R} {Q:R->Prop} (h:Ok o (jnQ k Q)):Ok (jn o k) Q:=by
 obtain⟨r,rfl,hr⟩:=h;cases r with
 |inl r=>exact⟨r,rfl,hr⟩
 |inr x=>exact hr
theorem Vw {α R:Type} {r:R} {k:α->Option R} {Q:R->Prop} (h:Ok (af r) Q):Ok (af (.inl r)) (jnQ k Q):=by
 obtain⟨_,h1,h2⟩:=h;cases h1;exact⟨_,rfl,h2⟩
theorem Vu {α R:Type} {x:α} {k:α->Option R} {Q:R->Prop} (h:Ok (k x) Q):Ok (af (.inr x)) (jnQ k Q):=⟨_,rfl,h⟩
def oQ {α R:Type} (k:α->Option R) (Q:R->Prop) (x:α):Prop:=Ok (k x) Q
theorem Pu {α R:Type} {o:Option α} {k:α->Option R} {Q:R->Prop} (h:Ok o (oQ k Q)):Ok (obind o k) Q:=ax h λ_ h=>h
theorem Pt {α R:Type} {x:α} {k:α->Option R} {Q:R->Prop} (h:Ok (k x) Q):Ok (af x) (oQ k Q):=⟨_,rfl,h⟩
theorem acn {j:Int} {n:Nat}:fI j n=ai↔0<=j/\j<n:=by simp[fI,c5,fO]
theorem Nq {a b:Int}:c5 a b=ai↔a<=b:=by simp[c5]
theorem s8 {a b:Int}:fO a b=ai↔a<b:=by simp[fO]
theorem f_ {a b:Int}:fO a b=aj↔b<=a:=by simp[fO]
theorem kT {a b:Int}:c5 a b=aj↔b<a:=by simp[c5]
theorem WE {n b:Nat}:bd n b=ai↔n<=1099511627776/\n*b<=1099511627776:=by simp[bd]
theorem cD {R:Type} {o:Option R} {v:R} (h:Ok o (·=v)):o=af v:=by obtain⟨y,h1,h2⟩:=h;rw[h1,h2]
section steps
variable {R:Type} {k t f:Option R} {Q:R->Prop}
theorem aR {j:Int} {n:Nat} (h0:0<=j) (h1:j<n) (hk:Ok k Q):Ok (chk (fI j n) λ_=>k) Q:=be (acn.2 ⟨h0,h1⟩) hk
theorem bn {n b:Nat} (h0:n<=1073741824) (h1:b<=1024) (hk:Ok k Q):Ok (chk (bd n b) λ_=>k) Q:=
 be (WE.2 ⟨by omega,dj (Nat.mul_le_mul h0 h1) (by omega)⟩) hk
theorem dt {a b:Bool} (h:Ok (chk a λ_=>chk b λ_=>k) Q):Ok (chk (a&&b) λ_=>k) Q:=by
 cases a with
 |true=>exact h
 |false=>obtain⟨y,h,_⟩:=h;cases h
theorem eH {a b:Int} (h:a<=b) (hk:Ok k Q):Ok (chk (c5 a b) λ_=>k) Q:=be (Nq.2 h) hk
theorem zL {a b:Int} (h:a<b) (hk:Ok k Q):Ok (chk (fO a b) λ_=>k) Q:=be (s8.2 h) hk
theorem Vz {p:Prop} {i:Decidable p} (h:p) (hk:Ok k Q):Ok (chk (decide p) λ_=>k) Q:=be (aQ h) hk
theorem yr {p:Prop} {i:Decidable p} (h:¬p) (hk:Ok k Q):Ok (chk (!decide p) λ_=>k) Q:=be (by simp[h]) hk
theorem lx {a b:Nat} (h:a=b) (hk:Ok k Q):Ok (chk (aC a b) λ_=>k) Q:=be (by subst h;exact rG a) hk
theorem Ap (hk:Ok k Q):Ok (chk ai λ_=>k) Q:=hk
theorem bI {a b:Int} (ht:a<b->Ok t Q) (hf:b<=a->Ok f Q):Ok (bcase (fO a b) t f) Q:=aP (λh=>ht (s8.1 h)) (λh=>hf (f_.1 h))
theorem fo {a b:Int} (ht:a<=b->Ok t Q) (hf:b<a->Ok f Q):Ok (bcase (c5 a b) t f) Q:=aP (λh=>ht (Nq.1 h)) (λh=>hf (kT.1 h))
theorem aK {p:Prop} {i:Decidable p} (ht:p->Ok t Q) (hf:¬p->Ok f Q):Ok (bcase (decide p) t f) Q:=aP (λh=>ht (bg h)) (λh=>hf (Ba h))
theorem b8 {p:Prop} {i:Decidable p} (ht:¬p->Ok t Q) (hf:p->Ok f Q):Ok (bcase (!decide p) t f) Q:=aP (λh=>ht (by simpa using h)) (λh=>hf (by simpa using h))
theorem dO {b:Bool} (ht:b=aj->Ok t Q) (hf:b=ai->Ok f Q):Ok (bcase (!b) t f) Q:=aP (λh=>ht (by simpa using h)) (λh=>hf (by simpa using h))
theorem Y_ (ht:Ok t Q):Ok (bcase ai t f) Q:=ht
theorem fU (hf:Ok f Q):Ok (bcase aj t f) Q:=hf
theorem cA {j:Int} {n:Nat} (hk:Ok k Q) (h0:0<=j:=by first|omega|(dsimp only;omega)) (h1:j<n:=by first|omega|(dsimp only;omega)):Ok (chk (fI j n) λ_=>k) Q:=aR h0 h1 hk
theorem dv {a b:Int} (ht:Ok t Q) (h:a<b:=by first|omega|(dsimp only[au];omega)):Ok (bcase (fO a b) t f) Q:=bI (λ_=>ht) λg=>cZ h (BV.2 g)
theorem dc {a b:Int} (hf:Ok f Q) (h:b<=a:=by first|omega|(dsimp only[au];omega)):Ok (bcase (fO a b) t f) Q:=bI (λg=>cZ g (BV.2 h)) λ_=>hf
end steps
theorem qL:(∀ (p:Prop) [Decidable p],(decide p=ai)=p)/\(∀ p:Prop,(True\/p)=True)/\(∀ p:Prop,(p\/True)=True)/\(∀ p:Prop,(True->p)=p)/\(∀ p:Prop,(True/\p)=p)/\∀ p:Prop,(p/\True)=p:=⟨λ_=>bR,true_or,or_true,λ_=>true_implies _,A_,and_true⟩
theorem sP:(∀ i:Decidable True,@decide True i=ai)/\(∀ i:Decidable False,@decide False i=aj)/\(∀ {R:Type} (t f:Option R),bcase ai t f=t)/\(∀ {R:Type} (t f:Option R),bcase aj t f=f)/\(∀ {α R:Type} (x:α) (k:α->Option R),jn (af (.inr x)) k=k x)/\(∀ {α R:Type} (r:R) (k:α->Option R),jn (af (.inl r)) k=af r)/\(∀ {α R:Type} (x:α) (k:α->Option R),obind (af x) k=k x)/\(∀ {α R:Type} (x:α) (k:α->Option R),lt x k=k x)/\(!ai)=aj/\(!aj)=ai:=⟨cJ,cr,λ_ _=>rfl,λ_ _=>rfl,λ_ _=>rfl,λ_ _=>rfl,λ_ _=>rfl,λ_ _=>rfl,rfl,rfl⟩
structure IM (p q:Prop):Prop where
 h:p->q
inductive OS {R:Type}:Option R->(R->Prop)->Prop where
 |cand {a b:Bool} {k:Option R} {Q:R->Prop} (h:Ok (chk a λ_=>chk b λ_=>k) Q):OS (chk (a&&b) λ_=>k) Q
 |fI {j:Int} {n:Nat} {k:Option R} {Q:R->Prop} (h0:0<=j) (h1:j<n) (hk:Ok k Q):OS (chk (fI j n) λ_=>k) Q
 |room {n b:Nat} {k:Option R} {Q:R->Prop} (h0:n<=1073741824) (h1:b<=1024) (hk:Ok k Q):OS (chk (bd n b) λ_=>k) Q
 |cile {a b:Int} {k:Option R} {Q:R->Prop} (h:a<=b) (hk:Ok k Q):OS (chk (c5 a b) λ_=>k) Q
 |cilt {a b:Int} {k:Option R} {Q:R->Prop} (h:a<b) (hk:Ok k Q):OS (chk (fO a b) λ_=>k) Q
 |cdec {p:Prop} {i:Decidable p} {k:Option R} {Q:R->Prop} (h:p) (hk:Ok k Q):OS (chk (decide p) λ_=>k) Q
 |cndec {p:Prop} {i:Decidable p} {k:Option R} {Q:R->Prop} (h:¬p) (hk:Ok k Q):OS (chk (!decide p) λ_=>k) Q
 |cbeq {a b:Nat} {k:Option R} {Q:R->Prop} (h:a=b) (hk:Ok k Q):OS (chk (aC a b) λ_=>k) Q
 |cT {k:Option R} {Q:R->Prop} (hk:Ok k Q):OS (chk ai λ_=>k) Q
 |lt {α:Type} {x:α} {k:α->Option R} {Q:R->Prop} (h:Ok (k x) Q):OS (lt x k) Q
 |b1 {t f:Option R} {Q:R->Prop} (h:Ok t Q):OS (bcase ai t f) Q
 |b0 {t f:Option R} {Q:R->Prop} (h:Ok f Q):OS (bcase aj t f) Q
 |fO {a b:Int} {t f:Option R} {Q:R->Prop} (ht:IM (a<b) (Ok t Q)) (hf:IM (b<=a) (Ok f Q)):OS (bcase (fO a b) t f) Q
 |c5 {a b:Int} {t f:Option R} {Q:R->Prop} (ht:IM (a<=b) (Ok t Q)) (hf:IM (b<a) (Ok f Q)):OS (bcase (c5 a b) t f) Q
 |dec {p:Prop} {i:Decidable p} {t f:Option R} {Q:R->Prop} (ht:IM p (Ok t Q)) (hf:IM (¬p) (Ok f Q)):OS (bcase (decide p) t f) Q
 |ndec {p:Prop} {i:Decidable p} {t f:Option R} {Q:R->Prop} (ht:IM (¬p) (Ok t Q)) (hf:IM p (Ok f Q)):OS (bcase (!decide p) t f) Q
 |not {b:Bool} {t f:Option R} {Q:R->Prop} (ht:IM (b=aj) (Ok t Q)) (hf:IM (b=ai) (Ok f Q)):OS (bcase (!b) t f) Q
 |bcase {b:Bool} {t f:Option R} {Q:R->Prop} (ht:IM (b=ai) (Ok t Q)) (hf:IM (b=aj) (Ok f Q)):OS (bcase b t f) Q
 |jc {α:Type} {o:Option (R⊕α)} {k:α->Option R} {Q:R->Prop} (h:Ok o λr=>match r with|.inl r=>Q r|.inr x=>Ok (k x) Q):OS (jn o k) Q
 |some {y:R} {Q:R->Prop} (h:Q y):OS (af y) Q
theorem OS.ok {R:Type} {o:Option R} {Q:R->Prop} (h:OS o Q):Ok o Q:=by
 cases h with
 |cand h=>exact dt h
 |fI a b h=>exact aR a b h
 |room a b h=>exact bn a b h
 |cile a h=>exact eH a h
 |cilt a h=>exact zL a h
 |cdec a h=>exact Vz a h
 |cndec a h=>exact yr a h
 |cbeq a h=>exact lx a h
 |cT h=>exact h
 |lt h=>exact h
 |b1 h=>exact h
 |b0 h=>exact h
 |fO a b=>exact bI a.h b.h
 |c5 a b=>exact fo a.h b.h
 |dec a b=>exact aK a.h b.h
 |ndec a b=>exact b8 a.h b.h
 |not a b=>exact dO a.h b.h
 |bcase a b=>exact aP a.h b.h
 |jc h=>
  obtain⟨r,e,h⟩:=h;exact gu ⟨r,e,by cases r<;>exact h⟩
 |some h=>exact ar h
theorem bcT {R:Type} (t f:Option R):bcase ai t f=t:=rfl
theorem bcF {R:Type} (t f:Option R):bcase aj t f=f:=rfl
theorem jnr {α R:Type} (x:α) (k:α->Option R):jn (af (.inr x)) k=k x:=rfl
theorem VB {α R:Type} (x:α) (k:α->Option R):obind (af x) k=k x:=rfl
theorem Ib {k:Int}:k=1\/k=2\/k=3\/k=4\/k=5\/k=6\/k=7\/k=8\/k=9\/k=10\/k=11\/k=12\/k=13\/k=14\/k=15\/k=16\/k=17\/k=18\/k=19\/k=20\/k=21\/k=22\/k=23\/((∀ j:Int,1<=j->j<=23->(k=j)=False)/\(k<1\/23<k)):=by
 by_cases h:1<=k/\k<=23
 .omega
 .have:(∀ j:Int,1<=j->j<=23->(k=j)=False)/\(k<1\/23<k):=⟨λj h1 h2=>eq_false (by omega),by omega⟩
  repeat (first|exact this|refine Or.inr ?_)
theorem ib {n:Int} (h0: -9223372036854775808<=n) (h1:n<=9223372036854775807):bm .i64 n=n:=by
 rw[G0];unfold LL;simp[c5,h0,h1]
theorem gO {i:Nat} (h:i<9223372036854775807):bm .i64 ((i:Int)+1)=((i+1:Nat):Int):=by rw[ib (by omega) (by omega)];omega
theorem ya {T:Ty} (xs:List T.den) (i:Nat):aJ xs (i:Int)=xs.getD i T.zero:=by unfold aJ;simp
theorem NL (xs:List Int) (i:Nat):aJ (T:=.int .i64) xs (i:Int)=xs.getD i 0:=ya (T:=.int .i64) xs i
theorem bG {T:Ty} {xs:List T.den} {j:Int} (h0:0<=j) (h1:j<xs.length):aJ xs j∈xs:=by
 unfold aJ;rw[ay,aA (by omega)];exact uH _
theorem bV {α:Type} (xs:List α) (j:Int) (x:α):(cO xs j x).length=xs.length:=by unfold cO;simp
theorem B_ {α:Type} {xs:List α} {j:Int} {x y:α} (h:y∈cO xs j x):y∈xs\/y=x:=List.mem_or_eq_of_mem_set h
abbrev WT:Type:=List (List UInt8×Int×Int×Bool×Int)×List (List UInt8×Bool)×List (List UInt8×Int)×List (List UInt8)×List (List UInt8)×List (Int×Int×Int)
abbrev SY:Type:=List (Int×List Int)×Int×List Bool×List (Int×Int×Bool)
theorem Zu (a b:Int):qd (a,b)=af (decide (0<=a/\a<b)):=by
 refine cD ?_;unfold qd jz aF;with_reducible repeat' first|(refine OS.ok ?_;constructor)|refine IM.mk λ_=>?_
 .by_cases h:a<b<;>simp[*,fO]
 .simp;omega
theorem U8 (l:List Int) (n:Int) (hl:l.length<=1000000):qe (l,n)=af (l.contains n):=by
 refine cD ?_;unfold qe bf bz bK aZ cP aF cF;refine ci l.length (λi x=>x=(i:Int)/\∀ k,k<i->l.getD k 0≠n) ?_ ?_ ⟨rfl,λk hk=>by omega⟩
 .rintro i x hi ⟨rfl,I⟩;with_reducible repeat' first|(refine OS.ok ?_;constructor)|refine IM.mk λ_=>?_
  all_goals try simp only[au,qL] at*
  .omega
  .omega
  .rename_i h;rw[NL] at h;show ai=_
   symm
   rw[sM,<-h,ay,aA hi];exact uH _
  .rename_i h;rw[NL] at h;refine ⟨gO (by omega),λk hk=>?_⟩;rcases bZ k i with h1|h1
   .exact I k h1
   .rw[show k=i by omega];exact h
  .omega
 .rintro x ⟨rfl,I⟩;with_reducible repeat' first|(refine OS.ok ?_;constructor)|refine IM.mk λ_=>?_
  all_goals try simp only[au,qL] at*
  .omega
  .omega
  .omega
  .omega
  .symm
   rw[MW];intro hc;rw[sM] at hc;obtain⟨k,hk,he⟩:=List.getElem_of_mem hc;exact I k hk (by rw[ay,aA hk];exact he)
theorem io {T:Ty} {xs:List T.den} {p:T.den->Prop} (h:∀ k:Nat,k<al xs->p (aJ xs (k:Int))):∀ c∈xs,p c:=λc hc=>by
 obtain⟨k,hk,he⟩:=List.getElem_of_mem hc;have:=h k hk;rw[ya,ay,aA hk,uE,he] at this;exact this
theorem OO (w:WT) (s:SY) (hw:w.2.2.1.length<=1000000):Ok (q_ (w,s)) λb=>b=ai->(∀ c∈w.2.2.1,0<=c.2/\c.2<w.2.1.length)/\s.1.length=w.2.1.length/\s.2.2.1.length=w.2.2.2.1.length/\s.2.2.2.length=w.2.2.2.2.1.length:=by
 unfold q_ aX bl bw cS bf bz bK aZ cP aF cF;refine ci w.2.2.1.length (λi x=>x.1=(i:Int)/\x.2=(w,s)/\∀ k:Nat,k<i->0<=(aJ (T:=O2) w.2.2.1 (k:Int)).2/\(aJ (T:=O2) w.2.2.1 (k:Int)).2<w.2.1.length) ?_ ?_ ⟨rfl,rfl,λk hk=>by omega⟩
 .rintro i ⟨Y,U⟩ hi ⟨J,I,M⟩;dsimp only at J I;subst J;subst I;with_reducible repeat' first|(refine OS.ok ?_;constructor)|refine IM.mk λ_=>?_
  all_goals try simp only[au,qL] at*
  all_goals first|omega|skip
  .intro h;cases h
  .intro h;cases h
  .refine ⟨gO (by omega),λk hk=>?_⟩;rcases bZ k i with h1|h1
   .exact M k h1
   .rename_i h2 Z;rw[show k=i by omega];exact⟨h2,Z⟩
 .rintro⟨Y,U⟩ ⟨J,I,M⟩;dsimp only at J I;subst J;subst I;with_reducible repeat' first|(refine OS.ok ?_;constructor)|refine IM.mk λ_=>?_
  all_goals try simp only[au,qL] at*
  all_goals first|omega|skip
  refine ax (P:=λb=>b=ai->s.1.length=w.2.1.length/\s.2.2.1.length=w.2.2.2.1.length/\s.2.2.2.length=w.2.2.2.2.1.length) ?_ ?_
  .with_reducible repeat' first|(refine OS.ok ?_;constructor)|refine IM.mk λ_=>?_
   all_goals try simp only[au,qL] at*
   .intro h;omega
   .intro h;cases h
   .intro h;cases h
  .intro b hb;with_reducible repeat' first|(refine OS.ok ?_;constructor)|refine IM.mk λ_=>?_
   exact λh=>⟨io (T:=O2) M,hb h⟩
structure NM (w:WT) (k o:Int):Prop where
 k1:1<=k
 k2:k<=23
 ce:k=3\/k=4->0<=o/\o<w.1.length
 lk:6<=k/\k<=11->0<=o/\o<w.2.1.length
 cd:16<=k/\k<=19->0<=o/\o<w.2.2.1.length
 th:k=20\/k=21->0<=o/\o<w.2.2.2.2.1.length
 fu:k=22\/k=23->0<=o/\o<w.2.2.2.1.length
 no:k=1\/k=2\/k=5\/(12<=k/\k<=15)->o= -1
 mu:k=6\/k=7->(aJ (T:=F9) w.2.1 o).2=aj
 rw:8<=k/\k<=11->(aJ (T:=F9) w.2.1 o).2=ai
theorem Ze (w:WT) (k o:Int):Ok (tR (w,k,o)) λb=>b=ai->NM w k o:=by
 unfold tR aX bl bw cz bf bK aZ aF;rcases @Ib k with rfl|rfl|rfl|rfl|rfl|rfl|rfl|rfl|rfl|rfl|rfl|rfl|rfl|rfl|rfl|rfl|rfl|rfl|rfl|rfl|rfl|rfl|rfl|⟨hk,I⟩
 case inr.inr.inr.inr.inr.inr.inr.inr.inr.inr.inr.inr.inr.inr.inr.inr.inr.inr.inr.inr.inr.inr.inr=>
  simp only[hk 1 (by decide) (by decide),hk 2 (by decide) (by decide),hk 3 (by decide) (by decide),hk 4 (by decide) (by decide),hk 5 (by decide) (by decide),hk 6 (by decide) (by decide),hk 7 (by decide) (by decide),hk 8 (by decide) (by decide),hk 9 (by decide) (by decide),hk 10 (by decide) (by decide),hk 11 (by decide) (by decide),hk 12 (by decide) (by decide),hk 13 (by decide) (by decide),hk 14 (by decide) (by decide),hk 15 (by decide) (by decide),hk 16 (by decide) (by decide),hk 17 (by decide) (by decide),hk 18 (by decide) (by decide),hk 19 (by decide) (by decide),hk 20 (by decide) (by decide),hk 21 (by decide) (by decide),hk 22 (by decide) (by decide),hk 23 (by decide) (by decide),aT,bp,sP];exact ar λh=>by cases h
 all_goals simp only[aT,bp,sP,Zu]
 all_goals with_reducible repeat' first|(refine OS.ok ?_;constructor)|refine IM.mk λ_=>?_
 all_goals try simp only[au,qL] at*
 all_goals first|omega|(intro h;cases h;done)|(intro h;constructor<;>first|omega|(intro h2;first|omega|(simpa using h)))
structure SB (n:Nat) (s:SY):Prop where
 n1:n<=100000
 lk:s.1.length<=1000
 rd:∀ l∈s.1,l.2.length<=n
 dn:s.2.2.1.length<=1000
 th:s.2.2.2.length<=1000
structure EN (w:WT) (s:SY) (t k o:Int):Prop where
 nm:NM w k o
 t0:0<=t
 t1:t<w.2.2.2.2.1.length
 cd:∀ c∈w.2.2.1,0<=c.2/\c.2<w.2.1.length
 e1:s.1.length=w.2.1.length
 e2:s.2.2.1.length=w.2.2.2.1.length
 e3:s.2.2.2.length=w.2.2.2.2.1.length
structure So (w:WT) (s:SY) (t k o:Int):Prop where
 b:k=1->(aJ (T:=jy) s.2.2.2 t).1=1
 wk:k=17->(aJ (T:=jy) s.2.2.2 t).1=4/\(aJ (T:=jy) s.2.2.2 t).2.1=o/\(aJ (T:=zH) s.1 (aJ (T:=O2) w.2.2.1 o).2).1= -1
 r:k≠1->k≠17->(aJ (T:=jy) s.2.2.2 t).1=2
 aq:k=6\/k=8\/k=10->(aJ (T:=zH) s.1 o).1= -1
 wr:k=10->(aJ (T:=zH) s.1 o).2.length=0
 ra:k=8->(aJ (T:=zH) s.1 o).2.contains t=aj
 rl:k=7\/k=11->(aJ (T:=zH) s.1 o).1=t
 rr:k=9->(aJ (T:=zH) s.1 o).2.contains t=ai
 xb:k=12->s.2.1= -1
 xe:k=13->s.2.1=t
 ab:k=14->(aJ (T:=jy) s.2.2.2 t).2.2=aj
 ae:k=15->(aJ (T:=jy) s.2.2.2 t).2.2=ai
 nt:k=16\/k=18\/k=19->(aJ (T:=zH) s.1 (aJ (T:=O2) w.2.2.1 o).2).1=t
 sp:k=20->¬o=t/\(aJ (T:=jy) s.2.2.2 o).1=0
 jo:k=21->¬o=t/\(aJ (T:=jy) s.2.2.2 o).1=5
 se:k=22->aJ (T:=.bool) s.2.2.1 o=aj
 ge:k=23->aJ (T:=.bool) s.2.2.1 o=ai
theorem Kj {n:Nat} (w:WT) (s:SY) (hs:SB n s) (hw:w.2.2.1.length<=1000) (t k o:Int):Ok (j9 (w,s,t,k,o)) λb=>b=ai->EN w s t k o/\So w s t k o:=by
 unfold j9 aX bl bw bL dw cS bf iT bK aZ aF;refine aY (λx=>x.2=(w,s)/\(x.1=aj->EN w s t k o)) ?_ ?_
 .refine ax (OO w s (by omega)) λb hb=>?_
  with_reducible repeat' first|(refine OS.ok ?_;constructor)|refine IM.mk λ_=>?_
  .exact⟨rfl,λh=>by cases h⟩
  .simp only[Zu,VB];with_reducible repeat' first|(refine OS.ok ?_;constructor)|refine IM.mk λ_=>?_
   .exact⟨rfl,λh=>by cases h⟩
   .refine ax (Ze w k o) λc hc=>?_
    with_reducible repeat' first|(refine OS.ok ?_;constructor)|refine IM.mk λ_=>?_
    all_goals try simp only[au,qL] at*
    rename_i h1 h2;obtain⟨f1,Z,Y,f4⟩:=hb h1;exact λh=>⟨hc (by simpa using h),by omega,by omega,f1,Z,Y,f4⟩
 .rintro⟨x1,x2⟩ ⟨I,J⟩;dsimp only at I J;subst I;refine aP (λh=>ar λh=>by cases h) (λh=>?_);have he:=J h;obtain⟨nm,t0,t1,cd,e1,e2,e3⟩:=id he;obtain⟨_,_,ce,lk,cn,th,fu⟩:=nm;have hm:16<=k/\k<=19->0<=(aJ (T:=O2) w.2.2.1 o).2/\(aJ (T:=O2) w.2.2.1 o).2<w.2.1.length:=λh=>cd _ (bG (cn h).1 (cn h).2)
  have U:6<=k/\k<=11->qe ((aJ (T:=zH) s.1 o).2,t)=af ((aJ (T:=zH) s.1 o).2.contains t):=λh=>U8 _ _ (by
   have:=hs.rd _ (bG (T:=zH) (lk h).1 (by have:=(lk h).2;omega));have:=hs.n1;omega)
  rcases @Ib k with rfl|rfl|rfl|rfl|rfl|rfl|rfl|rfl|rfl|rfl|rfl|rfl|rfl|rfl|rfl|rfl|rfl|rfl|rfl|rfl|rfl|rfl|rfl|⟨hk,M⟩
  case inr.inr.inr.inr.inr.inr.inr.inr.inr.inr.inr.inr.inr.inr.inr.inr.inr.inr.inr.inr.inr.inr.inr=>omega
  all_goals simp only[aT,bp,sP]
  all_goals with_reducible repeat' first|(refine OS.ok ?_;constructor)|refine IM.mk λ_=>?_
  all_goals try simp only[U (by omega),VB]
  all_goals with_reducible repeat' first|(refine OS.ok ?_;constructor)|refine IM.mk λ_=>?_
  all_goals try simp only[au,qL] at*
  all_goals first|omega|(intro h;cases h;done)|exact (hm ⟨by decide,by decide⟩).1|(rw [e1];exact (hm ⟨by decide,by decide⟩).2)|(intro h;refine ⟨he,?_⟩;constructor<;>first|omega|(intros;first|omega|assumption|(simpa using h)|exact⟨by assumption,by first|assumption|exact⟨by assumption,by assumption⟩⟩))|(refine ⟨he,?_⟩;constructor<;>first|omega|(intros;first|omega|assumption))
def lP:List Int->Int->List Int
 |[],n=>[n]
 |x::r,n=>if x<n then x::lP r n else if x=n then x::r else n::x::r
theorem DP (n:Int):∀ (i:Nat) (l:List Int),i<=l.length->(∀ k,k<i->l.getD k 0<n)->lP l n=l.take i++lP (l.drop i) n
 |0,l,_,_=>by simp
 |i+1,[],h,_=>by simp at h
 |i+1,x::r,h,hk=>by
  have h0:=hk 0 (by omega);simp at h0;have:=DP n i r (by simpa using h) (λk I=>by have:=hk (k+1) (by omega);simpa using this);rw[lP,aE h0,this,vB,vC,gi]
theorem E5 (n:Int):∀ l:List Int,(lP l n).length<=l.length+1
 |[]=>by simp[lP]
 |x::r=>by
  have:=E5 n r;rw[lP];split
  .simp;omega
  .split<;>simp
theorem HL {n y:Int}:∀ {l:List Int},y∈lP l n↔y=n\/y∈l
 |[]=>by simp[lP]
 |x::r=>by
  have:=HL (n:=n) (y:=y) (l:=r);rw[lP];split
  .simp[this];constructor
   .rintro (h|h|h)<;>simp[h]
   .rintro (h|h|h)<;>simp[h]
  .split
   .rename_i h;subst h;simp
   .simp
def GR:List Int->Prop
 |[]=>True
 |x::r=>(∀ y∈r,x<y)/\GR r
theorem Pq {n:Int}:∀ {l:List Int},GR l->GR (lP l n)
 |[],_=>by simp[lP,GR]
 |x::r,h=>by
  rw[lP];split
  .rename_i J;refine ⟨λy I=>?_,Pq h.2⟩;rcases HL.1 I with rfl|I
   .exact J
   .exact h.1 y I
  .split
   .exact h
   .rename_i h1 h2;refine ⟨λy I=>?_,h⟩;rcases bi.1 I with rfl|I
    .omega
    .have:=h.1 y I;omega
theorem aap (l:List Int) (n:Int) (hl:l.length<=1000000):vP (l,n)=af (lP l n):=by
 refine cD ?_;unfold vP bz bF bK aZ cP aF cF;have fin:∀ i:Nat,i<=l.length->(∀ k,k<i->l.getD k 0<n)->(i<l.length->¬l.getD i 0<n/\l.getD i 0≠n)->l.take i++[n]++l.drop i=lP l n:=λi hi hk hn=>by
  rw[DP n i l hi hk];cases hd:l.drop i with
  |nil=>simp[lP]
  |cons y r=>
   have hlt:i<l.length:=by
    rcases bZ i l.length with h|h
    .exact h
    .rw[List.drop_eq_nil_of_le h] at hd;cases hd
   have J:l.getD i 0=y:=by
    rw[ay,<-List.head?_drop,hd];rfl
   obtain⟨h1,h2⟩:=hn hlt;rw[J] at h1 h2;rw[lP,aB h1,aB h2];simp
 refine ci l.length (λi x=>x=(i:Int)/\∀ k,k<i->l.getD k 0<n) ?_ ?_ ⟨rfl,λk hk=>by omega⟩
 .rintro i x hi ⟨rfl,I⟩;by_cases hlt:l.getD i 0<n
  .with_reducible repeat' first|(refine OS.ok ?_;constructor)|refine IM.mk λ_=>?_
   all_goals try simp only[au,qL] at*
   all_goals first|omega|skip
   .refine ⟨gO (by omega),λk hk=>?_⟩;rcases bZ k i with h1|h1
    .exact I k h1
    .rw[show k=i by omega];exact hlt
   .rename_i h;exact cZ hlt (BV.2 h)
  .have key:l.getD i 0=n->lP l n=l:=λhe=>by
    rw[DP n i l (by omega) I];cases hd:l.drop i with
    |nil=>have:=gG al hd;simp at this;omega
    |cons y r=>
     have J:l.getD i 0=y:=by rw[ay,<-List.head?_drop,hd];rfl
     rw[J] at he;rw[lP,aB (by omega),aE he,<-hd,AZ]
   with_reducible repeat' first|(refine OS.ok ?_;constructor)|refine IM.mk λ_=>?_
   all_goals try simp only[au,qL] at*
   all_goals first|omega|skip
   .rename_i h;exact cZ h hlt
   .refine ax (P:=λr=>r=lP l n) ?_ λr hr=>ar hr
    with_reducible repeat' first|(refine OS.ok ?_;constructor)|refine IM.mk λ_=>?_
    all_goals try simp only[au,qL] at*
    all_goals first|omega|skip
    .rename_i h;exact (key h).symm
    .simp;omega
    .simp;omega
    .simp;omega
    .rename_i h;simpa using fin i (by omega) I (λ_=>⟨hlt,h⟩)
 .rintro x ⟨rfl,I⟩;with_reducible repeat' first|(refine OS.ok ?_;constructor)|refine IM.mk λ_=>?_
  all_goals try simp only[au,qL] at*
  all_goals first|omega|skip
  refine ax (P:=λr=>r=lP l n) ?_ λr hr=>ar hr
  with_reducible repeat' first|(refine OS.ok ?_;constructor)|refine IM.mk λ_=>?_
  all_goals try simp only[au,qL] at*
  all_goals first|omega|skip
  .simp;omega
  .simp;omega
  .simp;omega
  .simpa using fin l.length (by omega) I (λh=>by omega)
def wN (a b:List Int):List Int:=b.foldl lP (a.foldl lP [])
theorem v_:∀ (b acc:List Int),(b.foldl lP acc).length<=acc.length+b.length
 |[],acc=>by simp
 |x::r,acc=>by
  have:=v_ r (lP acc x);have:=E5 x acc;rw[E0,bY];omega
theorem IJ:∀ {b acc:List Int},GR acc->GR (b.foldl lP acc)
 |[],_,h=>h
 |x::r,acc,h=>by rw[E0];exact IJ (Pq h)
theorem II {y:Int}:∀ {b acc:List Int},y∈b.foldl lP acc↔y∈acc\/y∈b
 |[],acc=>by simp
 |x::r,acc=>by
  rw[E0,II,HL];simp;constructor
  .rintro ((h|h)|h)<;>simp[h]
  .rintro (h|h|h)<;>simp[h]
theorem O1 (a b:List Int):GR (wN a b):=IJ (IJ trivial)
theorem Hx {a b:List Int} {y:Int}:y∈wN a b↔y∈a\/y∈b:=by unfold wN;rw[II,II];simp
theorem YH (a b:List Int):(wN a b).length<=a.length+b.length:=by
 have:=v_ b (a.foldl lP []);have:=v_ a [];unfold wN;simp at *;omega
theorem Mg {b acc:List Int} {i:Nat} (hi:i<b.length):(b.take (i+1)).foldl lP acc=lP ((b.take i).foldl lP acc) (b.getD i 0):=by
 rw[oJ hi,fB,ay,aA hi];rfl
theorem RP (a b:List Int) (M:a.length<=400000) (hb:b.length<=400000):rc (a,b)=af (wN a b):=by
 refine cD ?_;unfold rc bz bK aZ cP aF cF;refine ci a.length (λi x=>x.2=(i:Int)/\x.1=(a.take i).foldl lP []) ?_ ?_ ⟨rfl,rfl⟩
 .rintro i ⟨J,I⟩ hi ⟨h1,h2⟩;dsimp only at h1 h2;subst h1;subst h2;have hl:((a.take i).foldl lP []).length<=1000000:=by have:=v_ (a.take i) [];have:=pP i a;simp at *;omega
  with_reducible repeat' first|(refine OS.ok ?_;constructor)|refine IM.mk λ_=>?_
  all_goals try simp only[au,qL] at*
  all_goals first|omega|skip
  refine aV (aap _ _ hl) (ar ?_);dsimp only;refine ⟨gO (by omega),?_⟩;rw[NL,Mg hi]
 .rintro⟨J,I⟩ ⟨h1,h2⟩;dsimp only at h1 h2;subst h1;subst h2;rw[cR];have hla:=v_ a [];with_reducible repeat' first|(refine OS.ok ?_;constructor)|refine IM.mk λ_=>?_
  all_goals try simp only[au,qL] at*
  all_goals first|omega|skip
  refine ax (P:=λr=>r=wN a b) ?_ λr hr=>ar hr
  refine ci b.length (λi x=>x.2=(i:Int)/\x.1=(b.take i).foldl lP (a.foldl lP [])) ?_ ?_ ⟨rfl,rfl⟩
  .rintro i ⟨J,I⟩ hi ⟨h1,h2⟩;dsimp only at h1 h2;subst h1;subst h2;have hl:((b.take i).foldl lP (a.foldl lP [])).length<=1000000:=by have:=v_ (b.take i) (a.foldl lP []);have:=pP i b;simp at *;omega
   with_reducible repeat' first|(refine OS.ok ?_;constructor)|refine IM.mk λ_=>?_
   all_goals try simp only[au,qL] at*
   all_goals first|omega|skip
   refine aV (aap _ _ hl) (ar ?_);dsimp only;refine ⟨gO (by omega),?_⟩;rw[NL,Mg hi]
  .rintro⟨J,I⟩ ⟨h1,h2⟩;dsimp only at h1 h2;subst h1;subst h2;rw[cR];with_reducible repeat' first|(refine OS.ok ?_;constructor)|refine IM.mk λ_=>?_
   all_goals try simp only[au,qL] at*
   all_goals first|omega|rfl
def Hq (c:Int) (x:Int×Int×Bool):Bool:=decide (x.1=3)&&decide (x.2.1=c)
def wl (th:List (Int×Int×Bool)) (c:Int):Nat->List Int
 |0=>[]
 |i+1=>if Hq c (aJ (T:=jy) th (i:Int)) then wl th c i++[(i:Int)] else wl th c i
theorem vh (th:List (Int×Int×Bool)) (c:Int):∀ i,(wl th c i).length<=i
 |0=>bT _
 |i+1=>by have:=vh th c i;rw[wl];split<;>simp<;>omega
theorem qT {th:List (Int×Int×Bool)} {c u:Int}:∀ {i:Nat},u∈wl th c i↔0<=u/\u<i/\Hq c (aJ (T:=jy) th u)=ai
 |0=>by simp[wl];omega
 |i+1=>by
  have I:= @qT th c u i;rw[wl];by_cases hu:u=(i:Int)
  .subst hu;split
   .rename_i h;simp[h];omega
   .rename_i h;rw[I];simp[h]
  .split
   .rw[bP,I,aL];constructor
    .rintro (h|h)
     .exact⟨h.1,by omega,h.2.2⟩
     .exact cZ h hu
    .intro h;exact .inl ⟨h.1,by omega,h.2.2⟩
   .rw[I];constructor
    .intro h;exact⟨h.1,by omega,h.2.2⟩
    .intro h;exact⟨h.1,by omega,h.2.2⟩
theorem ajg {th:List (Int×Int×Bool)} {c:Int} {i:Nat} (h1:(aJ (T:=jy) th (i:Int)).1=3) (h2:(aJ (T:=jy) th (i:Int)).2.1=c):wl th c (i+1)=wl th c i++[(i:Int)]:=by
 rw[wl,aE];unfold Hq;rw[h1,h2];simp
theorem aet {th:List (Int×Int×Bool)} {c:Int} {i:Nat} (h1:¬(aJ (T:=jy) th (i:Int)).1=3):wl th c (i+1)=wl th c i:=by
 rw[wl,aB];unfold Hq;rw[bH h1];simp
theorem aes {th:List (Int×Int×Bool)} {c:Int} {i:Nat} (h1:¬(aJ (T:=jy) th (i:Int)).2.1=c):wl th c (i+1)=wl th c i:=by
 rw[wl,aB];unfold Hq;rw[bH h1];simp
theorem UZ (s:SY) (c:Int) (hs:s.2.2.2.length<=1000):nz (s,c)=af (wl s.2.2.2 c s.2.2.2.length):=by
 refine cD ?_;unfold nz bL bf bz bF bK aZ cP aF cF;refine ci s.2.2.2.length (λi x=>x=((i:Int),s,wl s.2.2.2 c i)) ?_ ?_ rfl
 .rintro i x hi rfl;have hl:=vh s.2.2.2 c i;with_reducible repeat' first|(refine OS.ok ?_;constructor)|refine IM.mk λ_=>?_
  all_goals try simp only[au,qL] at*
  all_goals first|omega|skip
  all_goals first|(simp;omega)|skip
  .rename_i h1 h2;rw[ajg h1 h2,gO (by omega)]
  .rename_i h1 h2;rw[aes h2,gO (by omega)]
  .rename_i h1;rw[aet h1,gO (by omega)]
 .rintro x rfl;with_reducible repeat' first|(refine OS.ok ?_;constructor)|refine IM.mk λ_=>?_
  all_goals try simp only[au,qL] at*
  all_goals first|omega|rfl
def wo (l:List Int) (n:Int):List Int:=l.filter λx=> !decide (x=n)
theorem Sq (l:List Int) (n:Int) (hl:l.length<=1000000):qc (l,n)=af (wo l n):=by
 refine cD ?_;unfold qc bz iT bF bK aZ cP aF cF;refine ci l.length (λi x=>x=((i:Int),wo (l.take i) n)) ?_ ?_ rfl
 .rintro i x hi rfl;have hq:(wo (l.take i) n).length<=i:=dj (List.length_filter_le ..) (pP ..);have ht:wo (l.take (i+1)) n=if aJ (T:=.int .i64) l (i:Int)=n then wo (l.take i) n else wo (l.take i) n++[aJ (T:=.int .i64) l (i:Int)]:=by
   unfold wo;rw[oJ hi,List.filter_append,NL,ay,aA hi];by_cases h:l[i]=n<;>simp[h]
  with_reducible repeat' first|(refine OS.ok ?_;constructor)|refine IM.mk λ_=>?_
  all_goals try simp only[au,qL] at*
  all_goals first|omega|skip
  .simp;omega
  .rename_i h;rw[ht,aB h,gO (by omega)]
  .rename_i h;rw[ht,aE h,gO (by omega)]
 .rintro x rfl;with_reducible repeat' first|(refine OS.ok ?_;constructor)|refine IM.mk λ_=>?_
  all_goals try simp only[au,qL] at*
  all_goals first|omega|(rw [cR])
theorem nQ {T:Ty} {xs:List T.den} {i:Nat} (hi:i<al xs):dM (i+1) xs=dM i xs++[aJ xs (i:Int)]:=by
 rw[oJ hi,ya,ay,aA hi];rfl
theorem qF {n:Nat} (s:SY) (hs:SB n s):ij s=af (s.2.1,s.1,s.2.2.1,s.2.2.2):=by
 refine cD ?_;obtain⟨s1,s2,J,I⟩:=s;have hn:=hs.n1;have Y:=hs.lk;have U:=hs.dn;have M:=hs.th;dsimp only at Y U M;unfold ij aX bl bw bL cS bz bF bK aZ cP aF cF;with_reducible repeat' first|(refine OS.ok ?_;constructor)|refine IM.mk λ_=>?_
 all_goals try simp only[au,qL] at*
 .simp;omega
 .omega
 .simp;omega
 .omega
 refine ci s1.length (λi x=>x=((i:Int),(s1,s2,J,I),0,s2,s1.take i,J,I)) ?_ ?_ ?_
 .rintro i x hi rfl;have hg:=hs.rd _ (bG (T:=zH) (xs:=s1) (j:=(i:Int)) (by omega) (by omega));with_reducible repeat' first|(refine OS.ok ?_;constructor)|refine IM.mk λ_=>?_
  all_goals try simp only[au,qL] at*
  all_goals first|omega|skip
  .simp;omega
  .simp;omega
  .rw[gO (by omega),nQ (T:=zH) hi];rfl
 .rintro x rfl;with_reducible repeat' first|(refine OS.ok ?_;constructor)|refine IM.mk λ_=>?_
  all_goals try simp only[au,qL] at*
  all_goals first|omega|skip
  simp
 .simp
theorem F4 (s:SY) (c:Int) (hs:s.2.2.2.length<=1000):jB ((s.2.1,c),s.1,s.2.2.1,s.2.2.2)=af (wl s.2.2.2 c s.2.2.2.length):=by
 refine cD ?_;unfold jB;refine ax (P:=λy=>y=(wl s.2.2.2 c s.2.2.2.length,s.1,s.2.2.1,s.2.2.2)) ?_ λy I=>by subst I;exact ac8 rfl (ar rfl)
 unfold l_ aX bl bw bL cS bf bz bF kZ aZ cP aF cF;refine ci s.2.2.2.length (λi x=>x=((i:Int),s.1,s.2.2.1,s.2.2.2,s.2.1,wl s.2.2.2 c i)) ?_ ?_ rfl
 .rintro i x hi rfl;have hl:=vh s.2.2.2 c i;with_reducible repeat' first|(refine OS.ok ?_;constructor)|refine IM.mk λ_=>?_
  all_goals try simp only[au,qL] at*
  all_goals first|omega|skip
  all_goals first|(simp;omega)|skip
  .rename_i h1 h2;rw[ajg h1 h2,gO (by omega)]
  .rename_i h1 h2;rw[aes h2,gO (by omega)]
  .rename_i h1;rw[aet h1,gO (by omega)]
 .rintro x rfl;with_reducible repeat' first|(refine OS.ok ?_;constructor)|refine IM.mk λ_=>?_
  all_goals try simp only[au,qL] at*
  all_goals first|omega|rfl
structure AP (n:Nat) (s y:SY):Prop where
 a1:y.1.length=s.1.length
 a2:y.2.2.1.length=s.2.2.1.length
 a3:y.2.2.2.length=s.2.2.2.length
 rd:∀ l∈y.1,l.2.length<=n+1
theorem AP.toSB {n:Nat} {s y:SY} (h:AP n s y) (hs:SB n s) (hn:n+1<=100000):SB (n+1) y:=
 ⟨hn,by rw[h.a1];exact hs.lk,h.rd,by rw[h.a2];exact hs.dn,by rw[h.a3];exact hs.th⟩
theorem AP.same {n:Nat} {s:SY} (hs:SB n s) (x:Int) (d:List Bool) (t:List (Int×Int×Bool)) (hd:d.length=s.2.2.1.length) (ht:t.length=s.2.2.2.length):AP n s (s.1,x,d,t):=
 ⟨rfl,hd,ht,λl hl=>iv (hs.rd l hl)⟩
theorem AP.set {n:Nat} {s:SY} (hs:SB n s) (j a:Int) (r:List Int) (hr:r.length<=n+1) (x:Int) (d:List Bool) (t:List (Int×Int×Bool)) (hd:d.length=s.2.2.1.length) (ht:t.length=s.2.2.2.length):AP n s (cO s.1 j (a,r),x,d,t):=
 ⟨bV _ _ _,hd,ht,λl hl=>by
   rcases B_ hl with h|rfl
   .exact iv (hs.rd l h)
   .exact hr⟩
def xB (th:List (Int×Int×Bool)) (t st:Int):List (Int×Int×Bool):=cO th t (st,(aJ (T:=jy) th t).2)
def owP (lk:List (Int×List Int)) (o t:Int):List (Int×List Int):=cO lk o (t,(aJ (T:=zH) lk o).2)
def rdP (lk:List (Int×List Int)) (o:Int) (l:List Int):List (Int×List Int):=cO lk o ((aJ (T:=zH) lk o).1,l)
def cdP (th:List (Int×Int×Bool)) (t c:Int):List (Int×Int×Bool):=cO th t ((aJ (T:=jy) th t).1,c,(aJ (T:=jy) th t).2.2)
def atP (th:List (Int×Int×Bool)) (t:Int) (b:Bool):List (Int×Int×Bool):=cO th t ((aJ (T:=jy) th t).1,(aJ (T:=jy) th t).2.1,b)
def Cm (th:List (Int×Int×Bool)) (l:List Int):List (Int×Int×Bool):=l.foldl (λx u=>xB x u 4) th
def AS (l:List Int) (u:Int):Int:=if l.length=0 then -1 else if l.contains u then u else aJ (T:=.int .i64) l 0
def WP (w:WT) (o:Int):Int:=(aJ (T:=O2) w.2.2.1 o).2
def oG (w:WT) (s:SY) (t k o u:Int):SY×Int:=
 if k=1 then ((s.1,s.2.1,s.2.2.1,xB s.2.2.2 t 2),0)
 else if k=2 then ((s.1,s.2.1,s.2.2.1,xB s.2.2.2 t 5),0)
 else if k=6\/k=10 then ((owP s.1 o t,s.2),0)
 else if k=7\/k=11 then ((owP s.1 o (-1),s.2),0)
 else if k=8 then ((rdP s.1 o (wN (aJ (T:=zH) s.1 o).2 [t]),s.2),0)
 else if k=9 then ((rdP s.1 o (wo (aJ (T:=zH) s.1 o).2 t),s.2),0)
 else if k=12 then ((s.1,t,s.2.2),0)
 else if k=13 then ((s.1,-1,s.2.2),0)
 else if k=14 then ((s.1,s.2.1,s.2.2.1,atP s.2.2.2 t ai),0)
 else if k=15 then ((s.1,s.2.1,s.2.2.1,atP s.2.2.2 t aj),0)
 else if k=16 then ((owP s.1 (WP w o) (-1),s.2.1,s.2.2.1,cdP (xB s.2.2.2 t 3) t o),0)
 else if k=17 then ((owP s.1 (WP w o) t,s.2.1,s.2.2.1,cdP (xB s.2.2.2 t 2) t 0),0)
 else if k=18 then (if (wl s.2.2.2 o s.2.2.2.length).length=0 then (s,-1) else ((s.1,s.2.1,s.2.2.1,xB s.2.2.2 (AS (wl s.2.2.2 o s.2.2.2.length) u) 4),AS (wl s.2.2.2 o s.2.2.2.length) u))
 else if k=19 then ((s.1,s.2.1,s.2.2.1,Cm s.2.2.2 (wl s.2.2.2 o s.2.2.2.length)),((wl s.2.2.2 o s.2.2.2.length).length:Int))
 else if k=20 then ((s.1,s.2.1,s.2.2.1,xB s.2.2.2 o 1),0)
 else if k=22 then ((s.1,s.2.1,cO s.2.2.1 o ai,s.2.2.2),0)
 else (s,0)
theorem G8 (l:List Int):∀ th,(Cm th l).length=th.length:=by
 induction l with
 |nil=>intro th;rfl
 |cons x r I=>intro th;unfold Cm;rw[E0];exact (I _).trans (bV ..)
theorem Zf {th:List (Int×Int×Bool)} {l:List Int} {i:Nat} (hi:i<l.length):Cm th (l.take (i+1))=xB (Cm th (l.take i)) (aJ (T:=.int .i64) l (i:Int)) 4:=by
 unfold Cm;rw[oJ hi,fB,NL,ay,aA hi];rfl
theorem Sj {n:Nat} (w:WT) (s:SY) (hs:SB n s) (U:w.2.2.1.length<=1000) (t k o u:Int):Ok (o_ (w,s,t,k,o,u)) λy=>(y.2.2=ai->EN w s t k o/\So w s t k o/\AP n s y.1/\(y.1,y.2.1)=oG w s t k o u)/\(y.2.2=aj->y.1=([],0,[],[]))/\(j9 (w,s,t,k,o)=af ai->y.2.2=ai):=by
 unfold o_ aX bl bw cz bL dw cS fc ck bf bz bK kZ aZ cP aF cF;obtain⟨b,J,hb⟩:=Kj w s hs U t k o;refine aV J ?_;refine dO (λh=>ar ⟨λh=>(by cases h),λ_=>rfl,λh2=>(by rw[J,h] at h2;cases h2)⟩) (λh=>?_);obtain⟨he,hry⟩:=hb h;refine aV (qF s hs) ?_;suffices hmain:Ok _ _ from aY (λx=>AP n s (x.2.2.2.1,x.2.1,x.2.2.2.2)/\((x.2.2.2.1,x.2.1,x.2.2.2.2),x.1)=oG w s t k o u) hmain λx M=>ar ⟨λ_=>⟨he,hry,M⟩,λh=>(by cases h),λ_=>rfl⟩
 obtain⟨nm,t0,t1,cd,e1,e2,e3⟩:=id he;obtain⟨_,_,ce,lk,cn,th,fu⟩:=nm;have hn:=hs.n1;have hlk:=hs.lk;have hm:16<=k/\k<=19->0<=(aJ (T:=O2) w.2.2.1 o).2/\(aJ (T:=O2) w.2.2.1 o).2<w.2.1.length:=λh=>cd _ (bG (cn h).1 (cn h).2)
 have hr:∀ j:Int,0<=j->j<s.1.length->(aJ (T:=zH) s.1 j).2.length<=n:=λj h0 h1=>hs.rd _ (bG (T:=zH) h0 h1)
 rcases @Ib k with rfl|rfl|rfl|rfl|rfl|rfl|rfl|rfl|rfl|rfl|rfl|rfl|rfl|rfl|rfl|rfl|rfl|rfl|rfl|rfl|rfl|rfl|rfl|⟨hk,Y⟩
 case inr.inr.inr.inr.inr.inr.inr.inr.inr.inr.inr.inr.inr.inr.inr.inr.inr.inr.inr.inr.inr.inr.inr=>omega
 all_goals simp only[aT,bp,sP]
 all_goals with_reducible repeat' first|(refine OS.ok ?_;constructor)|refine IM.mk λ_=>?_
 all_goals try simp only[au,qL] at*
 all_goals try rw[bV]
 all_goals first|omega|exact (hm ⟨by decide,by decide⟩).1|exact e1▸(hm ⟨by decide,by decide⟩).2|exact⟨AP.same hs _ _ _ rfl rfl,rfl⟩|exact⟨AP.same hs _ _ _ rfl (bV _ _ _),rfl⟩|exact⟨AP.same hs _ _ _ (bV _ _ _) rfl,rfl⟩|skip
 all_goals try exact⟨AP.set hs _ _ _ (iv (hr o (by omega) (by omega))) _ _ _ rfl rfl,rfl⟩
 .have:=hr o (by omega) (by omega);refine aV (RP _ _ (dj this (by have:=hs.n1;omega)) (by simp)) ?_;with_reducible repeat' first|(refine OS.ok ?_;constructor)|refine IM.mk λ_=>?_
  all_goals try simp only[au,qL] at*
  all_goals first|omega|skip
  exact⟨AP.set hs _ _ _ (by have:=YH (aJ (T:=zH) s.1 o).2 [t];simp at this;omega) _ _ _ rfl rfl,rfl⟩
 .have:=hr o (by omega) (by omega);have hl:(wo (aJ (T:=zH) s.1 o).2 t).length<=(aJ (T:=zH) s.1 o).2.length:=List.length_filter_le ..;refine aV (Sq _ _ (by omega)) ?_;with_reducible repeat' first|(refine OS.ok ?_;constructor)|refine IM.mk λ_=>?_
  all_goals try simp only[au,qL] at*
  all_goals first|omega|skip
  exact⟨AP.set hs _ _ _ (dj hl (by omega)) _ _ _ rfl rfl,rfl⟩
 .exact⟨AP.set hs _ _ _ (iv (hr _ (hm ⟨by decide,by decide⟩).1 (by rw[e1];exact (hm ⟨by decide,by decide⟩).2))) _ _ _ rfl (by rw[bV,bV]),rfl⟩
 .exact⟨AP.set hs _ _ _ (iv (hr _ (hm ⟨by decide,by decide⟩).1 (by rw[e1];exact (hm ⟨by decide,by decide⟩).2))) _ _ _ rfl (by rw[bV,bV]),rfl⟩
 .refine aV (F4 s o hs.th) ?_;have hth:=hs.th;have hll:=vh s.2.2.2 o s.2.2.2.length;have hml:∀ u∈wl s.2.2.2 o s.2.2.2.length,0<=u/\u<s.2.2.2.length:=λu hu=>⟨(qT.1 hu).1,(qT.1 hu).2.1⟩
  have hap:oG w s t 18 o u=if (wl s.2.2.2 o s.2.2.2.length).length=0 then (s,-1) else ((s.1,s.2.1,s.2.2.1,xB s.2.2.2 (AS (wl s.2.2.2 o s.2.2.2.length) u) 4),AS (wl s.2.2.2 o s.2.2.2.length) u):=rfl
  unfold AS at hap;revert hll hml hap;generalize wl s.2.2.2 o s.2.2.2.length=l;intro hll hml hap;with_reducible repeat' first|(refine OS.ok ?_;constructor)|refine IM.mk λ_=>?_
  all_goals try simp only[au,qL] at*
  all_goals first|omega|skip
  .have I:=hml _ (bG (T:=.int .i64) (xs:=l) (j:=0) (by omega) (by omega));rw[aB (by omega),aB (by omega)] at hap;simp only[U8 l u (by omega),VB];refine aP (λhc=>?_) λhc=>?_
   .have hu:=hml u (sM.1 hc);rw[hc,aE rfl] at hap;refine ar (aR hu.1 hu.2 (aR hu.1 hu.2 (ar ⟨AP.same hs _ _ _ rfl (bV ..),?_⟩)));rw[hap];rfl
   .rw[hc,aB (by decide)] at hap;refine ar (aR I.1 I.2 (aR I.1 I.2 (ar ⟨AP.same hs _ _ _ rfl (bV ..),?_⟩)));rw[hap];rfl
  .rw[aE (by omega)] at hap;exact⟨AP.same hs _ _ _ rfl rfl,hap.symm⟩
 .refine aV (F4 s o hs.th) ?_;have hth:=hs.th;have hll:=vh s.2.2.2 o s.2.2.2.length;have hml:∀ u∈wl s.2.2.2 o s.2.2.2.length,0<=u/\u<s.2.2.2.length:=λu hu=>⟨(qT.1 hu).1,(qT.1 hu).2.1⟩
  have hap:oG w s t 19 o u=((s.1,s.2.1,s.2.2.1,Cm s.2.2.2 (wl s.2.2.2 o s.2.2.2.length)),((wl s.2.2.2 o s.2.2.2.length).length:Int)):=rfl;rw[hap];clear hap;generalize wl s.2.2.2 o s.2.2.2.length=l at hll hml ⊢;refine ci l.length (λi x=>x=((i:Int),s.2.1,0,s.1,s.2.2.1,Cm s.2.2.2 (l.take i))) ?_ ?_ rfl
  .rintro i x hi rfl;have I:=hml _ (bG (T:=.int .i64) (xs:=l) (j:=(i:Int)) (by omega) (by omega));have hq:=G8 (l.take i) s.2.2.2;with_reducible repeat' first|(refine OS.ok ?_;constructor)|refine IM.mk λ_=>?_
   all_goals try simp only[au,qL] at*
   all_goals first|omega|skip
   rw[gO (by omega),Zf hi];rfl
  .rintro x rfl;rw[cR];with_reducible repeat' first|(refine OS.ok ?_;constructor)|refine IM.mk λ_=>?_
   all_goals try simp only[au,qL] at*
   all_goals first|omega|skip
   exact AP.same hs _ _ _ rfl (G8 ..)
abbrev SN:Type:=SY×List Int×List Int×List Int
abbrev ET:Type:=Int×Int×Int×Int×Int×List Int×List Int
theorem aju (a b:Int):Cn (a,b)=af (decide (0<=a/\a<b)):=Zu a b
structure NB (n:Nat) (s:SN):Prop where
 sb:SB n s.1
 c:s.2.1.length<=1000
 f:s.2.2.1.length<=1000
 k:s.2.2.2.length<=1000
structure SP (n:Nat) (s y:SN):Prop where
 ap:AP n s.1 y.1
 c:y.2.1.length=s.2.1.length
 f:y.2.2.1.length=s.2.2.1.length
 k:y.2.2.2.length=s.2.2.2.length
theorem SP.NB {n:Nat} {s y:SN} (h:SP n s y) (hs:NB n s) (hn:n+1<=100000):NB (n+1) y:=
 ⟨h.ap.toSB hs.sb hn,by rw[h.c];exact hs.c,by rw[h.f];exact hs.f,by rw[h.k];exact hs.k⟩
def sn0:SN:=(([],0,[],[]),[],[],[])
structure F16 (w:WT) (s:SN):Prop where
 c:s.2.1.length=w.1.length
 f:s.2.2.1.length=w.2.2.2.1.length
 k:s.2.2.2.length=w.2.2.2.2.1.length
theorem Yj (w:WT) (s:SN) (I:w.2.2.1.length<=1000):Ok (vK (w,s)) λb=>b=ai->F16 w s:=by
 unfold vK aX bl bw dw bf aZ aF;refine gu (ax (OO w s.1 (by omega)) λb hb=>?_);with_reducible repeat' first|(refine OS.ok ?_;constructor)|refine IM.mk λ_=>?_
 all_goals try simp only[au,qL] at*
 all_goals first|(intro h;constructor<;>omega)|(intro h;cases h;done)
theorem Wi:∀ (l:List Int),(∀ k:Nat,k+1<l.length->l.getD k 0<l.getD (k+1) 0)->GR l
 |[],_=>trivial
 |[x],_=>⟨λy M=>(by cases M),trivial⟩
 |x::y::r,h=>by
  have J:=Wi (y::r) λk hk=>by have:=h (k+1) (by simpa using hk);simpa using this
  have h0:=h 0 (by simp);simp at h0;refine ⟨λz I=>?_,J⟩;rcases bi.1 I with rfl|I
  .exact h0
  .have:=J.1 z I;omega
structure AN (c:Int) (l:List Int):Prop where
 a:GR l
 m:∀ x:Int,x∈l->1<=x/\x<c
theorem HX (l:List Int) (c:Int) (hl:l.length<=1000000000):Ok (nu (l,c)) λb=>b=ai->AN c l:=by
 unfold nu bz jz bK aZ cP aF cF;refine ci l.length (λi x=>x=(i:Int)/\(∀ k:Nat,k<i->1<=aJ (T:=.int .i64) l (k:Int)/\aJ (T:=.int .i64) l (k:Int)<c)/\∀ k:Nat,k+1<i->l.getD k 0<l.getD (k+1) 0) ?_ ?_ ⟨rfl,λk hk=>by omega,λk hk=>by omega⟩
 .rintro i x hi ⟨rfl,I,J⟩;have M:0<(i:Int)->bm .i64 ((i:Int)-1)=((i-1:Nat):Int):=λh=>by rw[ib (by omega) (by omega)];omega
  have hq:(0<i->l.getD (i-1) 0<l.getD i 0)->1<=aJ (T:=.int .i64) l (i:Int)/\aJ (T:=.int .i64) l (i:Int)<c->bm .i64 ((i:Int)+1)=((i+1:Nat):Int)/\(∀ k:Nat,k<i+1->1<=aJ (T:=.int .i64) l (k:Int)/\aJ (T:=.int .i64) l (k:Int)<c)/\∀ k:Nat,k+1<i+1->l.getD k 0<l.getD (k+1) 0:=λg1 Z=>by
   refine ⟨gO (by omega),λk hk=>?_,λk hk=>?_⟩
   .rcases bZ k i with h1|h1
    .exact I k h1
    .rw[show k=i by omega];exact Z
   .rcases bZ (k+1) i with h1|h1
    .exact J k h1
    .have:=g1 (by omega);rw[show k=i-1 by omega,show i-1+1=i by omega];exact this
  with_reducible repeat' first|(refine OS.ok ?_;constructor)|refine IM.mk λ_=>?_
  all_goals try simp only[au,qL] at*
  all_goals first|omega|(intro h;cases h;done)|(rw [M (by omega)];omega)|skip
  .rename_i h1 h2 Y U;rw[M Y,NL,NL] at U;exact hq (λ_=>U) ⟨by omega,by omega⟩
  .exact hq (λh=>by omega) ⟨by omega,by omega⟩
 .rintro x ⟨rfl,I,J⟩;with_reducible repeat' first|(refine OS.ok ?_;constructor)|refine IM.mk λ_=>?_
  all_goals try simp only[au,qL] at*
  all_goals first|omega|skip
  exact⟨Wi l λk hk=>J k hk,io (T:=.int .i64) I⟩
structure VA (w:WT) (sy:SY) (ce fu:List Int) (t k o v:Int):Prop where
 ld:k=3->v=aJ (T:=.int .i64) ce o
 gt:k=23->v=aJ (T:=.int .i64) fu o
 br:k=5->v=0\/v=1
 el:¬k=3->¬k=23->¬k=5->¬k=4->¬k=22->v=(oG w sy t k o v).2
theorem ite2 {c:Prop} [Decidable c] {a b:SY×Int} (I:a.2=0) (hb:b.2=0):(if c then a else b).2=0:=by by_cases h:c<;>simp[h,I,hb]
theorem afh (w:WT) (sy:SY) (t k o u:Int) (h1:¬k=18) (h2:¬k=19):(oG w sy t k o u).2=0:=by
 unfold oG;rw[aB h1,aB h2];repeat (first|exact rfl|refine ite2 rfl ?_)
theorem Wm (w:WT) (sy:SY) (t k o u I:Int) (h1:¬k=18):oG w sy t k o u=oG w sy t k o I:=by
 unfold oG;rw[aB h1,aB h1]
theorem EM (w:WT) (sy:SY) (t o u:Int):oG w sy t 18 o u=if (wl sy.2.2.2 o sy.2.2.2.length).length=0 then (sy,-1) else ((sy.1,sy.2.1,sy.2.2.1,xB sy.2.2.2 (AS (wl sy.2.2.2 o sy.2.2.2.length) u) 4),AS (wl sy.2.2.2 o sy.2.2.2.length) u):=rfl
theorem ah1 (w:WT) (sy:SY) (t o u:Int):(oG w sy t 19 o u).2=((wl sy.2.2.2 o sy.2.2.2.length).length:Int):=rfl
theorem YG {n:Nat} (w:WT) (s:SN) (hs:NB n s) (hf:F16 w s) (e:ET) (he:EN w s.1 e.1 e.2.1 e.2.2.1):Ok (tO (s,e)) λb=>b=ai->VA w s.1 s.2.1 s.2.2.1 e.1 e.2.1 e.2.2.1 e.2.2.2.1:=by
 obtain⟨t,k,o,v,si,de,fr⟩:=e;obtain⟨s1,s2,s3,s4⟩:=s;obtain⟨nm,t0,t1,cd,e1,e2,e3⟩:=he;obtain⟨_,_,ce,lk,cn,th,fu,_,_,_⟩:=nm;obtain⟨f1,f2,f3⟩:=hf;have hth:=hs.sb.th;dsimp only at*
 unfold tO aX bl bw cz bL bf bz jz bK aZ aF;have hW:=UZ s1 o hth;have hWl:=vh s1.2.2.2 o s1.2.2.2.length;refine aK (λh=>?_) λn3=>?_
 .have h:k=3:=h;obtain⟨Z,Y⟩:=ce (.inl h);exact aR Z (by rw[f1];exact Y) (aS (ar λh2=>⟨λ_=>bg h2,λI=>by omega,λI=>by omega,λI=>(I h).elim⟩))
 refine aK (λh=>?_) λJ=>?_
 .have h:k=23:=h;obtain⟨Z,Y⟩:=fu (.inr h);exact aR Z (by rw[f2];exact Y) (aS (ar λh2=>⟨λI=>by omega,λ_=>bg h2,λI=>by omega,λ_ I=>(I h).elim⟩))
 refine aK (λh=>?_) λn5=>?_
 .have h:k=5:=h;exact gu (aK (λh2=>ar (ar λ_=>⟨λI=>by omega,λI=>by omega,λ_=>.inl h2,λ_ _ I=>(I h).elim⟩)) λ_=>ar (ar λh2=>⟨λI=>by omega,λI=>by omega,λ_=>.inr (bg h2),λ_ _ I=>(I h).elim⟩))
 refine aY (λx=>x.2=((s1,s2,s3,s4),t,k,o,v,si,de,fr)/\(x.1=ai->k=4\/k=22)) (aK (λh=>ar ⟨rfl,λ_=>.inl h⟩) λ_=>ar ⟨rfl,λh=>.inr (bg h)⟩) ?_;rintro⟨b,x⟩ ⟨e,hb⟩;dsimp only at e hb;subst e;refine aP (λh=>ar λ_=>⟨λI=>(n3 I).elim,λI=>(J I).elim,λI=>(n5 I).elim,λ_ _ _ h4 h5=>(hb h).elim (λh=>(h4 h).elim) λh=>(h5 h).elim⟩) λ_=>?_
 have fin:v=(oG w s1 t k o v).2->VA w s1 s2 s3 t k o v:=λh=>⟨λI=>(n3 I).elim,λI=>(J I).elim,λI=>(n5 I).elim,λ_ _ _ _ _=>h⟩
 refine aK (λh=>?_) λU=>?_
 .have h:k=18:=h;subst h;rw[EM] at fin;refine aV hW ?_;revert fin hWl;generalize wl s1.2.2.2 o s1.2.2.2.length=l;intro hWl fin;refine aK (λh=>ar λh2=>fin ?_) λh=>?_
  .dsimp only[au] at h;rw[aE (by omega)];exact bg h2
  .dsimp only[au] at h;have hne:¬l.length=0:=by omega
   refine gu (fo (λ_=>bI (λ_=>?_) λ_=>ar (ar λh=>(by cases h))) λ_=>ar (ar λh=>(by cases h)));refine aV (U8 _ _ (by omega)) (ar (ar λh2=>fin ?_));rw[aB hne];unfold AS;rw[aB hne,aE h2]
 refine aK (λh=>?_) λM=>?_
 .have h:k=19:=h;subst h;exact aV hW (ar λh2=>fin (bg h2))
 exact ar λh2=>fin (by rw[afh _ _ _ _ _ _ U M];exact bg h2)
structure S16 (w:WT) (s:SN) (e:ET):Prop where
 rd:So w s.1 e.1 e.2.1 e.2.2.1
 s1:e.2.1=1\/e.2.1=2->e.2.2.2.2.1= -1
 s2:¬(e.2.1=1\/e.2.1=2)->0<=e.2.2.2.2.1/\e.2.2.2.2.1<w.2.2.2.2.2.length/\(aJ (T:=xA) w.2.2.2.2.2 e.2.2.2.2.1).1=e.1
 de:0<e.2.2.2.2.2.1.length->e.2.1=5\/(e.2.1=3\/e.2.1=4)/\¬(aJ (T:=OQ) w.1 e.2.2.1).2.2.1=0
 fr:0<e.2.2.2.2.2.2.length->e.2.1=4\/e.2.1=22
 nd:AN (aJ (T:=.int .i64) s.2.2.2 e.1) e.2.2.2.2.2.1
 nf:AN (aJ (T:=.int .i64) s.2.2.2 e.1) e.2.2.2.2.2.2
 va:VA w s.1 s.2.1 s.2.2.1 e.1 e.2.1 e.2.2.1 e.2.2.2.1
def XN (ce:List Int) (e:ET):List Int:=if e.2.1=4 then cO ce e.2.2.1 e.2.2.2.1 else ce
def YA (fu:List Int) (e:ET):List Int:=if e.2.1=22 then cO fu e.2.2.1 e.2.2.2.1 else fu
def nxP (w:WT) (s:SN) (e:ET):SN:=((oG w s.1 e.1 e.2.1 e.2.2.1 e.2.2.2.1).1,XN s.2.1 e,YA s.2.2.1 e,cO s.2.2.2 e.1 (bm .i64 (aJ (T:=.int .i64) s.2.2.2 e.1+1)))
theorem EQ {n:Nat} (w:WT) (s:SN) (hs:NB n s) (hw:w.2.2.1.length<=1000) (e:ET) (hd:e.2.2.2.2.2.1.length<=1000000000) (hf:e.2.2.2.2.2.2.length<=1000000000):Ok (qY (w,s,e)) λy=>(y.2=ai->EN w s.1 e.1 e.2.1 e.2.2.1/\SP n s y.1/\S16 w s e/\y.1=nxP w s e)/\(y.2=aj->y.1=sn0):=by
 have Z:∀ {Q:SN×Bool->Prop},Q (sn0,aj)->Ok (af (sn0,aj)) Q:=λh=>ar h
 have z0:((sn0,aj).2=ai->EN w s.1 e.1 e.2.1 e.2.2.1/\SP n s (sn0,aj).1/\S16 w s e/\(sn0,aj).1=nxP w s e)/\((sn0,aj).2=aj->(sn0,aj).1=sn0):=⟨λh=>(by cases h),λ_=>rfl⟩
 unfold qY aX bl bw cz ef bL dw cS fc ky ck bf bz iT bF bK kZ aZ cP aF cF;refine aY (λx=>x.2=(w,s,e,0)/\(x.1=aj->F16 w s/\(EN w s.1 e.1 e.2.1 e.2.2.1/\So w s.1 e.1 e.2.1 e.2.2.1)/\j9 (w,s.1,e.1,e.2.1,e.2.2.1)=af ai)) ?_ ?_
 .refine ax (Yj w s hw) λb hb=>?_
  with_reducible repeat' first|(refine OS.ok ?_;constructor)|refine IM.mk λ_=>?_
  .exact⟨rfl,λh=>(by cases h)⟩
  simp only[aju,VB];with_reducible repeat' first|(refine OS.ok ?_;constructor)|refine IM.mk λ_=>?_
  .exact⟨rfl,λh=>(by cases h)⟩
  .exact⟨rfl,λh=>(by cases h)⟩
  .exact⟨rfl,λh=>(by cases h)⟩
  obtain⟨c,hc0,hc⟩:=Kj w s.1 hs.sb hw e.1 e.2.1 e.2.2.1;refine aV hc0 (ar ⟨rfl,λh=>?_⟩);have h:c=ai:=by simpa using h
  exact⟨hb (by assumption),hc h,h▸hc0⟩
 rintro⟨J,M⟩ ⟨I,hx⟩;dsimp only at I hx;subst I;refine aP (λ_=>Z z0) λh1=>?_
 obtain⟨hF,⟨hE,hR⟩,hEn⟩:=hx h1;clear hx h1;refine aY (λx=>x=(w,s,e,0)/\(e.2.1=1\/e.2.1=2->e.2.2.2.2.1= -1)/\(¬(e.2.1=1\/e.2.1=2)->0<=e.2.2.2.2.1/\e.2.2.2.2.1<w.2.2.2.2.2.length/\(aJ (T:=xA) w.2.2.2.2.2 e.2.2.2.2.1).1=e.1)) ?_ ?_
 .refine aY (λx=>x.2=(w,s,e,0)/\(x.1=ai->e.2.1=1\/e.2.1=2)/\(x.1=aj->¬(e.2.1=1\/e.2.1=2))) ?_ ?_
  .refine aK (λh=>ar ⟨rfl,λ_=>.inl h,λh=>(by cases h)⟩) λh=>ar ⟨rfl,λh2=>.inr (bg h2),λh2=>?_⟩
   have:=Ba h2;exact λY=>Y.elim h this
  rintro⟨J,M⟩ ⟨I,hy1,hy2⟩;dsimp only at I hy1 hy2;subst I;refine aP (λhk=>?_) λhk=>?_
  .exact b8 (λ_=>ar z0) λh=>ar ⟨rfl,λ_=>h,λY=>(Y (hy1 hk)).elim⟩
  .refine aY (λx=>x.2=(w,s,e,0)/\(x.1=aj->0<=e.2.2.2.2.1/\e.2.2.2.2.1<w.2.2.2.2.2.length/\(aJ (T:=xA) w.2.2.2.2.2 e.2.2.2.2.1).1=e.1)) ?_ ?_
   .simp only[aju,VB];refine b8 (λ_=>ar ⟨rfl,λh=>(by cases h)⟩) λh=>aR h.1 h.2 (aS (ar ⟨rfl,λh2=>⟨h.1,h.2,?_⟩⟩))
    simpa using h2
   rintro⟨J,M⟩ ⟨I,Z⟩;dsimp only at I Z;subst I;exact aP (λ_=>ar z0) λh=>ar ⟨rfl,λY=>((hy2 hk) Y).elim,λ_=>Z h⟩
 rintro x ⟨rfl,hS1,hS2⟩;obtain⟨nm,t0,t1,cd,e1,e2,e3⟩:=id hE;obtain⟨_,_,ce,lk,cn,th,fu,_,_,_⟩:=nm;obtain⟨f1,f2,f3⟩:=id hF;refine aY (λx=>x.2=(w,s,e,0)/\(x.1=ai->e.2.1=3\/e.2.1=4)) ?_ ?_
 .with_reducible repeat' first|(refine OS.ok ?_;constructor)|refine IM.mk λ_=>?_
  .exact⟨rfl,λ_=>.inl (by assumption)⟩
  .exact⟨rfl,λh=>.inr (bg h)⟩
 rintro⟨J,M⟩ ⟨I,U⟩;dsimp only at I U;subst I;refine aY (λx=>x.2=(w,s,e,0)/\(x.1=aj->0<e.2.2.2.2.2.1.length->e.2.1=5\/(e.2.1=3\/e.2.1=4)/\¬(aJ (T:=OQ) w.1 e.2.2.1).2.2.1=0)) ?_ ?_
 .refine bI (λ_=>b8 (λ_=>aP (λh=>?_) λ_=>ar ⟨rfl,λh=>(by cases h)⟩) λh5=>ar ⟨rfl,λ_ _=>.inl h5⟩) λh=>ar ⟨rfl,λ_ h2=>?_⟩
  .refine aR (ce (U h)).1 (ce (U h)).2 (aS (ar ⟨rfl,λh2 _=>.inr ⟨U h,?_⟩⟩));simpa using h2
  .dsimp only[au] at h;omega
 rintro⟨J,M⟩ ⟨I,hDe⟩;dsimp only at I hDe;subst I;refine aP (λ_=>Z z0) λhde=>?_
 refine aY (λx=>x.2=(w,s,e,0)/\(x.1=aj->0<e.2.2.2.2.2.2.length->e.2.1=4\/e.2.1=22)) ?_ ?_
 .refine bI (λ_=>b8 (λ_=>ar ⟨rfl,λh _=>.inr (by simpa using h)⟩) λh4=>ar ⟨rfl,λ_ _=>.inl h4⟩) λh=>ar ⟨rfl,λ_ h2=>?_⟩
  dsimp only[au] at h;omega
 rintro⟨J,M⟩ ⟨I,hFr⟩;dsimp only at I hFr;subst I;refine aP (λ_=>Z z0) λhfr=>?_
 have hk:=hs.k;have hc:=hs.c;have hfu:=hs.f;refine aY (λx=>x.2=(w,s,e,0)/\(x.1=aj->AN (aJ (T:=.int .i64) s.2.2.2 e.1) e.2.2.2.2.2.1/\AN (aJ (T:=.int .i64) s.2.2.2 e.1) e.2.2.2.2.2.2/\VA w s.1 s.2.1 s.2.2.1 e.1 e.2.1 e.2.2.1 e.2.2.2.1)) ?_ ?_
 .have hv:=YG w s hs hF e hE;refine aR t0 (by rw[f3];exact t1) (aS (ax (HX _ _ hd) λb hb=>?_));refine dO (λ_=>ar ⟨rfl,λh=>(by cases h)⟩) λb1=>?_
  refine aR t0 (by rw[f3];exact t1) (aS (ax (HX _ _ hf) λb hb2=>?_));refine dO (λ_=>ar ⟨rfl,λh=>(by cases h)⟩) λb2=>?_
  exact ax hv λb hb3=>ar ⟨rfl,λh=>⟨hb b1,hb2 b2,hb3 (by simpa using h)⟩⟩
 rintro⟨J,M⟩ ⟨I,hNum⟩;dsimp only at I hNum;subst I;refine aP (λ_=>Z z0) λhnu=>?_
 obtain⟨hN1,hN2,hVA⟩:=hNum hnu;have hS:S16 w s e:=⟨hR,hS1,hS2,hDe hde,hFr hfr,hN1,hN2,hVA⟩
 refine bn (by simp;omega) (by omega) (bn (by simp;omega) (by omega) (bn (by simp;omega) (by omega) ?_));refine aY (λx=>x.2=(w,s,e,0,0,s.2.1,s.2.2.1,s.2.2.2)/\oG w s.1 e.1 e.2.1 e.2.2.1 x.1=oG w s.1 e.1 e.2.1 e.2.2.1 e.2.2.2.1) ?_ ?_
 .exact aK (λ_=>ar ⟨rfl,rfl⟩) λh=>ar ⟨rfl,Wm _ _ _ _ _ _ _ h⟩
 rintro⟨J,M⟩ ⟨I,hxu⟩;dsimp only at I hxu;subst I;refine ax (Sj w s.1 hs.sb hw e.1 e.2.1 e.2.2.1 J) λy hy=>?_
 obtain⟨_,_,hap,hyq⟩:=hy.1 (hy.2.2 hEn);rw[hxu] at hyq;refine aY (λx=>x.1=e/\x.2.2.1=y.1/\x.2.2.2.1=XN s.2.1 e/\x.2.2.2.2=(s.2.2.1,s.2.2.2)) ?_ ?_
 .unfold XN;refine aK (λh=>?_) λh=>ar ⟨rfl,rfl,(aB h).symm,rfl⟩
  have hc4:=ce (.inr h);with_reducible repeat' first|(refine OS.ok ?_;constructor)|refine IM.mk λ_=>?_
  all_goals try simp only[au,qL] at*
  all_goals first|omega|exact (aE h).symm
 rintro⟨J,M,x3,x4,x5,x6⟩ ⟨h1,h2,Y,h4⟩;simp only[aD] at h1 h2 Y h4;obtain⟨rfl,rfl⟩:=h4;subst h1;subst h2;subst Y;refine aY (λx=>x.1=J/\x.2.2.1=y.1/\x.2.2.2.1=XN s.2.1 J/\x.2.2.2.2.1=YA s.2.2.1 J/\x.2.2.2.2.2=s.2.2.2) ?_ ?_
 .unfold YA;refine aK (λh=>?_) λh=>ar ⟨rfl,rfl,rfl,(aB h).symm,rfl⟩
  have hc4:=fu (.inl h);with_reducible repeat' first|(refine OS.ok ?_;constructor)|refine IM.mk λ_=>?_
  all_goals try simp only[au,qL] at*
  all_goals first|omega|exact (aE h).symm
 rintro⟨J,M,x3,x4,x5,x6⟩ ⟨h1,h2,h4,h5,h6⟩;simp only at h1 h2 h4 h5 h6;subst h1;subst h2;subst h4;subst h5;subst h6;have l1:(XN s.2.1 J).length=s.2.1.length:=by unfold XN;split<;>simp[bV]
 have l2:(YA s.2.2.1 J).length=s.2.2.1.length:=by unfold YA;split<;>simp[bV]
 with_reducible repeat' first|(refine OS.ok ?_;constructor)|refine IM.mk λ_=>?_
 all_goals try simp only[au,qL] at*
 all_goals first|omega|skip
 exact⟨⟨hE,⟨hap,l1,l2,by rw[bV]⟩,hS,by unfold nxP;rw[<- hyq]⟩,λh=>(by cases h)⟩
theorem R2:Ok (kl ()) λl=>l.length=22:=by
 unfold kl;with_reducible repeat' first|(refine OS.ok ?_;constructor)|refine IM.mk λ_=>?_
 all_goals rfl
theorem OM (s:List UInt8):Ok (jE s) λ_=>True:=by
 unfold jE bz bK aZ cP aF cF;refine ax R2 λl hl=>?_
 refine ci l.length (λi x=>x=(i:Int)) ?_ ?_ rfl
 .rintro i x hi rfl;with_reducible repeat' first|(refine OS.ok ?_;constructor)|refine IM.mk λ_=>?_
  all_goals try simp only[au,qL] at*
  all_goals first|omega|exact gO (by omega)
 .rintro x rfl;with_reducible repeat' first|(refine OS.ok ?_;constructor)|refine IM.mk λ_=>?_
  all_goals try simp only[au,qL] at*
  all_goals omega
theorem MM (c:Int):Ok (lj c) λ_=>True:=by
 unfold lj jz aF;with_reducible repeat' first|(refine OS.ok ?_;constructor)|refine IM.mk λ_=>?_
 all_goals exact trivial
theorem Zs (c:Int):Ok (pf c) λ_=>True:=by
 unfold pf rh jz aF;refine gu (ax (MM c) λ_ _=>?_);with_reducible repeat' first|(refine OS.ok ?_;constructor)|refine IM.mk λ_=>?_
 all_goals try exact trivial
 refine ax (P:=λ_=>True) ?_ λ_ _=>?_
 .with_reducible repeat' first|(refine OS.ok ?_;constructor)|refine IM.mk λ_=>?_
  all_goals exact trivial
 .with_reducible repeat' first|(refine OS.ok ?_;constructor)|refine IM.mk λ_=>?_
  all_goals exact trivial
theorem ir (s:List UInt8):Ok (eZ s) λ_=>True:=by
 unfold eZ bz vI aZ cP aF cF;refine aY (λb=>b=aj->s.length<=12) ?_ ?_
 .with_reducible repeat' first|(refine OS.ok ?_;constructor)|refine IM.mk λ_=>?_
  .exact λh=>(by cases h)
  .exact λh=>(by cases h)
  .omega
  .simp only[au] at *;omega
  refine ax (MM _) λ_ _=>?_
  with_reducible repeat' first|(refine OS.ok ?_;constructor)|refine IM.mk λ_=>?_
  .exact λh=>(by cases h)
  refine ax (OM _) λ_ _=>ar λ_=>?_
  simp only[au] at *;omega
 .rintro b hb;refine aP (λ_=>ar trivial) λh=>?_
  have hb:=hb h;refine ci s.length (λi x=>x=(i:Int)) ?_ ?_ rfl
  .rintro i x hi rfl;with_reducible repeat' first|(refine OS.ok ?_;constructor)|refine IM.mk λ_=>?_
   all_goals try simp only[au,qL] at*
   all_goals first|omega|skip
   refine ax (Zs _) λ_ _=>?_
   with_reducible repeat' first|(refine OS.ok ?_;constructor)|refine IM.mk λ_=>?_
   .exact trivial
   .exact gO (by omega)
  .rintro x rfl;with_reducible repeat' first|(refine OS.ok ?_;constructor)|refine IM.mk λ_=>?_
   all_goals try simp only[au,qL] at*
   all_goals first|omega|exact trivial
theorem xY (l:List (List UInt8)) (s:List UInt8) (hl:l.length<=1000000000):Ok (iW (l,s)) λr=> -1<=r/\r<l.length/\(0<=r->aJ (T:=.str) l r=s)/\(r<0->s∉l):=by
 unfold iW bz bK aZ cP aF cF;refine ci l.length (λi x=>x=(i:Int)/\∀ k:Nat,k<i->aJ (T:=.str) l (k:Int)≠s) ?_ ?_ ⟨rfl,λk hk=>by omega⟩
 .rintro i x hi ⟨rfl,I⟩;with_reducible repeat' first|(refine OS.ok ?_;constructor)|refine IM.mk λ_=>?_
  all_goals try simp only[au,qL] at*
  all_goals first|omega|skip
  .exact⟨by omega,by omega,λ_=>by assumption,λh=>by omega⟩
  .refine ⟨gO (by omega),λk hk=>?_⟩;rcases bZ k i with h1|h1
   .exact I k h1
   .rw[show k=i by omega];assumption
 .rintro x ⟨rfl,I⟩;with_reducible repeat' first|(refine OS.ok ?_;constructor)|refine IM.mk λ_=>?_
  all_goals try simp only[au,qL] at*
  all_goals first|omega|skip
  exact⟨by omega,by omega,λh=>by omega,λ_ h=>io (T:=.str) (p:=λc=>c≠s) I s h rfl⟩
structure VL (w:WT):Prop where
 c:w.1.length<=12
 l:w.2.1.length<=4
 d:w.2.2.1.length<=2
 f:w.2.2.2.1.length<=2
 t0:1<=w.2.2.2.2.1.length
 t:w.2.2.2.2.1.length<=4
 s:w.2.2.2.2.2.length<=60
theorem Zc (w:WT) (h:VL w):Ok (pa w) λy=>y.1.length<=100:=by
 obtain⟨I,U,M,w4,Z,Y⟩:=w;obtain⟨h1,h2,h3,h4,_,h5,h6⟩:=h;dsimp only at*
 unfold pa aX bl bw cz dw ky bf bz iT bF bK aZ cP aF cF;refine pR (λx=>((I.length:Int)-x.1).toNat) (λx=>x.2.1=(I,U,M,w4,Z,Y)/\0<=x.1/\x.1<=(I.length:Int)/\(x.2.2.length:Int)<=x.1) ?_ ⟨rfl,by simp,by simp,by simp⟩;rintro⟨x1,x2,x3⟩ ⟨e,g1,g2,g3⟩;dsimp only at e g1 g2 g3;subst e;refine bI (λg4=>?_) λg4=>?_
 .dsimp only[au] at g4;refine aY (λx=>x.2.1=(I,U,M,w4,Z,Y)/\x1<x.1/\x.1<=(I.length:Int)/\(x.2.2.length:Int)<=x.1) ?_ ?_
  .refine cA (aS (bn (by simp;omega) (by omega) ?_));refine aK (λ_=>?_) λ_=>?_
   .with_reducible repeat' first|(refine OS.ok ?_;constructor)|refine IM.mk λ_=>?_
    .exact jR _
    .rw[ib (by omega) (by omega)];exact⟨rfl,by dsimp only;omega,by dsimp only;omega,by simp;omega⟩
   .generalize hz:aJ _ x1=z;obtain⟨z1,(z2:Int),(J:Int),z4,z5⟩:=z;dsimp only;refine aY (λx=>x.2=((I,U,M,w4,Z,Y),x3++[z1],z1,z2,J,z4,z5)/\(x.1=aj->1<=J/\J<=4/\x1+J<=I.length)) ?_ ?_
    .with_reducible repeat' first|(refine OS.ok ?_;constructor)|refine IM.mk λ_=>?_
     .exact⟨rfl,λh=>(by cases h)⟩
     .exact⟨rfl,λh=>(by cases h)⟩
     .refine ⟨rfl,λh=>?_⟩;dsimp only[au] at*
      rw[ib (by omega) (by omega),f_] at h;omega
    .rintro⟨b,y⟩ ⟨e,hb⟩;dsimp only at e hb;subst e;refine aP (λ_=>ar (jR _)) λh=>?_
     obtain⟨q1,q2,q3⟩:=hb h;refine pR (λx=>(J-x.1).toNat) (λx=>x.2=((I,U,M,w4,Z,Y),x3++[z1],z1,z2,J,z4,z5)/\0<=x.1/\x.1<=J) ?_ ⟨rfl,by simp,by dsimp only;omega⟩;rintro⟨k,y⟩ ⟨e,k0,k1⟩;dsimp only at e k0 k1;subst e;refine bI (λk2=>?_) λk2=>?_
     .dsimp only at k2;have e1:bm .i64 (x1+k)=x1+k:=ib (by omega) (by omega);refine aR (by dsimp only;rw[e1];omega) (by dsimp only;rw[e1];omega) (aS ?_);refine aY (λx=>x.2=((I,U,M,w4,Z,Y),x3++[z1],z1,z2,J,z4,z5)) ?_ ?_
      .with_reducible repeat' first|(refine OS.ok ?_;constructor)|refine IM.mk λ_=>?_
       all_goals rfl
      .rintro⟨b,y⟩ e;dsimp only at e;subst e;refine aP (λ_=>ar (jR _)) λ_=>ar ?_
       dsimp only;rw[ib (by omega) (by omega)];exact⟨⟨rfl,by omega,by omega⟩,by omega⟩
     .dsimp only at k2;refine ar ?_;dsimp only;rw[ib (by omega) (by omega)];exact⟨rfl,by omega,by omega,by simp;omega⟩
  .rintro⟨y1,y2,y3⟩ ⟨e,g5,g6,g7⟩;dsimp only at e g5 g6 g7;subst e;refine ar ⟨⟨rfl,by dsimp only;omega,g6,g7⟩,?_⟩;dsimp only;omega
 .dsimp only[au] at g4;refine ax (P:=λy=>y.1.length<=100) ?_ λy hy=>ar hy
  refine ci U.length (λi x=>x.1=(i:Int)/\x.2.1=(I,U,M,w4,Z,Y)/\x.2.2.length<=12+i) ?_ ?_ ⟨rfl,rfl,by dsimp only;omega⟩
  .rintro i ⟨a,b,c⟩ hi ⟨e1,e2,e3⟩;dsimp only at e1 e2 e3;subst e1;subst e2;with_reducible repeat' first|(refine OS.ok ?_;constructor)|refine IM.mk λ_=>?_
   all_goals try simp only[au,qL] at*
   all_goals first|omega|(simp;omega)|skip
   exact⟨gO (by omega),by simp;omega⟩
  .rintro⟨a,b,c⟩ ⟨e1,e2,e3⟩;dsimp only at e1 e2 e3;subst e1;subst e2;refine bI (λg4=>(by dsimp only[au] at g4;omega)) λ_=>?_
   refine ax (P:=λy=>y.1.length<=100) ?_ λy hy=>ar hy
   refine ci M.length (λi x=>x.1=(i:Int)/\x.2.1=(I,U,M,w4,Z,Y)/\x.2.2.length<=16+i) ?_ ?_ ⟨rfl,rfl,by dsimp only;omega⟩
   .rintro i ⟨a,b,c⟩ hi ⟨e1,e2,e3⟩;dsimp only at e1 e2 e3;subst e1;subst e2;with_reducible repeat' first|(refine OS.ok ?_;constructor)|refine IM.mk λ_=>?_
    all_goals try simp only[au,qL] at*
    all_goals first|omega|(simp;omega)|skip
    exact⟨gO (by omega),by simp;omega⟩
   .rintro⟨a,b,c⟩ ⟨e1,e2,e3⟩;dsimp only at e1 e2 e3;subst e1;subst e2;refine bI (λg4=>(by dsimp only[au] at g4;omega)) λ_=>?_
    refine ax (P:=λy=>y.1.length<=100) ?_ λy hy=>ar hy
    with_reducible repeat' first|(refine OS.ok ?_;constructor)|refine IM.mk λ_=>?_
    all_goals try simp only[au,qL] at*
    all_goals first|omega|(simp;omega)
def Sm (T:Int) (o:Option (Int×Int)) (s:Int×Int×Int):Option (Int×Int):=
 match o with
 |none=>ah
 |some (t,n)=>if s.1=t/\s.2.1=n then af (t,n+1) else if t<s.1/\s.1<T/\s.2.1=0 then af (s.1,1) else ah
def Kr (T:Int) (l:List (Int×Int×Int)):Option (Int×Int):=l.foldl (Sm T) (af (0,0))
def SV0 (w:WT):Prop:=Kr w.2.2.2.2.1.length w.2.2.2.2.2≠ah
theorem HC {T:Int} {l:List (Int×Int×Int)} {i:Nat} (hi:i<l.length):Kr T (l.take (i+1))=Sm T (Kr T (l.take i)) (aJ (T:=xA) l (i:Int)):=by
 rw[nQ (T:=xA) hi];unfold Kr;rw[fB];rfl
theorem AT (w:WT):Ok (hP w) λb=>b=ai->VL w/\SV0 w:=by
 unfold hP aX bl bw cz cS fc bf bz jz iT bF bK aZ cP aF cF;refine aY (λx=>x.2=w/\(x.1=aj->VL w)) ?_ ?_
 .with_reducible repeat' first|(refine OS.ok ?_;constructor)|refine IM.mk λ_=>?_
  all_goals first|exact⟨rfl,λh=>(by cases h)⟩|skip
  dsimp only[au] at*
  refine ⟨rfl,λh=>?_⟩;rw[f_] at h;constructor<;>omega
 rintro⟨b,x⟩ ⟨e,hb⟩;dsimp only at e hb;subst e;refine aP (λ_=>ar λh=>(by cases h)) λh=>?_
 have hv:=hb h;refine ax (Zc _ hv) λy hy=>?_
 refine dO (λ_=>ar λh=>(by cases h)) λ_=>?_
 obtain⟨w1,w2,U,Z,J,I⟩:=x;have h6:=hv.s;have h3:=hv.d;dsimp only at h6 h3;refine ci y.1.length (λi x=>x.1=(i:Int)/\x.2=(w1,w2,U,Z,J,I)) ?_ ?_ ⟨rfl,rfl⟩
 .rintro i ⟨a,b⟩ hi ⟨e1,e2⟩;dsimp only at e1 e2;subst e1;subst e2;refine bI (λY=>?_) λY=>(by dsimp only[au] at Y;omega)
  refine aY (λx=>x.2=(w1,w2,U,Z,J,I)) ?_ ?_
  .refine cA (aS (ax (ir _) λ_ _=>?_));refine dO (λ_=>ar rfl) λ_=>?_
   with_reducible repeat' first|(refine OS.ok ?_;constructor)|refine IM.mk λ_=>?_
   all_goals try simp only[au,qL] at*
   all_goals first|omega|skip
   refine ax (xY _ _ (by simp;omega)) λ_ _=>ar rfl
  .rintro⟨a,b⟩ e;dsimp only at e;subst e;with_reducible repeat' first|(refine OS.ok ?_;constructor)|refine IM.mk λ_=>?_
   .exact λh=>(by cases h)
   .dsimp only;exact⟨gO (by omega),rfl⟩
 rintro⟨a,b⟩ ⟨e1,e2⟩;dsimp only at e1 e2;subst e1;subst e2;refine bI (λY=>(by dsimp only[au] at Y;omega)) λ_=>?_
 refine ax (P:=λb=>b=ai->VL (w1,w2,U,Z,J,I)/\SV0 (w1,w2,U,Z,J,I)) ?_ λy hy=>ar hy
 refine ci U.length (λi x=>x.1=(i:Int)/\x.2=(w1,w2,U,Z,J,I)) ?_ ?_ ⟨rfl,rfl⟩
 .rintro i ⟨a,b⟩ hi ⟨e1,e2⟩;dsimp only at e1 e2;subst e1;subst e2;refine bI (λY=>?_) λY=>(by dsimp only[au] at Y;omega)
  refine cA (aS ?_);refine aY (λx=>x.2=(w1,w2,U,Z,J,I)) ?_ ?_
  .with_reducible repeat' first|(refine OS.ok ?_;constructor)|refine IM.mk λ_=>?_
   all_goals try simp only[au,qL] at*
   all_goals first|omega|rfl
  .rintro⟨a,b⟩ e;dsimp only at e;subst e;with_reducible repeat' first|(refine OS.ok ?_;constructor)|refine IM.mk λ_=>?_
   .exact λh=>(by cases h)
   .dsimp only;exact⟨gO (by omega),rfl⟩
 rintro⟨a,b⟩ ⟨e1,e2⟩;dsimp only at e1 e2;subst e1;subst e2;refine bI (λY=>(by dsimp only[au] at Y;omega)) λ_=>?_
 refine ax (P:=λb=>b=ai->VL (w1,w2,U,Z,J,I)/\SV0 (w1,w2,U,Z,J,I)) ?_ λy hy=>ar hy
 refine ci I.length (λi x=>x.1=(i:Int)/\x.2=(w1,w2,U,Z,J,I)/\Kr J.length (I.take i)=af (if i=0 then (0,0) else ((aJ (T:=xA) I ((i-1:Nat):Int)).1,(aJ (T:=xA) I ((i-1:Nat):Int)).2.1+1))/\(¬i=0->(0:Int)<=(aJ (T:=xA) I ((i-1:Nat):Int)).2.1/\(i:Int)>(aJ (T:=xA) I ((i-1:Nat):Int)).2.1)) ?_ ?_ ⟨rfl,rfl,rfl,λh=>(h rfl).elim⟩
 .rintro i ⟨a,b⟩ hi ⟨e1,e2,e3,hpb⟩;dsimp only at e1 e2;subst e1;subst e2;have hw:¬(i:Int)=0->bm .i64 ((i:Int)-1)=((i-1:Nat):Int):=λh=>by rw[ib (by omega) (by omega)];omega
  have hnx:=HC (T:=J.length) hi;rw[e3] at hnx;clear e3;refine bI (λY=>?_) λY=>(by dsimp only[au] at Y;omega)
  refine aY (λx=>x=(w1,w2,U,Z,J,I)/\Kr J.length (I.take (i+1))=af (((aJ (T:=xA) I (i:Int)).1,(aJ (T:=xA) I (i:Int)).2.1+1))/\(0:Int)<=(aJ (T:=xA) I (i:Int)).2.1/\((i+1:Nat):Int)>(aJ (T:=xA) I (i:Int)).2.1) ?_ ?_
  .refine cA (aS ?_);rw[hnx];generalize hz:aJ (T:=xA) I (i:Int)=z;obtain⟨(z1:Int),(z2:Int),(z3:Int)⟩:=z;dsimp only;refine aY (λx=>x.2=((w1,w2,U,Z,J,I),z1,z2,z3)/\(x.1=aj->0<=z1/\z1<J.length)) ?_ ?_
   .refine bI (λ_=>ar ⟨rfl,λh=>(by cases h)⟩) λg=>ar ⟨rfl,λh=>⟨g,?_⟩⟩
    rw[kT] at h;exact h
   rintro⟨c,y⟩ ⟨e,hzr⟩;dsimp only at e hzr;subst e;refine aP (λ_=>ar λh=>(by cases h)) λhzb=>?_
   obtain⟨z0,zT⟩:=hzr hzb;refine aY (λx=>x.2=((w1,w2,U,Z,J,I),z1,z2,z3)/\(x.1=ai->i=0\/¬(aJ (T:=xA) I ((i-1:Nat):Int)).1=z1)/\(x.1=aj->¬(i:Int)=0/\(aJ (T:=xA) I ((i-1:Nat):Int)).1=z1)) ?_ ?_
   .refine aK (λh=>ar ⟨rfl,λ_=>.inl (by have h:((i:Nat):Int)=0:=h;omega),λh=>(by cases h)⟩) λh=>?_
    rw[hw h];refine cA (aS (ar ⟨rfl,λh2=>.inr (by simpa using h2),λh2=>⟨h,by simpa using h2⟩⟩))
   rintro⟨c,y⟩ ⟨e,hc1,hc⟩;dsimp only at e hc1 hc;subst e;refine aP (λhct=>?_) λhcf=>?_
   .refine aY (λx=>x.2=(w1,w2,U,Z,J,I)/\(x.1=aj->z2=0/\(¬i=0->((aJ (T:=xA) I ((i-1:Nat):Int)).1:Int)<z1))) ?_ ?_
    .refine b8 (λ_=>ar ⟨rfl,λh=>(by cases h)⟩) λhz2=>?_
     refine bI (λh=>?_) λM=>ar ⟨rfl,λ_=>⟨hz2,λh=>by have M:((i:Nat):Int)<=0:=M;omega⟩⟩
     have h:(0:Int)<((i:Nat):Int):=h;rw[hw (by omega)];refine cA (aS (ar ⟨rfl,λh2=>⟨hz2,λh3=>?_⟩⟩));rw[f_] at h2;have h4:=(hc1 hct).resolve_left h3;have h2:(aJ (T:=xA) I ((i-1:Nat):Int)).1<=z1:=h2;exact Int.lt_iff_le_and_ne.2 ⟨h2,h4⟩
    rintro⟨c,y⟩ ⟨e,hy⟩;dsimp only at e hy;subst e;refine aP (λ_=>ar λh=>(by cases h)) λh=>ar ⟨rfl,?_⟩
    obtain⟨q1,q2⟩:=hy h;have q1:z2=0:=q1;subst q1;refine ⟨?_,eX 0,by show _>(0:Int);omega⟩;unfold Sm;by_cases M:i=0
    .subst M;rw[aE rfl];dsimp only;by_cases hz1:z1=0
     .subst hz1;rfl
     .rw[aB (λh=>hz1 h.1),aE ⟨by omega,zT,rfl⟩];rfl
    .have:=q2 M;rw[aB M];dsimp only;rw[aB (λh=>by omega),aE ⟨this,zT,rfl⟩];rfl
   .obtain⟨M,hpr⟩:=hc hcf;rw[hw M];refine cA (aS ?_);refine b8 (λ_=>ar λh=>(by cases h)) λh=>ar ⟨rfl,?_⟩
    obtain⟨b0,b1⟩:=hpb (by omega);have h:z2=bm .i64 ((aJ (T:=xA) I ((i-1:Nat):Int)).2.1+1):=h;rw[ib (by omega) (by omega)] at h;refine ⟨?_,by omega,by omega⟩;rw[aB (by omega)];unfold Sm;dsimp only;rw[aE ⟨hpr.symm,h⟩,hpr,h]
  .rintro x ⟨rfl,hx,hx2⟩;refine ar ?_;dsimp only;refine ⟨gO (by omega),rfl,?_,λ_=>hx2⟩;rw[aB (by omega)];exact hx
 .rintro⟨a,b⟩ ⟨e1,e2,e3,_⟩;dsimp only at e1 e2;subst e1;subst e2;refine bI (λY=>(by dsimp only[au] at Y;omega)) λ_=>?_
  rw[cR] at e3;exact ar λ_=>⟨hv,by unfold SV0;dsimp only;rw[e3];simp⟩
def sW (e:ET):Bool:=decide (e.2.1=3)||decide (e.2.1=23)
def fl (l:List ET) (t:Int):List Bool:=(l.filter λe=>decide (e.1=t)).map sW
def Kh (l:List ET) (t y:Int):Prop:=0<=y/\(fl l t).getD y.toNat aj=ai
theorem uh (l m:List ET) (t:Int):fl (l++m) t=fl l t++fl m t:=by unfold fl;rw[List.filter_append,cQ]
theorem yQ {e:ET} {t:Int} (h:e.1=t):fl [e] t=[sW e]:=by unfold fl;simp[h]
theorem wa {e:ET} {t:Int} (h:¬e.1=t):fl [e] t=[]:=by unfold fl;simp[h]
theorem Kh.app {l:List ET} {t y:Int} (h:Kh l t y) (m:List ET):Kh (l++m) t y:=by
 obtain⟨h0,h1⟩:=h;refine ⟨h0,?_⟩;rw[uh];rw[ay] at h1 ⊢;rcases bZ y.toNat (fl l t).length with g|g
 .rw[bO g];exact h1
 .rw[bQ g] at h1;cases h1
theorem Kh.lt {l:List ET} {t y:Int} (h:Kh l t y):y<(fl l t).length:=by
 obtain⟨h0,h1⟩:=h;rcases bZ y.toNat (fl l t).length with g|g
 .omega
 .rw[ay,bQ g] at h1;cases h1
theorem Kh.last {l:List ET} {e:ET} {y:Int} (h:sW e=ai) (I:y=(fl l e.1).length):Kh (l++[e]) e.1 y:=by
 subst I;refine ⟨by omega,?_⟩;rw[uh,yQ rfl,ay,b7 (by simp),h];simp
theorem VV (l:List ET) (t:Int):(fl l t).length<=l.length:=by unfold fl;rw[cf];exact List.length_filter_le ..
structure SCx (w:WT) (l:List ET) (sy:SY) (ce fu:List Int) (e:ET):Prop where
 en:EN w sy e.1 e.2.1 e.2.2.1
 rd:So w sy e.1 e.2.1 e.2.2.1
 s1:e.2.1=1\/e.2.1=2->e.2.2.2.2.1= -1
 s2:¬(e.2.1=1\/e.2.1=2)->0<=e.2.2.2.2.1/\e.2.2.2.2.1<w.2.2.2.2.2.length/\(aJ (T:=xA) w.2.2.2.2.2 e.2.2.2.2.1).1=e.1
 de:0<e.2.2.2.2.2.1.length->e.2.1=5\/(e.2.1=3\/e.2.1=4)/\¬(aJ (T:=OQ) w.1 e.2.2.1).2.2.1=0
 fr:0<e.2.2.2.2.2.2.length->e.2.1=4\/e.2.1=22
 nd:AN (fl l e.1).length e.2.2.2.2.2.1
 nf:AN (fl l e.1).length e.2.2.2.2.2.2
 rd1:∀ y∈e.2.2.2.2.2.1,Kh l e.1 y
 rd2:∀ y∈e.2.2.2.2.2.2,Kh l e.1 y
 va:VA w sy ce fu e.1 e.2.1 e.2.2.1 e.2.2.2.1
def Wy:Nat->List (Int×Int×Bool)
 |0=>[]
 |n+1=>(1,0,aj)::aG n (0,0,aj)
def OR (w:WT):SY:=(aG w.2.1.length (-1,[]),-1,aG w.2.2.2.1.length aj,Wy w.2.2.2.2.1.length)
def Z9 (w:WT):List Int:=w.1.map λc=>c.2.2.2.2
def fu0 (w:WT):List Int:=aG w.2.2.2.1.length 0
inductive Acw (w:WT):List ET->SY->List Int->List Int->Prop
 |nil:Acw w [] (OR w) (Z9 w) (fu0 w)
 |snoc {l:List ET} {sy:SY} {ce fu:List Int} {e:ET} (h:Acw w l sy ce fu) (hs:SCx w l sy ce fu e):Acw w (l++[e]) (oG w sy e.1 e.2.1 e.2.2.1 e.2.2.2.1).1 (XN ce e) (YA fu e)
theorem YL (i:Nat):Wy (i+2)=Wy (i+1)++[(0,0,aj)]:=by
 show (1,0,aj)::aG (i+1) (0,0,aj)=(1,0,aj)::aG i (0,0,aj)++[(0,0,aj)]
 rw[DC,gi]
theorem G2:∀ n,(Wy n).length=n
 |0=>rfl
 |n+1=>by simp[Wy]
theorem J_ (w:WT) (h:VL w):qZ w=af (OR w):=by
 obtain⟨w1,I,Z,J,U,Y⟩:=w;obtain⟨h1,h2,h3,h4,_,h5,h6⟩:=h;dsimp only at*
 refine cD ?_;unfold qZ aX bl bw cz dw cS fc bf bz bF aZ cP aF cF;refine ci I.length (λi x=>x.1=(i:Int)/\x.2.1=(w1,I,Z,J,U,Y)/\x.2.2.2=(-1,aG i (-1,[]))) ?_ ?_ ⟨rfl,rfl,rfl⟩
 .rintro i ⟨a,b,c,d,e⟩ hi ⟨e1,e2,e3⟩;simp only[aD] at e1 e2 e3;obtain⟨rfl,rfl⟩:=e3;subst e1;subst e2;with_reducible repeat' first|(refine OS.ok ?_;constructor)|refine IM.mk λ_=>?_
  all_goals try simp only[au,qL] at*
  all_goals first|omega|(simp;omega)|skip
  exact⟨gO (by omega),by rw[DC]⟩
 rintro⟨a,b,c,d,e⟩ ⟨e1,e2,e3⟩;simp only[aD] at e1 e2 e3;obtain⟨rfl,rfl⟩:=e3;subst e1;subst e2;refine bI (λM=>(by dsimp only[au] at M;omega)) λ_=>?_
 refine ax (P:=λs=>s=OR (w1,I,Z,J,U,Y)) ?_ λy hy=>ar hy
 refine ci J.length (λi x=>x.1=(i:Int)/\x.2.1=(w1,I,Z,J,U,Y)/\x.2.2.2=(-1,aG I.length (-1,[]),aG i aj)) ?_ ?_ ⟨rfl,rfl,rfl⟩
 .rintro i ⟨a,b,c,d,e',f⟩ hi ⟨e1,e2,e3⟩;simp only[aD] at e1 e2 e3;obtain⟨rfl,rfl,rfl⟩:=e3;subst e1;subst e2;with_reducible repeat' first|(refine OS.ok ?_;constructor)|refine IM.mk λ_=>?_
  all_goals try simp only[au,qL] at*
  all_goals first|omega|(simp;omega)|skip
  exact⟨gO (by omega),by rw[DC]⟩
 rintro⟨a,b,c,d,e',f⟩ ⟨e1,e2,e3⟩;simp only[aD] at e1 e2 e3;obtain⟨rfl,rfl,rfl⟩:=e3;subst e1;subst e2;refine bI (λM=>(by dsimp only[au] at M;omega)) λ_=>?_
 refine ax (P:=λs=>s=OR (w1,I,Z,J,U,Y)) ?_ λy hy=>ar hy
 refine ci U.length (λi x=>x.1=(i:Int)/\x.2.1=(w1,I,Z,J,U,Y)/\x.2.2.2=(-1,aG I.length (-1,[]),aG J.length aj,Wy i)) ?_ ?_ ⟨rfl,rfl,rfl⟩
 .rintro i ⟨a,b,c,d,e'',f',g⟩ hi ⟨e1,e2,e3⟩;simp only[aD] at e1 e2 e3;obtain⟨rfl,rfl,rfl,rfl⟩:=e3;subst e1;subst e2;have hl:=G2 i;refine bI (λ_=>?_) λM=>(by dsimp only[au] at M;omega)
  refine gu (aK (λh0=>ar ?_) λh0=>ar ?_)
  .have h0:((i:Nat):Int)=0:=h0;have h0:i=0:=by omega
   subst h0;exact bn (by simp[Wy]) (by omega) (ar ⟨rfl,rfl,rfl⟩)
  .have h0:¬((i:Nat):Int)=0:=h0;obtain⟨j,rfl⟩:∃ j,i=j+1:=⟨i-1,by omega⟩
   refine bn (by dsimp only;rw[hl];simp;omega) (by omega) (ar ⟨gO (by omega),rfl,?_⟩);dsimp only;rw[YL]
 rintro⟨a,b,c,d,e'',f',g⟩ ⟨e1,e2,e3⟩;simp only[aD] at e1 e2 e3;obtain⟨rfl,rfl,rfl,rfl⟩:=e3;subst e1;subst e2;refine bI (λM=>(by dsimp only[au] at M;omega)) λ_=>ar rfl
theorem SE {w:WT} (h:VL w):SB 0 (OR w):=by
 obtain⟨h1,h2,U,M,_,J,I⟩:=h;refine ⟨by omega,by simp[OR];omega,λl hl=>?_,by simp[OR];omega,by simp[OR,G2];omega⟩;rw[pq hl];simp
theorem J9 (w:WT) (h:VL w):mD w=af (OR w,Z9 w,fu0 w,aG w.2.2.2.2.1.length 0):=by
 have hs:=J_ w h;have hd:(OR w)=OR w:=rfl;obtain⟨I,Z,Y,M,J,U⟩:=w;obtain⟨h1,h2,h3,h4,_,h5,h6⟩:=h;dsimp only at*
 refine cD ?_;unfold mD aX bl bw bL cS bz bF bK aZ cP aF cF;refine aV hs ?_;with_reducible repeat' first|(refine OS.ok ?_;constructor)|refine IM.mk λ_=>?_
 all_goals try simp only[au,qL] at*
 all_goals first|omega|skip
 refine ci I.length (λi x=>x.1=(i:Int)/\x.2.1=(I,Z,Y,M,J,U)/\x.2.2.2=(OR (I,Z,Y,M,J,U),(I.take i).map (λc=>c.2.2.2.2),aG M.length 0,aG J.length 0)) ?_ ?_ ⟨rfl,rfl,rfl⟩
 .rintro i ⟨a,b,c,d,e,f,g⟩ hi ⟨e1,e2,e3⟩;simp only[aD] at e1 e2 e3;obtain⟨rfl,rfl,rfl,rfl⟩:=e3;subst e1;subst e2;with_reducible repeat' first|(refine OS.ok ?_;constructor)|refine IM.mk λ_=>?_
  all_goals try simp only[au,qL] at*
  all_goals first|omega|(simp;omega)|skip
  exact⟨gO (by omega),by rw[nQ (T:=OQ) hi,cQ];rfl⟩
 rintro⟨a,b,c,d,e,f,g⟩ ⟨e1,e2,e3⟩;simp only[aD] at e1 e2 e3;obtain⟨rfl,rfl,rfl,rfl⟩:=e3;subst e1;subst e2;refine bI (λg4=>(by dsimp only[au] at g4;omega)) λ_=>ar ?_
 rw[cR];rfl
theorem U2 (w:WT) (h:VL w):Ok (mD w) λs=>NB 0 s/\s.2.1.length=w.1.length/\s.2.2.1.length=w.2.2.2.1.length/\s.2.2.2.length=w.2.2.2.2.1.length:=
 ajp (J9 w h) ⟨⟨SE h,by have:=h.c;simp[Z9];omega,by have:=h.f;simp[fu0];omega,by have:=h.t;simp;omega⟩,by simp[Z9],by simp[fu0],by simp⟩
theorem Pn (l:List ET) (i t:Int) (I:List Int) (hl:l.length<=1000000000) (hi:0<=i/\i<=l.length) (hn:I.length<=1000000000):Ok (qX (l,i,t,I)) λb=>b=ai->∀ y∈I,Kh (l.take i.toNat) t y:=by
 unfold qX aX bL bf bz iT bK aZ cP aF cF;refine ci I.length (λk x=>x=(k:Int)/\∀ j:Nat,j<k->Kh (l.take i.toNat) t (aJ (T:=.int .i64) I (j:Int))) ?_ ?_ ⟨rfl,λj hj=>(by omega)⟩
 .rintro k x hk ⟨rfl,Y⟩;refine bI (λM=>?_) λM=>(by dsimp only[au] at M;omega)
  refine pR (λx=>(i-x.2.2).toNat) (λx=>0<=x.2.2/\x.2.2<=i/\x.1=((fl (l.take x.2.2.toNat) t).length:Int)/\(x.2.1=ai->Kh (l.take x.2.2.toNat) t (aJ (T:=.int .i64) I (k:Int)))) ?_ ⟨by simp,hi.1,by simp[fl],λh=>(by cases h)⟩;rintro⟨a,b,(c:Int)⟩ ⟨U,c1,Z,hb⟩;dsimp only at U c1 Z hb;subst Z;obtain⟨c,rfl⟩:∃ n:Nat,c=(n:Int):=⟨c.toNat,by omega⟩
  rw[gB] at hb;dsimp only;rw[gB];have hfl:=VV (l.take c) t;have htl:=pP c l;refine bI (λJ=>?_) λJ=>?_
  .have J:(c:Int)<i:=J;have htk:l.take (c+1)=l.take c++[aJ (T:=tE) l (c:Int)]:=nQ (T:=tE) (by omega);refine aY (λy=>y.1=((fl (l.take (c+1)) t).length:Int)/\(y.2=ai->Kh (l.take (c+1)) t (aJ (T:=.int .i64) I (k:Int)))) ?_ ?_
   .rw[htk,uh];refine aR U (by first|omega|(dsimp only;omega)) (aS ?_);refine b8 (λhne=>ar ⟨by rw[wa hne];simp,λh=>(hb h).app _⟩) λhe=>?_
    have he:(aJ (T:=tE) l (c:Int)).1=t:=he;refine aY (λy=>y=ai->Kh (l.take c++[aJ (T:=tE) l (c:Int)]) t (aJ (T:=.int .i64) I (k:Int))) ?_ λy hy=>ar ⟨?_,hy⟩
    .refine aP (λh=>ar λ_=>(hb h).app _) λ_=>?_
     refine aR (by omega) (by first|omega|(dsimp only;omega)) (aS ?_);refine aK (λhn=>?_) λ_=>ar λh=>(by cases h)
     have hq:sW (aJ (T:=tE) l (c:Int))=ai->Kh (l.take c++[aJ (T:=tE) l (c:Int)]) t (aJ (T:=.int .i64) I (k:Int)):=λh=>by
      rw[<- he] at hn ⊢;exact Kh.last h hn.symm
     refine aR U (by first|omega|(dsimp only;omega)) (aS ?_);refine aK (λh=>ar λ_=>hq (by unfold sW;rw[aQ h];rfl)) λ_=>?_
     exact aR U (by first|omega|(dsimp only;omega)) (aS (ar λh=>hq (by unfold sW;rw[h];simp)))
    .dsimp only;rw[yQ he,gO (by omega)];simp
   .rintro⟨p,q⟩ ⟨hp,hq⟩;refine ar ?_;dsimp only at hp hq ⊢;rw[gO (by omega),gB];exact⟨⟨by omega,by omega,hp,hq⟩,by omega⟩
  .refine ax (P:=λr=>match r with|.inl y=>y=((k+1:Nat):Int)/\∀ j:Nat,j<k+1->Kh (l.take i.toNat) t (aJ (T:=.int .i64) I (j:Int))|.inr r=>r=ai->∀ y∈I,Kh (l.take i.toNat) t y) ?_ λr hr=>ar ?_
   .refine dO (λ_=>ar λh=>(by cases h)) λh=>ar ⟨gO (by omega),λj hj=>?_⟩
    rcases bZ j k with h1|h1
    .exact Y j h1
    .have:=hb h;have hci:c=i.toNat:=by have J:i<=(c:Int):=J;omega
     rw[show j=k by omega,<-hci];exact this
   .cases r with
    |inl y=>exact hr
    |inr r=>exact hr
 .rintro x ⟨rfl,Y⟩;refine bI (λM=>(by dsimp only[au] at M;omega)) λ_=>ar λ_=>io (T:=.int .i64) Y
def CN (l:List ET) (c:List Int):Prop:=∀ t:Int,0<=t->t<c.length->aJ (T:=.int .i64) c t=((fl l t).length:Int)
theorem ry {T:Ty} (xs:List T.den) (j k:Int) (x:T.den) (hj:0<=j) (I:j<xs.length) (hk:0<=k):aJ (cO xs j x) k=if k=j then x else aJ xs k:=by
 unfold aJ cO;rw[ay,ay,oK];by_cases h:k=j
 .subst h;rw[aE rfl,aE rfl,aE (by omega)];rfl
 .rw[aB (by omega),aB h]
theorem CN.next {l:List ET} {c:List Int} (h:CN l c) (e:ET) (h0:0<=e.1) (h1:e.1<c.length) (hl:l.length<1000000):CN (l++[e]) (cO c e.1 (bm .i64 (aJ (T:=.int .i64) c e.1+1))):=λt t0 t1=>by
 rw[bV] at t1;have:=VV l e.1;rw[ry (T:=.int .i64) _ _ _ _ h0 h1 t0,uh];split
 .rename_i h2;subst h2;rw[yQ rfl,h _ h0 h1,gO (by omega)];simp
 .rename_i h2;rw[wa λI=>h2 I.symm,h _ t0 t1];simp
structure EvF (w:WT) (e:ET):Prop where
 nm:NM w e.2.1 e.2.2.1
 t0:0<=e.1
 t1:e.1<w.2.2.2.2.1.length
 cd:∀ c∈w.2.2.1,0<=c.2/\c.2<w.2.1.length
theorem ab7 (w:WT) (l:List ET) (hd:∀ e∈l,e.2.2.2.2.2.1.length<=1000000000/\e.2.2.2.2.2.2.length<=1000000000):Ok (tP (w,l)) λy=>y.2=0->(VL w/\SV0 w)/\(∀ e∈l,EvF w e)/\∃ sy ce fu,Acw w l sy ce fu:=by
 unfold tP cz bL fc bz bK aZ cP aF cF;refine bI (λ_=>ar λh=>(by cases h)) λhl=>?_
 dsimp only[au] at hl;refine ax (AT w) λb hb=>?_
 refine dO (λ_=>ar λh=>(by cases h)) λh=>?_
 obtain⟨hv,hsv⟩:=hb h;refine aV (J9 w hv) ?_;have hs:NB 0 (OR w,Z9 w,fu0 w,aG w.2.2.2.2.1.length 0):=⟨SE hv,by have:=hv.c;simp[Z9];omega,by have:=hv.f;simp[fu0];omega,by have:=hv.t;simp;omega⟩
 have hw:w.2.2.1.length<=1000:=by have:=hv.d;omega
 refine ci l.length (λi x=>x.1=(i:Int)/\x.2.1=(w,l)/\NB i x.2.2/\(∀ k:Nat,k<i->EvF w (aJ (T:=tE) l (k:Int)))/\Acw w (l.take i) x.2.2.1 x.2.2.2.1 x.2.2.2.2.1/\CN (l.take i) x.2.2.2.2.2/\x.2.2.2.2.2.length=w.2.2.2.2.1.length) ?_ ?_ ⟨rfl,rfl,hs,λk hk=>(by omega),.nil,λt t0 t1=>?_,by simp⟩
 .rintro i ⟨a,b,s⟩ hi ⟨e1,e2,e3,Y,U,e6,Z⟩;dsimp only at e1 e2 e3 Y U e6 Z;subst e1;subst e2;refine bI (λI=>?_) λI=>(by dsimp only[au] at I;omega)
  refine cA (aS ?_);have hmem:=bG (T:=tE) (xs:=l) (j:=(i:Int)) (by omega) (by omega);obtain⟨d1,d2⟩:=hd _ hmem;refine ax (EQ w s e3 hw _ d1 d2) λy hy=>?_
  refine aY (λx=>x.2.1=(w,l)/\x.2.2.2=y.1/\(x.1=aj->y.2=ai/\(∀ z∈(aJ (T:=tE) l (i:Int)).2.2.2.2.2.1,Kh (l.take i) (aJ (T:=tE) l (i:Int)).1 z)/\∀ z∈(aJ (T:=tE) l (i:Int)).2.2.2.2.2.2,Kh (l.take i) (aJ (T:=tE) l (i:Int)).1 z)) ?_ ?_
  .refine dO (λ_=>ar ⟨rfl,rfl,λh=>(by cases h)⟩) λh=>?_
   refine ax (Pn l _ _ _ (by omega) ⟨by dsimp only;omega,by dsimp only;omega⟩ d1) λb1 hr1=>?_
   refine dO (λ_=>ar ⟨rfl,rfl,λh=>(by cases h)⟩) λhb1=>?_
   refine ax (Pn l _ _ _ (by omega) ⟨by dsimp only;omega,by dsimp only;omega⟩ d2) λb2 hr2=>ar ⟨rfl,rfl,λhb2=>⟨h,hr1 hb1,hr2 (by simpa using hb2)⟩⟩
  .rintro⟨c,p,q,r⟩ ⟨f1,f2,f3⟩;dsimp only at f1 f2 f3;subst f1;subst f2;refine aP (λ_=>ar λh=>(by cases h)) λh=>?_
   obtain⟨f4,r1,r2⟩:=f3 h;obtain⟨J,g2,M,I⟩:=hy.1 f4;refine ar ?_;dsimp only;have htk:l.take (i+1)=l.take i++[aJ (T:=tE) l (i:Int)]:=nQ (T:=tE) hi;have hc:=e6 _ J.t0 (by rw[Z];exact J.t1);have hnx:=gG Prod.fst I;have hac:=U.snoc (e:=aJ (T:=tE) l (i:Int)) ⟨J,M.rd,M.s1,M.s2,M.de,M.fr,by rw[<- hc];exact M.nd,by rw[<- hc];exact M.nf,r1,r2,M.va⟩;refine ⟨gO (by omega),rfl,g2.NB e3 (by omega),λk hk=>?_,by rw[htk,I];exact hac,by rw[htk,I];exact e6.next _ J.t0 (by rw[Z];exact J.t1) (by rw[bE];omega),by rw[I];unfold nxP;rw[bV];exact Z⟩;rcases bZ k i with h1|h1
   .exact Y k h1
   .rw[show k=i by omega];exact⟨J.nm,J.t0,J.t1,J.cd⟩
 .rintro⟨a,b,s⟩ ⟨e1,e2,e3,Y,U,_⟩;dsimp only at e1 e2 e3 Y U;subst e1;subst e2;rw[cR] at U;refine bI (λI=>(by dsimp only[au] at I;omega)) λ_=>ar λ_=>⟨⟨hv,hsv⟩,io (T:=tE) Y,_,_,_,U⟩
 .rw[eE] at t1;obtain⟨t,rfl⟩:∃ n:Nat,t=(n:Int):=⟨t.toNat,by omega⟩
  rw[NL,ay,lq];split<;>simp[fl]
structure TP (t:List Int×Int):Prop where
 l0:t.1.length<=9223372036854775807
 by_:∀ x∈t.1,0<=x/\x<=255
 a0:0<=t.2
 a1:t.2<=t.1.length
structure uA (t t':List Int×Int):Prop where
 e:t'.1=t.1
 m:t.2<=t'.2
 p:TP t'
theorem uA.refl {t:List Int×Int} (h:TP t):uA t t:=⟨rfl,eX _,h⟩
theorem uA.trans {a b c:List Int×Int} (h:uA a b) (g:uA b c):uA a c:=⟨g.e.trans h.e,Int.le_trans h.m g.m,g.p⟩
theorem gg (n:Int) (t:List Int×Int) (h:TP t):Ok (bx (n,t)) λy=>uA t y.2/\0<=y.1/\(1<=n->y.1<n)/\(t.2<t.1.length->1<=n->t.2<y.2.2):=by
 obtain⟨L,a⟩:=t;have U:=h;obtain⟨l0,hb,a0,a1⟩:=h;dsimp only at l0 hb a0 a1;unfold bx jz bF bK aZ aF cF;refine aY (λx=>x.2=(L,a)/\(x.1=ai->a=L.length\/n<1)/\(x.1=aj->a<L.length/\1<=n)) ?_ ?_
 .refine fo (λh=>ar ⟨rfl,λ_=>?_,λh=>(by cases h)⟩) λh=>ar ⟨rfl,λh2=>?_,λh2=>?_⟩
  .dsimp only[au] at h;omega
  .rw[s8] at h2;exact .inr h2
  .rw[f_] at h2;dsimp only[au] at h h2;omega
 rintro⟨b,x⟩ ⟨e,h1,h2⟩;dsimp only at e h1 h2;subst e;refine aP (λh=>ar ⟨uA.refl U,eX _,λM=>(by dsimp only;omega),λM Z=>?_⟩) λh=>?_
 .have:=h1 h;dsimp only at M;omega
 obtain⟨J,Y⟩:=h2 h;refine aS ?_;have e1:bm .i64 (a+1)=a+1:=ib (by omega) (by omega);dsimp only;rw[e1,ib (n:=a+1-1) (by omega) (by omega),show a+1-1=a by omega];have I:=hb _ (bG (T:=.int .u8) (xs:=L) (j:=a) a0 J);refine aR a0 J (aS ?_);generalize (aJ _ a)=z at I;have I:0<=z/\z<=255:=I;rw[ib (n:=z) (by omega) (by omega)];refine yr (by omega) (ar ?_);dsimp only;refine ⟨⟨rfl,by dsimp only;omega,⟨l0,hb,by dsimp only;omega,by dsimp only;omega⟩⟩,Int.tmod_nonneg _ I.1,λ_=>?_,λ_ _=>by omega⟩;exact Int.tmod_lt_of_pos _ (by omega)
theorem Ss (s:SY) (hs:s.2.2.2.length<=1000) (y:List Int×List Int×List Int):Ok (kQ (s,y)) λl=>l.length<=s.2.2.2.length:=by
 unfold kQ bL bf bz bF bK aZ cP aF cF;refine ci s.2.2.2.length (λi x=>x.1=(i:Int)/\x.2.length<=i) ?_ ?_ ⟨rfl,by simp⟩
 .rintro i ⟨a,b⟩ hi ⟨e1,e2⟩;dsimp only at e1 e2;subst e1;with_reducible repeat' first|(refine OS.ok ?_;constructor)|refine IM.mk λ_=>?_
  all_goals try simp only[au,qL] at*
  all_goals first|omega|(simp;omega)|skip
  .exact⟨gO (by omega),by simp;omega⟩
  .exact⟨gO (by omega),by omega⟩
 .rintro⟨a,b⟩ ⟨e1,e2⟩;dsimp only at e1 e2;subst e1;refine bI (λI=>(by dsimp only[au] at I;omega)) λ_=>ar e2
theorem WN (k u:Int) (t:List Int×Int) (h:TP t):Ok (ov ((k,u),t)) λy=>uA t y.2/\(k=3\/k=4->0<=y.1/\y.1<5):=by
 unfold ov bf kZ aF cF;rcases @Ib k with rfl|rfl|rfl|rfl|rfl|rfl|rfl|rfl|rfl|rfl|rfl|rfl|rfl|rfl|rfl|rfl|rfl|rfl|rfl|rfl|rfl|rfl|rfl|⟨hk,J⟩
 case inr.inr.inr.inr.inr.inr.inr.inr.inr.inr.inr.inr.inr.inr.inr.inr.inr.inr.inr.inr.inr.inr.inr=>
  simp only[hk 1 (by decide) (by decide),hk 2 (by decide) (by decide),hk 3 (by decide) (by decide),hk 4 (by decide) (by decide),hk 5 (by decide) (by decide),hk 6 (by decide) (by decide),hk 7 (by decide) (by decide),hk 8 (by decide) (by decide),hk 9 (by decide) (by decide),hk 10 (by decide) (by decide),hk 11 (by decide) (by decide),hk 12 (by decide) (by decide),hk 13 (by decide) (by decide),hk 14 (by decide) (by decide),hk 15 (by decide) (by decide),hk 16 (by decide) (by decide),hk 17 (by decide) (by decide),hk 18 (by decide) (by decide),hk 19 (by decide) (by decide),hk 20 (by decide) (by decide),hk 21 (by decide) (by decide),hk 22 (by decide) (by decide),hk 23 (by decide) (by decide),aT,bp,sP];exact ar ⟨uA.refl h,λh=>(by first|omega|(simp at h;done)|(rcases h with h|h<;>cases h;done))⟩
 all_goals simp only[aT,bp,sP]
 all_goals first
  |exact ar ⟨uA.refl h,λh=>(by first|omega|(simp at h;done)|(rcases h with h|h<;>cases h;done))⟩
  |exact ax (gg 2 t h) λy I=>ar ⟨I.1,λh=>(by first|omega|(simp at h;done)|(rcases h with h|h<;>cases h;done))⟩
  |exact ax (gg 3 t h) λy I=>ar ⟨I.1,λh=>(by first|omega|(simp at h;done)|(rcases h with h|h<;>cases h;done))⟩
  |skip
 all_goals
  refine ax (gg 8 t h) λy I=>?_
  have h1:=I.2.1;have h2:=I.2.2.1 (by omega);refine aR h1 (by simp;omega) (aR h1 (by simp;omega) (aS (ar ⟨I.1,λ_=>?_⟩)));have:∀ z:Int,z∈([0,0,0,1,1,2,3,4]:List Int)->0<=z/\z<5:=by decide
  exact this _ (bG (T:=.int .i64) h1 (by simp;omega))
structure SZ (n:Nat) (s:SN):Prop where
 nb:NB n s
 c:s.2.1.length=5
 f:s.2.2.1.length=1
 k:s.2.2.2.length=4
theorem SZ.step {n:Nat} {s y:SN} (h:SZ n s) (hp:SP n s y) (hn:n+1<=100000):SZ (n+1) y:=
 ⟨hp.NB h.nb hn,by rw[hp.c];exact h.c,by rw[hp.f];exact h.f,by rw[hp.k];exact h.k⟩
theorem Wz {n:Nat} (s:SN) (hs:SZ n s) (k o:Int) (M:k=3->0<=o/\o<5) (t:List Int×Int) (h:TP t):Ok (pZ ((s,k,o),t)) λy=>uA t y.2:=by
 obtain⟨s1,s2,Y,U⟩:=s;have hc:=hs.c;have hf:=hs.f;have hth:=hs.nb.sb.th;dsimp only at hc hf hth;have J:=Ss s1 hth (s2,Y,U);unfold pZ aX bf bz bK aZ aF;rcases @Ib k with rfl|rfl|rfl|rfl|rfl|rfl|rfl|rfl|rfl|rfl|rfl|rfl|rfl|rfl|rfl|rfl|rfl|rfl|rfl|rfl|rfl|rfl|rfl|⟨hk,Z⟩
 case inr.inr.inr.inr.inr.inr.inr.inr.inr.inr.inr.inr.inr.inr.inr.inr.inr.inr.inr.inr.inr.inr.inr=>
  simp only[hk 1 (by decide) (by decide),hk 2 (by decide) (by decide),hk 3 (by decide) (by decide),hk 4 (by decide) (by decide),hk 5 (by decide) (by decide),hk 6 (by decide) (by decide),hk 7 (by decide) (by decide),hk 8 (by decide) (by decide),hk 9 (by decide) (by decide),hk 10 (by decide) (by decide),hk 11 (by decide) (by decide),hk 12 (by decide) (by decide),hk 13 (by decide) (by decide),hk 14 (by decide) (by decide),hk 15 (by decide) (by decide),hk 16 (by decide) (by decide),hk 17 (by decide) (by decide),hk 18 (by decide) (by decide),hk 19 (by decide) (by decide),hk 20 (by decide) (by decide),hk 21 (by decide) (by decide),hk 22 (by decide) (by decide),hk 23 (by decide) (by decide),aT,bp,sP];exact ar (uA.refl h)
 all_goals simp only[aT,bp,sP]
 all_goals first
  |exact ar (uA.refl h)
  |exact ax (gg 2 t h) λy I=>ar I.1
  |exact ax (gg 3 t h) λy I=>ar I.1
  |exact ax J λy I=>ar (uA.refl h)
  |exact aR (by decide) (by omega) (aS (ar (uA.refl h)))
  |exact aR (M rfl).1 (by have:=(M rfl).2;omega) (aS (ar (uA.refl h)))
  |skip
 refine ax J λl hl=>?_
 refine bI (λh1=>?_) λ_=>ar (uA.refl h)
 refine ax (gg _ t h) λy I=>?_
 dsimp only[au] at h1;have h2:=I.2.2.1 (by dsimp only[au];omega);exact aR I.2.1 h2 (aS (ar I.1))
theorem abx (t:List Int×Int) (h:TP t) (r:List Int) (hr:r.length<=1000000):Ok (gw (t,r)) λy=>y.1.length<=r.length/\uA t y.2.1/\y.2.2=r:=by
 unfold gw aX bL bz jz bF kZ aZ cP aF cF;refine ci r.length (λi x=>x.1=(i:Int)/\uA t x.2.1/\x.2.2.1=r/\x.2.2.2.length<=i) ?_ ?_ ⟨rfl,uA.refl h,rfl,by simp⟩
 .rintro i ⟨a,b,c,d⟩ hi ⟨e1,e2,e3,U⟩;dsimp only at e1 e2 e3 U;subst e1;subst e3;refine bI (λM=>?_) λM=>(by dsimp only[au] at M;omega)
  refine aY (λx=>uA t x.1/\x.2.1=c/\x.2.2.length<=i+1) ?_ ?_
  .refine cA (cA (aS ?_));refine aY (λx=>uA t x.2.1/\x.2.2=(c,d)) ?_ ?_
   .refine aP (λ_=>?_) λ_=>ar ⟨e2,rfl⟩
    exact ax (gg 2 b e2.p) λy Z=>ar ⟨e2.trans Z.1,rfl⟩
   .rintro⟨p,q,u⟩ ⟨I,J⟩;dsimp only at I J;subst J;refine aP (λ_=>?_) λ_=>ar ⟨I,rfl,by dsimp only;omega⟩
    exact bn (by simp;omega) (by omega) (ar ⟨I,rfl,by simp;omega⟩)
  .rintro⟨p,q,u⟩ ⟨I,J,Y⟩;dsimp only at I J Y;subst J;refine ar ?_;dsimp only;exact⟨gO (by omega),I,rfl,Y⟩
 .rintro⟨a,b,c,d⟩ ⟨e1,e2,e3,U⟩;dsimp only at e1 e2 e3 U;subst e1;subst e3;refine bI (λM=>(by dsimp only[au] at M;omega)) λ_=>ar ⟨U,e2,rfl⟩
theorem Zm:sY ()=af [3,3,3,3,3,4,4,4,4,4,5,5,5,6,6,6,7,7,7,8,9,10,11,12,13,14,14,15,16,16,17,17,18,18,19,20,1,1,2,21,22,23,23]:=rfl
abbrev RR:Type:=List Int×List Int×List Int×List Int
structure RB4 (m:Nat) (r:RR):Prop where
 r0:r.1.length<=m
 r1:r.2.1.length<=m
 r2:r.2.2.1.length<=m
 r3:r.2.2.2.length<=m
theorem ZR {n:Nat} (s:SN) (hs:SZ n s) (w:WT) (hw:w.1.length=5) (t:List Int×Int) (h:TP t) (r:RR) (hr:RB4 1000000 r):Ok (p_ ((s,w),t,r)) λy=>uA t y.2.1/\y.2.2=r/\(t.2<t.1.length->t.2<y.2.1.2)/\y.1.2.2.2.2.2.1.length<=1000000/\y.1.2.2.2.2.2.2.length<=1000000:=by
 obtain⟨r0,r1,r2,r3⟩:=r;obtain⟨h0,h1,h2,h3⟩:=hr;dsimp only at h0 h1 h2 h3;unfold p_ DB Prod.p11 Prod.p12 aX bl bw cz ef kz zD BZ Prod.q11 Prod.q12 cS fc bf bF bK aZ aF;refine ax (gg 4 t h) λy hy=>?_
 refine aV Zm ?_;refine ax (gg _ y.2 hy.1.p) λz hz=>?_
 obtain⟨y1,yt⟩:=y;obtain⟨z1,zt⟩:=z;obtain⟨ty,yy0,yy1,yy2⟩:=hy;obtain⟨tz,zz0,zz1,_⟩:=hz;dsimp only at ty yy0 yy1 yy2 tz zz0 zz1;have yy1:=yy1 (by decide);have hzl:=zz1 (by decide);refine aR zz0 hzl (aS ?_);generalize (aJ _ z1)=k;refine ax (gg 6 zt tz.p) λv hv=>?_
 obtain⟨v1,vt⟩:=v;have tv:=hv.1;dsimp only at tv;have tt:=(ty.trans tz).trans tv;have hadv:t.2<t.1.length->t.2<vt.2:=λh=>by
  have:=yy2 h (by decide);have:=tz.m;have:=tv.m;omega
 refine aY (λx=>x.1=vt/\x.2.1=r0/\x.2.2.1=r1/\x.2.2.2.1=r2/\x.2.2.2.2.1=r3/\x.2.2.2.2.2.1=s/\x.2.2.2.2.2.2.1=w) ?_ ?_
 .refine aY (λx=>x.2.1=vt/\x.2.2.1=r0/\x.2.2.2.1=r1/\x.2.2.2.2.1=r2/\x.2.2.2.2.2.1=r3/\x.2.2.2.2.2.2.1=s/\x.2.2.2.2.2.2.2.1=w) ?_ ?_
  .with_reducible repeat' first|(refine OS.ok ?_;constructor)|refine IM.mk λ_=>?_
   all_goals exact⟨rfl,rfl,rfl,rfl,rfl,rfl,rfl⟩
  .rintro⟨p,q⟩ hq;dsimp only at hq;with_reducible repeat' first|(refine OS.ok ?_;constructor)|refine IM.mk λ_=>?_
   all_goals exact hq
 rintro⟨x1,x2,x3,x4,x5,x6,x7,x8,x9,x10⟩ ⟨J,Y,f3,f4,f5,f6,U⟩;dsimp only at J Y f3 f4 f5 f6 U;subst J;subst Y;subst f3;subst f4;subst f5;subst f6;subst U;refine ax (WN _ _ _ tv.p) λo Z=>?_
 obtain⟨o1,ot⟩:=o;obtain⟨to,Z⟩:=Z;dsimp only at to Z;refine ax (Wz _ hs _ _ (λhk=>Z (.inl hk)) _ to.p) λq hq=>?_
 obtain⟨q1,qt⟩:=q;dsimp only at hq;have M:=(tt.trans to).trans hq;have hadv2:t.2<t.1.length->t.2<qt.2:=λh=>by have:=hadv h;have:=to.m;have:=hq.m;omega
 have row:∀ (T:List Int×Int) (c:List Int) {R:Type} (k:List Int×((List Int×Int)×List Int)->Option R) (Q:R->Prop),uA t T->c.length<=1000000->(∀ v T',uA T T'->v.length<=1000000->Ok (k (v,T',c)) Q)->Ok (obind (gw (T,c)) k) Q:=λT c R k Q I hc hk=>by
  refine ax (abx T I.p c hc) λy hy=>?_
  obtain⟨a,b,d⟩:=y;obtain⟨g1,g2,g3⟩:=hy;dsimp only at g1 g2 g3;subst g3;exact hk a b g2 (by omega)
 refine aY (λx=>uA t x.1/\(t.2<t.1.length->t.2<x.1.2)/\x.2.1=x2/\x.2.2.1=x3/\x.2.2.2.1=x4/\x.2.2.2.2.1=x5/\x.2.2.2.2.2.2.2.2.2.2.2.length<=1000000) ?_ ?_
 .refine aY (λx=>x.2.1=qt/\x.2.2.1=x2/\x.2.2.2.1=x3/\x.2.2.2.2.1=x4/\x.2.2.2.2.2.1=x5) ?_ ?_
  .refine aK (λ_=>ar ⟨rfl,rfl,rfl,rfl,rfl⟩) λ_=>?_
   refine aK (λhk=>?_) λ_=>aK (λhk=>?_) λ_=>ar ⟨rfl,rfl,rfl,rfl,rfl⟩
   .exact aR (Z (.inl hk)).1 (by dsimp only;rw[hw];exact (Z (.inl hk)).2) (aS (ar ⟨rfl,rfl,rfl,rfl,rfl⟩))
   .exact aR (Z (.inr hk)).1 (by dsimp only;rw[hw];exact (Z (.inr hk)).2) (aS (ar ⟨rfl,rfl,rfl,rfl,rfl⟩))
  .rintro⟨b,p1,p2,p3,p4,p5,p6⟩ ⟨J,Y,f3,f4,f5⟩;dsimp only at J Y f3 f4 f5;subst J;subst Y;subst f3;subst f4;subst f5;refine aP (λ_=>?_) λ_=>ar ⟨M,hadv2,rfl,rfl,rfl,rfl,by simp⟩
   have adv3:∀ T',uA p1 T'->t.2<t.1.length->t.2<T'.2:=λT' I h=>by have:=hadv2 h;have:=I.m;omega
   refine aK (λ_=>?_) λ_=>aK (λ_=>?_) λ_=>aK (λ_=>?_) λ_=>aK (λ_=>?_) λ_=>?_
   .refine row p1 p2 _ _ M h0 λv T' I hv=>?_
    refine dt (lx rfl (Ap ?_));exact ar ⟨M.trans I,adv3 T' I,rfl,rfl,rfl,rfl,hv⟩
   .refine row p1 p3 _ _ M h1 λv T' I hv=>?_
    refine dt (lx rfl (Ap ?_));exact ar ⟨M.trans I,adv3 T' I,rfl,rfl,rfl,rfl,hv⟩
   .refine row p1 p4 _ _ M h2 λv T' I hv=>?_
    refine dt (lx rfl (Ap ?_));exact ar ⟨M.trans I,adv3 T' I,rfl,rfl,rfl,rfl,hv⟩
   .refine row p1 p5 _ _ M h3 λv T' I hv=>?_
    refine dt (lx rfl (Ap ?_));exact ar ⟨M.trans I,adv3 T' I,rfl,rfl,rfl,rfl,hv⟩
   .omega
 rintro⟨u1,u2,u3,u4,u5,u6,u7,u8,u9,u10,u11,u12⟩ ⟨J,Y,f3,f4,f5,f6,U⟩;dsimp only at J Y f3 f4 f5 f6 U;subst f3;subst f4;subst f5;subst f6;refine aY (λx=>uA t x.1/\(t.2<t.1.length->t.2<x.1.2)/\x.2.1=u2/\x.2.2.1=u3/\x.2.2.2.1=u4/\x.2.2.2.2.1=u5/\x.2.2.2.2.2.2.2.2.2.2.2.1.length<=1000000/\x.2.2.2.2.2.2.2.2.2.2.2.2.length<=1000000) ?_ ?_
 .refine aY (λx=>x.2=(u1,u2,u3,u4,u5,u6,u7,u8,u9,u10,u11,u12)) ?_ ?_
  .with_reducible repeat' first|(refine OS.ok ?_;constructor)|refine IM.mk λ_=>?_
   all_goals rfl
  .rintro⟨b,x⟩ e;dsimp only at e;subst e;refine aP (λ_=>?_) λ_=>ar ⟨J,Y,rfl,rfl,rfl,rfl,U,by simp⟩
   have adv3:∀ T',uA u1 T'->t.2<t.1.length->t.2<T'.2:=λT' I h=>by have:=Y h;have:=I.m;omega
   refine aK (λ_=>?_) λ_=>aK (λ_=>?_) λ_=>aK (λ_=>?_) λ_=>aK (λ_=>?_) λ_=>?_
   .refine row u1 u2 _ _ J h0 λv T' I hv=>?_
    refine dt (lx rfl (Ap ?_));exact ar ⟨J.trans I,adv3 T' I,rfl,rfl,rfl,rfl,U,hv⟩
   .refine row u1 u3 _ _ J h1 λv T' I hv=>?_
    refine dt (lx rfl (Ap ?_));exact ar ⟨J.trans I,adv3 T' I,rfl,rfl,rfl,rfl,U,hv⟩
   .refine row u1 u4 _ _ J h2 λv T' I hv=>?_
    refine dt (lx rfl (Ap ?_));exact ar ⟨J.trans I,adv3 T' I,rfl,rfl,rfl,rfl,U,hv⟩
   .refine row u1 u5 _ _ J h3 λv T' I hv=>?_
    refine dt (lx rfl (Ap ?_));exact ar ⟨J.trans I,adv3 T' I,rfl,rfl,rfl,rfl,U,hv⟩
   .omega
 rintro⟨a1,a2,a3,a4,a5,a6,a7⟩ ⟨g1,g2,g3,g4,g5,g6,g7,g8⟩;dsimp only at g1 g2 g3 g4 g5 g6 g7 g8;subst g3;subst g4;subst g5;subst g6;exact ar ⟨g1,rfl,g2,g7,g8⟩
def Yk (e:ET):Prop:=e.2.2.2.2.2.1.length<=1000000/\e.2.2.2.2.2.2.length<=1000000
theorem ac4 {m:Nat} (hm:m<=1000) (s:SN) (hs:SZ m s) (w:WT) (hw:w.1.length=5) (hwt:w.2.2.2.2.1.length=4) (hwc:w.2.2.1.length<=1000) (n:Int) (hn:n<=60) (t:List Int×Int) (h:TP t):Ok (rY ((s,w,n,aj),t)) λy=>(∀ e∈y.1,Yk e)/\y.1.length<=60:=by
 unfold rY aX bl bw cz ef kz zD BZ Prod.q10 bL cS fc ky pN Prod.q9 bf bz bF bK aZ cP aF;refine dt (dt (dt (eH (by dsimp only[au];omega) (eH (eX _) (bn (by dsimp only[au];omega) (by omega) (Vz (by dsimp only[au];omega) ?_))))));refine aY (λx=>x=(t,s,w,[],[],[],[])) ⟨_,rfl,rfl⟩ ?_;rintro x rfl;refine pR (λx=>((t.1.length:Int)-x.1.2).toNat) (λx=>uA t x.1/\x.2.2.1=w/\SZ (m+x.2.2.2.1.length) x.2.1/\x.2.2.2.1.length<=60/\(∀ e∈x.2.2.2.1,Yk e)/\RB4 x.2.2.2.1.length x.2.2.2.2) ?_ ⟨uA.refl h,rfl,(by simpa using hs),by simp,λe he=>(by cases he),⟨by simp,by simp,by simp,by simp⟩⟩;rintro⟨I,s,w',out,r⟩ ⟨i1,i2,U,i4,i5,i6⟩;dsimp only at i1 i2 U i4 i5 i6;subst i2;refine aY (λx=>x.2=(I,s,w',out,r)/\(x.1=ai->out.length<60/\I.2<I.1.length)) ?_ ?_
 .refine bI (λh1=>ar ⟨rfl,λh2=>?_⟩) λ_=>ar ⟨rfl,λh=>(by cases h)⟩
  rw[s8] at h2;dsimp only[au] at h1 h2;exact⟨by omega,h2⟩
 rintro⟨b,x⟩ ⟨e,hb⟩;dsimp only at e hb;subst e;refine aP (λh1=>?_) λ_=>ar ⟨i5,i4⟩
 obtain⟨ho,ht⟩:=hb h1;obtain⟨q0,q1,q2,q3⟩:=id i6;refine aY (λx=>uA I x.1/\I.2<x.1.2/\x.2.2.1=w'/\SZ (m+x.2.2.2.1.length) x.2.1/\x.2.2.2.1.length<=60/\(∀ e∈x.2.2.2.1,Yk e)/\RB4 x.2.2.2.1.length x.2.2.2.2) ?_ ?_
 .refine ax (ZR s U w' hw I i1.p r ⟨by omega,by omega,by omega,by omega⟩) λy hy=>?_
  obtain⟨ev,tp',r'⟩:=y;obtain⟨j1,j2,j3,M,J⟩:=hy;dsimp only at j1 j2 j3 M J;subst j2;have j3:=j3 ht;refine dt (lx rfl (dt (lx rfl (dt (lx rfl (dt (lx rfl (Ap ?_))))))));refine ax (EQ w' s U.nb hwc ev (by omega) (by omega)) λz hz=>?_
  refine dO (λ_=>ar ⟨j1,j3,rfl,U,i4,i5,i6⟩) λh2=>?_
  obtain⟨z1,z2⟩:=z;obtain⟨hE,hS,_⟩:=hz.1 h2;have hS2:=U.step hS (by omega);refine aY (λx=>x.1=tp'/\x.2.2.1=w'/\x.2.2.2.1=out/\Yk x.2.2.2.2.1/\x.2.2.2.2.2.1=z1/\RB4 (out.length+1) x.2.2.2.2.2.2) ?_ ?_
  .refine aY (λx=>x.2=(tp',s,w',out,ev,z1,r')) ?_ ?_
   .refine aK (λ_=>ar rfl) λ_=>ar rfl
   .rintro⟨b,x⟩ e;dsimp only at e;subst e;have hk:=U.k;obtain⟨ev1,ev2⟩:=ev;have t0:=hE.t0;have t1:=hE.t1;rw[hwt] at t1;dsimp only at t0 t1;refine aP (λ_=>?_) λ_=>ar ⟨rfl,rfl,rfl,⟨M,J⟩,rfl,⟨by dsimp only;omega,by dsimp only;omega,by dsimp only;omega,by dsimp only;omega⟩⟩
    refine aK (λ_=>?_) λ_=>aK (λ_=>?_) λ_=>aK (λ_=>?_) λ_=>aK (λ_=>?_) λ_=>?_
    .exact aR (by decide) (by dsimp only;omega) (aS (bn (by simp;omega) (by omega) (ar ⟨rfl,rfl,rfl,⟨M,J⟩,rfl,⟨by simp;omega,by dsimp only;omega,by dsimp only;omega,by dsimp only;omega⟩⟩)))
    .exact aR (by decide) (by dsimp only;omega) (aS (bn (by simp;omega) (by omega) (ar ⟨rfl,rfl,rfl,⟨M,J⟩,rfl,⟨by dsimp only;omega,by simp;omega,by dsimp only;omega,by dsimp only;omega⟩⟩)))
    .exact aR (by decide) (by dsimp only;omega) (aS (bn (by simp;omega) (by omega) (ar ⟨rfl,rfl,rfl,⟨M,J⟩,rfl,⟨by dsimp only;omega,by dsimp only;omega,by simp;omega,by dsimp only;omega⟩⟩)))
    .exact aR (by decide) (by dsimp only;omega) (aS (bn (by simp;omega) (by omega) (ar ⟨rfl,rfl,rfl,⟨M,J⟩,rfl,⟨by dsimp only;omega,by dsimp only;omega,by dsimp only;omega,by simp;omega⟩⟩)))
    .dsimp only at *;omega
  .rintro⟨x1,x2,x3,x4,x5,x6,x7⟩ ⟨k1,k2,k3,k4,Z,Y⟩;dsimp only at k1 k2 k3 k4 Z Y;subst k1;subst k2;subst k3;subst Z;refine bn (by simp;omega) (by omega) (ar ⟨j1,j3,rfl,?_,by simp;omega,λe he=>?_,?_⟩)
   .dsimp only;rw[bt,eD,<-sA];exact hS2
   .rcases bP.1 he with he|he
    .exact i5 e he
    .rw[aL] at he;subst he;exact k4
   .dsimp only;rw[bt,eD];exact Y
 rintro⟨tp',s',w'',out',r'⟩ ⟨k1,k2,k3,k4,Z,Y,k7⟩;dsimp only at k1 k2 k3 k4 Z Y k7;have e1:=i1.e;have a1:=k1.p.a1;have e2:=k1.e;refine ar ⟨⟨i1.trans k1,k3,k4,Z,Y,k7⟩,?_⟩;dsimp only;rw[e2,e1] at a1;omega
def C0:List (List UInt8×Int×Int×Bool×Int):=[([120],0,0,aj,0),([121],0,0,aj,1),([118],0,0,ai,0),([113],0,2,aj,0),([113],1,2,aj,0)]
def F5:List (List UInt8×Bool):=[([109],aj),([110],aj),([114],ai)]
def LK:List (List UInt8×Int):=[([99],0)]
def R7:List (List UInt8):=[[102]]
def vE:List (List UInt8):=[[109,97,105,110],[116,49],[116,50],[116,51]]
structure WX (w:WT):Prop where
 c:w.1=C0
 l:w.2.1=F5
 d:w.2.2.1=LK
 f:w.2.2.2.1=R7
 t:∃ n,1<=n/\n<=4/\w.2.2.2.2.1=vE.take n
 s:w.2.2.2.2.2.length<=60
 v:SV0 w
structure W0 (w:WT):Prop where
 c:w.1.length=5
 l:w.2.1.length=3
 d:w.2.2.1.length=1
 f:w.2.2.2.1.length=1
 t:w.2.2.2.2.1.length=4
 s:w.2.2.2.2.2.length<=24
 x:WX w
theorem W0.vl {w:WT} (h:W0 w):VL w:=⟨by rw[h.c];decide,by rw[h.l];decide,by rw[h.d];decide,by rw[h.f];decide,by rw[h.t];decide,by rw[h.t];decide,by have:=h.s;omega⟩
def Zb (i j:Nat):Int×Int:=if j=0 then (if i=0 then (0,0) else ((i:Int)-1,6)) else (i,j)
theorem Vk {T:Int} {l:List (Int×Int×Int)} {s:Int×Int×Int}:Kr T (l++[s])=Sm T (Kr T l) s:=by unfold Kr;rw[fB];rfl
theorem RM:Ok (nl ()) W0:=by
 unfold nl aX bl bw cz fc bz bF cP aF cF;refine ci 4 (λi x=>x.1=(i:Int)/\x.2.1=C0/\x.2.2.1=F5/\x.2.2.2.1=LK/\x.2.2.2.2.1=R7/\x.2.2.2.2.2.1=vE/\x.2.2.2.2.2.2.length<=6*i/\Kr 4 x.2.2.2.2.2.2=af (Zb i 0)) ?_ ?_ ⟨rfl,rfl,rfl,rfl,rfl,rfl,by simp,rfl⟩
 .rintro i ⟨a,w1,w2,w3,w4,w5,w6⟩ hi ⟨e1,e2,e3,Z,Y,I,e7,U⟩;dsimp only at e1 e2 e3 Z Y I e7 U;subst e1;have hl5:w5.length=4:=by rw[I];rfl
  refine bI (λ_=>?_) λg=>(by dsimp only[au] at g;simp at g;omega)
  refine ci 6 (λj x=>x.1=(j:Int)/\x.2.1=w1/\x.2.2.1=w2/\x.2.2.2.1=w3/\x.2.2.2.2.1=w4/\x.2.2.2.2.2.1=w5/\x.2.2.2.2.2.2.length<=6*i+j/\Kr 4 x.2.2.2.2.2.2=af (Zb i j)) ?_ ?_ ⟨rfl,rfl,rfl,rfl,rfl,rfl,by dsimp only;omega,U⟩
  .rintro j ⟨b,v1,v2,v3,v4,v5,v6⟩ hj ⟨d1,d2,d3,d4,d5,d6,d7,d8⟩;dsimp only at d1 d2 d3 d4 d5 d6 d7 d8;subst d1;refine dv ?_;refine bn (by simp;omega) (by omega) (ar ?_);dsimp only;refine ⟨gO (by omega),d2,d3,d4,d5,d6,by simp;omega,?_⟩;rw[Vk,d8];by_cases J:j=0
   .subst J;by_cases M:i=0
    .subst M;rfl
    .rw[show Zb i 0=((i:Int)-1,6) by unfold Zb;simp[M],show Zb i (0+1)=((i:Int),1) by unfold Zb;simp];unfold Sm;dsimp only;rw[aB (λh=>by have:=h.1;omega),aE ⟨by omega,by omega,rfl⟩]
   .rw[show Zb i j=((i:Int),(j:Int)) by unfold Zb;simp[J],show Zb i (j+1)=((i:Int),(j:Int)+1) by unfold Zb;simp];unfold Sm;dsimp only;rw[aE ⟨rfl,rfl⟩]
  .rintro⟨b,v1,v2,v3,v4,v5,v6⟩ ⟨d1,d2,d3,d4,d5,d6,d7,d8⟩;dsimp only at d1 d2 d3 d4 d5 d6 d7 d8;subst d1;subst d2;subst d3;subst d4;subst d5;subst d6;refine dc (ar ?_);dsimp only;refine ⟨gO (by omega),e2,e3,Z,Y,I,by omega,?_⟩;rw[d8];unfold Zb;simp
 .rintro⟨a,w1,w2,w3,w4,w5,w6⟩ ⟨e1,e2,e3,Z,Y,I,e7,U⟩;dsimp only at e1 e2 e3 Z Y I e7 U;subst e1;subst e2;subst e3;subst Z;subst Y;subst I;refine bI (λg=>(by dsimp only[au] at g;simp[vE] at g)) λ_=>ar ?_
  refine ⟨rfl,rfl,rfl,rfl,rfl,by dsimp only;omega,rfl,rfl,rfl,rfl,⟨4,by decide,by decide,rfl⟩,by dsimp only;omega,?_⟩;unfold SV0;show Kr 4 w6≠ah;rw[U];simp
theorem SZ.mono {n m:Nat} {s:SN} (h:SZ n s) (hnm:n<=m) (hm:m<=100000):SZ m s:=
 ⟨⟨⟨hm,h.nb.sb.lk,λl hl=>dj (h.nb.sb.rd l hl) hnm,h.nb.sb.dn,h.nb.sb.th⟩,h.nb.c,h.nb.f,h.nb.k⟩,h.c,h.f,h.k⟩
theorem U1 (w:WT) (I:W0 w):Ok (mD w) λs=>SZ 0 s:=by
 refine (U2 w I.vl).mono λs hs=>⟨hs.1,?_,?_,?_⟩
 .rw[hs.2.1,I.c]
 .rw[hs.2.2.1,I.f]
 .rw[hs.2.2.2,I.t]
structure WB (w:WT):Prop where
 c:w.1.length<=12
 l:w.2.1.length<=4
 d:w.2.2.1.length<=2
 f:w.2.2.2.1.length<=2
 t:w.2.2.2.2.1.length<=4
 s:w.2.2.2.2.2.length<=60
theorem VL.wb {w:WT} (h:VL w):WB w:=⟨h.c,h.l,h.d,h.f,h.t,h.s⟩
structure TR (y:WT×List ET):Prop where
 wb:WB y.1
 vl:VL y.1
 ev:∀ e∈y.2,EvF y.1 e
 len:y.2.length<=400
 ls:∀ e∈y.2,Yk e
 wx:WX y.1
 ac:∃ sy ce fu,Acw y.1 y.2 sy ce fu
theorem HE (L:List Int) (n:Int) (hl:L.length<=9223372036854775807) (hb:∀ x∈L,0<=x/\x<=255):Ok (qb (L,n)) TR:=by
 unfold qb aX bl bw dw cS bz jz iT bF kZ aZ cP aF cF;refine aY (λx=>x.length<=600/\∀ z∈x,0<=z/\z<=255) ?_ ?_
 .refine bI (λg=>?_) λg=>?_
  .dsimp only[au] at g;refine dt (eH (by omega) (eH (by dsimp only;omega) (ar ⟨by dsimp only;rw[bE];simp;omega,λz I=>hb z (jg I)⟩)))
  .dsimp only[au] at g;exact ar ⟨by dsimp only;omega,hb⟩
 rintro L' ⟨hL,hB⟩;refine ax RM λw J=>?_
 have hvl:=J.vl;refine ax (U1 w J) λs hs=>?_
 refine ax (gg 3 (L',0) ⟨by dsimp only;omega,hB,by dsimp only;omega,by dsimp only;omega⟩) λy hy=>?_
 obtain⟨y1,yt⟩:=y;obtain⟨ty,yy0,yy1,_⟩:=hy;have yy1:=yy1 (by decide);dsimp only at ty yy0 yy1;have ew:bm .i64 (1+y1)=1+y1:=ib (by omega) (by omega);refine pR (λx=>(1+y1+1-x.1).toNat) (λx=>1<=x.1/\x.1<=2+y1/\x.2.1=yt/\x.2.2.1=w/\x.2.2.2.1=s/\((x.2.2.2.2.length:Nat):Int)<=2*x.1/\∀ e∈x.2.2.2.2,Yk e) ?_ ⟨by dsimp only;omega,by dsimp only;omega,rfl,rfl,rfl,by simp,λe he=>?_⟩
 .rintro⟨a,t,w',s',es⟩ ⟨e1,e2,e3,e4,e5,e6,e7⟩;dsimp only at e1 e2 e3 e4 e5 e6 e7;subst e3;subst e4;subst e5;refine fo (λg=>?_) λg=>?_
  .dsimp only at g;rw[ew] at g;refine bn (by simp;omega) (by omega) (ar ?_);dsimp only;rw[ib (n:=a+1) (by omega) (by omega)];refine ⟨⟨by omega,by omega,rfl,rfl,rfl,by simp;omega,λe he=>?_⟩,by omega⟩;rcases bP.1 he with he|he
   .exact e7 e he
   .simp only[bi,cu,fY] at he;rcases he with he|he<;>subst he<;>exact⟨by simp,by simp⟩
  .refine ax (P:=TR) ?_ λr hr=>ar hr
   refine ci es.length (λi x=>x.1=(i:Int)/\TP x.2.1/\x.2.2.1=w'/\SZ i x.2.2.2.1/\x.2.2.2.2.1=es/\x.2.2.2.2.2.length<=i/\∀ e∈x.2.2.2.2.2,Yk e) ?_ ?_ ⟨rfl,ty.p,rfl,hs,rfl,by simp,λe he=>(by cases he)⟩
   .rintro i ⟨b,t,w',s',es',out⟩ hi ⟨d1,U,Z,M,Y,d6,d7⟩;dsimp only at d1 U Z M Y d6 d7;subst d1;subst Z;subst Y;refine dv ?_;refine aY (λx=>TP x.1/\x.2.1=w'/\SZ (i+1) x.2.2.1/\x.2.2.2.1=es'/\x.2.2.2.2.length<=i+1/\∀ e∈x.2.2.2.2,Yk e) ?_ ?_
    .refine cA (cA (aS ?_));have I:=e7 _ (bG (T:=.st (.pr (.int .i64) (.pr (.int .i64) (.pr (.int .i64) (.pr (.int .i64) (.pr (.int .i64) (.pr (.sl (.int .i64)) (.sl (.int .i64))))))))) (xs:=es') (j:=(i:Int)) (by omega) (by omega));revert I;generalize (aJ _ _)=z;intro I;refine ax (EQ w' s' M.nb (by rw[J.d];decide) z (by have:=I.1;omega) (by have:=I.2;omega)) λv hv=>?_
     refine aP (λh=>?_) λh=>ar ⟨U,rfl,M.mono (by omega) (by omega),rfl,by dsimp only;omega,d7⟩
     refine bn (by simp;omega) (by omega) (ar ⟨U,rfl,M.step (hv.1 h).2.1 (by omega),rfl,by simp;omega,λe he=>?_⟩);rcases bP.1 he with he|he
     .exact d7 e he
     .rw[aL] at he;subst he;exact I
    .rintro⟨t,w'',s'',es'',out'⟩ ⟨f1,f2,f3,f4,f5,f6⟩;dsimp only at f1 f2 f3 f4 f5 f6;refine ar ?_;dsimp only;exact⟨gO (by omega),f1,f2,f3,f4,f5,f6⟩
   .rintro⟨b,t,w',s',es',out⟩ ⟨d1,U,Z,M,Y,d6,d7⟩;dsimp only at d1 U Z M Y d6 d7;subst d1;subst Z;subst Y;refine dc ?_;refine ax (P:=TR) ?_ λr hr=>ar hr
    have hmin:Gh (ko n 0) 60<=60:=by
     unfold Gh;split
     .omega
     .rename_i h;simp[fO] at h;exact h
    refine ax (ac4 (by omega) s' M w' J.c J.t (by rw[J.d];decide) _ hmin t U) λv hv=>?_
    refine bn (by have:=hv.2;dsimp only;omega) (by omega) ?_;have hall:∀ e∈out++v.1,Yk e:=λe he=>by
     rcases bP.1 he with he|he
     .exact d7 e he
     .exact hv.1 e he
    refine ax (ab7 w' (out++v.1) λe he=>by have:=hall e he;exact⟨by have:=this.1;omega,by have:=this.2;omega⟩) λc hc=>?_
    refine b8 (λ_=>?_) λh=>?_
    .exact ax RM λu hu=>ar ⟨hu.vl.wb,hu.vl,λe he=>(by cases he),by simp,λe he=>(by cases he),hu.x,_,_,_,.nil⟩
    .exact ar ⟨(hc h).1.1.wb,(hc h).1.1,(hc h).2.1,by have:=hv.2;simp;omega,hall,J.x,(hc h).2.2⟩
 .rw[aL] at he;subst he;exact⟨by simp,by simp⟩
abbrev IT:Type:=Int×Int×Int×Int×Int×Int
abbrev CT:Type:=WT×List (Int×List IT)
theorem rN (a b:Int):jh (a,b)=af (decide (0<=a/\a<b)):=by
 refine cD ?_;unfold jh jz aF;with_reducible repeat' first|(refine OS.ok ?_;constructor)|refine IM.mk λ_=>?_
 .by_cases h:a<b<;>simp[*,fO]
 .simp;omega
theorem ER (k:Int):px k=af (decide (1<=k/\k<=5)):=by
 refine cD ?_;unfold px jz aF;with_reducible repeat' first|(refine OS.ok ?_;constructor)|refine IM.mk λ_=>?_
 .by_cases h:k<=5<;>simp[*,c5]
 .simp;omega
def iM (i:IT):List Int:=
 if i.1=1\/i.1=6\/i.1=10\/i.1=27 then [i.2.1]
 else if i.1=2\/i.1=3 then [i.2.1,i.2.2.1]
 else if i.1=4 then [i.2.1,i.2.2.1,i.2.2.2.1]
 else if i.1=7 then [i.2.1,i.2.2.2.1]
 else if i.1=8\/i.1=26 then [i.2.2.1]
 else if i.1=9 then [i.2.2.1,i.2.2.2.1]
 else []
theorem tj (i:IT):jD i=af (iM i):=by
 obtain⟨I,i2⟩:=i;unfold jD iM aX bl bw bf aF;by_cases h1:I=1
 .subst h1;rfl
 by_cases h2:I=6
 .subst h2;rfl
 by_cases h3:I=10
 .subst h3;rfl
 by_cases h4:I=27
 .subst h4;rfl
 by_cases h5:I=2
 .subst h5;rfl
 by_cases h6:I=3
 .subst h6;rfl
 by_cases Z:I=4
 .subst Z;rfl
 by_cases Y:I=7
 .subst Y;rfl
 by_cases U:I=8
 .subst U;rfl
 by_cases M:I=26
 .subst M;rfl
 by_cases J:I=9
 .subst J;rfl
 simp only[h1,h2,h3,h4,h5,h6,Z,Y,U,M,J,cr,bcF,jnr,fY,dY]
theorem Cf (z:IT):(iM z).length<=3:=by
 unfold iM
 (repeat' split)<;>simp
theorem Zl (l:List IT) (a:Int) (hl:l.length<=1000000):Ok (pd (l,a)) λ_=>True:=by
 unfold pd bf bz jz bK aZ cP aF cF;refine pR (λx=>((l.length:Int)+1-x.2).toNat) (λx=>0<=x.2/\x.2<=(l.length:Int)+1) ?_ ⟨by dsimp only;omega,by dsimp only;omega⟩;rintro⟨(a:Int),(n:Int)⟩ ⟨h0,h1⟩;dsimp only at h0 h1;refine fo (λg=>?_) λ_=>ar trivial
 dsimp only[au] at g;refine aY (λ_=>True) ?_ λb _=>ar ?_
 .refine aY (λb=>b=aj->0<=a/\a<(l.length:Int)) ?_ ?_
  .refine bI (λ_=>ar λh=>(by cases h)) λI=>ar λh=>?_
   rw[kT] at h;dsimp only[au] at h I;exact⟨I,h⟩
  .intro b hb;refine aP (λ_=>ar trivial) λh=>?_
   obtain⟨q0,J⟩:=hb h;refine aR q0 (by dsimp only;omega) (aS ?_);refine aV (ER _) ?_;refine dO (λ_=>ar trivial) λ_=>?_
   refine aR q0 (by dsimp only;omega) (aS ?_);refine aK (λ_=>?_) λ_=>ar trivial
   exact aR q0 (by dsimp only;omega) (aS (ar trivial))
 .dsimp only;rw[ib (by omega) (by omega)];exact⟨⟨by omega,by omega⟩,by omega⟩
structure AR (w:WT) (b n:Int):Prop where
 b0:0<=b
 b1:b<w.1.length
 ix:(aJ (T:=OQ) w.1 b).2.1=0
 sz:¬(aJ (T:=OQ) w.1 b).2.2.1=0
 sn:(aJ (T:=OQ) w.1 b).2.2.1=n
theorem RF (w:WT) (b n:Int):Ok (mR (w,b,n)) λr=>r=ai->AR w b n:=by
 unfold mR bf iT bK aZ aF;refine gu ?_;refine aV (rN _ _) ?_;refine aK (λh=>?_) λ_=>ar (ar λh=>(by cases h))
 refine aR h.1 h.2 (aS (aK (λh1=>?_) λ_=>ar (ar λh=>(by cases h))));refine aR h.1 h.2 (aS (b8 (λh2=>?_) λ_=>ar (ar λh=>(by cases h))));exact aR h.1 h.2 (aS (ar (ar λI=>⟨h.1,h.2,h1,h2,bg I⟩)))
theorem S7 (w:WT) (i:IT):Ok (lA (w,i)) λb=>b=ai->(i.1=7->AR w i.2.2.1 i.2.2.2.2.1)/\(i.1=9->AR w i.2.1 i.2.2.2.2.1):=by
 have I:∀ {b:Bool},¬i.1=7->¬i.1=9->b=ai->(i.1=7->AR w i.2.2.1 i.2.2.2.2.1)/\(i.1=9->AR w i.2.1 i.2.2.2.2.1):=λh1 h2 _=>⟨λh=>(h1 h).elim,λh=>(h2 h).elim⟩
 unfold lA aX bl bw cz ef bf jz bK aZ aF;simp only[rN,VB];refine aK (λU=>?_) λ_=>?_
 .refine aY (λ_=>True) ?_ λ_ _=>ar (I (by have U:i.1=6:=U;omega) (by have U:i.1=6:=U;omega))
  refine aK (λh=>?_) λ_=>ar trivial
  exact aR h.1 h.2 (aS (ar trivial))
 refine aK (λJ=>?_) λ_=>?_
 .refine aY (λ_=>True) ?_ λ_ _=>ar (I (by have J:i.1=8:=J;omega) (by have J:i.1=8:=J;omega))
  refine aK (λh=>?_) λ_=>ar trivial
  exact aR h.1 h.2 (aS (ar trivial))
 refine aK (λM=>?_) λY=>?_
 .exact ax (RF _ _ _) λ_ h=>ar λh2=>⟨λ_=>h h2,λh9=>by have M:i.1=7:=M;omega⟩
 refine aK (λh9=>?_) λZ=>?_
 .exact ax (RF _ _ _) λ_ h=>ar λh2=>⟨λM=>(Y M).elim,λ_=>h h2⟩
 have I:∀ {b:Bool},b=ai->(i.1=7->AR w i.2.2.1 i.2.2.2.2.1)/\(i.1=9->AR w i.2.1 i.2.2.2.2.1):=I Y Z;refine aY (λx=>x.2=(w,i)) (aK (λ_=>ar rfl) λ_=>ar rfl) ?_;rintro⟨b,x⟩ e;dsimp only at e;subst e;refine aP (λ_=>?_) λ_=>?_
 .refine aY (λ_=>True) ?_ λ_ _=>ar I
  refine aK (λh=>?_) λ_=>ar trivial
  exact aR h.1 h.2 (aS (ar trivial))
 refine aY (λx=>x.2=(w,i)) (aK (λ_=>ar rfl) λ_=>aK (λ_=>ar rfl) λ_=>aK (λ_=>ar rfl) λ_=>ar rfl) ?_;rintro⟨b,x⟩ e;dsimp only at e;subst e;refine aP (λ_=>?_) λ_=>?_
 .refine aY (λ_=>True) ?_ λ_ _=>ar I
  refine aK (λh=>?_) λ_=>ar trivial
  exact aR h.1 h.2 (aS (ar trivial))
 refine aY (λx=>x.2=(w,i)) (aK (λ_=>ar rfl) λ_=>aK (λ_=>ar rfl) λ_=>ar rfl) ?_;rintro⟨b,x⟩ e;dsimp only at e;subst e;refine aP (λ_=>ar I) λ_=>?_
 refine aY (λx=>x.2=(w,i)) (aK (λ_=>ar rfl) λ_=>ar rfl) ?_;rintro⟨b,x⟩ e;dsimp only at e;subst e;with_reducible repeat' first|(refine OS.ok ?_;constructor)|refine IM.mk λ_=>?_
 all_goals exact I
structure VI (n:Int) (i:IT):Prop where
 o1:1<=i.1
 o2:i.1<=28
 r:∀ j∈iM i,0<=j/\j<n
structure VT (t:Int×List IT):Prop where
 r0:0<=t.1
 r1:t.1<=32
 i:∀ i∈t.2,VI t.1 i
structure VJ (w:WT) (k:Int) (i:IT):Prop where
 a7:i.1=7->AR w i.2.2.1 i.2.2.2.2.1
 a9:i.1=9->AR w i.2.1 i.2.2.2.2.1
 se:i.1=28->i.2.2.2.2.2= -1
 si:¬i.1=28->0<=i.2.2.2.2.2/\i.2.2.2.2.2<w.2.2.2.2.2.length/\(aJ (T:=xA) w.2.2.2.2.2 i.2.2.2.2.2).1=k
theorem Hw (w:WT) (k:Int) (c:Int×List IT) (hc:c.2.length<=1000000):Ok (ik (w,k,c)) λb=>b=ai->VT c/\∀ i∈c.2,VJ w k i:=by
 unfold ik aX bl bw cz bL cS pN bf bz iT bK aZ cP aF cF;refine aY (λx=>x.2=(w,c)/\(x.1=aj->0<=c.1/\c.1<=32)) ?_ ?_
 .refine bI (λ_=>ar ⟨rfl,λh=>(by cases h)⟩) λh0=>bI (λ_=>ar ⟨rfl,λh=>(by cases h)⟩) λh1=>ar ⟨rfl,λ_=>⟨h0,h1⟩⟩
 rintro⟨b,x⟩ ⟨e,hb⟩;dsimp only at e hb;subst e;refine aP (λ_=>ar λh=>(by cases h)) λh=>?_
 obtain⟨r0,r1⟩:=hb h;refine ci c.2.length (λi x=>x.1=(i:Int)/\x.2=(w,c)/\∀ q:Nat,q<i->VI c.1 (aJ (T:=Bc) c.2 (q:Int))/\VJ w k (aJ (T:=Bc) c.2 (q:Int))) ?_ ?_ ⟨rfl,rfl,λk hk=>by omega⟩
 .rintro i ⟨a,x⟩ hi ⟨e1,e2,e3⟩;dsimp only at e1 e2 e3;subst e1;subst e2;refine dv ?_;refine cA (aS ?_);generalize Y:(aJ _ _)=z;refine aY (λx=>x.2=(w,c,z)/\(x.1=aj->(1<=z.1/\z.1<=28)/\(z.1=7->AR w z.2.2.1 z.2.2.2.2.1)/\(z.1=9->AR w z.2.1 z.2.2.2.2.1))) ?_ ?_
  .refine bI (λ_=>ar ⟨rfl,λh=>(by cases h)⟩) λh0=>bI (λ_=>ar ⟨rfl,λh=>(by cases h)⟩) λh1=>?_
   refine aP (λ_=>ar ⟨rfl,λh=>(by cases h)⟩) λ_=>?_
   refine ax (S7 w z) λy Z=>?_
   refine dO (λ_=>ar ⟨rfl,λh=>(by cases h)⟩) λhyt=>?_
   exact ax (Zl c.2 _ hc) λy _=>ar ⟨rfl,λ_=>⟨⟨h0,h1⟩,Z hyt⟩⟩
  rintro⟨b,x⟩ ⟨e,hb⟩;dsimp only at e hb;subst e;refine aP (λ_=>ar λh=>(by cases h)) λh=>?_
  obtain⟨⟨o1,o2⟩,a7,a9⟩:=hb h;refine aY (λx=>x.2=(w,c,z)/\(x.1=aj->(z.1=28->z.2.2.2.2.2= -1)/\(¬z.1=28->0<=z.2.2.2.2.2/\z.2.2.2.2.2<w.2.2.2.2.2.length/\(aJ (T:=xA) w.2.2.2.2.2 z.2.2.2.2.2).1=k))) ?_ ?_
  .simp only[rN,VB];refine aK (λI=>?_) λI=>?_
   .refine b8 (λ_=>ar ⟨rfl,λh=>(by cases h)⟩) λhm=>?_
    exact b8 (λh=>(h I).elim) λ_=>ar ⟨rfl,λ_=>⟨λ_=>hm,λh=>(h I).elim⟩⟩
   .refine b8 (λ_=>?_) λh=>(I h).elim
    refine b8 (λ_=>ar ⟨rfl,λh=>(by cases h)⟩) λh=>?_
    exact aR h.1 h.2 (aS (ar ⟨rfl,λh2=>⟨λh3=>(I h3).elim,λ_=>⟨h.1,h.2,by simpa using h2⟩⟩⟩))
  rintro⟨b,x⟩ ⟨e,hsi⟩;dsimp only at e hsi;subst e;refine aP (λ_=>ar λh=>(by cases h)) λhbs=>?_
  obtain⟨se,si⟩:=hsi hbs;refine aY (λx=>x.2=(w,c,z)) ?_ ?_
  .simp only[rN,VB];with_reducible repeat' first|(refine OS.ok ?_;constructor)|refine IM.mk λ_=>?_
   all_goals rfl
  rintro⟨b,x⟩ e;dsimp only at e;subst e;refine aP (λ_=>ar λh=>(by cases h)) λ_=>?_
  refine aV (tj z) ?_;refine ci (iM z).length (λj x=>x.1=(j:Int)/\x.2=(w,c)/\∀ k:Nat,k<j->0<=aJ (T:=.int .i64) (iM z) (k:Int)/\aJ (T:=.int .i64) (iM z) (k:Int)<c.1) ?_ ?_ ⟨rfl,rfl,λk hk=>by omega⟩
  .rintro j ⟨a,x⟩ hj ⟨U,M,J⟩;dsimp only at U M J;subst U;subst M;refine dv ?_;refine cA (aS ?_);refine aV (rN _ _) ?_;refine b8 (λ_=>ar λh=>(by cases h)) λh=>ar ?_
   dsimp only at h ⊢;have hj32:(iM z).length<=3:=Cf z;refine ⟨gO (by omega),rfl,λk hk=>?_⟩;rcases bZ k j with h1|h1
   .exact J k h1
   .rw[show k=j by omega];exact h
  .rintro⟨a,x⟩ ⟨U,M,J⟩;dsimp only at U M J;subst U;subst M;refine dc (ar ?_);dsimp only;refine ⟨gO (by omega),rfl,λk hk=>?_⟩;rcases bZ k i with h1|h1
   .exact e3 k h1
   .rw[show k=i by omega,Y];exact⟨⟨o1,o2,io (T:=.int .i64) J⟩,⟨a7,a9,se,si⟩⟩
 .rintro⟨a,x⟩ ⟨e1,e2,e3⟩;dsimp only at e1 e2 e3;subst e1;subst e2;refine dc (ar λ_=>⟨⟨r0,r1,io (T:=Bc) (p:=VI c.1) λq hq=>(e3 q hq).1⟩,io (T:=Bc) (p:=VJ w k) λq hq=>(e3 q hq).2⟩)
structure VC (c:CT):Prop where
 vl:VL c.1
 tl:c.2.length=c.1.2.2.2.2.1.length
 t:∀ t∈c.2,VT t
 sv:SV0 c.1
 j:∀ k:Nat,k<c.2.length->∀ i∈(aJ (T:=vD) c.2 (k:Int)).2,VJ c.1 (k:Int) i
structure CB (c:CT):Prop where
 th:c.2.length<=1000000
 ins:∀ t∈c.2,t.2.length<=1000000
 rg:∀ t∈c.2,1<=t.1
 wx:WX c.1
 ok:jC c=af ai
theorem RO (c:CT) (h1:c.2.length<=1000000) (h2:∀ t∈c.2,t.2.length<=1000000):Ok (jC c) λb=>b=ai->VC c:=by
 obtain⟨w,l⟩:=c;dsimp only at h1 h2;unfold jC bw bz bK aZ cP aF cF;refine aY (λx=>x.2=(w,l)/\(x.1=aj->(VL w/\SV0 w)/\l.length=w.2.2.2.2.1.length)) ?_ ?_
 .refine ax (AT w) λb hb=>?_
  refine dO (λ_=>ar ⟨rfl,λh=>(by cases h)⟩) λh=>ar ⟨rfl,λM=>⟨hb h,?_⟩⟩
  simp at M;omega
 rintro⟨b,x⟩ ⟨e,I⟩;dsimp only at e I;subst e;refine aP (λ_=>ar λh=>(by cases h)) λh=>?_
 obtain⟨⟨hv,hsv⟩,hl⟩:=I h;refine ci l.length (λi x=>x.1=(i:Int)/\x.2=(w,l)/\∀ k:Nat,k<i->VT (aJ (T:=vD) l (k:Int))/\∀ q∈(aJ (T:=vD) l (k:Int)).2,VJ w (k:Int) q) ?_ ?_ ⟨rfl,rfl,λk hk=>by omega⟩
 .rintro i ⟨a,x⟩ hi ⟨e1,e2,e3⟩;dsimp only at e1 e2 e3;subst e1;subst e2;refine dv ?_;refine cA (aS ?_);have hm:=bG (T:=vD) (xs:=l) (j:=(i:Int)) (by omega) (by omega);revert hm;generalize J:(aJ (T:=vD) l (i:Int))=z;intro hm;refine ax (Hw w _ z (h2 z hm)) λb hb=>?_
  refine dO (λ_=>ar λh=>(by cases h)) λh=>ar ?_
  dsimp only;refine ⟨gO (by omega),rfl,λk hk=>?_⟩;rcases bZ k i with h1|h1
  .exact e3 k h1
  .rw[show k=i by omega,J];exact hb h
 .rintro⟨a,x⟩ ⟨e1,e2,e3⟩;dsimp only at e1 e2 e3;subst e1;subst e2;refine dc (ar λ_=>⟨hv,hl,io (T:=vD) (p:=VT) λk hk=>(e3 k hk).1,hsv,λk hk=>(e3 k hk).2⟩)
abbrev TT:Type:=Int×List Int×List (List Int)×Int
structure TL (F:Int->Prop) (E:Nat) (l:List Int):Prop where
 a:GR l
 m:∀ y∈l,0<=y/\y<(E:Int)
 f:∀ y∈l,F y
theorem Oy:∀ (l:List Int) (lo hi:Int),GR l->(∀ y∈l,lo<=y/\y<hi)->(l.length:Int)<=max 0 (hi-lo)
 |[],lo,hi,_,_=>by simp;omega
 |x::r,lo,hi,h,hm=>by
  have h1:=hm x (dz ..);have h2:=Oy r (x+1) hi h.2 λy I=>⟨by have:=h.1 y I;omega,(hm y (cM _ I)).2⟩
  rw[bY];omega
variable {F:Int->Prop}
theorem TL.len {E:Nat} {l:List Int} (h:TL F E l):l.length<=E:=by
 have:=Oy l 0 E h.a h.m;omega
theorem TL.nil (E:Nat):TL F E []:=⟨trivial,λy I=>(by cases I),λy I=>(by cases I)⟩
theorem TL.uni {E:Nat} {a b:List Int} (J:TL F E a) (hb:TL F E b):TL F E (wN a b):=
 ⟨O1 a b,λy I=>by
   rcases Hx.1 I with h|h
   .exact J.m y h
   .exact hb.m y h,λy I=>(Hx.1 I).elim (J.f y) (hb.f y)⟩
theorem TL.mono {E M:Nat} {J:Int->Prop} {l:List Int} (h:TL F E l) (hf:E<=M) (U:∀ y,F y->J y):TL J M l:=⟨h.a,λy I=>⟨(h.m y I).1,by have:=(h.m y I).2;omega⟩,λy I=>U y (h.f y I)⟩
structure TH (F:Int->Prop) (E:Nat) (s:TT):Prop where
 r:s.2.1.length<=32
 t:s.2.2.1.length<=32
 l:∀ l∈s.2.2.1,TL F E l
 e0:0<=s.2.2.2
 e1:s.2.2.2<=(E:Int)
theorem TH.zero (E:Nat):TH F E (0,[],[],0):=⟨by simp,by simp,λl hl=>(by cases hl),by simp,by simp⟩
theorem TH.mono {E J:Nat} {I:Int->Prop} {s:TT} (h:TH F E s) (hf:E<=J) (M:∀ y,F y->I y):TH I J s:=⟨h.r,h.t,λl hl=>(h.l l hl).mono hf M,h.e0,by have:=h.e1;omega⟩
theorem db (s:TT) (E:Nat) (Y:E<=100000) (h:TH F E s):ch s=af ((s.1,s.2.2.2),s.2.1,s.2.2.1):=by
 obtain⟨h1,h2,U,h4,Z⟩:=h;refine cD ?_;unfold ch aX bl bw bL cS bz bF bK aZ cP aF cF;refine bn (by simp;omega) (by omega) ?_;refine ci s.2.2.1.length (λi x=>x.1=(i:Int)/\x.2.1=s/\x.2.2.2.1=(s.1,s.2.2.2)/\x.2.2.2.2.1=s.2.1/\x.2.2.2.2.2=s.2.2.1.take i) ?_ ?_ ⟨rfl,rfl,rfl,rfl,rfl⟩
 .rintro i ⟨a,b,c,d,e,f⟩ hi ⟨e1,e2,e3,J,I⟩;dsimp only at e1 e2 e3 J I;subst e1;subst e2;subst I;refine dv ?_;refine cA (aS ?_);have M:=(U _ (bG (T:=.sl (.int .i64)) (xs:=b.2.2.1) (j:=(i:Int)) (by omega) (by omega))).len;refine bn (by simp only[jS,bN];exact dj M (by omega)) (by omega) ?_;refine bn (by simp;omega) (by omega) (ar ?_);dsimp only;refine ⟨gO (by omega),rfl,e3,J,?_⟩;rw[nQ (T:=.sl (.int .i64)) hi];rfl
 .rintro⟨a,b,c,d,e,f⟩ ⟨e1,e2,e3,J,I⟩;dsimp only at e1 e2 e3 J I;subst e1;subst e2;subst I;refine dc (ar ?_);show (d,e,_)=_;rw[e3,J,cR]
theorem vF (b:Bool):Ok (fP b) λ_=>True:=by
 unfold fP;with_reducible repeat' first|(refine OS.ok ?_;constructor)|refine IM.mk λ_=>?_
 all_goals trivial
theorem E8 (n:Int):Ok (ma n) λ_=>True:=by
 unfold ma bz aF;with_reducible repeat' first|(refine OS.ok ?_;constructor)|refine IM.mk λ_=>?_
 all_goals trivial
theorem aah (x:Int×Int):Ok (tV x) λ_=>True:=by
 unfold tV bf;refine aK (λ_=>ar trivial) λ_=>aK (λ_=>?_) λ_=>ar trivial
 exact ax (vF _) λ_ _=>ar trivial
theorem Yx (x:Int×Int×Int):Ok (r7 x) λ_=>True:=by
 unfold r7 bf iT bF aF;have t1:∀ b,Ok (obind (fP b) λy=>af (y,ai)) λ_=>True:=λb=>ax (vF _) λ_ _=>ar trivial
 refine aK (λ_=>ar trivial) λ_=>aK (λ_=>ar trivial) λ_=>aK (λ_=>ar trivial) λ_=>?_
 refine aK (λ_=>aK (λ_=>ar trivial) λh=>yr h (ar trivial)) λ_=>?_
 refine aK (λ_=>aK (λ_=>ar trivial) λh=>yr h (ar trivial)) λ_=>?_
 refine aK (λ_=>t1 _) λ_=>aK (λ_=>t1 _) λ_=>aK (λ_=>t1 _) λ_=>aK (λ_=>t1 _) λ_=>aK (λ_=>t1 _) λ_=>aK (λ_=>t1 _) λ_=>?_
 refine aK (λ_=>aY (λ_=>True) (b8 (λ_=>ax (vF _) λ_ _=>ar trivial) λ_=>ax (vF _) λ_ _=>ar trivial) λ_ _=>ar trivial) λ_=>?_
 exact aK (λ_=>aY (λ_=>True) (b8 (λ_=>ax (vF _) λ_ _=>ar trivial) λ_=>ax (vF _) λ_ _=>ar trivial) λ_ _=>ar trivial) λ_=>ar trivial
theorem WC (E:Nat) (hE:E<=100000) (i:IT) (p:Int×Int) (R:List Int) (T:List (List Int)) (hr:∀ j∈iM i,0<=j/\j<(R.length:Int)) (o1:1<=i.1) (o2:i.1<=5) (hR:R.length<=32) (I:T.length=R.length) (hl:∀ l∈T,TL F E l):Ok (vO ((i,p),R,T)) λy=>y.1.1.2=p.2/\y.2.1.length=R.length/\y.2.2.length=T.length/\∀ l∈y.2.2,TL F E l:=by
 unfold vO aX bl bw ck bf bz bF bK kZ aZ cP aF cF;refine aV (tj i) ?_;have h3:=Cf i;refine ci (iM i).length (λj x=>x.1=(j:Int)/\x.2.1=R/\x.2.2.1=T/\x.2.2.2.1=i/\x.2.2.2.2.1=p) ?_ ?_ ⟨rfl,rfl,rfl,rfl,rfl⟩
 .rintro j ⟨a,b,c,d,e⟩ hj ⟨e1,e2,e3,Z,M⟩;dsimp only at e1 e2 e3 Z M;subst e1;subst e2;subst e3;subst Z;refine dv ?_;have hz:=hr _ (bG (T:=.int .i64) (xs:=iM d) (j:=(j:Int)) (by omega) (by omega));refine aY (λx=>x.2=(b,c,d,e)/\x.1=aj) ?_ ?_
  .refine cA (aS ?_);refine bI (λg=>?_) λ_=>?_
   .dsimp only at g;omega
   refine cA (aS (ar ⟨rfl,?_⟩));dsimp only;rw[kT];exact hz.2
  rintro⟨b',x⟩ ⟨Y,U⟩;dsimp only at Y U;subst Y;subst U;refine aP (λh=>(by cases h)) λ_=>ar ?_
  dsimp only;exact⟨gO (by omega),rfl,rfl,rfl,M⟩
 .rintro⟨a,b,c,d,e⟩ ⟨e1,e2,e3,Z,M⟩;dsimp only at e1 e2 e3 Z M;subst e1;subst e2;subst e3;subst Z;refine dc ?_;obtain⟨e,e'⟩:=e;dsimp only at M;subst M;refine ax (P:=λy=>y.1.1.2=e.2/\y.2.1.length=b.length/\y.2.2.length=c.length/\∀ l∈y.2.2,TL F E l) ?_ λr hr=>ar hr
  have hA:d.1≠5->0<=d.2.1/\d.2.1<(b.length:Int):=λh5=>hr _ (by
   unfold iM;(repeat' split)<;>simp<;>omega)
  have hB:2<=d.1->d.1≠5->0<=d.2.2.1/\d.2.2.1<(b.length:Int):=λh2 h5=>hr _ (by
   unfold iM;(repeat' split)<;>simp<;>omega)
  have hC:d.1=4->0<=d.2.2.2.1/\d.2.2.2.1<(b.length:Int):=λh5=>hr _ (by
   unfold iM;(repeat' split)<;>simp<;>omega)
  have hg:∀ {j:Int},0<=j->j<(b.length:Int)->TL F E (aJ (T:=.sl (.int .i64)) c j):=λh0 h1=>hl _ (bG (T:=.sl (.int .i64)) (xs:=c) h0 (by rw[I];exact h1))
  refine aY (λx=>x.2.1=b/\x.2.2.1=c/\x.2.2.2.1=d/\x.2.2.2.2.1=e/\TL F E x.1.2.2/\d.1≠5) ?_ ?_
  .refine aK (λ_=>ar ⟨rfl,rfl,rfl,hl⟩) λJ=>?_
   refine aK (λ_=>ar ⟨rfl,rfl,rfl,rfl,TL.nil E,J⟩) λn1=>?_
   dsimp only at n1 J;obtain⟨b0,b1⟩:=hB (by omega) J;refine aK (λ_=>?_) λn2=>?_
   .refine aR b0 b1 (aR b0 b1 (aS ?_));refine aR b0 (by dsimp only;rw[I];exact b1) (aR b0 (by dsimp only;rw[I];exact b1) (aS ?_));exact ar ⟨rfl,rfl,rfl,rfl,hg b0 b1,J⟩
   refine aK (λ_=>?_) λn3=>?_
   .refine ax (E8 _) λy _=>?_
    refine aR b0 b1 (aR b0 b1 (aS ?_));refine ax (aah _) λy _=>?_
    refine aR b0 (by dsimp only;rw[I];exact b1) (aR b0 (by dsimp only;rw[I];exact b1) (aS ?_));exact ar ⟨rfl,rfl,rfl,rfl,hg b0 b1,J⟩
   dsimp only at n2 n3;obtain⟨c0,c1⟩:=hC (by omega);refine ax (E8 _) λy _=>?_
   refine aR b0 b1 (aR b0 b1 (aS ?_));refine aR c0 c1 (aR c0 c1 (aS ?_));refine ax (Yx _) λy _=>?_
   refine aR b0 (by dsimp only;rw[I];exact b1) (aR b0 (by dsimp only;rw[I];exact b1) (aS ?_));refine aR c0 (by dsimp only;rw[I];exact c1) (aR c0 (by dsimp only;rw[I];exact c1) (aS ?_));have g1:=hg b0 b1;have g2:=hg c0 c1;refine aV (RP _ _ (dj g1.len (by omega)) (dj g2.len (by omega))) ?_;exact ar ⟨rfl,rfl,rfl,rfl,g1.uni g2,J⟩
  rintro⟨⟨v,ok,tn⟩,b',c',d',e',e''⟩ ⟨Y,U,f3,f4,f5,f6⟩;dsimp only at Y U f3 f4 f5 f6;subst Y;subst U;subst f3;subst f4;obtain⟨a0,a1⟩:=hA f6;have ht:=f5.len;refine bn (by simp;omega) (by omega) ?_;refine aR a0 a1 (aR a0 a1 (aR a0 (by dsimp only;rw[I];exact a1) (aR a0 (by dsimp only;rw[I];exact a1) (ar ?_))));refine ⟨rfl,bV ..,bV ..,λl hm=>?_⟩;rcases B_ hm with h|h
  .exact hl l h
  .rw[h];exact f5
theorem X8 (E:Nat) (Z:E<=100000) (c:Int×List IT) (hc:c.2.length<=1000000) (hv:VT c) (s:TT) (h:TH F E s):Ok (mQ (c,s)) λy=>TH F E y.1/\(y.1.2.1.length=0\/y.1.2.2.2=s.2.2.2):=by
 unfold mQ aX bl bw bL dw cS bf bz jz iT bF bK aZ cP aF cF;have J:=h;obtain⟨h1,h2,h3,h4,h5⟩:=h;refine aY (λx=>x.2.1=c/\x.2.2.1=s/\(x.1=aj->(s.2.1.length:Int)=c.1/\(s.2.2.1.length:Int)=c.1)) ?_ ?_
 .refine b8 (λ_=>ar ⟨rfl,rfl,λh=>(by cases h)⟩) λg=>ar ⟨rfl,rfl,λh=>?_⟩
  simp at h;exact⟨g,h⟩
 rintro⟨b,c',s',z⟩ ⟨e1,e2,e3⟩;dsimp only at e1 e2 e3;subst e1;subst e2;refine aP (λ_=>ar ⟨TH.zero E,.inl rfl⟩) λhb=>?_
 obtain⟨q1,q2⟩:=e3 hb;refine aV (db s' E Z J) ?_;refine pR (λx=>((c'.2.length:Int)+1-x.1).toNat) (λx=>0<=x.1/\x.1<=(c'.2.length:Int)+1/\x.2.1=c'/\x.2.2.1.2=s'.2.2.2/\x.2.2.2.2.1.length=s'.2.1.length/\x.2.2.2.2.2.length=s'.2.2.1.length/\∀ l∈x.2.2.2.2.2,TL F E l) ?_ ⟨by dsimp only;omega,by dsimp only;omega,rfl,rfl,rfl,rfl,h3⟩;rintro⟨(n:Int),c,⟨(I:Int),ev⟩,z',R,T⟩ ⟨n0,n1,e1,e2,e3,e4,M⟩;dsimp only at n0 n1 e1 e2 e3 e4 M;subst e1;subst e2;refine fo (λg=>?_) λ_=>ar ⟨TH.zero E,.inl rfl⟩
 dsimp only[au] at g;refine aY (λx=>x.2=(c,(I,s'.2.2.2),z',R,T)/\(x.1=aj->0<=I/\I<(c.2.length:Int))) ?_ ?_
 .refine bI (λ_=>ar ⟨rfl,λh=>(by cases h)⟩) λg1=>ar ⟨rfl,λh=>?_⟩
  dsimp only at g1 h;rw[kT] at h;exact⟨g1,h⟩
 rintro⟨b',x⟩ ⟨f1,f2⟩;dsimp only at f1 f2;subst f1;refine aP (λ_=>ar ⟨TH.zero E,.inl rfl⟩) λhb=>?_
 obtain⟨p0,p1⟩:=f2 hb;refine aR p0 p1 (aS ?_);have hi:=hv.i _ (bG (T:=Bc) (xs:=c.2) (j:=I) p0 p1);revert hi;generalize (aJ (T:=Bc) _ _)=i;intro hi;refine aV (ER _) ?_;refine b8 (λ_=>ar ⟨⟨by dsimp only;omega,by dsimp only;omega,M,h4,h5⟩,.inr rfl⟩) λhsil=>?_
 refine aK (λ_=>ar ⟨TH.zero E,.inl rfl⟩) λhn=>?_
 dsimp only[au] at hn;refine ax (WC E Z i (I,s'.2.2.2) R T (λj hj=>by have:=hi.r j hj;omega) hsil.1 hsil.2 (by omega) (by omega) M) λy hy=>?_
 obtain⟨⟨⟨pc',ev'⟩,ok⟩,R',T'⟩:=y;obtain⟨k1,k2,Y,U⟩:=hy;dsimp only at k1 k2 Y U;refine dt (lx Y.symm (dt (lx k2.symm (Ap ?_))));refine dO (λ_=>ar ⟨TH.zero E,.inl rfl⟩) λ_=>ar ?_
 dsimp only;rw[ib (by omega) (by omega)];exact⟨⟨by omega,by omega,rfl,k1,by omega,by omega,U⟩,by omega⟩
abbrev ST:Type:=SY×List Int×List Int×List TT
structure TF (c:Int×List IT) (t:TT):Prop where
 p0:0<=t.1
 p1:t.1<(c.2.length:Int)
 r:(t.2.1.length:Int)=c.1
 t:(t.2.2.1.length:Int)=c.1
structure FSx (c:CT) (s:ST):Prop where
 vc:VC c
 cd:∀ d∈c.1.2.2.1,0<=d.2/\d.2<(c.1.2.1.length:Int)
 e3:s.1.2.2.2.length=c.1.2.2.2.2.1.length
 ce:s.2.1.length=c.1.1.length
 fu:s.2.2.1.length=c.1.2.2.2.1.length
 th:s.2.2.2.length=c.2.length
 t:∀ k:Nat,k<c.2.length->TF (aJ (T:=vD) c.2 (k:Int)) (aJ (T:=ur) s.2.2.2 (k:Int))
def FQ (L:List ET) (k:Int) (y:Int):Prop:=1<=y/\Kh L k y
structure SV (n:Nat) (L:List ET) (s:ST):Prop where
 sb:SB n s.1
 ln:L.length=n
 t:∀ k:Nat,k<s.2.2.2.length->TH (FQ L k) n (aJ (T:=ur) s.2.2.2 (k:Int))
theorem SV.ti {n:Nat} {L:List ET} {s:ST} (h:SV n L s) {k:Int} (h0:0<=k) (h1:k<(s.2.2.2.length:Int)):TH (FQ L k) n (aJ (T:=ur) s.2.2.2 k):=by
 have:=h.t k.toNat (by omega);rw[show ((k.toNat:Nat):Int)=k by omega] at this;exact this
structure TG (c:CT) (L:List ET) (sy:SY) (k:Int) (t:TT):Prop where
 ev:t.2.2.2=((fl L k).length:Int)
 wi:(aJ (T:=jy) sy.2.2.2 k).1=3\/(aJ (T:=jy) sy.2.2.2 k).1=4->(aJ (T:=Bc) (aJ (T:=vD) c.2 k).2 t.1).1=21
 nw:(fl L k).length=0->(aJ (T:=jy) sy.2.2.2 k).1=0\/(aJ (T:=jy) sy.2.2.2 k).1=1
structure Kt (c:CT) (L:List ET) (s:ST):Prop where
 ac:Acw c.1 L s.1 s.2.1 s.2.2.1
 t:∀ k:Nat,k<s.2.2.2.length->(aJ (T:=ur) s.2.2.2 (k:Int)).2.1.length=0\/TG c L s.1 (k:Int) (aJ (T:=ur) s.2.2.2 (k:Int))
theorem ad1 (c:CT) (s:ST) (hc:CB c):Ok (vN (c,s)) λb=>b=ai->FSx c s:=by
 unfold vN aX bl dw cS bz jz iT bK aZ cP aF cF;refine aY (λx=>x.2=(c,s)/\(x.1=aj->VC c/\(∀ d∈c.1.2.2.1,0<=d.2/\d.2<(c.1.2.1.length:Int))/\s.1.2.2.2.length=c.1.2.2.2.2.1.length/\s.2.1.length=c.1.1.length/\s.2.2.1.length=c.1.2.2.2.1.length/\s.2.2.2.length=c.2.length)) ?_ ?_
 .refine ax (RO c hc.th hc.ins) λb hb=>?_
  refine dO (λ_=>ar ⟨rfl,λh=>(by cases h)⟩) λh=>?_
  have hv:=hb h;refine ax (OO c.1 s.1 (by have:=hv.vl.d;omega)) λb2 I=>?_
  refine dO (λ_=>ar ⟨rfl,λh=>(by cases h)⟩) λh2=>?_
  obtain⟨J,_,_,Z⟩:=I h2;refine b8 (λ_=>ar ⟨rfl,λh=>(by cases h)⟩) λk1=>?_
  refine b8 (λ_=>ar ⟨rfl,λh=>(by cases h)⟩) λk2=>ar ⟨rfl,λU=>⟨hv,J,Z,?_,?_,?_⟩⟩
  .dsimp only[au] at k1;omega
  .dsimp only[au] at k2;omega
  .simp at U;omega
 rintro⟨b,x⟩ ⟨e,hb⟩;dsimp only at e hb;subst e;refine aP (λ_=>ar λh=>(by cases h)) λh=>?_
 obtain⟨hv,hcd,Y,hce,hfu,hth⟩:=hb h;have hcl:=hc.th;refine ci c.2.length (λi x=>x.1=(i:Int)/\x.2=(c,s)/\∀ k:Nat,k<i->TF (aJ (T:=vD) c.2 (k:Int)) (aJ (T:=ur) s.2.2.2 (k:Int))) ?_ ?_ ⟨rfl,rfl,λk hk=>by omega⟩
 .rintro i ⟨a,x⟩ hi ⟨e1,e2,e3⟩;dsimp only at e1 e2 e3;subst e1;subst e2;refine dv ?_;have hin:((i:Nat):Int)<(c.2.length:Int):=by omega
  refine cA (aS ?_);refine aY (λx=>x.2=(c,s)/\(x.1=aj->TF (aJ (T:=vD) c.2 (i:Int)) (aJ (T:=ur) s.2.2.2 (i:Int)))) ?_ ?_
  .refine bI (λ_=>ar ⟨rfl,λh=>(by cases h)⟩) λg0=>?_
   refine aR (by dsimp only;omega) hin (aS ?_);refine fo (λ_=>ar ⟨rfl,λh=>(by cases h)⟩) λJ=>?_
   refine aR (by dsimp only;omega) hin (aS ?_);refine b8 (λ_=>ar ⟨rfl,λh=>(by cases h)⟩) λg2=>?_
   refine aR (by dsimp only;omega) hin (aS (ar ⟨rfl,λM=>⟨g0,J,g2,?_⟩⟩));simp at M;exact M
  rintro⟨b,x⟩ ⟨e,hb⟩;dsimp only at e hb;subst e;refine aP (λ_=>ar λh=>(by cases h)) λh=>ar ?_
  dsimp only;refine ⟨gO (by omega),rfl,λk hk=>?_⟩;rcases bZ k i with h1|h1
  .exact e3 k h1
  .rw[show k=i by omega];exact hb h
 .rintro⟨a,x⟩ ⟨e1,e2,e3⟩;dsimp only at e1 e2 e3;subst e1;subst e2;refine dc (ar λ_=>⟨hv,hcd,Y,hce,hfu,hth,e3⟩)
theorem af1 {i:IT} (h:i.1=6\/i.1=7\/i.1=27\/i.1=10):i.2.1∈iM i:=by
 unfold iM;(repeat' split)<;>simp<;>omega
theorem af0 {i:IT} (h:i.1=8\/i.1=9\/i.1=26):i.2.2.1∈iM i:=by
 unfold iM;(repeat' split)<;>simp<;>omega
theorem ajk {i:IT} (h:i.1=7\/i.1=9):i.2.2.2.1∈iM i:=by
 unfold iM;(repeat' split)<;>simp<;>omega
structure KD (op k:Int):Prop where
 ld:k=3->op=6\/op=7
 st:k=4->op=8\/op=9
 br:k=5->op=10
 se:k=22->op=26
 ge:k=23->op=27
 e1:k=2->op=28
 n1:¬k=1
 n17:¬k=17
 wt:k=16->op=21
 e2:¬k=0->op=28->k=2
 d7:¬k=0->op=7->k=3
 d8:¬k=0->op=8->k=4
 d9:¬k=0->op=9->k=4
 d10:¬k=0->op=10->k=5
 d26:¬k=0->op=26->k=22
theorem aci (op:Int):Ok (vL op) λk=>KD op k:=by
 unfold vL bz kZ aF;refine aY (λx=>x.2=[3,3,4,4,5,6,7,8,9,10,11,12,13,14,15,16,18,19,20,21,22,23,2]/\(x.1=aj->6<=op/\op<=28)) ?_ ?_
 .refine bI (λ_=>ar ⟨rfl,λh=>(by cases h)⟩) λg=>ar ⟨rfl,λh=>?_⟩
  dsimp only at h;rw[f_] at h;exact⟨g,h⟩
 rintro⟨b,x⟩ ⟨e,hb⟩;dsimp only at e hb;subst e;refine aP (λ_=>ar (by constructor<;>first|decide|(intro h;first|(exact (h rfl).elim)|(cases h;done)))) λh=>?_
 obtain⟨h1,h2⟩:=hb h;dsimp only;rw[ib (n:=op-6) (by omega) (by omega)];refine aR (by omega) (by simp;omega) (aR (by omega) (by simp;omega) (aS (ar ?_)));have:op=6\/op=7\/op=8\/op=9\/op=10\/op=11\/op=12\/op=13\/op=14\/op=15\/op=16\/op=17\/op=18\/op=19\/op=20\/op=21\/op=22\/op=23\/op=24\/op=25\/op=26\/op=27\/op=28:=by omega
 rcases this with rfl|rfl|rfl|rfl|rfl|rfl|rfl|rfl|rfl|rfl|rfl|rfl|rfl|rfl|rfl|rfl|rfl|rfl|rfl|rfl|rfl|rfl|rfl;all_goals (constructor<;>decide)
theorem R6 (a n:Int):Ok (re (a,n)) λr=>n=2->r=0\/r=1:=by
 unfold re bz bF aF;refine bI (λ_=>ar λh=>(by dsimp only at *;omega)) λh=>?_
 dsimp only at h;refine yr (by dsimp only;omega) ?_;have t1:=Int.tmod_lt_of_pos a (b:=n) (by omega);have I:=Int.lt_tmod_of_pos a (b:=n) (by omega);refine aY (λr=>n=2->r=0\/r=1) (bI (λg=>ar λh2=>?_) λg=>ar λh2=>?_) λ_ h=>ar h
 .dsimp only at g ⊢;rw[ib (by omega) (by omega)];omega
 .dsimp only at g ⊢;omega
theorem Px (i:IT) (t:TT) (hr:∀ j∈iM i,0<=j/\j<(t.2.1.length:Int)):Ok (rZ (i,t)) λo=>(i.1=7->i.2.2.1=3->i.2.2.2.2.1=2->o=3\/o=4)/\(i.1=9->i.2.1=3->i.2.2.2.2.1=2->o=3\/o=4):=by
 unfold rZ aX bl bw bf bK aF;have J:i.1=7\/i.1=9->0<=i.2.2.2.1/\i.2.2.2.1<(t.2.1.length:Int):=λh=>hr _ (by
  unfold iM;(repeat' split)<;>simp<;>omega)
 have M:∀ {o:Int},¬i.1=7->¬i.1=9->(i.1=7->i.2.2.1=3->i.2.2.2.2.1=2->o=3\/o=4)/\(i.1=9->i.2.1=3->i.2.2.2.2.1=2->o=3\/o=4):=λh1 h2=>⟨λh=>(h1 h).elim,λh=>(h2 h).elim⟩
 have wk:∀ {b r n:Int},b=3->n=2->(n=2->r=0\/r=1)->bm .i64 (b+r)=3\/bm .i64 (b+r)=4:=λh1 h2 I=>by
  have:=I h2;rw[ib (by omega) (by omega)];omega
 refine aY (λx=>x.2=(i,t)/\(x.1=ai->i.1=6\/i.1=27)) (aK (λh=>ar ⟨rfl,λ_=>.inl h⟩) λ_=>ar ⟨rfl,λh=>.inr (bg h)⟩) ?_;rintro⟨b,x⟩ ⟨e,hb⟩;dsimp only at e hb;subst e;refine aP (λh=>ar (M (by have:=hb h;omega) (by have:=hb h;omega))) λ_=>?_
 refine aK (λh=>?_) λU=>?_
 .exact aR (J (.inl h)).1 (J (.inl h)).2 (aS (ax (R6 _ _) λy Y=>ar ⟨λ_ I Z=>wk I Z Y,λh9=>by dsimp only at h;omega⟩))
 refine aK (λh=>?_) λn9=>?_
 .exact aR (J (.inr h)).1 (J (.inr h)).2 (aS (ax (R6 _ _) λy Y=>ar ⟨λh7=>(U h7).elim,λ_ I Z=>wk I Z Y⟩))
 refine aY (λ_=>True) ?_ λx _=>aP (λ_=>ar (M U n9)) λ_=>ar (M U n9)
 with_reducible repeat' first|(refine OS.ok ?_;constructor)|refine IM.mk λ_=>?_
 all_goals trivial
theorem afg {w:WT} (I:w.1=C0) {b n:Int} (h:AR w b n):b=3/\n=2:=by
 obtain⟨b0,b1,ix,sz,sn⟩:=h;rw[I] at b1 ix sz sn;have b1:b<5:=b1;rcases (by omega:b=0\/b=1\/b=2\/b=3\/b=4) with rfl|rfl|rfl|rfl|rfl
 .exact (sz rfl).elim
 .exact (sz rfl).elim
 .exact (sz rfl).elim
 .exact⟨rfl,sn.symm⟩
 .exact cZ ix (by decide)
theorem aeu {w:WT} (I:w.1=C0) {o:Int} (h:o=3\/o=4):¬(aJ (T:=OQ) w.1 o).2.2.1=0:=by
 rw[I];rcases h with rfl|rfl<;>decide
structure PE (n:Nat) (c:CT) (s:ST) (t:Int) (e:ET):Prop where
 fs:FSx c s
 t0:0<=t
 t1:t<(c.2.length:Int)
 et:e.1=t
 d:e.2.2.2.2.2.1.length<=n
 f:e.2.2.2.2.2.2.length<=n
 a:e.2.1=3\/e.2.1=23\/e.2.1=5->0<=(aJ (T:=Bc) (aJ (T:=vD) c.2 t).2 (aJ (T:=ur) s.2.2.2 t).1).2.1/\(aJ (T:=Bc) (aJ (T:=vD) c.2 t).2 (aJ (T:=ur) s.2.2.2 t).1).2.1<((aJ (T:=ur) s.2.2.2 t).2.1.length:Int)
 b:e.2.1=4\/e.2.1=22->0<=(aJ (T:=Bc) (aJ (T:=vD) c.2 t).2 (aJ (T:=ur) s.2.2.2 t).1).2.2.1/\(aJ (T:=Bc) (aJ (T:=vD) c.2 t).2 (aJ (T:=ur) s.2.2.2 t).1).2.2.1<((aJ (T:=ur) s.2.2.2 t).2.1.length:Int)
structure PS (c:CT) (L:List ET) (s:ST) (t:Int) (e:ET):Prop where
 tg:TG c L s.1 t (aJ (T:=ur) s.2.2.2 t)
 s1:e.2.1=1\/e.2.1=2->e.2.2.2.2.1= -1
 s2:¬(e.2.1=1\/e.2.1=2)->0<=e.2.2.2.2.1/\e.2.2.2.2.1<c.1.2.2.2.2.2.length/\(aJ (T:=xA) c.1.2.2.2.2.2 e.2.2.2.2.1).1=t
 de:0<e.2.2.2.2.2.1.length->e.2.1=5\/(e.2.1=3\/e.2.1=4)/\¬(aJ (T:=OQ) c.1.1 e.2.2.1).2.2.1=0
 fr:0<e.2.2.2.2.2.2.length->e.2.1=4\/e.2.1=22
 da:GR e.2.2.2.2.2.1
 dq:∀ y∈e.2.2.2.2.2.1,FQ L t y
 fa:GR e.2.2.2.2.2.2
 fq:∀ y∈e.2.2.2.2.2.2,FQ L t y
 wt:e.2.1=16->(aJ (T:=Bc) (aJ (T:=vD) c.2 t).2 (aJ (T:=ur) s.2.2.2 t).1).1=21
theorem U5 (n:Nat) (hn:n<=100000) (c:CT) (L:List ET) (s:ST) (hc:CB c) (hs:SV n L s) (hI:Kt c L s) (t:Int):Ok (ny (c,s,t)) λy=>y.2=ai->PE n c s t y.1/\PS c L s t y.1:=by
 unfold ny aX bl bw bL dw cS bf bz bF bK aZ aF;refine aY (λx=>x.2.1=c/\x.2.2.1=s/\(x.1=aj->FSx c s/\0<=t/\t<(c.2.length:Int))) ?_ ?_
 .refine ax (ad1 c s hc) λb hb=>?_
  refine dO (λ_=>ar ⟨rfl,rfl,λh=>(by cases h)⟩) λh=>?_
  refine bI (λ_=>ar ⟨rfl,rfl,λh=>(by cases h)⟩) λg0=>ar ⟨rfl,rfl,λg1=>?_⟩
  dsimp only at g0 g1;rw[kT] at g1;exact⟨hb h,g0,g1⟩
 rintro⟨b,c',s',z⟩ ⟨e1,e2,hb⟩;dsimp only at e1 e2 hb;subst e1;subst e2;refine aP (λ_=>ar λh=>(by cases h)) λh=>?_
 obtain⟨hf,t0,t1⟩:=hb h;have hk:((t.toNat:Nat):Int)=t:=by omega
 have htf:=hf.t t.toNat (by omega);rw[hk] at htf;have hvt:=hf.vc.t _ (bG (T:=vD) (xs:=c'.2) (j:=t) t0 t1);have hth:=hs.ti t0 (by rw[hf.th];exact t1);have key:∀ e:ET,e.1=t->e.2.2.2.2.2.1.length<=n->e.2.2.2.2.2.2.length<=n->(e.2.1=1\/e.2.1=17\/KD (aJ (T:=Bc) (aJ (T:=vD) c'.2 t).2 (aJ (T:=ur) s'.2.2.2 t).1).1 e.2.1)->PE n c' s' t e:=by
  intro e h1 h2 h3 J;have hi:=hvt.i _ (bG (T:=Bc) (xs:=(aJ (T:=vD) c'.2 t).2) (j:=(aJ (T:=ur) s'.2.2.2 t).1) htf.p0 htf.p1);refine ⟨hf,t0,t1,h1,h2,h3,λh5=>?_,λh5=>?_⟩
  .rw[htf.r];rcases J with J|J|J
   .omega
   .omega
   .refine hi.r _ ?_;have a1:=J.ld;have a2:=J.ge;have a3:=J.br;revert a1 a2 a3 h5;generalize (aJ (T:=Bc) (aJ (T:=vD) c'.2 t).2 (aJ (T:=ur) s'.2.2.2 t).1)=i;intro h5 a1 a2 a3;exact af1 (by omega)
  .rw[htf.r];rcases J with J|J|J
   .omega
   .omega
   .refine hi.r _ ?_;have a1:=J.st;have a2:=J.se;revert a1 a2 h5;generalize (aJ (T:=Bc) (aJ (T:=vD) c'.2 t).2 (aJ (T:=ur) s'.2.2.2 t).1)=i;intro h5 a1 a2;exact af0 (by omega)
 have hir:=(hvt.i _ (bG (T:=Bc) (xs:=(aJ (T:=vD) c'.2 t).2) (j:=(aJ (T:=ur) s'.2.2.2 t).1) htf.p0 htf.p1)).r;rw[<- htf.r] at hir;have hrg:=hc.rg _ (bG (T:=vD) (xs:=c'.2) (j:=t) t0 t1);have htg:TG c' L s'.1 t (aJ (T:=ur) s'.2.2.2 t):=by
  have:=hI.t t.toNat (by rw[hf.th];omega);rw[hk] at this;refine this.resolve_left λh=>?_
  have:=htf.r;omega
 have hvj:=hf.vc.j t.toNat (by omega);rw[hk] at hvj;have hvj:=hvj _ (bG (T:=Bc) (xs:=(aJ (T:=vD) c'.2 t).2) (j:=(aJ (T:=ur) s'.2.2.2 t).1) htf.p0 htf.p1);have hC0:=hc.wx.c;refine aR t0 (by dsimp only;rw[hf.th];exact t1) (aS ?_);refine aR t0 t1 (aS ?_);refine aR htf.p0 htf.p1 (aS ?_);have t4:t<(s'.1.2.2.2.length:Int):=by rw[hf.e3,<-hf.vc.tl];exact t1
 have tz:(aJ (T:=ur) s'.2.2.2 t).2.2.1.length=(aJ (T:=ur) s'.2.2.2 t).2.1.length:=by have:=htf.r;have:=htf.t;omega
 refine aR t0 t4 (aS ?_);refine aK (λ_=>ar λ_=>⟨key _ rfl (jR _) (jR _) (.inl rfl),⟨htg,λ_=>rfl,λh=>(h (.inl rfl)).elim,λh=>(by cases h),λh=>(by cases h),trivial,λy Z=>(by cases Z),trivial,λy Z=>(by cases Z),λh=>(by cases h)⟩⟩) λ_=>?_
 refine aK (λJ=>aR t0 t4 (aS (ar λ_=>⟨key _ rfl (jR _) (jR _) (.inr (.inl rfl)),⟨htg,λh=>(by rcases h with h|h<;>cases h),λ_=>hvj.si (by rw[htg.wi (.inr J)];decide),λh=>(by cases h),λh=>(by cases h),trivial,λy Z=>(by cases Z),trivial,λy Z=>(by cases Z),λh=>(by cases h)⟩⟩))) λ_=>?_
 refine aK (λ_=>?_) λ_=>ar λh=>(by cases h)
 refine ax (aci _) λk I=>?_
 refine ax (Px _ _ hir) λo ho=>?_
 refine aK (λ_=>ar λh=>(by cases h)) λM=>?_
 have fin:∀ e:ET,e.1=t->e.2.1=k->e.2.2.1=o->e.2.2.2.2.1=(aJ (T:=Bc) (aJ (T:=vD) c'.2 t).2 (aJ (T:=ur) s'.2.2.2 t).1).2.2.2.2.2->(0<e.2.2.2.2.2.1.length->(aJ (T:=Bc) (aJ (T:=vD) c'.2 t).2 (aJ (T:=ur) s'.2.2.2 t).1).1=10\/(aJ (T:=Bc) (aJ (T:=vD) c'.2 t).2 (aJ (T:=ur) s'.2.2.2 t).1).1=7\/(aJ (T:=Bc) (aJ (T:=vD) c'.2 t).2 (aJ (T:=ur) s'.2.2.2 t).1).1=9)->(0<e.2.2.2.2.2.2.length->(aJ (T:=Bc) (aJ (T:=vD) c'.2 t).2 (aJ (T:=ur) s'.2.2.2 t).1).1=8\/(aJ (T:=Bc) (aJ (T:=vD) c'.2 t).2 (aJ (T:=ur) s'.2.2.2 t).1).1=9\/(aJ (T:=Bc) (aJ (T:=vD) c'.2 t).2 (aJ (T:=ur) s'.2.2.2 t).1).1=26)->TL (FQ L t) n e.2.2.2.2.2.1->TL (FQ L t) n e.2.2.2.2.2.2->PE n c' s' t e/\PS c' L s' t e:=by
  intro e h1 h2 h3 J h5 h6 h7 h8;refine ⟨key e h1 h7.len h8.len (.inr (.inr (h2▸I))),htg,λh=>?_,λh=>?_,λh=>?_,λh=>?_,h7.a,h7.f,h8.a,h8.f,λh=>I.wt (h2▸h)⟩
  .rw[J];rw[h2] at h;exact hvj.se (I.e1 (h.resolve_left I.n1))
  .rw[J];rw[h2] at h;exact hvj.si λh9=>h (.inr (I.e2 M h9))
  .rw[h2,h3];rcases h5 h with g|g|g
   .exact .inl (I.d10 M g)
   .obtain⟨q1,q2⟩:=afg hC0 (hvj.a7 g);exact .inr ⟨.inl (I.d7 M g),aeu hC0 (ho.1 g q1 q2)⟩
   .obtain⟨q1,q2⟩:=afg hC0 (hvj.a9 g);exact .inr ⟨.inr (I.d9 M g),aeu hC0 (ho.2 g q1 q2)⟩
  .rw[h2];rcases h6 h with g|g|g
   .exact .inl (I.d8 M g)
   .exact .inl (I.d9 M g)
   .exact .inr (I.d26 M g)
 clear key htg hvj ho hC0 hrg;revert fin htf hvt hth hir tz I;dsimp only;generalize (aJ (T:=ur) s'.2.2.2 t)=th;generalize (aJ (T:=Bc) _ th.1)=i;intro htf hvt hth hir tz I fin;have hlen:∀ {j:Int},0<=j->j<(th.2.2.1.length:Int)->TL (FQ L t) n (aJ (T:=.sl (.int .i64)) th.2.2.1 j):=λh0 h1=>hth.l _ (bG (T:=.sl (.int .i64)) (xs:=th.2.2.1) h0 h1)
 have hA:i.1=10->0<=i.2.1/\i.2.1<(th.2.2.1.length:Int):=λh=>by
  rw[tz];exact hir _ (af1 (.inr (.inr (.inr h))))
 have hB:i.1=8\/i.1=9\/i.1=26->0<=i.2.2.1/\i.2.2.1<(th.2.2.1.length:Int):=λh=>by
  rw[tz];exact hir _ (af0 (h))
 have hC:i.1=7\/i.1=9->0<=i.2.2.2.1/\i.2.2.2.1<(th.2.2.1.length:Int):=λh=>by
  rw[tz];exact hir _ (ajk (h))
 refine aY (λx=>x.2.1=th/\x.2.2.1=i/\(x.2.2.2.1.1=t/\x.2.2.2.1.2.1=k/\x.2.2.2.1.2.2.1=o/\x.2.2.2.1.2.2.2.2=i.2.2.2.2.2)/\TL (FQ L t) n x.2.2.2.2/\(0<x.2.2.2.2.length->i.1=10\/i.1=7\/i.1=9)) ?_ ?_
 .refine aK (λh=>?_) λ_=>?_
  .obtain⟨a0,a1⟩:=hA h;refine aR a0 a1 (aS ?_);have:=hlen a0 a1;exact bn (dj this.len (by omega)) (by omega) (ar ⟨rfl,rfl,⟨rfl,rfl,rfl,rfl⟩,this,λ_=>.inl h⟩)
  refine aY (λx=>x.2.2.1=th/\x.2.2.2.1=i/\(x.2.2.2.2.1=t/\x.2.2.2.2.2.1=k/\x.2.2.2.2.2.2.1=o/\x.2.2.2.2.2.2.2.2=i.2.2.2.2.2)/\(x.1=ai->i.1=7\/i.1=9)) ?_ ?_
  .refine aK (λh=>ar ⟨rfl,rfl,⟨rfl,rfl,rfl,rfl⟩,λ_=>.inl h⟩) λ_=>ar ⟨rfl,rfl,⟨rfl,rfl,rfl,rfl⟩,λh=>.inr (bg h)⟩
  rintro⟨b,z0,th',Y,t',k',z1⟩ ⟨e1,e2,e3,U⟩;dsimp only at e1 e2 e3 U;subst e1;subst e2;refine aP (λh=>?_) λ_=>ar ⟨rfl,rfl,e3,TL.nil n,λh=>(by cases h)⟩
  obtain⟨a0,a1⟩:=hC (U h);refine aR a0 a1 (aS ?_);have:=hlen a0 a1;exact bn (dj this.len (by omega)) (by omega) (ar ⟨rfl,rfl,e3,this,λ_=>.inr (U h)⟩)
 rintro⟨z0,th',Y,⟨t',k',z1⟩,ds⟩ ⟨e1,e2,e3,hd,hd2⟩;dsimp only at e1 e2 e3 hd hd2;subst e1;subst e2;refine aY (λx=>(x.2.1.1=t/\x.2.1.2.1=k/\x.2.1.2.2.1=o/\x.2.1.2.2.2.2=Y.2.2.2.2.2)/\x.2.2.1=ds/\TL (FQ L t) n x.2.2.2/\(0<x.2.2.2.length->Y.1=8\/Y.1=9\/Y.1=26)) ?_ ?_
 .refine aY (λx=>x.2=(z0,th',Y,(t',k',z1),ds)/\(x.1=ai->Y.1=8\/Y.1=9\/Y.1=26)) ?_ ?_
  .exact aK (λh=>ar ⟨rfl,λ_=>.inl h⟩) λ_=>aK (λh=>ar ⟨rfl,λ_=>.inr (.inl h)⟩) λ_=>ar ⟨rfl,λh=>.inr (.inr (bg h))⟩
  rintro⟨b,x⟩ ⟨e,U⟩;dsimp only at e U;subst e;refine aP (λh=>?_) λ_=>ar ⟨e3,rfl,TL.nil n,λh=>(by cases h)⟩
  obtain⟨a0,a1⟩:=hB (U h);refine aR a0 a1 (aS ?_);have:=hlen a0 a1;exact bn (dj this.len (by omega)) (by omega) (ar ⟨e3,rfl,this,λ_=>U h⟩)
 rintro⟨z2,⟨t2,k2,o2,z3,si⟩,d2,f2⟩ ⟨e1,e2,h1,h2⟩;dsimp only at e1 e2 h1 h2;subst e2;obtain⟨g1,g2,g3,g4⟩:=e1;exact ar λ_=>fin _ g1 g2 g3 g4 hd2 h2 hd h1
theorem ag4 {n:Nat} {k:Int} (h0:0<=k) (h1:k<n):(aJ (T:=jy) (Wy n) k).1=0\/(aJ (T:=jy) (Wy n) k).1=1:=by
 have hm:=bG (T:=jy) (xs:=Wy n) h0 (by rw[G2];exact h1);revert hm;generalize aJ (T:=jy) (Wy n) k=z;intro hm;cases n with
 |zero=>cases hm
 |succ n=>
  rcases bi.1 hm with rfl|hm
  .exact .inr rfl
  .rw[pq hm];exact .inl rfl
theorem U3 (c:CT) (hvt:jC c=af ai) (hv:VC c):Ok (tQ c) λs=>SV 0 [] s/\Kt c [] s:=by
 unfold tQ aX bl bw cz bL dw cS fc bz vI bF bK aZ cP aF cF;refine aV hvt (dO (λh=>(by cases h)) λ_=>?_);obtain⟨vc,vl,vd,Z,_,Y,_⟩:=id hv.vl;have htl:=hv.tl;refine aV (J_ c.1 hv.vl) ?_;refine ci c.1.1.length (λi x=>x.1=(i:Int)/\x.2.1=c/\x.2.2.2.1=OR c.1/\x.2.2.2.2=(c.1.1.take i).map λc=>c.2.2.2.2) ?_ ?_ ⟨rfl,rfl,rfl,rfl⟩
 .rintro i ⟨a,c',z,U,l⟩ hi ⟨e1,e2,e3,I⟩;dsimp only at e1 e2 e3 I;subst e1;subst e2;subst e3;subst I;refine dv ?_;refine cA (aS (bn (by simp;omega) (by omega) (ar ?_)));dsimp only;exact⟨gO (by omega),rfl,rfl,by rw[nQ (T:=OQ) hi,cQ];rfl⟩
 rintro⟨a,c',z,U,l⟩ ⟨e1,e2,e3,I⟩;dsimp only at e1 e2 e3 I;subst e1;subst e2;subst e3;rw[cR] at I;subst I;refine dc ?_;refine ax (P:=λs=>SV 0 [] s/\Kt c' [] s) ?_ λr hr=>ar hr
 refine ci c'.1.2.2.2.1.length (λi x=>x.1=(i:Int)/\x.2.1=c'/\x.2.2.2.1=OR c'.1/\x.2.2.2.2.1=Z9 c'.1/\x.2.2.2.2.2=aG i 0) ?_ ?_ ⟨rfl,rfl,rfl,rfl,rfl⟩
 .rintro i ⟨a,c,z,y,l,f⟩ hi ⟨e1,e2,e3,I,J⟩;dsimp only at e1 e2 e3 I J;subst e1;subst e2;subst e3;subst J;refine dv ?_;refine bn (by simp;omega) (by omega) (ar ?_);dsimp only;exact⟨gO (by omega),rfl,rfl,I,by rw[DC]⟩
 rintro⟨a,c,z,y,l,f⟩ ⟨e1,e2,e3,I,J⟩;dsimp only at e1 e2 e3 I J;subst e1;subst e2;subst e3;subst I;subst J;refine dc ?_;refine ax (P:=λs=>SV 0 [] s/\Kt c [] s) ?_ λr hr=>ar hr
 refine ci c.2.length (λi x=>x.1=(i:Int)/\x.2.1=c/\x.2.2.2.1=OR c.1/\x.2.2.2.2.1=Z9 c.1/\x.2.2.2.2.2.1=fu0 c.1/\x.2.2.2.2.2.2.length=i/\∀ t∈x.2.2.2.2.2.2,(∀ F,TH F 0 t)/\t.2.2.2=0) ?_ ?_ ⟨rfl,rfl,rfl,rfl,rfl,rfl,λt ht=>(by cases ht)⟩
 .rintro i ⟨a,c,z,y,l,f,th⟩ hi ⟨e1,e2,e3,I,e4b,J,M⟩;dsimp only at e1 e2 e3 I e4b J M;subst e1;subst e2;subst e3;refine dv ?_;have hin:((i:Nat):Int)<(c.2.length:Int):=by omega
  have hvt:=hv.t _ (bG (T:=vD) (xs:=c.2) (j:=(i:Int)) (by omega) hin);have q0:=hvt.r0;have q1:=hvt.r1;refine aR (by dsimp only;omega) hin (aS ?_);refine dt (dt (eH q0 (eH (eX _) (bn (by dsimp only;omega) (by omega) ?_))));refine aR (by dsimp only;omega) hin (aS ?_);refine dt (dt (eH q0 (eH (eX _) (bn (by dsimp only;omega) (by omega) ?_))));refine bn (by simp;omega) (by omega) (ar ?_);dsimp only;refine ⟨gO (by omega),rfl,rfl,I,e4b,by simp;omega,λt ht=>?_⟩;rcases bP.1 ht with h|h
  .exact M t h
  .rw[aL] at h;subst h;refine ⟨λF=>⟨?_,?_,λl hl=>?_,eX _,eX _⟩,rfl⟩
   .dsimp only;rw[eE];omega
   .dsimp only;rw[eE];omega
   .rw[pq hl];exact TL.nil 0
 .rintro⟨a,c,z,y,l,f,th⟩ ⟨e1,e2,e3,I,e4b,J,M⟩;dsimp only at e1 e2 e3 I e4b J M;subst e1;subst e2;subst e3;subst I;subst e4b;refine dc (ar ?_);have hm:∀ k:Nat,k<th.length->_:=λk hk=>M _ (bG (T:=ur) (xs:=th) (j:=(k:Int)) (by omega) (by omega))
  refine ⟨⟨SE hv.vl,rfl,λk hk=>(hm k hk).1 _⟩,⟨.nil,λk hk=>.inr ?_⟩⟩;dsimp only at hk;have hst:=ag4 (n:=c.1.2.2.2.2.1.length) (k:=(k:Int)) (by omega) (by omega);exact⟨(hm k hk).2,λh=>(by rcases hst with q|q<;>rcases h with h|h<;>exact cZ (q.symm.trans h) (by decide)),λ_=>hst⟩
theorem HA {th:List (Int×Int×Bool)} {t x j:Int} (h0:0<=t) (h1:t<th.length) (hj:0<=j):(aJ (T:=jy) (xB th t x) j).1=if j=t then x else (aJ (T:=jy) th j).1:=by
 unfold xB;rw[ry (T:=jy) _ _ _ _ h0 h1 hj];split<;>rfl
theorem af9 {th:List (Int×Int×Bool)} {t x j:Int} (h0:0<=t) (h1:t<th.length) (hj:0<=j):(aJ (T:=jy) (cdP th t x) j).1=(aJ (T:=jy) th j).1:=by
 unfold cdP;rw[ry (T:=jy) _ _ _ _ h0 h1 hj];split
 .rename_i h;rw[h]
 .rfl
theorem aff {th:List (Int×Int×Bool)} {t j:Int} {x:Bool} (h0:0<=t) (h1:t<th.length) (hj:0<=j):(aJ (T:=jy) (atP th t x) j).1=(aJ (T:=jy) th j).1:=by
 unfold atP;rw[ry (T:=jy) _ _ _ _ h0 h1 hj];split
 .rename_i h;rw[h]
 .rfl
theorem af3 {j:Int} (hj:0<=j):∀ (l:List Int) (th:List (Int×Int×Bool)),(∀ u:Int,u∈l->0<=u/\u<th.length)->(aJ (T:=jy) (Cm th l) j).1=if j∈l then 4 else (aJ (T:=jy) th j).1
 |[],th,_=>by simp[Cm]
 |x::r,th,h=>by
  have I:=h x (dz ..);have J:=af3 hj r (xB th x 4) λu hu=>by unfold xB;rw[bV];exact h u (cM _ hu)
  have e:Cm th (x::r)=Cm (xB th x 4) r:=rfl;rw[e,J,HA I.1 I.2 hj];by_cases h1:j∈r
  .rw[aE h1,aE (cM _ h1)]
  .rw[aB h1];by_cases h2:j=x
   .rw[aE h2,aE (by rw[h2];exact dz ..)]
   .rw[aB h2,aB λh=>(bi.1 h).elim h2 h1]
theorem Hj {l:List Int} (u:Int) (hl:¬l.length=0):AS l u∈l:=by
 unfold AS;rw[aB hl];split
 .rename_i h;exact sM.1 h
 .exact bG (T:=.int .i64) (by omega) (by omega)
theorem RH {w:WT} {s:SY} {t k o u v:Int} {sy:SY} (h:(sy,v)=oG w s t k o u):oG w s t k o v=(sy,v):=by
 by_cases hk:k=18
 .subst hk;rw[EM] at h ⊢;by_cases hl:(wl s.2.2.2 o s.2.2.2.length).length=0
  .rw[aE hl] at h ⊢;exact h.symm
  .rw[aB hl] at h ⊢;have hm:=Hj u hl;generalize wl s.2.2.2 o s.2.2.2.length=l at h hl hm ⊢;obtain⟨rfl,rfl⟩:=Prod.mk.inj h;have:AS l (AS l u)=AS l u:=by
    rw[AS,aB hl,aE (sM.2 hm)]
   rw[this]
 .rw[Wm _ _ _ _ _ _ u hk,<-h]
theorem agz {w:WT} {s:SY} {t k o:Int} (u:Int) (he:EN w s t k o) (hr:So w s t k o) {j:Int} (h0:0<=j):(¬j=t->(aJ (T:=jy) (oG w s t k o u).1.2.2.2 j).1=(aJ (T:=jy) s.2.2.2 j).1\/((aJ (T:=jy) s.2.2.2 j).1=3/\(aJ (T:=jy) (oG w s t k o u).1.2.2.2 j).1=4)\/((aJ (T:=jy) s.2.2.2 j).1=0/\(aJ (T:=jy) (oG w s t k o u).1.2.2.2 j).1=1))/\(j=t->¬k=16->¬(aJ (T:=jy) (oG w s t k o u).1.2.2.2 j).1=3/\¬(aJ (T:=jy) (oG w s t k o u).1.2.2.2 j).1=4):=by
 have t0:=he.t0;have t1:t<s.2.2.2.length:=by have:=he.t1;have:=he.e3;omega
 have M:=hr.r;have hml:∀ u:Int,u∈wl s.2.2.2 o s.2.2.2.length->0<=u/\u<s.2.2.2.length:=λu hu=>⟨(qT.1 hu).1,(qT.1 hu).2.1⟩
 have h3:∀ u:Int,u∈wl s.2.2.2 o s.2.2.2.length->(aJ (T:=jy) s.2.2.2 u).1=3:=λu hu=>by
  have:=(qT.1 hu).2.2;unfold Hq at this;rw[av] at this;exact bg this.1
 have same:¬k=1->¬k=17->∀ th:List (Int×Int×Bool),(aJ (T:=jy) th j).1=(aJ (T:=jy) s.2.2.2 j).1->(¬j=t->(aJ (T:=jy) th j).1=(aJ (T:=jy) s.2.2.2 j).1\/((aJ (T:=jy) s.2.2.2 j).1=3/\(aJ (T:=jy) th j).1=4)\/((aJ (T:=jy) s.2.2.2 j).1=0/\(aJ (T:=jy) th j).1=1))/\(j=t->¬k=16->¬(aJ (T:=jy) th j).1=3/\¬(aJ (T:=jy) th j).1=4):=λa b th h=>⟨λ_=>.inl h,λh2 _=>by rw[h,h2,M a b];decide⟩
 have st:∀ x:Int,¬x=3\/k=16->¬x=4->∀ th:List (Int×Int×Bool),(aJ (T:=jy) th j).1=(if j=t then x else (aJ (T:=jy) s.2.2.2 j).1)->(¬j=t->(aJ (T:=jy) th j).1=(aJ (T:=jy) s.2.2.2 j).1\/((aJ (T:=jy) s.2.2.2 j).1=3/\(aJ (T:=jy) th j).1=4)\/((aJ (T:=jy) s.2.2.2 j).1=0/\(aJ (T:=jy) th j).1=1))/\(j=t->¬k=16->¬(aJ (T:=jy) th j).1=3/\¬(aJ (T:=jy) th j).1=4):=λx hx hx4 th h=>⟨λhn=>.inl (by rw[h,aB hn]),λh2 h16=>by rw[h,aE h2];exact⟨hx.resolve_right h16,hx4⟩⟩
 have U:∀ x:Int,t<(xB s.2.2.2 t x).length:=λx=>by unfold xB;rw[bV];exact t1
 by_cases k1:k=1
 .subst k1;exact st 2 (.inl (by decide)) (by decide) _ (HA t0 t1 h0)
 by_cases k2:k=2
 .subst k2;exact st 5 (.inl (by decide)) (by decide) _ (HA t0 t1 h0)
 by_cases k16:k=16
 .subst k16;exact st 3 (.inr rfl) (by decide) _ ((af9 t0 (U _) h0).trans (HA t0 t1 h0))
 by_cases I:k=17
 .subst I;exact st 2 (.inl (by decide)) (by decide) _ ((af9 t0 (U _) h0).trans (HA t0 t1 h0))
 by_cases k14:k=14
 .subst k14;exact same k1 I _ (aff t0 t1 h0)
 by_cases k15:k=15
 .subst k15;exact same k1 I _ (aff t0 t1 h0)
 by_cases k18:k=18
 .subst k18;rw[EM];by_cases hl:(wl s.2.2.2 o s.2.2.2.length).length=0
  .rw[aE hl];exact same k1 I _ rfl
  .rw[aB hl];have hc:=Hj u hl;have Y:=hml _ hc;have J:=h3 _ hc;dsimp only;rw[HA Y.1 Y.2 h0];generalize AS (wl s.2.2.2 o s.2.2.2.length) u=c at J;by_cases hj:j=c
   .rw[aE hj,hj];exact⟨λ_=>.inr (.inl ⟨J,rfl⟩),λh _=>by rw[h,M k1 I] at J;exact cZ J (by decide)⟩
   .rw[aB hj];exact⟨λ_=>.inl rfl,λh _=>by rw[h,M k1 I];decide⟩
 by_cases k19:k=19
 .subst k19;show (_->(aJ (T:=jy) (Cm _ _) j).1=_\/_/\(aJ (T:=jy) (Cm _ _) j).1=_\/_/\(aJ (T:=jy) (Cm _ _) j).1=_)/\(_->_->¬(aJ (T:=jy) (Cm _ _) j).1=_/\¬(aJ (T:=jy) (Cm _ _) j).1=_)
  rw[af3 h0 _ _ hml];by_cases hj:j∈wl s.2.2.2 o s.2.2.2.length
  .rw[aE hj];have J:=h3 _ hj;exact⟨λ_=>.inr (.inl ⟨J,rfl⟩),λh _=>by rw[h,M k1 I] at J;exact cZ J (by decide)⟩
  .rw[aB hj];exact⟨λ_=>.inl rfl,λh _=>by rw[h,M k1 I];decide⟩
 by_cases k20:k=20
 .subst k20;obtain⟨o0,o1⟩:=he.nm.th (.inl rfl);obtain⟨hot,ho0⟩:=hr.sp rfl;have Z:o<s.2.2.2.length:=by rw[he.e3];exact o1
  show (_->(aJ (T:=jy) (xB _ _ _) j).1=_\/_/\(aJ (T:=jy) (xB _ _ _) j).1=_\/_/\(aJ (T:=jy) (xB _ _ _) j).1=_)/\(_->_->¬(aJ (T:=jy) (xB _ _ _) j).1=_/\¬(aJ (T:=jy) (xB _ _ _) j).1=_)
  rw[HA o0 Z h0];by_cases hj:j=o
  .rw[aE hj,hj];exact⟨λ_=>.inr (.inr ⟨ho0,rfl⟩),λh _=>(hot h).elim⟩
  .rw[aB hj];exact⟨λ_=>.inl rfl,λh _=>by rw[h,M k1 I];decide⟩
 refine same k1 I _ ?_;unfold oG;rw[aB k1,aB k2];repeat' split
 all_goals first|rfl|omega
theorem ad0 {e e':ET} (h1:e'.1=e.1) (h2:e'.2.1=e.2.1) (t:Int):fl [e'] t=fl [e] t:=by
 by_cases h:e.1=t
 .rw[yQ h,yQ (h1.trans h)];unfold sW;rw[h2]
 .rw[wa h,wa (λg=>h (h1.symm.trans g))]
theorem aem {L:List ET} {e e':ET} (h1:e'.1=e.1) (h2:e'.2.1=e.2.1) {k y:Int} (h:FQ (L++[e]) k y):FQ (L++[e']) k y:=by
 unfold FQ Kh at h ⊢;rw[uh,ad0 h1 h2,<-uh];exact h
theorem IA {T:Ty} (xs:List T.den) (i k:Nat) (x:T.den) (hi:i<xs.length):aJ (xs.set i x) (k:Int)=if k=i then x else aJ xs (k:Int):=by
 refine (ry xs (i:Int) (k:Int) x (by omega) (by omega) (by omega)).trans ?_;by_cases h:k=i
 .rw[aE h,aE (by omega)]
 .rw[aB h,aB (by omega)]
def SQ (n:Nat) (c:CT) (L:List ET) (y:ST×ET×Bool):Prop:=y.2.2=ai->SV (n+1) (L++[y.2.1]) y.1/\Kt c (L++[y.2.1]) y.1/\EvF c.1 y.2.1/\Yk y.2.1
theorem ae2 {n:Nat} (hn:n+1<=100000) {c:CT} {L:List ET} {s:ST} {i:Nat} {kd o v0 si:Int} {ds fs:List Int} {sy:SY} (hs:SV n L s) (hI:Kt c L s) (hp:PE n c s (i:Int) ((i:Int),kd,o,v0,si,ds,fs)) (hm:PS c L s (i:Int) ((i:Int),kd,o,v0,si,ds,fs)) (he:EN c.1 s.1 (i:Int) kd o) (hr:So c.1 s.1 (i:Int) kd o) (ha:AP n s.1 sy) (I:Int) (ce fu:List Int) (t':TT) (hap:(oG c.1 s.1 (i:Int) kd o I).1=sy) (hva:VA c.1 s.1 s.2.1 s.2.2.1 (i:Int) kd o I) (hce:ce=XN s.2.1 ((i:Int),kd,o,I,si,ds,fs)) (hfu:fu=YA s.2.2.1 ((i:Int),kd,o,I,si,ds,fs)) (ht:TH (FQ (L++[((i:Int),kd,o,v0,si,ds,fs)]) (i:Int)) (n+1) t') (hg:t'.2.1.length=0\/t'.2.2.2=bm .i64 ((aJ (T:=ur) s.2.2.2 (i:Int)).2.2.2+1)/\(kd=16->t'.1=(aJ (T:=ur) s.2.2.2 (i:Int)).1)):SQ n c L ((sy,ce,fu,s.2.2.2.set i t'),((i:Int),kd,o,I,si,ds,fs),ai):=by
 intro _;have q1:=hp.t1;have q2:=hp.fs.th;have q3:=hp.fs.e3;have q4:=hp.fs.vc.tl;have hil:i<s.2.2.2.length:=by omega
 have hln:=hs.ln;refine ⟨⟨ha.toSB hs.sb hn,by simp[hln],λk hk=>?_⟩,⟨?_,λk hk=>?_⟩,⟨he.nm,he.t0,he.t1,he.cd⟩,⟨dj hp.d (by omega),dj hp.f (by omega)⟩⟩
 .dsimp only at hk ⊢;rw[sx] at hk;rw[IA (T:=ur) _ _ _ _ hil];split
  .rename_i h;subst h;exact ht.mono (bT _) λy J=>aem (e:=((k:Int),kd,o,v0,si,ds,fs)) (e':=((k:Int),kd,o,I,si,ds,fs)) rfl rfl J
  .exact (hs.t k hk).mono (by omega) λy J=>⟨J.1,J.2.app _⟩
 .rw[<- hap,hce,hfu];exact hI.ac.snoc (e:=((i:Int),kd,o,I,si,ds,fs)) ⟨he,hr,hm.s1,hm.s2,hm.de,hm.fr,⟨hm.da,λx U=>⟨(hm.dq x U).1,(hm.dq x U).2.lt⟩⟩,⟨hm.fa,λx U=>⟨(hm.fq x U).1,(hm.fq x U).2.lt⟩⟩,λy J=>(hm.dq y J).2,λy J=>(hm.fq y J).2,hva⟩
 .dsimp only at hk ⊢;rw[sx] at hk;rw[IA (T:=ur) _ _ _ _ hil];obtain⟨HB,YR⟩:=agz I he hr (j:=(k:Int)) (by omega);rw[hap] at HB YR;have hfl:=VV L (i:Int);split
  .rename_i h;subst h;rcases hg with hg|⟨g1,g2⟩
   .exact .inl hg
   .refine .inr ⟨?_,λZ=>?_,λM=>?_⟩
    .rw[g1,hm.tg.ev,uh,yQ rfl,gO (by omega)];simp
    .have Y:kd=16:=vg λh=>Z.elim (YR rfl h).1 (YR rfl h).2
     rw[g2 Y];exact hm.wt Y
    .rw[uh,yQ rfl] at M;simp at M
  .rename_i h;have hki:¬(k:Int)=(i:Int):=by omega
   have hfo:∀ e:ET,e.1=(i:Int)->fl (L++[e]) (k:Int)=fl L (k:Int):=λe h=>by
    rw[uh,wa (by rw[h];exact λh=>hki h.symm),jT]
   have HB:=HB hki;refine (hI.t k hk).imp id λg=>⟨by rw[hfo _ rfl];exact g.ev,λZ=>g.wi (by
    rcases HB with h1|⟨h1,_⟩|⟨_,h1⟩
    .rw[<- h1];exact Z
    .exact .inl h1
    .exact Z.elim (λh=>cZ (h1.symm.trans h) (by decide)) λh=>cZ (h1.symm.trans h) (by decide)),λM=>?_⟩
   rw[hfo _ rfl] at M;have g2:=g.nw M;rcases HB with h1|⟨h1,_⟩|⟨_,h1⟩
   .rw[h1];exact g2
   .exact (g2.elim (λh=>cZ (h1.symm.trans h) (by decide)) λh=>cZ (h1.symm.trans h) (by decide))
   .exact .inr h1
theorem kj {α R:Type} (o:Option α):obind o (λ_=>(ah:Option R))=ah:=by cases o<;>rfl
theorem oF {R:Type} (b:Bool):chk b (λ_=>(ah:Option R))=ah:=by cases b<;>rfl
theorem rM {α R:Type} (x:α):lt x (λ_=>(ah:Option R))=ah:=rfl
def OX {R:Type} (o:Option R) (Q:R->Prop):Prop:=o=ah\/Ok o Q
theorem OX.or {R:Type} {a b:Option R} {Q:R->Prop} (I:OX a Q) (hb:OX b Q):OX (orE a b) Q:=by
 rcases I with rfl|⟨y,rfl,h⟩
 .exact hb
 .exact .inr ⟨y,rfl,h⟩
theorem Ok.orL {R:Type} {a b:Option R} {Q:R->Prop} (I:Ok a Q):Ok (orE a b) Q:=by
 obtain⟨y,rfl,h⟩:=I;exact⟨y,rfl,h⟩
theorem OX.orR {R:Type} {a b:Option R} {Q:R->Prop} (I:OX a Q) (hb:Ok b Q):Ok (orE a b) Q:=by
 rcases I with rfl|⟨y,rfl,h⟩
 .exact hb
 .exact⟨y,rfl,h⟩
theorem Hz {n:Nat} (hn:n+1<=100000) {c:CT} {L:List ET} {s:ST} {t u:Int} (hc:CB c) (hs:SV n L s) (U:Kt c L s) (G:Option (ST×ET×Bool)->Prop) (Y:∀ y,SQ n c L y->G (af y)) (k:ET×Bool->SY×Int×Bool->Option (ST×ET×Bool))
 (hk:∀ e v sy,PE n c s t e->PS c L s t e->EN c.1 s.1 t e.2.1 e.2.2.1->So c.1 s.1 t e.2.1 e.2.2.1->AP n s.1 sy->(sy,v)=oG c.1 s.1 t e.2.1 e.2.2.1 u->G (k (e,ai) (sy,v,ai))):
 G (obind (ny (c,s,t)) λI=>bcase (!I.2) (af ((([],0,[],[]),[],[],[]),(0,0,0,0,0,[],[]),aj)) (obind (o_ (c.1,s.1,t,I.1.2.1,I.1.2.2.1,u)) λJ=>bcase (!J.2.2) (af ((([],0,[],[]),[],[],[]),(0,0,0,0,0,[],[]),aj)) (k I J))):=by
 have M:=Y ((([],0,[],[]),[],[],[]),(0,0,0,0,0,[],[]),aj) λh=>(by cases h)
 obtain⟨⟨e,b⟩,h1,h2⟩:=U5 n (by omega) c L s hc hs U t;rw[h1,VB];cases b with
 |false=>exact M
 |true=>
  obtain⟨hp,hm⟩:=h2 rfl;have hcd:c.1.2.2.1.length<=1000:=by have:=hp.fs.vc.vl.d;omega
  obtain⟨⟨sy,v,b⟩,h3,Z,_,_⟩:=Sj c.1 s.1 hs.sb hcd t e.2.1 e.2.2.1 u;have e0:∀ {R:Type} (a b:Option R),bcase (!ai) a b=b:=λ_ _=>rfl
  rw[e0,h3,VB];cases b with
  |false=>exact M
  |true=>
   obtain⟨g1,g2,g3,g4⟩:=Z rfl;exact hk e v sy hp hm g1 g2 g3 g4
theorem Yu {E:Nat} {L:List ET} (sy:SY) (ce fu:List Int) (a:TT) (h:SV E L (sy,ce,fu,[a])) (hce:ce.length<=1000) (hfu:fu.length<=1000):mP (sy,ce,fu,[a])=af ((sy.2.1,sy.1,sy.2.2.1,sy.2.2.2).1,(sy.2.1,sy.1,sy.2.2.1,sy.2.2.2).2.1,(sy.2.1,sy.1,sy.2.2.1,sy.2.2.2).2.2.1,(sy.2.1,sy.1,sy.2.2.1,sy.2.2.2).2.2.2,(([]:List Int)++ce),(([]:List Int)++fu),((a.1,a.2.2.2),a.2.1,a.2.2.1)):=by
 have J:=h.sb.n1;have I:TH (FQ L 0) E a:=h.t 0 (by simp);refine cD ?_;unfold mP aX bL bz bF bK aZ;refine aV (qF sy h.sb) ?_;refine bn (by simp;omega) (by omega) (bn (by simp;omega) (by omega) ?_);refine fA rfl (be rfl (aS (aV (db a E J I) ?_)));exact fJ rfl (ar rfl)
theorem Sg (sy:SY) (ce fu:List Int) (l:List TT) (h0:l.length<=4) (h:l.length≠1):mP (sy,ce,fu,l)=ah:=by
 unfold mP aX bL bz bF bK aZ;rcases l with _|⟨a,_|⟨b,_|⟨c,_|⟨d,_|⟨e,l⟩⟩⟩⟩⟩;all_goals first|(simp at h;done)|(exfalso;simp only[bY] at h0;omega)|simp[fO,kj,oF,rM,bcT,bcF]
theorem Yt {E:Nat} {L:List ET} (sy:SY) (ce fu:List Int) (a b:TT) (h:SV E L (sy,ce,fu,[a,b])) (hce:ce.length<=1000) (hfu:fu.length<=1000):mO (sy,ce,fu,[a,b])=af ((sy.2.1,sy.1,sy.2.2.1,sy.2.2.2).1,(sy.2.1,sy.1,sy.2.2.1,sy.2.2.2).2.1,(sy.2.1,sy.1,sy.2.2.1,sy.2.2.2).2.2.1,(sy.2.1,sy.1,sy.2.2.1,sy.2.2.2).2.2.2,(([]:List Int)++ce),(([]:List Int)++fu),(((a.1,a.2.2.2),a.2.1,a.2.2.1).1.1,((a.1,a.2.2.2),a.2.1,a.2.2.1).1.2,((b.1,b.2.2.2),b.2.1,b.2.2.1).1.1,((b.1,b.2.2.2),b.2.1,b.2.2.1).2.1,((b.1,b.2.2.2),b.2.1,b.2.2.1).2.2,((b.1,b.2.2.2),b.2.1,b.2.2.1).1.2),((a.1,a.2.2.2),a.2.1,a.2.2.1).2):=by
 have I:=h.sb.n1;have J:TH (FQ L 0) E a:=h.t 0 (by simp);have hb:TH (FQ L 1) E b:=h.t 1 (by simp);refine cD ?_;unfold mO aX bL bz bF bK aZ;refine aV (qF sy h.sb) ?_;refine bn (by simp;omega) (by omega) (bn (by simp;omega) (by omega) ?_);refine fA rfl (be rfl (aS (aV (db a E I J) ?_)));refine fA rfl (be rfl (aS (aV (db b E I hb) ?_)));exact fJ rfl (ar rfl)
theorem Sf (sy:SY) (ce fu:List Int) (l:List TT) (h0:l.length<=4) (h:l.length≠2):mO (sy,ce,fu,l)=ah:=by
 unfold mO aX bL bz bF bK aZ;rcases l with _|⟨a,_|⟨b,_|⟨c,_|⟨d,_|⟨e,l⟩⟩⟩⟩⟩;all_goals first|(simp at h;done)|(exfalso;simp only[bY] at h0;omega)|simp[fO,kj,oF,rM,bcT,bcF]
theorem Ys {E:Nat} {L:List ET} (sy:SY) (ce fu:List Int) (a b:TT) (h:SV E L (sy,ce,fu,[a,b])) (hce:ce.length<=1000) (hfu:fu.length<=1000):mN (sy,ce,fu,[a,b])=af ((sy.2.1,sy.1,sy.2.2.1,sy.2.2.2).1,(sy.2.1,sy.1,sy.2.2.1,sy.2.2.2).2.1,(sy.2.1,sy.1,sy.2.2.1,sy.2.2.2).2.2.1,(sy.2.1,sy.1,sy.2.2.1,sy.2.2.2).2.2.2,(([]:List Int)++ce),(([]:List Int)++fu),((((a.1,a.2.2.2),a.2.1,a.2.2.1).1.1,((a.1,a.2.2.2),a.2.1,a.2.2.1).2.1,((a.1,a.2.2.2),a.2.1,a.2.2.1).2.2,((a.1,a.2.2.2),a.2.1,a.2.2.1).1.2),((b.1,b.2.2.2),b.2.1,b.2.2.1).1),((b.1,b.2.2.2),b.2.1,b.2.2.1).2):=by
 have I:=h.sb.n1;have J:TH (FQ L 0) E a:=h.t 0 (by simp);have hb:TH (FQ L 1) E b:=h.t 1 (by simp);refine cD ?_;unfold mN aX bL bz bF bK aZ;refine aV (qF sy h.sb) ?_;refine bn (by simp;omega) (by omega) (bn (by simp;omega) (by omega) ?_);refine fA rfl (be rfl (aS (aV (db a E I J) ?_)));refine fA rfl (be rfl (aS (aV (db b E I hb) ?_)));exact fJ rfl (ar rfl)
theorem Se (sy:SY) (ce fu:List Int) (l:List TT) (h0:l.length<=4) (h:l.length≠2):mN (sy,ce,fu,l)=ah:=by
 unfold mN aX bL bz bF bK aZ;rcases l with _|⟨a,_|⟨b,_|⟨c,_|⟨d,_|⟨e,l⟩⟩⟩⟩⟩;all_goals first|(simp at h;done)|(exfalso;simp only[bY] at h0;omega)|simp[fO,kj,oF,rM,bcT,bcF]
theorem Yr {E:Nat} {L:List ET} (sy:SY) (ce fu:List Int) (a b c:TT) (h:SV E L (sy,ce,fu,[a,b,c])) (hce:ce.length<=1000) (hfu:fu.length<=1000):mM (sy,ce,fu,[a,b,c])=af ((sy.2.1,sy.1,sy.2.2.1,sy.2.2.2).1,(sy.2.1,sy.1,sy.2.2.1,sy.2.2.2).2.1,(sy.2.1,sy.1,sy.2.2.1,sy.2.2.2).2.2.1,(sy.2.1,sy.1,sy.2.2.1,sy.2.2.2).2.2.2,(([]:List Int)++ce),(([]:List Int)++fu),(((a.1,a.2.2.2),a.2.1,a.2.2.1).1.1,((a.1,a.2.2.2),a.2.1,a.2.2.1).1.2,(((b.1,b.2.2.2),b.2.1,b.2.2.1).1.1,((b.1,b.2.2.2),b.2.1,b.2.2.1).2.1,((b.1,b.2.2.2),b.2.1,b.2.2.1).2.2,((b.1,b.2.2.2),b.2.1,b.2.2.1).1.2),((c.1,c.2.2.2),c.2.1,c.2.2.1).1.1,((c.1,c.2.2.2),c.2.1,c.2.2.1).2.1,((c.1,c.2.2.2),c.2.1,c.2.2.1).2.2,((c.1,c.2.2.2),c.2.1,c.2.2.1).1.2),((a.1,a.2.2.2),a.2.1,a.2.2.1).2):=by
 have I:=h.sb.n1;have J:TH (FQ L 0) E a:=h.t 0 (by simp);have hb:TH (FQ L 1) E b:=h.t 1 (by simp);have hc:TH (FQ L 2) E c:=h.t 2 (by simp);refine cD ?_;unfold mM aX bL bz bF bK aZ;refine aV (qF sy h.sb) ?_;refine bn (by simp;omega) (by omega) (bn (by simp;omega) (by omega) ?_);refine fA rfl (be rfl (aS (aV (db a E I J) ?_)));refine fA rfl (be rfl (aS (aV (db b E I hb) ?_)));refine fA rfl (be rfl (aS (aV (db c E I hc) ?_)));exact fJ rfl (ar rfl)
theorem Sd (sy:SY) (ce fu:List Int) (l:List TT) (h0:l.length<=4) (h:l.length≠3):mM (sy,ce,fu,l)=ah:=by
 unfold mM aX bL bz bF bK aZ;rcases l with _|⟨a,_|⟨b,_|⟨c,_|⟨d,_|⟨e,l⟩⟩⟩⟩⟩;all_goals first|(simp at h;done)|(exfalso;simp only[bY] at h0;omega)|simp[fO,kj,oF,rM,bcT,bcF]
theorem Yq {E:Nat} {L:List ET} (sy:SY) (ce fu:List Int) (a b c:TT) (h:SV E L (sy,ce,fu,[a,b,c])) (hce:ce.length<=1000) (hfu:fu.length<=1000):mL (sy,ce,fu,[a,b,c])=af ((sy.2.1,sy.1,sy.2.2.1,sy.2.2.2).1,(sy.2.1,sy.1,sy.2.2.1,sy.2.2.2).2.1,(sy.2.1,sy.1,sy.2.2.1,sy.2.2.2).2.2.1,(sy.2.1,sy.1,sy.2.2.1,sy.2.2.2).2.2.2,(([]:List Int)++ce),(([]:List Int)++fu),((((a.1,a.2.2.2),a.2.1,a.2.2.1).1.1,((a.1,a.2.2.2),a.2.1,a.2.2.1).2.1,((a.1,a.2.2.2),a.2.1,a.2.2.1).2.2,((a.1,a.2.2.2),a.2.1,a.2.2.1).1.2),((b.1,b.2.2.2),b.2.1,b.2.2.1).1.1,((b.1,b.2.2.2),b.2.1,b.2.2.1).1.2,((c.1,c.2.2.2),c.2.1,c.2.2.1).1.1,((c.1,c.2.2.2),c.2.1,c.2.2.1).2.1,((c.1,c.2.2.2),c.2.1,c.2.2.1).2.2,((c.1,c.2.2.2),c.2.1,c.2.2.1).1.2),((b.1,b.2.2.2),b.2.1,b.2.2.1).2):=by
 have I:=h.sb.n1;have J:TH (FQ L 0) E a:=h.t 0 (by simp);have hb:TH (FQ L 1) E b:=h.t 1 (by simp);have hc:TH (FQ L 2) E c:=h.t 2 (by simp);refine cD ?_;unfold mL aX bL bz bF bK aZ;refine aV (qF sy h.sb) ?_;refine bn (by simp;omega) (by omega) (bn (by simp;omega) (by omega) ?_);refine fA rfl (be rfl (aS (aV (db a E I J) ?_)));refine fA rfl (be rfl (aS (aV (db b E I hb) ?_)));refine fA rfl (be rfl (aS (aV (db c E I hc) ?_)));exact fJ rfl (ar rfl)
theorem Sc (sy:SY) (ce fu:List Int) (l:List TT) (h0:l.length<=4) (h:l.length≠3):mL (sy,ce,fu,l)=ah:=by
 unfold mL aX bL bz bF bK aZ;rcases l with _|⟨a,_|⟨b,_|⟨c,_|⟨d,_|⟨e,l⟩⟩⟩⟩⟩;all_goals first|(simp at h;done)|(exfalso;simp only[bY] at h0;omega)|simp[fO,kj,oF,rM,bcT,bcF]
theorem Yp {E:Nat} {L:List ET} (sy:SY) (ce fu:List Int) (a b c:TT) (h:SV E L (sy,ce,fu,[a,b,c])) (hce:ce.length<=1000) (hfu:fu.length<=1000):mK (sy,ce,fu,[a,b,c])=af ((sy.2.1,sy.1,sy.2.2.1,sy.2.2.2).1,(sy.2.1,sy.1,sy.2.2.1,sy.2.2.2).2.1,(sy.2.1,sy.1,sy.2.2.1,sy.2.2.2).2.2.1,(sy.2.1,sy.1,sy.2.2.1,sy.2.2.2).2.2.2,(([]:List Int)++ce),(([]:List Int)++fu),((((a.1,a.2.2.2),a.2.1,a.2.2.1).1.1,((a.1,a.2.2.2),a.2.1,a.2.2.1).2.1,((a.1,a.2.2.2),a.2.1,a.2.2.1).2.2,((a.1,a.2.2.2),a.2.1,a.2.2.1).1.2),(((b.1,b.2.2.2),b.2.1,b.2.2.1).1.1,((b.1,b.2.2.2),b.2.1,b.2.2.1).2.1,((b.1,b.2.2.2),b.2.1,b.2.2.1).2.2,((b.1,b.2.2.2),b.2.1,b.2.2.1).1.2),((c.1,c.2.2.2),c.2.1,c.2.2.1).1),((c.1,c.2.2.2),c.2.1,c.2.2.1).2):=by
 have I:=h.sb.n1;have J:TH (FQ L 0) E a:=h.t 0 (by simp);have hb:TH (FQ L 1) E b:=h.t 1 (by simp);have hc:TH (FQ L 2) E c:=h.t 2 (by simp);refine cD ?_;unfold mK aX bL bz bF bK aZ;refine aV (qF sy h.sb) ?_;refine bn (by simp;omega) (by omega) (bn (by simp;omega) (by omega) ?_);refine fA rfl (be rfl (aS (aV (db a E I J) ?_)));refine fA rfl (be rfl (aS (aV (db b E I hb) ?_)));refine fA rfl (be rfl (aS (aV (db c E I hc) ?_)));exact fJ rfl (ar rfl)
theorem Sb (sy:SY) (ce fu:List Int) (l:List TT) (h0:l.length<=4) (h:l.length≠3):mK (sy,ce,fu,l)=ah:=by
 unfold mK aX bL bz bF bK aZ;rcases l with _|⟨a,_|⟨b,_|⟨c,_|⟨d,_|⟨e,l⟩⟩⟩⟩⟩;all_goals first|(simp at h;done)|(exfalso;simp only[bY] at h0;omega)|simp[fO,kj,oF,rM,bcT,bcF]
theorem Yo {E:Nat} {L:List ET} (sy:SY) (ce fu:List Int) (a b c d:TT) (h:SV E L (sy,ce,fu,[a,b,c,d])) (hce:ce.length<=1000) (hfu:fu.length<=1000):mJ (sy,ce,fu,[a,b,c,d])=af ((sy.2.1,sy.1,sy.2.2.1,sy.2.2.2).1,(sy.2.1,sy.1,sy.2.2.1,sy.2.2.2).2.1,(sy.2.1,sy.1,sy.2.2.1,sy.2.2.2).2.2.1,(sy.2.1,sy.1,sy.2.2.1,sy.2.2.2).2.2.2,(([]:List Int)++ce),(([]:List Int)++fu),(((a.1,a.2.2.2),a.2.1,a.2.2.1).1.1,((a.1,a.2.2.2),a.2.1,a.2.2.1).1.2,(((b.1,b.2.2.2),b.2.1,b.2.2.1).1.1,((b.1,b.2.2.2),b.2.1,b.2.2.1).2.1,((b.1,b.2.2.2),b.2.1,b.2.2.1).2.2,((b.1,b.2.2.2),b.2.1,b.2.2.1).1.2),(((c.1,c.2.2.2),c.2.1,c.2.2.1).1.1,((c.1,c.2.2.2),c.2.1,c.2.2.1).2.1,((c.1,c.2.2.2),c.2.1,c.2.2.1).2.2,((c.1,c.2.2.2),c.2.1,c.2.2.1).1.2),((d.1,d.2.2.2),d.2.1,d.2.2.1).1.1,((d.1,d.2.2.2),d.2.1,d.2.2.1).2.1,((d.1,d.2.2.2),d.2.1,d.2.2.1).2.2,((d.1,d.2.2.2),d.2.1,d.2.2.1).1.2),((a.1,a.2.2.2),a.2.1,a.2.2.1).2):=by
 have I:=h.sb.n1;have J:TH (FQ L 0) E a:=h.t 0 (by simp);have hb:TH (FQ L 1) E b:=h.t 1 (by simp);have hc:TH (FQ L 2) E c:=h.t 2 (by simp);have hd:TH (FQ L 3) E d:=h.t 3 (by simp);refine cD ?_;unfold mJ aX bL bz bF bK aZ;refine aV (qF sy h.sb) ?_;refine bn (by simp;omega) (by omega) (bn (by simp;omega) (by omega) ?_);refine fA rfl (be rfl (aS (aV (db a E I J) ?_)));refine fA rfl (be rfl (aS (aV (db b E I hb) ?_)));refine fA rfl (be rfl (aS (aV (db c E I hc) ?_)));refine fA rfl (be rfl (aS (aV (db d E I hd) ?_)));exact fJ rfl (ar rfl)
theorem Sa (sy:SY) (ce fu:List Int) (l:List TT) (h0:l.length<=4) (h:l.length≠4):mJ (sy,ce,fu,l)=ah:=by
 unfold mJ aX bL bz bF bK aZ;rcases l with _|⟨a,_|⟨b,_|⟨c,_|⟨d,_|⟨e,l⟩⟩⟩⟩⟩;all_goals first|(simp at h;done)|(exfalso;simp only[bY] at h0;omega)|simp[fO,kj,oF,rM,bcT,bcF]
theorem Yn {E:Nat} {L:List ET} (sy:SY) (ce fu:List Int) (a b c d:TT) (h:SV E L (sy,ce,fu,[a,b,c,d])) (hce:ce.length<=1000) (hfu:fu.length<=1000):mI (sy,ce,fu,[a,b,c,d])=af ((sy.2.1,sy.1,sy.2.2.1,sy.2.2.2).1,(sy.2.1,sy.1,sy.2.2.1,sy.2.2.2).2.1,(sy.2.1,sy.1,sy.2.2.1,sy.2.2.2).2.2.1,(sy.2.1,sy.1,sy.2.2.1,sy.2.2.2).2.2.2,(([]:List Int)++ce),(([]:List Int)++fu),((((a.1,a.2.2.2),a.2.1,a.2.2.1).1.1,((a.1,a.2.2.2),a.2.1,a.2.2.1).2.1,((a.1,a.2.2.2),a.2.1,a.2.2.1).2.2,((a.1,a.2.2.2),a.2.1,a.2.2.1).1.2),((b.1,b.2.2.2),b.2.1,b.2.2.1).1.1,((b.1,b.2.2.2),b.2.1,b.2.2.1).1.2,(((c.1,c.2.2.2),c.2.1,c.2.2.1).1.1,((c.1,c.2.2.2),c.2.1,c.2.2.1).2.1,((c.1,c.2.2.2),c.2.1,c.2.2.1).2.2,((c.1,c.2.2.2),c.2.1,c.2.2.1).1.2),((d.1,d.2.2.2),d.2.1,d.2.2.1).1.1,((d.1,d.2.2.2),d.2.1,d.2.2.1).2.1,((d.1,d.2.2.2),d.2.1,d.2.2.1).2.2,((d.1,d.2.2.2),d.2.1,d.2.2.1).1.2),((b.1,b.2.2.2),b.2.1,b.2.2.1).2):=by
 have I:=h.sb.n1;have J:TH (FQ L 0) E a:=h.t 0 (by simp);have hb:TH (FQ L 1) E b:=h.t 1 (by simp);have hc:TH (FQ L 2) E c:=h.t 2 (by simp);have hd:TH (FQ L 3) E d:=h.t 3 (by simp);refine cD ?_;unfold mI aX bL bz bF bK aZ;refine aV (qF sy h.sb) ?_;refine bn (by simp;omega) (by omega) (bn (by simp;omega) (by omega) ?_);refine fA rfl (be rfl (aS (aV (db a E I J) ?_)));refine fA rfl (be rfl (aS (aV (db b E I hb) ?_)));refine fA rfl (be rfl (aS (aV (db c E I hc) ?_)));refine fA rfl (be rfl (aS (aV (db d E I hd) ?_)));exact fJ rfl (ar rfl)
theorem R_ (sy:SY) (ce fu:List Int) (l:List TT) (h0:l.length<=4) (h:l.length≠4):mI (sy,ce,fu,l)=ah:=by
 unfold mI aX bL bz bF bK aZ;rcases l with _|⟨a,_|⟨b,_|⟨c,_|⟨d,_|⟨e,l⟩⟩⟩⟩⟩;all_goals first|(simp at h;done)|(exfalso;simp only[bY] at h0;omega)|simp[fO,kj,oF,rM,bcT,bcF]
theorem Ym {E:Nat} {L:List ET} (sy:SY) (ce fu:List Int) (a b c d:TT) (h:SV E L (sy,ce,fu,[a,b,c,d])) (hce:ce.length<=1000) (hfu:fu.length<=1000):mH (sy,ce,fu,[a,b,c,d])=af ((sy.2.1,sy.1,sy.2.2.1,sy.2.2.2).1,(sy.2.1,sy.1,sy.2.2.1,sy.2.2.2).2.1,(sy.2.1,sy.1,sy.2.2.1,sy.2.2.2).2.2.1,(sy.2.1,sy.1,sy.2.2.1,sy.2.2.2).2.2.2,(([]:List Int)++ce),(([]:List Int)++fu),((((a.1,a.2.2.2),a.2.1,a.2.2.1).1.1,((a.1,a.2.2.2),a.2.1,a.2.2.1).2.1,((a.1,a.2.2.2),a.2.1,a.2.2.1).2.2,((a.1,a.2.2.2),a.2.1,a.2.2.1).1.2),(((b.1,b.2.2.2),b.2.1,b.2.2.1).1.1,((b.1,b.2.2.2),b.2.1,b.2.2.1).2.1,((b.1,b.2.2.2),b.2.1,b.2.2.1).2.2,((b.1,b.2.2.2),b.2.1,b.2.2.1).1.2),((c.1,c.2.2.2),c.2.1,c.2.2.1).1.1,((c.1,c.2.2.2),c.2.1,c.2.2.1).1.2,((d.1,d.2.2.2),d.2.1,d.2.2.1).1.1,((d.1,d.2.2.2),d.2.1,d.2.2.1).2.1,((d.1,d.2.2.2),d.2.1,d.2.2.1).2.2,((d.1,d.2.2.2),d.2.1,d.2.2.1).1.2),((c.1,c.2.2.2),c.2.1,c.2.2.1).2):=by
 have I:=h.sb.n1;have J:TH (FQ L 0) E a:=h.t 0 (by simp);have hb:TH (FQ L 1) E b:=h.t 1 (by simp);have hc:TH (FQ L 2) E c:=h.t 2 (by simp);have hd:TH (FQ L 3) E d:=h.t 3 (by simp);refine cD ?_;unfold mH aX bL bz bF bK aZ;refine aV (qF sy h.sb) ?_;refine bn (by simp;omega) (by omega) (bn (by simp;omega) (by omega) ?_);refine fA rfl (be rfl (aS (aV (db a E I J) ?_)));refine fA rfl (be rfl (aS (aV (db b E I hb) ?_)));refine fA rfl (be rfl (aS (aV (db c E I hc) ?_)));refine fA rfl (be rfl (aS (aV (db d E I hd) ?_)));exact fJ rfl (ar rfl)
theorem R9 (sy:SY) (ce fu:List Int) (l:List TT) (h0:l.length<=4) (h:l.length≠4):mH (sy,ce,fu,l)=ah:=by
 unfold mH aX bL bz bF bK aZ;rcases l with _|⟨a,_|⟨b,_|⟨c,_|⟨d,_|⟨e,l⟩⟩⟩⟩⟩;all_goals first|(simp at h;done)|(exfalso;simp only[bY] at h0;omega)|simp[fO,kj,oF,rM,bcT,bcF]
theorem Yl {E:Nat} {L:List ET} (sy:SY) (ce fu:List Int) (a b c d:TT) (h:SV E L (sy,ce,fu,[a,b,c,d])) (hce:ce.length<=1000) (hfu:fu.length<=1000):mG (sy,ce,fu,[a,b,c,d])=af ((sy.2.1,sy.1,sy.2.2.1,sy.2.2.2).1,(sy.2.1,sy.1,sy.2.2.1,sy.2.2.2).2.1,(sy.2.1,sy.1,sy.2.2.1,sy.2.2.2).2.2.1,(sy.2.1,sy.1,sy.2.2.1,sy.2.2.2).2.2.2,(([]:List Int)++ce),(([]:List Int)++fu),((((a.1,a.2.2.2),a.2.1,a.2.2.1).1.1,((a.1,a.2.2.2),a.2.1,a.2.2.1).2.1,((a.1,a.2.2.2),a.2.1,a.2.2.1).2.2,((a.1,a.2.2.2),a.2.1,a.2.2.1).1.2),(((b.1,b.2.2.2),b.2.1,b.2.2.1).1.1,((b.1,b.2.2.2),b.2.1,b.2.2.1).2.1,((b.1,b.2.2.2),b.2.1,b.2.2.1).2.2,((b.1,b.2.2.2),b.2.1,b.2.2.1).1.2),(((c.1,c.2.2.2),c.2.1,c.2.2.1).1.1,((c.1,c.2.2.2),c.2.1,c.2.2.1).2.1,((c.1,c.2.2.2),c.2.1,c.2.2.1).2.2,((c.1,c.2.2.2),c.2.1,c.2.2.1).1.2),((d.1,d.2.2.2),d.2.1,d.2.2.1).1),((d.1,d.2.2.2),d.2.1,d.2.2.1).2):=by
 have I:=h.sb.n1;have J:TH (FQ L 0) E a:=h.t 0 (by simp);have hb:TH (FQ L 1) E b:=h.t 1 (by simp);have hc:TH (FQ L 2) E c:=h.t 2 (by simp);have hd:TH (FQ L 3) E d:=h.t 3 (by simp);refine cD ?_;unfold mG aX bL bz bF bK aZ;refine aV (qF sy h.sb) ?_;refine bn (by simp;omega) (by omega) (bn (by simp;omega) (by omega) ?_);refine fA rfl (be rfl (aS (aV (db a E I J) ?_)));refine fA rfl (be rfl (aS (aV (db b E I hb) ?_)));refine fA rfl (be rfl (aS (aV (db c E I hc) ?_)));refine fA rfl (be rfl (aS (aV (db d E I hd) ?_)));exact fJ rfl (ar rfl)
theorem R8 (sy:SY) (ce fu:List Int) (l:List TT) (h0:l.length<=4) (h:l.length≠4):mG (sy,ce,fu,l)=ah:=by
 unfold mG aX bL bz bF bK aZ;rcases l with _|⟨a,_|⟨b,_|⟨c,_|⟨d,_|⟨e,l⟩⟩⟩⟩⟩;all_goals first|(simp at h;done)|(exfalso;simp only[bY] at h0;omega)|simp[fO,kj,oF,rM,bcT,bcF]
theorem kdx (k:Int):k=1\/k=16\/k=2\/k=3\/k=23\/k=4\/k=22\/k=5\/((k=1)=False/\(k=16)=False/\(k=2)=False/\(k=3)=False/\(k=23)=False/\(k=4)=False/\(k=22)=False/\(k=5)=False):=by
 by_cases h:k=1\/k=16\/k=2\/k=3\/k=23\/k=4\/k=22\/k=5
 .omega
 .repeat (first|exact⟨eq_false (by omega),eq_false (by omega),eq_false (by omega),eq_false (by omega),eq_false (by omega),eq_false (by omega),eq_false (by omega),eq_false (by omega)⟩|refine Or.inr ?_)
def KR {Z:Type} (n:Nat) (I:CT) (L:List ET) (i:Nat) (u:Int) (l:List TT) (z:Z) (k:Int->(CT×SY×(Int×Int)×Int×(Int×Int×Int×Int×Int)×ET×(Int×Int)×(List Int)×(List Int)×Z×(List Int)×List (List Int))->Option (ST×ET×Bool)):Prop:=
 ∀ (F:Int->Prop) (p:Int) (sy:SY) (kd o v si:Int) (ds fs ce fu R:List Int) (T:List (List Int)) (ev:Int),
  (kd≠16->kd≠2->Ok (mQ (aJ (T:=vD) I.2 (i:Int),(p,R,T,bm .i64 (ev+1)))) λy=>TH F (n+1) y.1/\(y.1.2.1.length=0\/y.1.2.2.2=bm .i64 (ev+1)))->
  (kd=16\/kd=2->TH F (n+1) (p,R,T,bm .i64 (ev+1)))->
  (∀ t',TH F (n+1) t'->(t'.2.1.length=0\/t'.2.2.2=bm .i64 (ev+1)/\(kd=16->t'.1=p))->SQ n I L ((sy,ce,fu,l.set i t'),((i:Int),kd,o,v,si,ds,fs),ai))->(i:Int)<(I.2.length:Int)->
  ∀ J,Ok (k p (I,sy,((i:Int),u),0,(0,0,0,0,0),((i:Int),kd,o,v,si,ds,fs),(J,ev),ce,fu,z,R,T)) (SQ n I L)
theorem AU {Z:Type} (N i:Nat) {M:SY×(List Int)×(List Int)×List TT->Option (Int×(List (Int×List Int))×(List Bool)×(List (Int×Int×Bool))×(List Int)×(List Int)×Z×(List Int)×List (List Int))} {pc ev:Z->Int} {k:Int->(CT×SY×(Int×Int)×Int×(Int×Int×Int×Int×Int)×ET×(Int×Int)×(List Int)×(List Int)×Z×(List Int)×List (List Int))->Option (ST×ET×Bool)} {n:Nat} (hn:n+1<=100000) (I:CT) (L:List ET) (s:ST) (t u:Int) (hc:CB I) (hs:SV n L s) (hI:Kt I L s)
 (h0:∀ sy ce fu (l:List TT),l.length<=4->l.length≠N->M (sy,ce,fu,l)=ah)
 (h1:∀ sy ce fu (l:List TT),SV n L (sy,ce,fu,l)->ce.length<=1000->fu.length<=1000->l.length=N->i<N/\∃ y,M (sy,ce,fu,l)=af y/\y.2.2.2.2.1=ce/\y.2.2.2.2.2.1=fu/\y.2.2.2.2.2.2.2.1=(aJ (T:=ur) l (i:Int)).2.1/\y.2.2.2.2.2.2.2.2=(aJ (T:=ur) l (i:Int)).2.2.1/\pc y.2.2.2.2.2.2.1=(aJ (T:=ur) l (i:Int)).1/\ev y.2.2.2.2.2.2.1=(aJ (T:=ur) l (i:Int)).2.2.2/\KR n I L i u l y.2.2.2.2.2.2.1 k):
 OX (SG (i:Int) M pc ev k (I,s,t,u)) (SQ n I L)/\(s.2.2.2.length=N->t=(i:Int)->Ok (SG (i:Int) M pc ev k (I,s,t,u)) (SQ n I L)):=by
 by_cases hz:s.2.2.2.length=N/\t=(i:Int)
 .obtain⟨U,rfl⟩:=hz;suffices h:Ok (SG (i:Int) M pc ev k (I,s,(i:Int),u)) (SQ n I L) from ⟨.inr h,λ_ _=>h⟩
  unfold SG DB Prod.p11 Prod.p12 aX bl bw cz ef kz zD BZ Prod.q10 Prod.q11 Prod.q13 bL dw ky Prod.q9 ck bf bK kZ aF;refine Hz hn hc hs hI (λo=>Ok o (SQ n I L)) (λy h=>ar h) _ λe v sy hp hm he hr ha hq=>?_
  obtain⟨sy0,ce,fu,l⟩:=s;obtain⟨e1,kd,o,e4,site,ds,fs⟩:=e;have het:=hp.et;dsimp only at U he hr ha hq het;subst het;have vl:=hp.fs.vc.vl;have hce:=hp.fs.ce;have hfu:=hp.fs.fu;dsimp only at hce hfu;obtain⟨hiN,⟨q1,q2,q3,q4,ce',fu',z,R0,T0⟩,hcp,g1,g2,g3,g4,hpc,hve,hk⟩:=h1 sy0 ce fu l hs (by have:=vl.c;omega) (by have:=vl.f;omega) U;dsimp only at g1 g2 g3 g4 hpc hve hk;rw[g1,g2,g3,g4] at hcp;obtain⟨_,_,nmce,_,_,_,nmfu,_,_,_⟩:=id he.nm;have t1:(i:Int)<(I.2.length:Int):=hp.t1;have htf:TF (aJ (T:=vD) I.2 (i:Int)) (aJ (T:=ur) l (i:Int)):=hp.fs.t i (by omega);have hA:=hp.a;have Y:=hp.b;dsimp only at hA Y;have hvt:=hp.fs.vc.t _ (bG (T:=vD) (xs:=I.2) (j:=(i:Int)) (by omega) t1);have hci:=hc.ins _ (bG (T:=vD) (xs:=I.2) (j:=(i:Int)) (by omega) t1);have hth:TH (FQ L (i:Int)) n (aJ (T:=ur) l (i:Int)):=hs.t i (by dsimp only;omega);have done:=ae2 hn hs hI hp hm he hr ha;have htg:=hm.tg;have hrun:=hr.r;dsimp only at done htg;have hgv:kd=3\/kd=23->FQ (L++[((i:Int),kd,o,e4,site,ds,fs)]) (i:Int) (aJ (T:=ur) l (i:Int)).2.2.2:=λh3=>by
   have h2:=hrun (by omega) (by omega);have hn0:¬(fl L (i:Int)).length=0:=λh=>(htg.nw h).elim (λg=>cZ (h2.symm.trans g) (by decide)) λg=>cZ (h2.symm.trans g) (by decide)
   refine ⟨by rw[htg.ev];omega,Kh.last (e:=((i:Int),kd,o,e4,site,ds,fs)) ?_ htg.ev⟩;unfold sW;rcases h3 with h|h
   .rw[aQ h];rfl
   .simp[h]
  have vaA:¬kd=3->¬kd=23->¬kd=5->VA I.1 sy0 ce fu (i:Int) kd o v:=λa b c=>⟨λh=>(a h).elim,λh=>(b h).elim,λh=>(c h).elim,λ_ _ _ _ _=>by rw[RH hq]⟩
  have apA:(oG I.1 sy0 (i:Int) kd o v).1=sy:=by rw[RH hq]
  have apB:¬kd=18->∀ v',(oG I.1 sy0 (i:Int) kd o v').1=sy:=λh v'=>by rw[Wm _ _ _ _ _ _ u h,<-hq]
  have keep:∀ x∈(aJ (T:=ur) l (i:Int)).2.2.1,TL (FQ (L++[((i:Int),kd,o,e4,site,ds,fs)]) (i:Int)) (n+1) x:=λx hx=>(hth.l x hx).mono (by omega) λy J=>⟨J.1,J.2.app _⟩
  clear g3 g4 hm hI hrun htg;revert done hgv keep;generalize FQ (L++[((i:Int),kd,o,e4,site,ds,fs)]) (i:Int)=F;generalize aJ (T:=ur) l (i:Int)=th at hcp hpc hve htf hA Y hth ⊢;intro done hgv keep;refine aV hcp ?_;dsimp only;rw[hpc,hve];refine fA (aQ rfl) ?_;refine aR (by omega) t1 (aS (aR htf.p0 htf.p1 (aS ?_)));have htz:th.2.2.1.length=th.2.1.length:=by have:=htf.r;have:=htf.t;omega
  have fin:∀ (p:Int) (R:List Int) (T:List (List Int)),R.length=th.2.1.length->T.length=th.2.2.1.length->(∀ x∈T,TL F (n+1) x)->Ok (mQ (aJ (T:=vD) I.2 (i:Int),(p,R,T,bm .i64 (th.2.2.2+1)))) λy=>TH F (n+1) y.1/\(y.1.2.1.length=0\/y.1.2.2.2=bm .i64 (th.2.2.2+1)):=λp R T h1 h2 h3=>by
   have a1:=hth.e0;have a2:=hth.e1;have a3:=hth.r;have a4:=hth.t;rw[ib (n:=th.2.2.2+1) (by omega) (by omega)];exact X8 (n+1) hn _ hci hvt _ ⟨by dsimp only;omega,by dsimp only;omega,h3,by dsimp only;omega,by dsimp only;omega⟩
  have mark:kd=3\/kd=23->∀ j:Int,∀ x∈cO th.2.2.1 j [th.2.2.2],TL F (n+1) x:=λh3 j x hx=>by
   rcases B_ hx with h|h
   .exact keep x h
   .rw[h];exact⟨⟨λy J=>(by cases J),trivial⟩,λy J=>by rw[aL] at J;have:=hth.e0;have:=hth.e1;rw[J];exact⟨by omega,by omega⟩,λy J=>by rw[aL] at J;rw[J];exact hgv h3⟩
  have nopark:TH F (n+1) (th.1,th.2.1,th.2.2.1,bm .i64 (th.2.2.2+1)):=by
   have a1:=hth.e0;have a2:=hth.e1;rw[ib (n:=th.2.2.2+1) (by omega) (by omega)];exact⟨hth.r,hth.t,keep,by dsimp only;omega,by dsimp only;omega⟩
  clear hp hs hc h0 h1 hcp g1 g2 hr ha hq he;generalize (aJ (T:=Bc) (aJ (T:=vD) I.2 (i:Int)).2 th.1)=ins at hA Y ⊢;rcases kdx kd with rfl|rfl|rfl|rfl|rfl|rfl|rfl|rfl|⟨k1,k2,k3,k4,k5,k6,k7,k8⟩
  case inr.inr.inr.inr.inr.inr.inr.inr=>
   simp only[k1,k2,k3,k4,k5,k6,k7,k8,aT,bp,sP];refine hk F _ _ _ _ _ _ _ _ _ _ _ _ _ (λ_ _=>fin _ _ _ rfl rfl keep) (λh=>by rw[k2,k3] at h;exact (h.elim id id).elim) (λt' h g=>?_) t1 _;exact done v ce fu t' apA (vaA (of_eq_false k4) (of_eq_false k5) (of_eq_false k8)) (aB (of_eq_false k6)).symm (aB (of_eq_false k7)).symm h (g.imp id λh=>⟨h.1,λh2=>(of_eq_false k2 h2).elim⟩)
  all_goals simp only[aT,bp,sP]
  .refine hk F _ _ _ _ _ _ _ _ _ _ _ _ _ (λ_ _=>fin _ _ _ rfl rfl keep) (λh=>by omega) (λt' h g=>?_) t1 _;exact done v ce fu t' apA (vaA (by decide) (by decide) (by decide)) rfl rfl h (g.imp id λh=>⟨h.1,λh2=>(by cases h2)⟩)
  .refine hk F _ _ _ _ _ _ _ _ _ _ _ _ _ (λh _=>(h rfl).elim) (λ_=>nopark) (λt' h g=>?_) t1 _;exact done v ce fu t' apA (vaA (by decide) (by decide) (by decide)) rfl rfl h g
  .refine hk F _ _ _ _ _ _ _ _ _ _ _ _ _ (λ_ h=>(h rfl).elim) (λ_=>nopark) (λt' h g=>?_) t1 _;exact done v ce fu t' apA (vaA (by decide) (by decide) (by decide)) rfl rfl h (g.imp id λh=>⟨h.1,λh2=>(by cases h2)⟩)
  .obtain⟨o0,o1⟩:=nmce (.inl rfl);rw[<- hce] at o1;obtain⟨a0,a1⟩:=hA (.inl rfl);have a2:ins.2.1<(th.2.2.1.length:Int):=by rw[htz];exact a1
   refine gu (aR o0 o1 (aR o0 o1 (ar ?_)));simp only[aT,bp,sP];refine gu (aR a0 a1 (aR a0 a1 (aR a0 a2 (aR a0 a2 (ar ?_)))));refine hk F _ _ _ _ _ _ _ _ _ _ _ _ _ (λ_ _=>fin _ _ _ (bV ..) (bV ..) (mark (.inl rfl) _)) (λh=>by omega) (λt' h g=>?_) t1 _;exact done _ ce fu t' (apB (by decide) _) ⟨λ_=>rfl,λh=>(by cases h),λh=>(by cases h),λh=>(h rfl).elim⟩ rfl rfl h (g.imp id λh=>⟨h.1,λh2=>(by cases h2)⟩)
  .obtain⟨o0,o1⟩:=nmfu (.inr rfl);rw[<- hfu] at o1;obtain⟨a0,a1⟩:=hA (.inr (.inl rfl));have a2:ins.2.1<(th.2.2.1.length:Int):=by rw[htz];exact a1
   refine gu (aR o0 o1 (aR o0 o1 (ar ?_)));simp only[aT,bp,sP];refine gu (aR a0 a1 (aR a0 a1 (aR a0 a2 (aR a0 a2 (ar ?_)))));refine hk F _ _ _ _ _ _ _ _ _ _ _ _ _ (λ_ _=>fin _ _ _ (bV ..) (bV ..) (mark (.inr rfl) _)) (λh=>by omega) (λt' h g=>?_) t1 _;exact done _ ce fu t' (apB (by decide) _) ⟨λh=>(by cases h),λ_=>rfl,λh=>(by cases h),λ_ h=>(h rfl).elim⟩ rfl rfl h (g.imp id λh=>⟨h.1,λh2=>(by cases h2)⟩)
  .obtain⟨o0,o1⟩:=nmce (.inr rfl);rw[<- hce] at o1;obtain⟨a0,a1⟩:=Y (.inl rfl);refine gu (aR a0 a1 (aR a0 a1 (aR o0 o1 (aR o0 o1 (ar ?_)))));simp only[aT,bp,sP];refine hk F _ _ _ _ _ _ _ _ _ _ _ _ _ (λ_ _=>fin _ _ _ rfl rfl keep) (λh=>by omega) (λt' h g=>?_) t1 _;exact done _ _ fu t' (apB (by decide) _) ⟨λh=>(by cases h),λh=>(by cases h),λh=>(by cases h),λ_ _ _ h=>(h rfl).elim⟩ rfl rfl h (g.imp id λh=>⟨h.1,λh2=>(by cases h2)⟩)
  .obtain⟨o0,o1⟩:=nmfu (.inl rfl);rw[<- hfu] at o1;obtain⟨a0,a1⟩:=Y (.inr rfl);refine gu (aR a0 a1 (aR a0 a1 (aR o0 o1 (aR o0 o1 (ar ?_)))));simp only[aT,bp,sP];refine hk F _ _ _ _ _ _ _ _ _ _ _ _ _ (λ_ _=>fin _ _ _ rfl rfl keep) (λh=>by omega) (λt' h g=>?_) t1 _;exact done _ ce _ t' (apB (by decide) _) ⟨λh=>(by cases h),λh=>(by cases h),λh=>(by cases h),λ_ _ _ _ h=>(h rfl).elim⟩ rfl rfl h (g.imp id λh=>⟨h.1,λh2=>(by cases h2)⟩)
  .obtain⟨a0,a1⟩:=hA (.inr (.inr rfl));refine gu (aR a0 a1 (aR a0 a1 (aK (λ_=>ar ?_) λ_=>ar ?_)));all_goals
    simp only[aT,bp,sP];refine hk F _ _ _ _ _ _ _ _ _ _ _ _ _ (λ_ _=>fin _ _ _ rfl rfl keep) (λh=>by omega) (λt' h g=>?_) t1 _;exact done _ ce fu t' (apB (by decide) _) ⟨λh=>(by cases h),λh=>(by cases h),λ_=>(by decide),λ_ _ h=>(h rfl).elim⟩ rfl rfl h (g.imp id λh=>⟨h.1,λh2=>(by cases h2)⟩)
 .refine ⟨?_,λh1 h2=>(hz ⟨h1,h2⟩).elim⟩;unfold SG DB Prod.p11 Prod.p12 aX bl bw cz ef kz zD BZ Prod.q10 Prod.q11 Prod.q13 bL dw ky Prod.q9 ck bf bK kZ aF;refine Hz hn hc hs hI (λo=>OX o (SQ n I L)) (λy h=>.inr (ar h)) _ λe v sy hp _ _ _ _ _=>.inl ?_
  obtain⟨sy0,ce,fu,l⟩:=s;have vl:=hp.fs.vc.vl;by_cases hl:l.length=N
  .have ht:¬t=(i:Int):=λh=>hz ⟨hl,h⟩
   dsimp only;cases M (sy0,ce,fu,l) with
   |none=>rfl
   |some y=>rw[VB,bH ht];rfl
  .show obind (M (sy0,ce,fu,l)) _=ah;rw[h0 sy0 ce fu l (by have h1:l.length=I.2.length:=hp.fs.th;have:=hp.fs.vc.tl;have:=vl.t;omega) hl];rfl
theorem AW {Z W V:Type} {n:Nat} {U:CT} {L:List ET} {i:Nat} {u:Int} {l:List TT} {z:Z} {t1:Z->List Int->List (List Int)->W} {J:W->V} {I:V->TT->List TT} (Y:∀ R T t',I (J (t1 z R T)) t'=l.set i t'):KR n U L i u l z (KG (i:Int) t1 J I):=by
 intro F p sy kd o v si ds fs ce fu R T ev fin park done ht pc;unfold KG DB aX bl bw cz ef kz zD BZ Prod.q10 Prod.q11 pN bf iT bK aF cF;dsimp only;have done:∀ t',TH F (n+1) t'->(t'.2.1.length=0\/t'.2.2.2=bm .i64 (ev+1)/\(kd=16->t'.1=p))->SQ n U L ((sy,ce,fu,I (J (t1 z R T)) t'),((i:Int),kd,o,v,si,ds,fs),ai):=λt' h g=>by rw[Y];exact done t' h g
 by_cases h1:kd=16
 .subst h1;exact gu (gu (fJ rfl (ar (fJ rfl (ar (fA (aQ rfl) (ar (done _ (park (.inl rfl)) (.inr ⟨rfl,λ_=>rfl⟩)))))))))
 by_cases h2:kd=2
 .subst h2;exact gu (gu (fA rfl (ar (fJ rfl (ar (fA (aQ rfl) (ar (done _ (park (.inr rfl)) (.inr ⟨rfl,λh=>(by cases h)⟩)))))))))
 rw[bH h1,bH h2];exact gu (gu (fA rfl (ar (fA rfl (aR (ey i) ht (aS (ax (fin h1 h2) λy M=>ar (fA (aQ rfl) (ar (done _ M.1 (M.2.imp id λh=>⟨h,λh2=>(h1 h2).elim⟩)))))))))))
theorem XZ {n:Nat} (hn:n+1<=100000) (I:CT) (L:List ET) (s:ST) (t u:Int) (hc:CB I) (hs:SV n L s) (J:Kt I L s):OX (mF (I,s,t,u)) (SQ n I L)/\(s.2.2.2.length=4->t=0->Ok (mF (I,s,t,u)) (SQ n I L)):=by
 refine AU 4 0 hn I L s t u hc hs J Sa λsy ce fu l hs hce hfu hl=>⟨by decide,?_⟩
 obtain⟨a,b,c,d,rfl⟩:∃ a b c d,l=[a,b,c,d]:=by
  rcases l with _|⟨a,_|⟨b,_|⟨c,_|⟨d,_|⟨e,l⟩⟩⟩⟩⟩;all_goals first|exact⟨_,_,_,_,rfl⟩|(simp at hl;done)|(exfalso;simp only[bY] at hl;omega)
 refine ⟨_,Yo sy ce fu a b c d hs hce hfu,rfl,rfl,rfl,rfl,rfl,rfl,AW λR T t'=>rfl⟩
theorem XY {n:Nat} (hn:n+1<=100000) (I:CT) (L:List ET) (s:ST) (t u:Int) (hc:CB I) (hs:SV n L s) (J:Kt I L s):OX (mE (I,s,t,u)) (SQ n I L)/\(s.2.2.2.length=4->t=1->Ok (mE (I,s,t,u)) (SQ n I L)):=by
 refine AU 4 1 hn I L s t u hc hs J R_ λsy ce fu l hs hce hfu hl=>⟨by decide,?_⟩
 obtain⟨a,b,c,d,rfl⟩:∃ a b c d,l=[a,b,c,d]:=by
  rcases l with _|⟨a,_|⟨b,_|⟨c,_|⟨d,_|⟨e,l⟩⟩⟩⟩⟩;all_goals first|exact⟨_,_,_,_,rfl⟩|(simp at hl;done)|(exfalso;simp only[bY] at hl;omega)
 refine ⟨_,Yn sy ce fu a b c d hs hce hfu,rfl,rfl,rfl,rfl,rfl,rfl,AW λR T t'=>rfl⟩
theorem XX {n:Nat} (hn:n+1<=100000) (I:CT) (L:List ET) (s:ST) (t u:Int) (hc:CB I) (hs:SV n L s) (J:Kt I L s):OX (lh (I,s,t,u)) (SQ n I L)/\(s.2.2.2.length=4->t=2->Ok (lh (I,s,t,u)) (SQ n I L)):=by
 refine AU 4 2 hn I L s t u hc hs J R9 λsy ce fu l hs hce hfu hl=>⟨by decide,?_⟩
 obtain⟨a,b,c,d,rfl⟩:∃ a b c d,l=[a,b,c,d]:=by
  rcases l with _|⟨a,_|⟨b,_|⟨c,_|⟨d,_|⟨e,l⟩⟩⟩⟩⟩;all_goals first|exact⟨_,_,_,_,rfl⟩|(simp at hl;done)|(exfalso;simp only[bY] at hl;omega)
 refine ⟨_,Ym sy ce fu a b c d hs hce hfu,rfl,rfl,rfl,rfl,rfl,rfl,AW λR T t'=>rfl⟩
theorem XW {n:Nat} (hn:n+1<=100000) (I:CT) (L:List ET) (s:ST) (t u:Int) (hc:CB I) (hs:SV n L s) (J:Kt I L s):OX (j8 (I,s,t,u)) (SQ n I L)/\(s.2.2.2.length=4->t=3->Ok (j8 (I,s,t,u)) (SQ n I L)):=by
 refine AU 4 3 hn I L s t u hc hs J R8 λsy ce fu l hs hce hfu hl=>⟨by decide,?_⟩
 obtain⟨a,b,c,d,rfl⟩:∃ a b c d,l=[a,b,c,d]:=by
  rcases l with _|⟨a,_|⟨b,_|⟨c,_|⟨d,_|⟨e,l⟩⟩⟩⟩⟩;all_goals first|exact⟨_,_,_,_,rfl⟩|(simp at hl;done)|(exfalso;simp only[bY] at hl;omega)
 refine ⟨_,Yl sy ce fu a b c d hs hce hfu,rfl,rfl,rfl,rfl,rfl,rfl,AW λR T t'=>rfl⟩
theorem X2 {n:Nat} (hn:n+1<=100000) (I:CT) (L:List ET) (s:ST) (t u:Int) (hc:CB I) (hs:SV n L s) (J:Kt I L s):OX (jp (I,s,t,u)) (SQ n I L)/\(s.2.2.2.length=3->t=0->Ok (jp (I,s,t,u)) (SQ n I L)):=by
 refine AU 3 0 hn I L s t u hc hs J Sd λsy ce fu l hs hce hfu hl=>⟨by decide,?_⟩
 obtain⟨a,b,c,rfl⟩:∃ a b c,l=[a,b,c]:=by
  rcases l with _|⟨a,_|⟨b,_|⟨c,_|⟨d,_|⟨e,l⟩⟩⟩⟩⟩;all_goals first|exact⟨_,_,_,rfl⟩|(simp at hl;done)|(exfalso;simp only[bY] at hl;omega)
 refine ⟨_,Yr sy ce fu a b c hs hce hfu,rfl,rfl,rfl,rfl,rfl,rfl,AW λR T t'=>rfl⟩
theorem X1 {n:Nat} (hn:n+1<=100000) (I:CT) (L:List ET) (s:ST) (t u:Int) (hc:CB I) (hs:SV n L s) (J:Kt I L s):OX (iF (I,s,t,u)) (SQ n I L)/\(s.2.2.2.length=3->t=1->Ok (iF (I,s,t,u)) (SQ n I L)):=by
 refine AU 3 1 hn I L s t u hc hs J Sc λsy ce fu l hs hce hfu hl=>⟨by decide,?_⟩
 obtain⟨a,b,c,rfl⟩:∃ a b c,l=[a,b,c]:=by
  rcases l with _|⟨a,_|⟨b,_|⟨c,_|⟨d,_|⟨e,l⟩⟩⟩⟩⟩;all_goals first|exact⟨_,_,_,rfl⟩|(simp at hl;done)|(exfalso;simp only[bY] at hl;omega)
 refine ⟨_,Yq sy ce fu a b c hs hce hfu,rfl,rfl,rfl,rfl,rfl,rfl,AW λR T t'=>rfl⟩
theorem X0 {n:Nat} (hn:n+1<=100000) (I:CT) (L:List ET) (s:ST) (t u:Int) (hc:CB I) (hs:SV n L s) (J:Kt I L s):OX (g_ (I,s,t,u)) (SQ n I L)/\(s.2.2.2.length=3->t=2->Ok (g_ (I,s,t,u)) (SQ n I L)):=by
 refine AU 3 2 hn I L s t u hc hs J Sb λsy ce fu l hs hce hfu hl=>⟨by decide,?_⟩
 obtain⟨a,b,c,rfl⟩:∃ a b c,l=[a,b,c]:=by
  rcases l with _|⟨a,_|⟨b,_|⟨c,_|⟨d,_|⟨e,l⟩⟩⟩⟩⟩;all_goals first|exact⟨_,_,_,rfl⟩|(simp at hl;done)|(exfalso;simp only[bY] at hl;omega)
 refine ⟨_,Yp sy ce fu a b c hs hce hfu,rfl,rfl,rfl,rfl,rfl,rfl,AW λR T t'=>rfl⟩
theorem X4 {n:Nat} (hn:n+1<=100000) (I:CT) (L:List ET) (s:ST) (t u:Int) (hc:CB I) (hs:SV n L s) (J:Kt I L s):OX (gx (I,s,t,u)) (SQ n I L)/\(s.2.2.2.length=2->t=0->Ok (gx (I,s,t,u)) (SQ n I L)):=by
 refine AU 2 0 hn I L s t u hc hs J Sf λsy ce fu l hs hce hfu hl=>⟨by decide,?_⟩
 obtain⟨a,b,rfl⟩:∃ a b,l=[a,b]:=by
  rcases l with _|⟨a,_|⟨b,_|⟨c,_|⟨d,_|⟨e,l⟩⟩⟩⟩⟩;all_goals first|exact⟨_,_,rfl⟩|(simp at hl;done)|(exfalso;simp only[bY] at hl;omega)
 refine ⟨_,Yt sy ce fu a b hs hce hfu,rfl,rfl,rfl,rfl,rfl,rfl,AW λR T t'=>rfl⟩
theorem X3 {n:Nat} (hn:n+1<=100000) (I:CT) (L:List ET) (s:ST) (t u:Int) (hc:CB I) (hs:SV n L s) (J:Kt I L s):OX (fV (I,s,t,u)) (SQ n I L)/\(s.2.2.2.length=2->t=1->Ok (fV (I,s,t,u)) (SQ n I L)):=by
 refine AU 2 1 hn I L s t u hc hs J Se λsy ce fu l hs hce hfu hl=>⟨by decide,?_⟩
 obtain⟨a,b,rfl⟩:∃ a b,l=[a,b]:=by
  rcases l with _|⟨a,_|⟨b,_|⟨c,_|⟨d,_|⟨e,l⟩⟩⟩⟩⟩;all_goals first|exact⟨_,_,rfl⟩|(simp at hl;done)|(exfalso;simp only[bY] at hl;omega)
 refine ⟨_,Ys sy ce fu a b hs hce hfu,rfl,rfl,rfl,rfl,rfl,rfl,AW λR T t'=>rfl⟩
theorem X5 {n:Nat} (hn:n+1<=100000) (I:CT) (L:List ET) (s:ST) (t u:Int) (hc:CB I) (hs:SV n L s) (J:Kt I L s):OX (fX (I,s,t,u)) (SQ n I L)/\(s.2.2.2.length=1->t=0->Ok (fX (I,s,t,u)) (SQ n I L)):=by
 refine AU 1 0 hn I L s t u hc hs J Sg λsy ce fu l hs hce hfu hl=>⟨by decide,?_⟩
 obtain⟨a,rfl⟩:∃ a,l=[a]:=by
  rcases l with _|⟨a,_|⟨b,_|⟨c,_|⟨d,_|⟨e,l⟩⟩⟩⟩⟩;all_goals first|exact⟨_,rfl⟩|(simp at hl;done)|(exfalso;simp only[bY] at hl;omega)
 refine ⟨_,Yu sy ce fu a hs hce hfu,rfl,rfl,rfl,rfl,rfl,rfl,AW λR T t'=>rfl⟩
theorem X6 {n:Nat} (hn:n+1<=100000) (c:CT) (L:List ET) (s:ST) (t u:Int) (hc:CB c) (hs:SV n L s) (Z:Kt c L s):Ok (zM (c,s,t,u)) (SQ n c L):=by
 unfold zM;have I:=XZ hn c L s t u hc hs Z;have J:=XY hn c L s t u hc hs Z;have M:=XX hn c L s t u hc hs Z;have U:=XW hn c L s t u hc hs Z;have Y:=X2 hn c L s t u hc hs Z;have a31:=X1 hn c L s t u hc hs Z;have a32:=X0 hn c L s t u hc hs Z;have a20:=X4 hn c L s t u hc hs Z;have a21:=X3 hn c L s t u hc hs Z;have a10:=X5 hn c L s t u hc hs Z;by_cases hz:s.2.2.2.length<=4/\0<=t/\t<(s.2.2.2.length:Int)
 .obtain⟨h1,h2,h3⟩:=hz;have:(s.2.2.2.length=4/\t=0)\/(s.2.2.2.length=4/\t=1)\/(s.2.2.2.length=4/\t=2)\/(s.2.2.2.length=4/\t=3)\/(s.2.2.2.length=3/\t=0)\/(s.2.2.2.length=3/\t=1)\/(s.2.2.2.length=3/\t=2)\/(s.2.2.2.length=2/\t=0)\/(s.2.2.2.length=2/\t=1)\/(s.2.2.2.length=1/\t=0):=by omega
  rcases this with h|h|h|h|h|h|h|h|h|h
  .exact (I.2 h.1 h.2).orL
  .exact I.1.orR (J.2 h.1 h.2).orL
  .exact I.1.orR (J.1.orR (M.2 h.1 h.2).orL)
  .exact I.1.orR (J.1.orR (M.1.orR (U.2 h.1 h.2).orL))
  .exact I.1.orR (J.1.orR (M.1.orR (U.1.orR (Y.2 h.1 h.2).orL)))
  .exact I.1.orR (J.1.orR (M.1.orR (U.1.orR (Y.1.orR (a31.2 h.1 h.2).orL))))
  .exact I.1.orR (J.1.orR (M.1.orR (U.1.orR (Y.1.orR (a31.1.orR (a32.2 h.1 h.2).orL)))))
  .exact I.1.orR (J.1.orR (M.1.orR (U.1.orR (Y.1.orR (a31.1.orR (a32.1.orR (a20.2 h.1 h.2).orL))))))
  .exact I.1.orR (J.1.orR (M.1.orR (U.1.orR (Y.1.orR (a31.1.orR (a32.1.orR (a20.1.orR (a21.2 h.1 h.2).orL)))))))
  .exact I.1.orR (J.1.orR (M.1.orR (U.1.orR (Y.1.orR (a31.1.orR (a32.1.orR (a20.1.orR (a21.1.orR (a10.2 h.1 h.2)))))))))
 .refine Ok.orL ?_;unfold mF aX bl dw;refine Hz hn hc hs Z (λo=>Ok o (SQ n c L)) (λy h=>ar h) _ λe v sy hp _ _ _ _ _=>(hz ?_).elim
  have h1:s.2.2.2.length=c.2.length:=hp.fs.th;have h2:c.2.length=c.1.2.2.2.2.1.length:=hp.fs.vc.tl;have h3:c.1.2.2.2.2.1.length<=4:=hp.fs.vc.vl.t;have h4:0<=t:=hp.t0;have h5:t<(c.2.length:Int):=hp.t1;exact⟨by omega,h4,by omega⟩
theorem acz (c:CT) (s:ST) (l:List (Int×Int)) (hc:CB c) (hs:SV 0 [] s) (hI:Kt c [] s) (hl:l.length<=9223372036854775806):Ok (vM (c,s,l)) λy=>y.1.length<=400/\(∀ e∈y.1,EvF c.1 e/\Yk e)/\∃ sy ce fu,Acw c.1 y.1 sy ce fu:=by
 unfold vM aX bl dw bz bF bK aZ cP aF cF;refine pR (λx=>((l.length:Int)-x.1).toNat) (λx=>0<=x.1/\x.2.2.1=c/\SV x.2.1.length x.2.1 x.2.2.2.1/\Kt c x.2.1 x.2.2.2.1/\x.2.1.length<=400/\∀ e∈x.2.1,EvF c.1 e/\Yk e) ?_ ⟨eX _,rfl,hs,hI,by simp,λe he=>(by cases he)⟩;rintro⟨(i:Int),es,c',s',z⟩ ⟨U,e1,e2,eI,e3,I⟩;dsimp only at U e1 e2 eI e3 I;subst e1;refine aY (λx=>x.2=(es,c',s',z)/\(x.1=ai->i<(l.length:Int)/\es.length<400)) ?_ ?_
 .refine bI (λg=>ar ⟨rfl,λh=>⟨g,?_⟩⟩) λ_=>ar ⟨rfl,λh=>(by cases h)⟩
  dsimp only at h;rw[s8] at h;dsimp only[au] at h;omega
 rintro⟨b,x⟩ ⟨Z,Y⟩;dsimp only at Z Y;subst Z;refine aP (λh=>?_) λ_=>ar ⟨e3,I,_,_,_,eI.ac⟩
 obtain⟨g1,g2⟩:=Y h;refine aY (λx=>x.2.1=c'/\SV x.1.length x.1 x.2.2.1/\Kt c' x.1 x.2.2.1/\x.1.length<=400/\∀ e∈x.1,EvF c'.1 e/\Yk e) ?_ ?_
 .refine aR U g1 (aS ?_);refine ax (X6 (n:=es.length) (by omega) c' es s' _ _ hc e2 eI) λy hy=>?_
  refine aP (λh=>?_) λ_=>ar ⟨rfl,e2,eI,e3,I⟩
  obtain⟨h1,hJ,h2,h3⟩:=hy h;refine bn (by simp;omega) (by omega) (ar ⟨rfl,?_,hJ,by simp;omega,λe he=>?_⟩)
  .dsimp only;rw[bt,eD];exact h1
  .rcases bP.1 he with he|he
   .exact I e he
   .rw[aL] at he;subst he;exact⟨h2,h3⟩
 rintro⟨es',c2,s2,z2⟩ ⟨k1,k2,kI,M,J⟩;dsimp only at k1 k2 kI M J;subst k1;refine ar ?_;dsimp only;rw[ib (n:=i+1) (by omega) (by omega)];exact⟨⟨by omega,rfl,k2,kI,M,J⟩,by omega⟩
theorem CB.vc {c:CT} (hc:CB c):VC c:=by
 obtain⟨b,h1,h2⟩:=RO c hc.th hc.ins;rw[hc.ok] at h1;cases h1;exact h2 rfl
theorem ahl (c:CT) (l:List (Int×Int)) (hc:CB c) (hl:l.length<=9223372036854775806):Ok (yA (c,l)) λy=>TR y.1:=by
 unfold yA;refine aV hc.ok (dO (λh=>(by cases h)) λ_=>?_);have hv:=hc.vc;refine ax (U3 c hc.ok hv) λs hs=>?_
 refine ax (acz c s l hc hs.1 hs.2 hl) λy I=>ar ?_
 exact⟨hv.vl.wb,hv.vl,λe he=>(I.2.1 e he).1,by have:=I.1;dsimp only;omega,λe he=>(I.2.1 e he).2,hc.wx,I.2.2⟩
theorem U_ (l:List Int) (hl:l.length<=1000000):Ok (oC l) λy=>y.length=l.length:=by
 unfold oC bz bF bK aZ cP aF cF;refine ci l.length (λi x=>x.1=(i:Int)/\x.2.length=i) ?_ ?_ ⟨rfl,rfl⟩
 .rintro i ⟨a,b⟩ hi ⟨e1,e2⟩;dsimp only at e1 e2;subst e1;refine dv ?_;refine cA (aS (cA (aS (bn (by simp;omega) (by omega) (ar ?_)))));dsimp only;exact⟨gO (by omega),by simp;omega⟩
 .rintro⟨a,b⟩ ⟨e1,e2⟩;dsimp only at e1 e2;subst e1;exact dc (ar e2)
theorem e_ (e:Xp):dW (Xp.op e,Xp.n e,Xp.name e,Xp.l e)=e:=by cases e;rfl
theorem yn (s:Sx):nD (Sx.op s,Sx.line s,Sx.name s,Sx.arg s,Sx.index s,Sx.expr s,Sx.body s,Sx.els s)=s:=by cases s;rfl
abbrev NV:List (List UInt8):=[[97],[98],[120],[121],[118]]
def GE:Nat->Xp->Prop
 |0,_=>False
 |d+1,e=>(e.op=3->e.name=[113])/\(e.op≠1->e.op≠2->1<=e.l.length)/\e.l.length<=2/\(∀ x∈e.l,GE d x)/\(e.op=2->e.name∈NV)/\(e.op≠1->e.op≠2->e.op≠3->2<=e.l.length/\6<=e.op/\e.op<=18)
theorem GE.mono:∀ {d:Nat} {e:Xp},GE d e->GE (d+1) e
 |0,_,h=>h.elim
 |_+1,_,h=>⟨h.1,h.2.1,h.2.2.1,λx I=>(h.2.2.2.1 x I).mono,h.2.2.2.2⟩
theorem GE.le {d k:Nat} {e:Xp} (h:GE d e) (hk:d<=k):GE k e:=by
 induction hk with
 |refl=>exact h
 |step _ I=>exact I.mono
theorem Ng (n:Int):rj n=af (.mk 1 n [] []):=rfl
theorem G7 (s:List UInt8):pg s=af (.mk 2 0 s []):=rfl
theorem EK (o:Int) (a b:Xp):nC (o,a,b)=af (.mk o 0 [] [a,b]):=by
 cases a;cases b;rfl
theorem tH (s:List UInt8) (e:Xp):ji (s,e)=af (.mk 1 0 s [] [] e [] []):=by
 cases e;rfl
abbrev MK:Type:=Int×Int×Bool×Bool×Bool×Bool
abbrev OE:Type:=List Int×Int
abbrev HD:Type:=Bool×List (List UInt8)
theorem GE.num (n:Int) (d:Nat):GE (d+1) (.mk 1 n [] []):=⟨λh=>(by cases h),λh=>(h rfl).elim,by simp[Xp.l],λx I=>(by cases I),λh=>(by cases h),λh=>(h rfl).elim⟩
theorem GE.nm {s:List UInt8} (hs:s∈NV) (d:Nat):GE (d+1) (.mk 2 0 s []):=⟨λh=>(by cases h),λ_ h=>(h rfl).elim,by simp[Xp.l],λx I=>(by cases I),λ_=>hs,λ_ h=>(h rfl).elim⟩
theorem GE.bin {o:Int} {a b:Xp} {d:Nat} (J:6<=o/\o<=18) (M:GE d a) (hb:GE d b):GE (d+1) (.mk o 0 [] [a,b]):=
 ⟨λh=>(by have h:o=3:=h;omega),λ_ _=>by simp[Xp.l],by simp[Xp.l],λx I=>by
   simp only[Xp.l,bi,cu,fY] at I;rcases I with rfl|rfl
   .exact M
   .exact hb,λh=>(by have h:o=2:=h;omega),λ_ _ _=>⟨by simp[Xp.l],J⟩⟩
theorem GE.ix {a:Xp} {d:Nat} (J:GE d a):GE (d+1) (.mk 3 0 [113] [a]):=
 ⟨λ_=>rfl,λ_ _=>by simp[Xp.l],by simp[Xp.l],λx I=>by
   simp only[Xp.l,bi,cu,fY] at I;rw[I];exact J,λh=>(by cases h),λ_ _ h=>(h rfl).elim⟩
theorem CO:∀ (n d:Nat),d<n->d<=10->∀ (m:MK) (t:OE) (h:HD),TP t->Ok (im n ((d:Int),m,t,h)) λy=>GE (d+1) y.1/\y.2.1=m/\uA t y.2.2.1/\y.2.2.2=h
 |0,d,hd,_,_,_,_,_=>by omega
 |n+1,d,hd,h10,m,t,h,ht=>by
  rw[yd];unfold nK aX bl bL dw cS bf bz bF kZ aZ aF;refine ax (gg 10 t ht) λy I=>?_
  obtain⟨k,t1⟩:=y;obtain⟨s1,k0,k1,_⟩:=I;have k1:=k1 (by decide);dsimp only at s1 k0 k1;refine aY (λx=>x.2=(m,t1,h,(0,0,[]),[[97],[98],[120],[121],[118],[120],[121]])/\(x.1=aj->2<=k/\(d=0->k<7))) ?_ ?_
  .refine bI (λ_=>ar ⟨rfl,λh=>(by cases h)⟩) λg=>aK (λg2=>ar ⟨rfl,λg3=>⟨g,λ_=>?_⟩⟩) λg2=>ar ⟨rfl,λ_=>⟨g,λh=>(g2 (by dsimp only;omega)).elim⟩⟩
   dsimp only at g3;rw[kT] at g3;exact g3
  rintro⟨b,x⟩ ⟨e,hb⟩;dsimp only at e hb;subst e;refine aP (λ_=>?_) λg=>?_
  .refine ax (gg 4 t1 s1.p) λy I=>?_
   refine aV (Ng _) (ar ?_);exact⟨GE.num _ _,rfl,s1.trans I.1,rfl⟩
  obtain⟨q0,q1⟩:=hb g;refine bI (λg=>?_) λg=>?_
  .refine ax (gg _ t1 s1.p) λy I=>?_
   obtain⟨u1,M,J,_⟩:=I;have J:=J (show (1:Int)<=7 by decide);refine aR M J (aR M J (aS ?_));refine aV (G7 _) (ar ?_);have hnv:∀ z∈([[97],[98],[120],[121],[118],[120],[121]]:List (List UInt8)),z∈NV:=by decide
   exact⟨GE.nm (hnv _ (bG (T:=.str) M J)) _,rfl,s1.trans u1,rfl⟩
  dsimp only at g;have hd0:d≠0:=λh=>by have:=q1 h;omega
  obtain⟨d,rfl⟩:∃ k,d=k+1:=⟨d-1,by omega⟩
  refine aK (λg=>?_) λg=>?_
  .refine ax (CO n 0 (by omega) (by omega) m t1 h s1.p) λy I=>?_
   obtain⟨e,m',t',h'⟩:=y;obtain⟨v1,Z,U,Y⟩:=I;dsimp only at v1 Z U Y;subst Z;subst Y;refine be (by simp) (ar ?_);dsimp only;rw[e_];exact⟨(GE.ix (v1.le (by omega):GE (d+1) e)),rfl,s1.trans U,rfl⟩
  .refine ax (gg _ t1 s1.p) λy I=>?_
   obtain⟨k2,t2⟩:=y;obtain⟨u1,M,J,_⟩:=I;have J:=J (by decide);dsimp only at u1 M J;refine aR M J (aR M J (aS ?_));have ho:(6:Int)<=aJ (T:=.int .i64) [6,7,8,11,13,17] k2/\aJ (T:=.int .i64) [6,7,8,11,13,17] k2<=(18:Int):=by
    have h1:=bG (T:=.int .i64) (xs:=([6,7,8,11,13,17]:List Int)) M J;have:∀ z:Int,z∈([6,7,8,11,13,17]:List Int)->6<=z/\z<=18:=by decide
    exact this _ h1
   have ew:bm .i64 (((d+1:Nat):Int)-1)=(d:Int):=by rw[ib (by omega) (by omega)];omega
   dsimp only;rw[ew];refine ax (CO n d (by omega) (by omega) m t2 h u1.p) λy I=>?_
   obtain⟨e,m',t',h'⟩:=y;obtain⟨v1,Z,U,Y⟩:=I;dsimp only at v1 Z U Y;subst Z;subst Y;refine be (by simp) ?_;refine ax (CO n d (by omega) (by omega) m' t' h' U.p) λy I=>?_
   obtain⟨e2,m2,t2',h2⟩:=y;obtain⟨w1,w2,w3,w4⟩:=I;dsimp only at w1 w2 w3 w4;subst w2;subst w4;refine be (by simp) ?_;refine aV (EK _ _ _) (ar ?_);dsimp only;rw[e_];exact⟨GE.bin ho v1 w1,rfl,s1.trans (u1.trans (U.trans w3)),rfl⟩
theorem Zi (d:Nat) (hd:d<=10) (m:MK) (t:OE) (h:HD) (ht:TP t):Ok (eY ((d:Int),m,t,h)) λy=>GE (d+1) y.1/\y.2.1=m/\uA t y.2.2.1/\y.2.2.2=h:=CO fuel d (by rw[jO];omega) hd m t h ht
end
end Go.Proofs.YthehadcddfilhaaGreatDoor.AI
