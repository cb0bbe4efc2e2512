/-
  Texts of the proof, part 2 of 6: what is used to prove the statement. No condition.
-/
import Derived.Test.YtgijlolllojpaaaGreatDoorShbClocksQ0
namespace Go.Proofs.YtgijlolllojpaaaGreatDoor.AI
open Go.RowKit
set_option maxRecDepth 100000
set_option maxHeartbeats 4000000
set_option linter.unusedVariables false
set_option linter.unusedSimpArgs false
open _root_.Bool renaming true→ai,false→aj
open _root_.Int renaming ofNat_eq_natCast→au,ofNat→aO,toNat→aT,reduceEq→aV,reduceNeg→bn,toNat_natCast→dC
open _root_.List renaming length→al,replicate→aG,range→bt,length_cons→b_,take→dF,length_singleton→dS,cons_append→gr,length_nil→j6,take_succ_cons→wy,foldl_cons→xD,take_zero→LG
open _root_.Nat renaming beq→aC,blt→gm
open _root_.Option renaming some→af,none→ah,map_some→co,getD_some→vu
open _root_.Prod renaming p2→aX,p3→bf,p4→bp,q3→bL,p5→ch,q5→cR,q4→dw,p6→dA,q6→fc,p7→jt,q7→kK,q8→nM,p8→vq,p10→xv,p9→xz,p11→Eu,q11→LD,q9→Oi
open _root_.Sum renaming inr→bP,inl→lD
noncomputable section
abbrev Kd0:Ty:=(.st (.pr jY (.pr jY (.pr jY (.pr jY (.pr jY (.pr jY (.pr (.sl aM) (.pr jY (.sl aM))))))))))
abbrev Kd1:Ty:=(.st (.pr .bool .bool))
abbrev Yn:=((List η)×(List η)×(List η)×(List η)×(List η)×(List η)×η×(List η)×η)
abbrev Yd1:=(η×(List η)×(List η)×(List η)×(List η)×(List η)×(List η)×(List η)×η×η)
abbrev Yd2:=(Int×gH×θ×List dz)
abbrev Yd3:=(Int×gP×gz×(List fA)×cj×cj×List π)
abbrev Yd4:=(dj×Int×Int×Int×Int×Int×η×η)
abbrev QL:=(List ν)
abbrev Yd6:=(Int×θ×List dz)
def M6 {α R:Type} [DecidableEq α] (a b:α) (r:Option R):Option R:=if a=b then r else ah
theorem Q6 {α R:Type} [DecidableEq α] (a b:α) (r:Option R):M6 a b r=same a b r:=by unfold M6 same;by_cases h:a=b<;>simp[h]
theorem Q5 {α R:Type} [DecidableEq α] {a b:α} (h:a=b) (r:Option R):M6 a b r=r:=by unfold M6;rw[aD h]
def je (x:η×Int):Option (Int):=
 (jn (α:=Bool) (bz x.2 0 (aF ai) (aF (c6 (aY x.1) x.2))) λI=>(bcase I (af 0) (tO x.2 x.1 (af (aJ (T:=aM) x.1 x.2)))))
def vL (it:xy) (x:η×η):Option η:=
 (bB (c6 0 (ir (aY x.1) (aY x.2))&&c6 (ir (aY x.1) (aY x.2)) (ir (aY x.1) (aY x.2))&&a_ (aT (ir (aY x.1) (aY x.2))) 8) (it (Int×η) _ (λI=>(bz I.1 (aO (al (aG (aT (ir (aY x.1) (aY x.2))) (0:Int)))) (obind (je (x.1,I.1)) λM=>(obind (je (x.2,I.1)) λJ=>(ck (eX I.1 (al I.2)) (cK ((cF I.1),(cw I.2 I.1 (ir M J))))))) (aF I.2))) (0,(aG (aT (ir (aY x.1) (aY x.2))) (0:Int)))))
def zw (x:η×η):Option η:=vL @iter x
def iK (x:η×η):Option η:=vL @fK x
def xP (x:η×Int):Option (Int):=
 (jn (α:=Bool) (bz x.2 0 (aF ai) (aF (c6 (aY x.1) x.2))) λI=>(bcase I (af 0) (tO x.2 x.1 (af (aJ (T:=aM) x.1 x.2)))))
def Fk (it:xy) (x:η×η):Option η:=
 (bB (c6 0 (ir (aY x.1) (aY x.2))&&c6 (ir (aY x.1) (aY x.2)) (ir (aY x.1) (aY x.2))&&a_ (aT (ir (aY x.1) (aY x.2))) 8) (it (Int×η) _ (λI=>(bz I.1 (aO (al (aG (aT (ir (aY x.1) (aY x.2))) (0:Int)))) (obind (xP (x.1,I.1)) λM=>(obind (xP (x.2,I.1)) λJ=>(ck (eX I.1 (al I.2)) (cK ((cF I.1),(cw I.2 I.1 (ir M J))))))) (aF I.2))) (0,(aG (aT (ir (aY x.1) (aY x.2))) (0:Int)))))
def EP (x:η×η):Option η:=Fk @iter x
def nQ (x:η×η):Option η:=Fk @fK x
def OY (x:η):Option η:=
 (bcase (aC (al x) 0) (FL (af ([]:η)) (bB (a_ (al ([]:η)+al x) 8) (af (([]:η)++x)))) (bB (a_ (al ([]:η)+al x) 8) (af (([]:η)++x))))
def xR (x:η):Option η:=chk (a_ (al x) 8) λ_=>af x
def xW (it:xy) (x:List η):Option (List η):=
 (bB (c6 0 (aY x)&&c6 (aY x) (aY x)&&a_ (aT (aY x)) 24) (it (Int×List η) _ (λI=>(bz I.1 (aY x) (tO I.1 x (obind (xR (aJ (T:=(.sl aM)) x I.1)) λJ=>(ck (eX I.1 (al I.2)) (cK ((cF I.1),(cw I.2 I.1 J)))))) (aF I.2))) (0,(aG (aT (aY x)) ([]:η)))))
def B6 (x:List η):Option (List η):=xW @iter x
def ip (x:List η):Option (List η):=xW @fK x
def Jf (x:η):Option η:=
 (bcase (aC (al x) 0) (FL (af ([]:η)) (bB (a_ (al ([]:η)+al x) 8) (af (([]:η)++x)))) (bB (a_ (al ([]:η)+al x) 8) (af (([]:η)++x))))
def pg (x:η):Option η:=chk (a_ (al x) 8) λ_=>af x
def rL (x:(List η)×(List η)×(List η)×(List η)×(List η)×(List η)×η×(List η)×η):Option (η×(List η)×(List η)×(List η)×(List η)×(List η)×(List η)×(List η)×η):=
 (obind (ip x.1) λy1=>(obind (ip x.2.1) λy2=>(obind (ip x.p2) λy3=>(obind (ip x.p3) λZ=>(obind (ip x.p4) λY=>(obind (ip x.p5) λU=>(obind (pg x.p6) λM=>(obind (ip x.p7) λJ=>(obind (pg x.q8) λI=>(af (M,y1,y2,y3,Z,Y,U,J,I)))))))))))
def ug (x:Int×List η):Option (η×List η):=
 (jn (α:=Bool×List η) (bz x.1 0 (aF (ai,x.2)) (aF ((c6 (aY x.2) x.1),x.2))) λI=>(bcase I.1 (af (([]:η),I.2)) (ck (eX x.1 (al I.2)) (af ((aJ (T:=(.sl aM)) I.2 x.1),I.2)))))
def rM (x:gj×η×dj×(List η)×(List η)×(List η)×(List η)×(List η)×(List η)×(List η)×η):Option ((List η)×gj×η×dj×(List η)×(List η)×(List η)×(List η)×(List η)×(List η)×(List η)×η):=
 (bd x.1.2.1 1 (ck (eX x.1.1 (al x.p4)) (af ([(aJ (T:=(.sl aM)) x.p4 x.1.1)],(x.1.1,x.1.2.1,x.1.p2,x.1.p3,x.1.p4,x.1.p5,x.1.q6),x.2.1,(x.p2.1,x.p2.2.1,x.p2.p2,x.p2.p3,x.p2.p4,x.p2.q5),x.p3,x.p4,x.p5,x.p6,x.p7,x.p8,x.p9,x.q10))) (bd x.1.2.1 21 (ck (eX x.1.p2 (al x.p3)) (af ([(aJ (T:=(.sl aM)) x.p3 x.1.p2)],(x.1.1,x.1.2.1,x.1.p2,x.1.p3,x.1.p4,x.1.p5,x.1.q6),x.2.1,(x.p2.1,x.p2.2.1,x.p2.p2,x.p2.p3,x.p2.p4,x.p2.q5),x.p3,x.p4,x.p5,x.p6,x.p7,x.p8,x.p9,x.q10))) (jn (α:=Bool×gj×η×dj×(List η)×(List η)×(List η)×(List η)×(List η)×(List η)×(List η)×η) (bd x.1.2.1 6 (aF ((decide ((x.1.2.1:Int)=6)),(x.1.1,x.1.2.1,x.1.p2,x.1.p3,x.1.p4,x.1.p5,x.1.q6),x.2.1,(x.p2.1,x.p2.2.1,x.p2.p2,x.p2.p3,x.p2.p4,x.p2.q5),x.p3,x.p4,x.p5,x.p6,x.p7,x.p8,x.p9,x.q10)) (aF ((decide ((x.1.2.1:Int)=10)),(x.1.1,x.1.2.1,x.1.p2,x.1.p3,x.1.p4,x.1.p5,x.1.q6),x.2.1,(x.p2.1,x.p2.2.1,x.p2.p2,x.p2.p3,x.p2.p4,x.p2.q5),x.p3,x.p4,x.p5,x.p6,x.p7,x.p8,x.p9,x.q10))) λI=>(bcase I.1 (ck (eX I.2.1.p2 (al I.p6)) (ck (eX I.2.1.p2 (al I.p7)) (af ([(aJ (T:=(.sl aM)) I.p6 I.2.1.p2),(aJ (T:=(.sl aM)) I.p7 I.2.1.p2)],(I.2.1.1,I.2.1.2.1,I.2.1.p2,I.2.1.p3,I.2.1.p4,I.2.1.p5,I.2.1.q6),I.p2,(I.p3.1,I.p3.2.1,I.p3.p2,I.p3.p3,I.p3.p4,I.p3.q5),I.p4,I.p5,I.p6,I.p7,I.p8,I.p9,I.p10,I.q11)))) (bd x.1.2.1 8 (ck (eX I.2.1.p2 (al I.p6)) (af ([(aJ (T:=(.sl aM)) I.p6 I.2.1.p2)],(I.2.1.1,I.2.1.2.1,I.2.1.p2,I.2.1.p3,I.2.1.p4,I.2.1.p5,I.2.1.q6),I.p2,(I.p3.1,I.p3.2.1,I.p3.p2,I.p3.p3,I.p3.p4,I.p3.q5),I.p4,I.p5,I.p6,I.p7,I.p8,I.p9,I.p10,I.q11))) (bd x.1.2.1 17 (tO I.2.1.p2 I.p3.p2 (obind (ug ((aJ (T:=lZ) I.p3.p2 I.2.1.p2).2,I.p6)) λM=>(bB (aC (al I.p6) (al M.2)&&ai) (obind (ug ((aJ (T:=lZ) I.p3.p2 I.2.1.p2).2,I.p7)) λJ=>(bB (aC (al I.p7) (al J.2)&&ai) (ck (eX I.2.1.1 (al I.p10)) (af ([M.1,J.1,(aJ (T:=(.sl aM)) I.p10 I.2.1.1)],(I.2.1.1,I.2.1.2.1,I.2.1.p2,I.2.1.p3,I.2.1.p4,I.2.1.p5,I.2.1.q6),I.p2,(I.p3.1,I.p3.2.1,I.p3.p2,I.p3.p3,I.p3.p4,I.p3.q5),I.p4,I.p5,M.2,J.2,I.p8,I.p9,I.p10,I.q11)))))))) (bd x.1.2.1 3 (ck (eX I.2.1.p2 (al I.p8)) (af ([(aJ (T:=(.sl aM)) I.p8 I.2.1.p2)],(I.2.1.1,I.2.1.2.1,I.2.1.p2,I.2.1.p3,I.2.1.p4,I.2.1.p5,I.2.1.q6),I.p2,(I.p3.1,I.p3.2.1,I.p3.p2,I.p3.p3,I.p3.p4,I.p3.q5),I.p4,I.p5,I.p6,I.p7,I.p8,I.p9,I.p10,I.q11))) (bd x.1.2.1 23 (ck (eX I.2.1.p2 (al I.p9)) (af ([(aJ (T:=(.sl aM)) I.p9 I.2.1.p2)],(I.2.1.1,I.2.1.2.1,I.2.1.p2,I.2.1.p3,I.2.1.p4,I.2.1.p5,I.2.1.q6),I.p2,(I.p3.1,I.p3.2.1,I.p3.p2,I.p3.p3,I.p3.p4,I.p3.q5),I.p4,I.p5,I.p6,I.p7,I.p8,I.p9,I.p10,I.q11))) (bd x.1.2.1 12 (af ([I.p2],(I.2.1.1,I.2.1.2.1,I.2.1.p2,I.2.1.p3,I.2.1.p4,I.2.1.p5,I.2.1.q6),I.p2,(I.p3.1,I.p3.2.1,I.p3.p2,I.p3.p3,I.p3.p4,I.p3.q5),I.p4,I.p5,I.p6,I.p7,I.p8,I.p9,I.p10,I.q11)) (af (([]:List η),(I.2.1.1,I.2.1.2.1,I.2.1.p2,I.2.1.p3,I.2.1.p4,I.2.1.p5,I.2.1.q6),I.p2,(I.p3.1,I.p3.2.1,I.p3.p2,I.p3.p3,I.p3.p4,I.p3.q5),I.p4,I.p5,I.p6,I.p7,I.p8,I.p9,I.p10,I.q11)))))))))))
def AC (it:xy) (x:gP×gz×(List fA)×cj×cj×List π):Option Yn:=
 (ck (c6 0 (aY x.p4)&&c6 (aY x.p4) (aY x.p4)&&a_ (aT (aY x.p4)) 24) (ck (c6 0 (aY x.2.1)&&c6 (aY x.2.1) (aY x.2.1)&&a_ (aT (aY x.2.1)) 24) (bB (c6 0 (aY x.1)&&c6 (aY x.1) (aY x.1)&&a_ (aT (aY x.1)) 24) (bB (c6 0 (aY x.p3)&&c6 (aY x.p3) (aY x.p3)&&a_ (aT (aY x.p3)) 24) (bB (c6 0 (aY x.p4)&&c6 (aY x.p4) (aY x.p4)&&a_ (aT (aY x.p4)) 24) (bB (c6 0 (aY x.p4)&&c6 (aY x.p4) (aY x.p4)&&a_ (aT (aY x.p4)) 8) (it (Int×(List η)×(List η)×(List η)×(List η)×(List η)×(List η)×(List η)×η) _ (λI=>(bz I.1 (aO (al (aG (aT (aY x.p4)) (0:Int)))) (ck (eX I.1 (al I.q8)) (cK ((cF I.1),I.2.1,I.p2,I.p3,I.p4,I.p5,I.p6,I.p7,(cw I.q8 I.1 (-1))))) (aF (I.2.1,I.p2,I.p3,I.p4,I.p5,I.p6,([]:η),I.p7,I.q8)))) (0,(aG (aT (aY x.p4)) ([]:η)),(aG (aT (aY x.p4)) ([]:η)),(aG (aT (aY x.2.1)) ([]:η)),(aG (aT (aY x.2.1)) ([]:η)),(aG (aT (aY x.1)) ([]:η)),(aG (aT (aY x.p3)) ([]:η)),(aG (aT (aY x.p4)) ([]:η)),(aG (aT (aY x.p4)) (0:Int))))))))))
def EU (x:gP×gz×(List fA)×cj×cj×List π):Option Yn:=AC @iter x
def n_ (x:gP×gz×(List fA)×cj×cj×List π):Option Yn:=AC @fK x
def qb (x:η×Int):Option η:=
 (jn (α:=Bool) (iT 0 x.2 (aF (fV x.2 4)) (aF aj)) λM=>(jn (α:=Int) (bcase M (aF (ir (aY x.1) (cF x.2))) (aF (aY x.1))) λI=>(bB (c6 0 I&&c6 I I&&a_ (aT I) 8) (jn (α:=η) (jn (α:=Bool×η) (bcase M (ck (eX x.2 (al (Uw (aG (aT I) (0:Int)) x.1))) (aF ((fV (aJ (T:=aM) (Uw (aG (aT I) (0:Int)) x.1) x.2) 9223372036854775807),(Uw (aG (aT I) (0:Int)) x.1)))) (aF (aj,(Uw (aG (aT I) (0:Int)) x.1)))) λJ=>(bcase J.1 (ck (eX x.2 (al J.2)) (ck (eX x.2 (al J.2)) (aF (cw J.2 x.2 (bk .i64 ((aJ (T:=aM) J.2 x.2)+1)))))) (aF J.2))) λU=>(af U)))))
def wR (x:η):Option (η×η):=
 (bB (a_ (al ([]:η)+al x) 8) (af ((([]:η)++x),x)))
def vD (x:η):Option η:=obind (wR x) λy=>M6 y.2 x (af y.1)
def Ir (it:xy) (x:η×η):Option (η×η):=
 (bB (c6 0 (ir (aY x.1) (aY x.2))&&c6 (ir (aY x.1) (aY x.2)) (ir (aY x.1) (aY x.2))&&a_ (aT (ir (aY x.1) (aY x.2))) 8) (it (Int×η×η) _ (λI=>(bz I.1 (aO (al (aG (aT (ir (aY x.1) (aY x.2))) (0:Int)))) (obind (je (x.1,I.1)) λM=>(obind (je (I.2.1,I.1)) λJ=>(ck (eX I.1 (al I.2.2)) (cK ((cF I.1),I.2.1,(cw I.2.2 I.1 (ir M J))))))) (aF (I.2.2,I.2.1)))) (0,x.2,(aG (aT (ir (aY x.1) (aY x.2))) (0:Int)))))
def OT (x:η×η):Option (η×η):=Ir @iter x
def tV (x:η×η):Option (η×η):=Ir @fK x
def Cb (x:η×η):Option η:=obind (tV x) λy=>M6 y.2 x.2 (af y.1)
def lM (x:Int×(List η)×η):Option ((List η)×η):=
 (jn (α:=Bool×(List η)×η) (iT 0 x.1 (aF ((fV x.1 (aY x.2.1)),x.2.1,x.2.2)) (aF (aj,x.2.1,x.2.2))) λI=>(bcase I.1 (ck (eX x.1 (al I.2.1)) (obind (Cb ((aJ (T:=(.sl aM)) I.2.1 x.1),I.2.2)) λJ=>(ck (eX x.1 (al I.2.1)) (af ((cw I.2.1 x.1 J),I.2.2))))) (af (I.2.1,I.2.2))))
def wO (x:Int×η×(List η)×(List η)×(List η)×(List η)×(List η)×(List η)×(List η)×η×η):Option Yd1:=
 (obind (vD x.q10) λI=>(ck (eX x.1 (al x.p8)) (ck (eX x.1 (al x.p9)) (af (x.2.1,x.p2,x.p3,x.p4,x.p5,x.p6,x.p7,(cw x.p8 x.1 I),(cw x.p9 x.1 (-1)),x.q10)))))
def AA (it:xy) (x:Yd4×η×(List η)×(List η)×(List η)×(List η)×(List η)×(List η)×(List η)×η×η):Option Yd1:=
 (obind (vD x.q10) λy1=>(ck (eX x.1.2.1 (al x.p2)) (jn (α:=η×(List η)×(List η)×(List η)×(List η)×(List η)×(List η)×(List η)×η×η) (bd x.1.p2 20 (obind (vD x.q10) λy3=>(ck (eX x.1.p3 (al x.p3)) (aF (x.2.1,(cw x.p2 x.1.2.1 y1),(cw x.p3 x.1.p3 y3),x.p4,x.p5,x.p6,x.p7,x.p8,x.p9,x.q10)))) (jn (α:=Bool×η×(List η)×(List η)×(List η)×(List η)×(List η)×(List η)×(List η)×η×η×dj×Int×Int×Int×Int×Int×η×η) (bd x.1.p2 7 (aF ((decide ((x.1.p2:Int)=7)),x.2.1,(cw x.p2 x.1.2.1 y1),x.p3,x.p4,x.p5,x.p6,x.p7,x.p8,x.p9,x.q10,(x.1.1.1,x.1.1.2.1,x.1.1.p2,x.1.1.p3,x.1.1.p4,x.1.1.q5),x.1.2.1,x.1.p2,x.1.p3,x.1.p4,x.1.p5,x.1.p6,x.1.q7)) (aF ((decide ((x.1.p2:Int)=11)),x.2.1,(cw x.p2 x.1.2.1 y1),x.p3,x.p4,x.p5,x.p6,x.p7,x.p8,x.p9,x.q10,(x.1.1.1,x.1.1.2.1,x.1.1.p2,x.1.1.p3,x.1.1.p4,x.1.1.q5),x.1.2.1,x.1.p2,x.1.p3,x.1.p4,x.1.p5,x.1.p6,x.1.q7))) λI=>(bcase I.1 (obind (lM (I.p14,I.p4,I.p10)) λy5=>(bB (aC (al I.p10) (al y5.2)&&(aC (al I.p4) (al y5.1)&&ai)) (aF (I.2.1,I.p2,I.p3,y5.1,I.p5,I.p6,I.p7,I.p8,I.p9,y5.2)))) (bd x.1.p2 9 (obind (lM (I.p14,I.p5,I.p10)) λy6=>(bB (aC (al I.p10) (al y6.2)&&(aC (al I.p5) (al y6.1)&&ai)) (aF (I.2.1,I.p2,I.p3,I.p4,y6.1,I.p6,I.p7,I.p8,I.p9,y6.2)))) (bd x.1.p2 16 (ck (eX I.p12 (al I.p9)) (tO I.p14 I.p11.p2 (obind (lM ((aJ (T:=lZ) I.p11.p2 I.p14).2,I.p4,I.p10)) λy7=>(bB (aC (al I.p10) (al y7.2)&&(aC (al I.p4) (al y7.1)&&ai)) (aF (I.2.1,I.p2,I.p3,y7.1,I.p5,I.p6,I.p7,I.p8,(cw I.p9 I.p12 I.p14),y7.2)))))) (bd x.1.p2 4 (tO I.p14 I.p11.1 (bcase (((((aJ (T:=kE) I.p11.1 I.p14).2).2).2).1) (obind (lM (I.p14,I.p6,I.p10)) λy8=>(bB (aC (al I.p10) (al y8.2)&&(aC (al I.p6) (al y8.1)&&ai)) (aF (I.2.1,I.p2,I.p3,I.p4,I.p5,y8.1,I.p7,I.p8,I.p9,y8.2)))) (aF (I.2.1,I.p2,I.p3,I.p4,I.p5,I.p6,I.p7,I.p8,I.p9,I.p10)))) (bd x.1.p2 22 (obind (lM (I.p14,I.p7,I.p10)) λy9=>(bB (aC (al I.p10) (al y9.2)&&(aC (al I.p7) (al y9.1)&&ai)) (aF (I.2.1,I.p2,I.p3,I.p4,I.p5,I.p6,y9.1,I.p8,I.p9,y9.2)))) (bd x.1.p2 13 (obind (Cb (I.2.1,I.p10)) λy10=>(aF (y10,I.p2,I.p3,I.p4,I.p5,I.p6,I.p7,I.p8,I.p9,I.p10))) (bd x.1.p2 18 (jn (α:=Bool×η×(List η)×(List η)×(List η)×(List η)×(List η)×(List η)×(List η)×η×η×Int×Int×Int×Int×Int×η×η) (iT 0 I.p15 (aF ((fV I.p15 (aY I.p8)),I.2.1,I.p2,I.p3,I.p4,I.p5,I.p6,I.p7,I.p8,I.p9,I.p10,I.p12,I.p13,I.p14,I.p15,I.p16,I.p17,I.q18)) (aF (aj,I.2.1,I.p2,I.p3,I.p4,I.p5,I.p6,I.p7,I.p8,I.p9,I.p10,I.p12,I.p13,I.p14,I.p15,I.p16,I.p17,I.q18))) λM=>(bcase M.1 (obind (wO (M.p14,M.2.1,M.p2,M.p3,M.p4,M.p5,M.p6,M.p7,M.p8,M.p9,M.p10)) λY=>(bB (aC (al M.p10) (al Y.q9)&&(aC (al M.p9) (al Y.p8)&&(aC (al M.p8) (al Y.p7)&&(aC (al M.p7) (al Y.p6)&&(aC (al M.p6) (al Y.p5)&&(aC (al M.p5) (al Y.p4)&&(aC (al M.p4) (al Y.p3)&&(aC (al M.p3) (al Y.p2)&&(aC (al M.p2) (al Y.2.1)&&ai))))))))) (aF (Y.1,Y.2.1,Y.p2,Y.p3,Y.p4,Y.p5,Y.p6,Y.p7,Y.p8,Y.q9)))) (aF (M.2.1,M.p2,M.p3,M.p4,M.p5,M.p6,M.p7,M.p8,M.p9,M.p10)))) (bd x.1.p2 19 (it (Int×η×(List η)×(List η)×(List η)×(List η)×(List η)×(List η)×(List η)×η×η×Int×Int×Int×Int×Int×η×η) _ (λJ=>(bz J.1 (aY I.p9) (jn (α:=η×(List η)×(List η)×(List η)×(List η)×(List η)×(List η)×(List η)×η×η×Int×Int×Int×Int×Int×η×η) (ck (eX J.1 (al J.p9)) (bd (aJ (T:=aM) J.p9 J.1) J.p13 (obind (wO (J.1,J.2.1,J.p2,J.p3,J.p4,J.p5,J.p6,J.p7,J.p8,J.p9,J.p10)) λU=>(bB (aC (al J.p10) (al U.q9)&&(aC (al J.p9) (al U.p8)&&(aC (al J.p8) (al U.p7)&&(aC (al J.p7) (al U.p6)&&(aC (al J.p6) (al U.p5)&&(aC (al J.p5) (al U.p4)&&(aC (al J.p4) (al U.p3)&&(aC (al J.p3) (al U.p2)&&(aC (al J.p2) (al U.2.1)&&ai))))))))) (aF (U.1,U.2.1,U.p2,U.p3,U.p4,U.p5,U.p6,U.p7,U.p8,U.q9,J.p11,J.p12,J.p13,J.p14,J.p15,J.p16,J.q17)))) (aF (J.2.1,J.p2,J.p3,J.p4,J.p5,J.p6,J.p7,J.p8,J.p9,J.p10,J.p11,J.p12,J.p13,J.p14,J.p15,J.p16,J.q17)))) λZ=>(cK ((cF J.1),Z.1,Z.2.1,Z.p2,Z.p3,Z.p4,Z.p5,Z.p6,Z.p7,Z.p8,Z.p9,Z.p10,Z.p11,Z.p12,Z.p13,Z.p14,Z.p15,Z.q16))) (aF (bP (J.2.1,J.p2,J.p3,J.p4,J.p5,J.p6,J.p7,J.p8,J.p9,J.p10))))) (0,I.2.1,I.p2,I.p3,I.p4,I.p5,I.p6,I.p7,I.p8,I.p9,I.p10,I.p12,I.p13,I.p14,I.p15,I.p16,I.p17,I.q18)) (aF (I.2.1,I.p2,I.p3,I.p4,I.p5,I.p6,I.p7,I.p8,I.p9,I.p10)))))))))))) λx2=>(af (x2.1,x2.2.1,x2.p2,x2.p3,x2.p4,x2.p5,x2.p6,x2.p7,x2.p8,x2.q9)))))
def ER (x:Yd4×η×(List η)×(List η)×(List η)×(List η)×(List η)×(List η)×(List η)×η×η):Option Yd1:=AA @iter x
def p_ (x:Yd4×η×(List η)×(List η)×(List η)×(List η)×(List η)×(List η)×(List η)×η×η):Option Yd1:=AA @fK x
def Dv (it:xy) (x:dj×Yn×Int×Int×Int×Int×Int×η×η):Option (Yn×η):=
 (obind (rL (x.2.1.1,x.2.1.2.1,x.2.1.p2,x.2.1.p3,x.2.1.p4,x.2.1.p5,x.2.1.p6,x.2.1.p7,x.2.1.q8)) λU=>(ck (eX x.p2 (al U.2.1)) (obind (rM ((x.p2,x.p3,x.p4,x.p5,x.p6,x.p7,x.q8),U.1,(x.1.1,x.1.2.1,x.1.p2,x.1.p3,x.1.p4,x.1.q5),U.2.1,U.p2,U.p3,U.p4,U.p5,U.p6,U.p7,U.q8)) λJ=>(bB (aC (al U.q8) (al J.q11)&&(aC (al U.p7) (al J.p10)&&(aC (al U.p6) (al J.p9)&&(aC (al U.p5) (al J.p8)&&(aC (al U.p4) (al J.p7)&&(aC (al U.p3) (al J.p6)&&(aC (al U.p2) (al J.p5)&&(aC (al U.2.1) (al J.p4)&&ai)))))))) (it (Int×dj×gj×η×η×(List η)×(List η)×(List η)×(List η)×(List η)×(List η)×(List η)×η) _ (λI=>(bz I.1 (aY J.1) (tO I.1 J.1 (obind (iK (I.p4,(aJ (T:=(.sl aM)) J.1 I.1))) λZ=>(cK ((cF I.1),(I.2.1.1,I.2.1.2.1,I.2.1.p2,I.2.1.p3,I.2.1.p4,I.2.1.q5),(I.p2.1,I.p2.2.1,I.p2.p2,I.p2.p3,I.p2.p4,I.p2.p5,I.p2.q6),I.p3,Z,I.p5,I.p6,I.p7,I.p8,I.p9,I.p10,I.p11,I.q12)))) (obind (obind (qb (I.p4,I.p2.1)) λY=>(obind (p_ (((I.2.1.1,I.2.1.2.1,I.2.1.p2,I.2.1.p3,I.2.1.p4,I.2.1.q5),I.p2.1,I.p2.2.1,I.p2.p2,I.p2.p3,I.p2.p4,I.p2.p5,I.p2.q6),I.p3,I.p5,I.p6,I.p7,I.p8,I.p9,I.p10,I.p11,I.q12,Y)) λM=>(bB (aC (al Y) (al M.q9)&&(aC (al I.q12) (al M.p8)&&(aC (al I.p11) (al M.p7)&&(aC (al I.p10) (al M.p6)&&(aC (al I.p9) (al M.p5)&&(aC (al I.p8) (al M.p4)&&(aC (al I.p7) (al M.p3)&&(aC (al I.p6) (al M.p2)&&(aC (al I.p5) (al M.2.1)&&ai))))))))) (af ((M.2.1,M.p2,M.p3,M.p4,M.p5,M.p6,M.1,M.p7,M.p8),M.q9))))) λr=>af (bP r)))) (0,(J.p3.1,J.p3.2.1,J.p3.p2,J.p3.p3,J.p3.p4,J.p3.q5),(J.2.1.1,J.2.1.2.1,J.2.1.p2,J.2.1.p3,J.2.1.p4,J.2.1.p5,J.2.1.q6),J.p2,(aJ (T:=(.sl aM)) U.2.1 x.p2),J.p4,J.p5,J.p6,J.p7,J.p8,J.p9,J.p10,J.q11))))))
def I_ (x:dj×Yn×Int×Int×Int×Int×Int×η×η):Option (Yn×η):=Dv @iter x
def sI (x:dj×Yn×Int×Int×Int×Int×Int×η×η):Option (Yn×η):=Dv @fK x
def uz (x:η):Option η:=
 (bB (a_ (al (x:η)) 8) (af x))
def Az (it:xy) (x:η×Int):Option η:=
 (obind (uz x.1) λM=>(jn (α:=Bool×η) (bz x.2 0 (aF (ai,M)) (aF ((c6 4 x.2),M))) λJ=>(bcase J.1 (af J.2) (it η _ (λI=>(iT (aY I) x.2 (bB (a_ (al I+al ([0])) 8) (cK (I++([0])))) (obind (jn (α:=η) (ck (eX x.2 (al I)) (bz (aJ (T:=aM) I x.2) 9223372036854775807 (ck (eX x.2 (al I)) (ck (eX x.2 (al I)) (aF (cw I x.2 (bk .i64 ((aJ (T:=aM) I x.2)+1)))))) (aF I))) λU=>(af U)) λr=>af (bP r)))) J.2))))
def EO (x:η×Int):Option η:=Az @iter x
def mn (x:η×Int):Option η:=Az @fK x
def Du (it:xy) (x:η×η):Option (Bool):=
 (it (Int) _ (λI=>(bz I (ir (aY x.1) (aY x.2)) (obind (xP (x.1,I)) λM=>(obind (xP (x.2,I)) λJ=>(bz J M (aF aj) (cK (cF I))))) (aF ai))) 0)
def I9 (x:η×η):Option (Bool):=Du @iter x
def sC (x:η×η):Option (Bool):=Du @fK x
def uf (x:η×η):Option (Bool):=
 (jn (α:=Bool) (obind (sC (x.1,x.2)) λJ=>(bcase J (obind (sC (x.2,x.1)) λI=>(aF I)) (aF aj))) λM=>(af M))
def tY (it:xy) (x:(List η)×List η):Option (Bool):=
 (iR (aY x.1) (aY x.2) (af aj) (it (Int) _ (λI=>(bz I (aY x.1) (tO I x.1 (tO I x.2 (obind (uf ((aJ (T:=(.sl aM)) x.1 I),(aJ (T:=(.sl aM)) x.2 I))) λJ=>(bcase (!J) (aF aj) (cK (cF I)))))) (aF ai))) 0))
def xM (x:(List η)×List η):Option (Bool):=tY @iter x
def jv (x:(List η)×List η):Option (Bool):=tY @fK x
def rA (x:dj×Int):Option (Int):=
 (jn (α:=Bool×gP×gz×(List fA)×cj×cj×List π) (bz x.2 0 (aF (ai,x.1.1,x.1.2.1,x.1.p2,x.1.p3,x.1.p4,x.1.q5)) (aF ((c6 (aY x.1.p2) x.2),x.1.1,x.1.2.1,x.1.p2,x.1.p3,x.1.p4,x.1.q5))) λI=>(bcase I.1 (af (-1)) (tO x.2 I.p3 (af ((aJ (T:=lZ) I.p3 x.2).2)))))
def oU (x:dj×Int×Int×Int×Int×Int×η×η):Option (Int×Bool):=
 (jn (α:=Bool×dj×Int×Int×Int×Int×Int×η×η) (bd x.p2 6 (aF ((decide ((x.p2:Int)=6)),(x.1.1,x.1.2.1,x.1.p2,x.1.p3,x.1.p4,x.1.q5),x.2.1,x.p2,x.p3,x.p4,x.p5,x.p6,x.q7)) (aF ((decide ((x.p2:Int)=10)),(x.1.1,x.1.2.1,x.1.p2,x.1.p3,x.1.p4,x.1.q5),x.2.1,x.p2,x.p3,x.p4,x.p5,x.p6,x.q7))) λI=>(bcase I.1 (af (I.p4,aj)) (bd x.p2 8 (af (I.p4,ai)) (bd x.p2 17 (obind (rA ((I.2.1.1,I.2.1.2.1,I.2.1.p2,I.2.1.p3,I.2.1.p4,I.2.1.q5),I.p4)) λJ=>(af (J,aj))) (af ((-1),aj))))))
def oS (x:dj×Int×Int×Int×Int×Int×η×η):Option (Int×Bool):=
 (jn (α:=Bool×dj×Int×Int×Int×Int×Int×η×η) (bd x.p2 7 (aF ((decide ((x.p2:Int)=7)),(x.1.1,x.1.2.1,x.1.p2,x.1.p3,x.1.p4,x.1.q5),x.2.1,x.p2,x.p3,x.p4,x.p5,x.p6,x.q7)) (aF ((decide ((x.p2:Int)=11)),(x.1.1,x.1.2.1,x.1.p2,x.1.p3,x.1.p4,x.1.q5),x.2.1,x.p2,x.p3,x.p4,x.p5,x.p6,x.q7))) λI=>(bcase I.1 (af (I.p4,aj)) (bd x.p2 9 (af (I.p4,ai)) (bd x.p2 16 (obind (rA ((I.2.1.1,I.2.1.2.1,I.2.1.p2,I.2.1.p3,I.2.1.p4,I.2.1.q5),I.p4)) λJ=>(af (J,aj))) (af ((-1),aj))))))
def rR (it:xy) (x:ζ):Option (Bool):=
 (lt (aJ (T:=(.st (.pr .str (.pr .str (.pr .str (.pr .str (.pr .str (.pr .str (.pr .str (.pr .str (.pr .str (.pr .str (.pr .str (.pr .str (.pr .str (.pr .str (.pr .str (.pr .str (.pr .str (.pr .str (.pr .str (.pr .str (.pr .str .str))))))))))))))))))))))) ([kwV]) 0) λI=>(it (Int) _ (λJ=>(bz J 22 (bB (c6 0 J&&fV J 22) (lt (aJ (T:=.str) [I.1,I.2.1,I.p2,I.p3,I.p4,I.p5,I.p6,I.p7,I.p8,I.p9,I.p10,I.p11,I.p12,I.p13,I.p14,I.p15,I.p16,I.p17,I.p18,I.p19,I.p20,I.q21] J) λM=>(bcase (decide ((x:ζ)=M)) (aF ai) (cK (cF J))))) (aF aj))) 0))
def rz (x:ζ):Option (Bool):=rR @iter x
def kY (x:ζ):Option (Bool):=rR @fK x
def wg (it:xy) (x:ζ):Option (Bool):=
 (jn (α:=Bool) (bz (aY x) 1 (aF ai) (bz 12 (aY x) (aF ai) (obind (kY x) λU=>(aF U)))) λZ=>(bcase Z (af aj) (it (List (fA×Unit)) _ (λI=>(bcase (gm (O1 I) (al (QI I))) (bB (fV (AL (QI I) (aO (O1 I))) 128) (jn (α:=List (fA×Unit)) (jn (α:=Bool×List (fA×Unit)) (iT 97 (AL (QI I) (aO (O1 I))) (iT (AL (QI I) (aO (O1 I))) 122 (aF (ai,[(((QI I),(aO ((O1 I)+1))),())])) (iT 65 (AL (QI I) (aO (O1 I))) (aF ((c6 (AL (QI I) (aO (O1 I))) 90),[(((QI I),(aO ((O1 I)+1))),())])) (aF (aj,[(((QI I),(aO ((O1 I)+1))),())])))) (iT 65 (AL (QI I) (aO (O1 I))) (aF ((c6 (AL (QI I) (aO (O1 I))) 90),[(((QI I),(aO ((O1 I)+1))),())])) (aF (aj,[(((QI I),(aO ((O1 I)+1))),())])))) λJ=>(bcase J.1 (aF J.2) (jn (α:=Bool×List (fA×Unit)) (bz 0 (aO (O1 I)) (bd (AL (QI I) (aO (O1 I))) 95 (aF (ai,J.2)) (iT 48 (AL (QI I) (aO (O1 I))) (aF ((c6 (AL (QI I) (aO (O1 I))) 57),J.2)) (aF (aj,J.2)))) (aF (aj,J.2))) λM=>(bcase M.1 (aF M.2) (cK (bP aj)))))) λY=>(cK Y))) (aF ai))) ([((x,0),())]))))
def vY (x:ζ):Option (Bool):=wg @iter x
def oO (x:ζ):Option (Bool):=wg @fK x
def ya (it:xy) (x:η×Int):Option (Int):=
 (it (Int) _ (λI=>(bz I (aY x.1) (bF aM x.1 I λJ=>(bd x.2 J (aF I) (cK (cF I)))) (aF (-1)))) 0)
def B8 (x:η×Int):Option (Int):=ya @iter x
def rN (x:η×Int):Option (Int):=ya @fK x
def kC (x:η×Int):Option (Bool):=
 (obind (rN x) λI=>(af (c6 0 I)))
def v_ (x:η×Int×Int):Option (Bool):=
 (obind (je (x.1,x.2.2)) λI=>(af (c6 x.2.1 I)))
def s5 (x:ν):Option (Bool):=
 (jn (α:=Bool) (iT 0 x.1 (aF (fV x.1 x.2)) (aF aj)) λI=>(af I))
def s6 (x:dj×Int×Bool):Option (Bool):=
 (jn (α:=Bool) (obind (s5 (x.2.1,(aY x.1.2.1))) λJ=>(bcase J (bF rY x.1.2.1 x.2.1 λI=>(aF ((I.2==x.2.2) !=aj))) (aF aj))) λM=>(af M))
def oH (it:xy) (x:List TW):Option (cj×Bool):=
 (it (Int×List ζ) _ (λM=>(bz M.1 (aY x) (jn (α:=Int×List ζ) (bF kE x M.1 λI=>(bB (a_ (al M.2+al ([I.1])) 16) (bd I.p2 0 (iR I.2.1 0 (cK (bP (([]:List ζ),aj))) (aF ((cF M.1),(M.2++([I.1]))))) (jn (α:=Bool×cj×ζ×Int×Int×Bool×Int) (bz I.p2 1 (aF (ai,(M.2++([I.1])),I)) (bz 4 I.p2 (aF (ai,(M.2++([I.1])),I)) (bcase I.p3 (aF (ai,(M.2++([I.1])),I)) (aF ((fV (bk .i64 ((aY x)-M.1)) I.p2),(M.2++([I.1])),I))))) λY=>(bcase Y.1 (cK (bP (([]:List ζ),aj))) (it (Int×cj×ζ×Int×Int×Bool×Int) _ (λJ=>(bz J.1 Y.p4 (bF kE x (bk .i64 (M.1+J.1)) λU=>(bcase (QJ (.pr .str (.pr aM (.pr aM (.pr .bool (.pr aM .un))))) (U.1,U.2.1,U.p2,U.p3,U.q4,()) (J.p2,J.1,J.p4,J.p5,J.q6,()) !=ai) (aF (lD (bP (([]:List ζ),aj)))) (cK ((cF J.1),J.2.1,J.p2,J.1,J.q4)))) (aF (bP ((bk .i64 (M.1+J.p4)),J.2.1))))) (0,Y.2))))))) λZ=>(cK Z)) (aF (M.2,ai)))) (0,([]:List ζ)))
def oD (x:List TW):Option (cj×Bool):=oH @iter x
def gZ (x:List TW):Option (cj×Bool):=oH @fK x
def oG (it:xy) (x:dj×List ζ):Option (Bool):=
 (bB (a_ (al (x.2:List ζ)) 16) (it (Int×dj×List ζ) _ (λJ=>(bz J.1 (aY x.1.2.1) (bF rY x.1.2.1 J.1 λz2=>(bB (a_ (al J.2.2+al ([z2.1])) 16) (cK ((cF J.1),J.2.1,(J.2.2++([z2.1])))))) (obind (it (Int×dj×List ζ) _ (λI=>(bz I.1 (aY J.2.1.p2) (bF lZ J.2.1.p2 I.1 λZ=>(bB (a_ (al I.2.2+al ([Z.1])) 16) (cK ((cF I.1),I.2.1,(I.2.2++([Z.1])))))) (obind (bB (a_ (al I.2.2+al I.2.1.p3) 16) (bB (a_ (al (I.2.2++I.2.1.p3)+al I.2.1.p4) 16) (it (Int×gz×List ζ) _ (λM=>(bz M.1 (aO (al ((I.2.2++I.2.1.p3)++I.2.1.p4))) (kl (.str) M.2.2 M.1 λU=>(jn (α:=Bool×gz×List ζ) (obind (oO U) λy8=>(bcase (!y8) (aF (ai,M.2)) (aF ((Ge (K:=.str) (V:=.bool) U M.2.1 aj),M.2)))) λY=>(bcase Y.1 (aF aj) (cK ((cF M.1),(Jb (K:=.str) (V:=.bool) U ai Y.2.1),Y.2.2))))) (aF ai))) (0,([]:List (ζ×Bool)),((I.2.2++I.2.1.p3)++I.2.1.p4))))) λr=>af (bP r)))) (0,J.2)) λr=>af (bP r)))) (0,x)))
def oC (x:dj×List ζ):Option (Bool):=oG @iter x
def dP (x:dj×List ζ):Option (Bool):=oG @fK x
def kP (it:xy) (x:gP×gz×(List fA)×cj×cj×List π):Option (Bool):=
 (it (π×gP×gz×(List fA)×cj×cj×List π) _ (λI=>(bz I.1.2.2 (aY x.q5) (bF o7 x.q5 I.1.2.2 λU=>(jn (α:=Bool×dj×Int×Int×Int) (bz U.1 I.1.1 (aF (ai,I.2,U)) (aF ((c6 (aY I.p5) U.1),I.2,U))) λM=>(bcase M.1 (aF aj) (jn (α:=(ν)×dj×Int×Int×Int) (bz I.1.1 M.p2 (aF ((M.p2,0),M.2)) (aF ((I.1.1,I.1.2.1),M.2))) λJ=>(iR J.p3 J.1.2 (aF aj) (cK ((J.1.1,(cF J.1.2),(cF I.1.2.2)),J.2.1))))))) (aF ai))) ((0,0,0),x))
def oB (x:gP×gz×(List fA)×cj×cj×List π):Option (Bool):=kP @iter x
def gd (x:gP×gz×(List fA)×cj×cj×List π):Option (Bool):=kP @fK x
def kQ (it:xy) (x:gP×gz×(List fA)×cj×cj×List π):Option (Bool):=
 (jn (α:=Bool×gP×gz×(List fA)×cj×cj×List π) (bz 12 (aY x.1) (aF (ai,x)) (bz 4 (aY x.2.1) (aF (ai,x)) (bz 2 (aY x.p2) (aF (ai,x)) (bz 2 (aY x.p3) (aF (ai,x)) (aF ((fV 60 (aY x.q5)),x)))))) λM=>(bcase M.1 (af aj) (jn (α:=Bool×gP×gz×(List fA)×cj×cj×List π) (bz (aY M.p5) 1 (aF (ai,M.2)) (aF ((fV 4 (aY M.p5)),M.2))) λJ=>(bcase J.1 (af aj) (obind (gZ J.2.1) λY=>(jn (α:=Bool×gP×gz×(List fA)×cj×cj×List π) (bcase (!Y.2) (aF (ai,J.2)) (obind (dP (J.2,Y.1)) λy5=>(aF ((!y5),J.2)))) λU=>(bcase U.1 (af aj) (it Yd3 _ (λI=>(bz I.1 (aY U.p3) (bF lZ U.p3 I.1 λZ=>(obind (s6 (I.2,Z.2,aj)) λy8=>(bcase (!y8) (aF aj) (cK ((cF I.1),I.2))))) (obind (obind (gd I.2) λy9=>(af y9)) λr=>af (bP r)))) (0,U.2)))))))))
def oE (x:gP×gz×(List fA)×cj×cj×List π):Option (Bool):=kQ @iter x
def dQ (x:gP×gz×(List fA)×cj×cj×List π):Option (Bool):=kQ @fK x
def wh (it:xy) (x:gP×gz×(List fA)×cj×cj×List π):Option pm:=
 (bB (c6 0 (aY x.2.1)&&c6 (aY x.2.1) (aY x.2.1)&&a_ (aT (aY x.2.1)) 32) (bB (c6 0 (aY x.p3)&&c6 (aY x.p3) (aY x.p3)&&a_ (aT (aY x.p3)) 1) (bB (c6 0 (aY x.p4)&&c6 (aY x.p4) (aY x.p4)&&a_ (aT (aY x.p4)) 24) (it (Int×Int×Int×gH×θ×List dz) _ (λI=>(bz I.1 (aO (al (aG (aT (aY x.2.1)) ((0,[]):Int×η)))) (ck (eX I.1 (al I.p3)) (cK ((cF I.1),I.2.1,I.p2,(cw I.p3 I.1 ((-1),(aJ (T:=dZ) I.p3 I.1).2)),I.q4))) (obind (jn (α:=Int×Int×gH×θ×List dz) (bz 0 (aY I.q5) (ck (eX 0 (al I.q5)) (aF (I.2.1,I.p2,I.p3,I.p4,(cw I.q5 0 (1,(aJ (T:=ib) I.q5 0).2))))) (aF I.2)) λJ=>(af (J.p2,J.2.1,J.q3))) λr=>af (bP r)))) (0,0,(-1),(aG (aT (aY x.2.1)) ((0,[]):Int×η)),(aG (aT (aY x.p3)) (aj:Bool)),(aG (aT (aY x.p4)) ((0,(0,aj)):Int×Int×Bool)))))))
def v7 (x:gP×gz×(List fA)×cj×cj×List π):Option pm:=wh @iter x
def oW (x:gP×gz×(List fA)×cj×cj×List π):Option pm:=wh @fK x
def qL (it:xy) (x:gP×gz×(List fA)×cj×cj×List π):Option eL:=
 (obind (oW x) λM=>(bB (c6 0 0&&c6 0 (aY x.1)&&a_ (aT (aY x.1)) 8) (bB (c6 0 (aY x.p3)&&c6 (aY x.p3) (aY x.p3)&&a_ (aT (aY x.p3)) 8) (bB (c6 0 (aY x.p4)&&c6 (aY x.p4) (aY x.p4)&&a_ (aT (aY x.p4)) 8) (it (Int×Int×pm×η×η×η) _ (λI=>(bz I.1 (aY x.1) (bF kE x.1 I.1 λJ=>(bB (a_ (al I.p3+al ([J.q4])) 8) (cK ((cF I.1),I.2.1,I.p2,(I.p3++([J.q4])),I.q4)))) (aF I.2.2))) (0,0,M,(aG (aT 0) (0:Int)),(aG (aT (aY x.p3)) (0:Int)),(aG (aT (aY x.p4)) (0:Int))))))))
def qx (x:gP×gz×(List fA)×cj×cj×List π):Option eL:=qL @iter x
def dk (x:gP×gz×(List fA)×cj×cj×List π):Option eL:=qL @fK x
def kw (it:xy) (x:θ×Int×Int×Int×Int×Int×η×η):Option (Bool):=
 (it (Int) _ (λI=>(bz I 2 (bB (c6 0 I&&fV I 2) (lt (aJ (T:=(.sl aM)) [x.p6,x.q7] I) λU=>(it (Int) _ (λM=>(bz M (aY U) (bF aM U M λJ=>(jn (α:=Bool) (bz J 0 (aF ai) (iT (aY x.1) J (aF ai) (bF (.bool) x.1 J λY=>(aF (!Y))))) λZ=>(bcase Z (aF (bP aj)) (cK (cF M))))) (aF (lD (cF I))))) 0))) (aF ai))) 0)
def mT (x:θ×Int×Int×Int×Int×Int×η×η):Option (Bool):=kw @iter x
def cr (x:θ×Int×Int×Int×Int×Int×η×η):Option (Bool):=kw @fK x
def fh (x:ν):Option (Bool):=
 (jn (α:=Bool) (iT 0 x.1 (aF (fV x.1 x.2)) (aF aj)) λI=>(af I))
def mc (x:dj×Int×Int):Option (Bool):=
 (jn (α:=Bool×gP×gz×(List fA)×cj×cj×List π) (bd x.2.1 1 (aF ((decide ((x.2.1:Int)=1)),x.1)) (bd x.2.1 2 (aF ((decide ((x.2.1:Int)=2)),x.1)) (bd x.2.1 5 (aF ((decide ((x.2.1:Int)=5)),x.1)) (bd x.2.1 12 (aF ((decide ((x.2.1:Int)=12)),x.1)) (bd x.2.1 13 (aF ((decide ((x.2.1:Int)=13)),x.1)) (bd x.2.1 14 (aF ((decide ((x.2.1:Int)=14)),x.1)) (aF ((decide ((x.2.1:Int)=15)),x.1)))))))) λx1=>(bcase x1.1 (af (decide ((x.2.2:Int)=(-1)))) (jn (α:=Bool×gP×gz×(List fA)×cj×cj×List π) (bd x.2.1 3 (aF ((decide ((x.2.1:Int)=3)),x1.2)) (aF ((decide ((x.2.1:Int)=4)),x1.2))) λZ=>(bcase Z.1 (obind (fh (x.2.2,(aY Z.2.1))) λy3=>(af y3)) (jn (α:=Bool×gP×gz×(List fA)×cj×cj×List π) (bd x.2.1 6 (aF ((decide ((x.2.1:Int)=6)),Z.2)) (aF ((decide ((x.2.1:Int)=7)),Z.2))) λU=>(bcase U.1 (jn (α:=Bool) (obind (fh (x.2.2,(aY U.p2))) λy6=>(bcase y6 (bF rY U.p2 x.2.2 λz7=>(aF (!z7.2))) (aF aj))) λx5=>(af x5)) (jn (α:=Bool×gP×gz×(List fA)×cj×cj×List π) (bd x.2.1 8 (aF ((decide ((x.2.1:Int)=8)),U.2)) (bd x.2.1 9 (aF ((decide ((x.2.1:Int)=9)),U.2)) (bd x.2.1 10 (aF ((decide ((x.2.1:Int)=10)),U.2)) (aF ((decide ((x.2.1:Int)=11)),U.2))))) λM=>(bcase M.1 (jn (α:=Bool) (obind (fh (x.2.2,(aY M.p2))) λy10=>(bcase y10 (bF rY M.p2 x.2.2 λz11=>(aF z11.2)) (aF aj))) λx9=>(af x9)) (jn (α:=Bool×gP×gz×(List fA)×cj×cj×List π) (bd x.2.1 16 (aF ((decide ((x.2.1:Int)=16)),M.2)) (bd x.2.1 17 (aF ((decide ((x.2.1:Int)=17)),M.2)) (bd x.2.1 18 (aF ((decide ((x.2.1:Int)=18)),M.2)) (aF ((decide ((x.2.1:Int)=19)),M.2))))) λJ=>(bcase J.1 (obind (fh (x.2.2,(aY J.p3))) λy13=>(af y13)) (jn (α:=Bool×gP×gz×(List fA)×cj×cj×List π) (bd x.2.1 20 (aF ((decide ((x.2.1:Int)=20)),J.2)) (aF ((decide ((x.2.1:Int)=21)),J.2))) λI=>(bcase I.1 (obind (fh (x.2.2,(aY I.p5))) λy15=>(af y15)) (jn (α:=Bool×gP×gz×(List fA)×cj×cj×List π) (bd x.2.1 22 (aF ((decide ((x.2.1:Int)=22)),I.2)) (aF ((decide ((x.2.1:Int)=23)),I.2))) λY=>(bcase Y.1 (obind (fh (x.2.2,(aY Y.p4))) λy17=>(af y17)) (af aj)))))))))))))))
def tZ (it:xy) (x:dj×gH×Int×θ×List dz):Option (Bool):=
 (jn (α:=Bool×gP×gz×(List fA)×cj×cj×List π) (iR (aY x.2.1) (aY x.1.2.1) (aF (ai,x.1)) (iR (aY x.p3) (aY x.1.p3) (aF (ai,x.1)) (aF ((!decide (((aY x.q4):Int)=(aY x.1.p4))),x.1)))) λJ=>(bcase J.1 (af aj) (it Yd3 _ (λI=>(bz I.1 (aY J.p3) (bF lZ J.p3 I.1 λM=>(obind (fh (M.2,(aY I.p2))) λU=>(bcase (!U) (aF aj) (cK ((cF I.1),I.2))))) (aF ai))) (0,J.2))))
def xN (x:dj×gH×Int×θ×List dz):Option (Bool):=tZ @iter x
def kq (x:dj×gH×Int×θ×List dz):Option (Bool):=tZ @fK x
def oV (x:dj×pm×Int×Int×Int):Option (Bool):=
 (bd x.p3 6 (bF dZ x.2.1.1 x.q4 λz1=>(af (decide ((z1.1:Int)=(-1))))) (bd x.p3 10 (jn (α:=Bool) (bF dZ x.2.1.1 x.q4 λz3=>(bd z3.1 (-1) (bF dZ x.2.1.1 x.q4 λz4=>(aF (decide (((aY z4.2):Int)=0)))) (aF aj))) λx2=>(af x2)) (bd x.p3 8 (jn (α:=Bool) (bF dZ x.2.1.1 x.q4 λz6=>(bd z6.1 (-1) (bF dZ x.2.1.1 x.q4 λz7=>(obind (kC (z7.2,x.p2)) λy8=>(aF (!y8)))) (aF aj))) λx5=>(af x5)) (jn (α:=Bool×dj×gH×Int×θ×List dz) (bd x.p3 7 (aF ((decide ((x.p3:Int)=7)),x.1,x.2.1)) (aF ((decide ((x.p3:Int)=11)),x.1,x.2.1))) λJ=>(bcase J.1 (bF dZ J.p2 x.q4 λz10=>(af (decide ((z10.1:Int)=x.p2)))) (bd x.p3 9 (bF dZ J.p2 x.q4 λz11=>(obind (kC (z11.2,x.p2)) λy12=>(af y12))) (bd x.p3 12 (af (decide ((J.p3:Int)=(-1)))) (bd x.p3 13 (af (decide ((J.p3:Int)=x.p2))) (bd x.p3 14 (bF ib J.q5 x.p2 λz13=>(af (!z13.2.2))) (bd x.p3 15 (bF ib J.q5 x.p2 λz14=>(af z14.2.2)) (jn (α:=Bool×dj×gH×Int×θ×List dz) (bd x.p3 16 (aF ((decide ((x.p3:Int)=16)),J.2)) (bd x.p3 18 (aF ((decide ((x.p3:Int)=18)),J.2)) (aF ((decide ((x.p3:Int)=19)),J.2)))) λI=>(bcase I.1 (bF lZ I.2.1.p2 x.q4 λz16=>(bF dZ I.p2 z16.2 λz17=>(af (decide ((z17.1:Int)=x.p2))))) (bd x.p3 20 (jn (α:=Bool) (iR x.q4 x.p2 (bF ib I.q5 x.q4 λZ=>(aF (decide ((Z.1:Int)=0)))) (aF aj)) λx18=>(af x18)) (bd x.p3 21 (jn (α:=Bool) (iR x.q4 x.p2 (bF ib I.q5 x.q4 λY=>(aF (decide ((Y.1:Int)=5)))) (aF aj)) λx20=>(af x20)) (bd x.p3 22 (bF (.bool) I.p4 x.q4 λU=>(af (!U))) (bd x.p3 23 (bF (.bool) I.p4 x.q4 λM=>(af M)) (af ai)))))))))))))))))
def ji (x:dj×pm×Int×Int×Int):Option (Bool):=
 (jn (α:=Bool×dj×gH×Int×θ×List dz) (obind (kq (x.1,x.2.1)) λy2=>(bcase (!y2) (aF (ai,x.1,x.2.1)) (obind (fh (x.p2,(aY x.1.p4))) λy3=>(bcase (!y3) (aF (ai,x.1,x.2.1)) (obind (mc (x.1,x.q3)) λZ=>(aF ((!Z),x.1,x.2.1))))))) λI=>(bcase I.1 (af aj) (bF ib I.q5 x.p2 λJ=>(bd x.p3 1 (af (decide ((J.1:Int)=1))) (bd x.p3 17 (jn (α:=Bool) (bd J.1 4 (bd J.2.1 x.q4 (bF lZ I.2.1.p2 x.q4 λY=>(bF dZ I.p2 Y.2 λU=>(aF (decide ((U.1:Int)=(-1)))))) (aF aj)) (aF aj)) λx6=>(af x6)) (jn (α:=Bool) (bd J.1 2 (obind (oV (I.2.1,I.2.2,x.2.2)) λM=>(aF M)) (aF aj)) λx9=>(af x9)))))))
def kX (x:dj×pm×η×η×η):Option (Bool):=
 (jn (α:=Bool) (obind (kq (x.1,x.2.1)) λI=>(bcase I (bd (aY x.p2) (aY x.1.1) (bd (aY x.p3) (aY x.1.p3) (aF (decide (((aY x.q4):Int)=(aY x.1.p4)))) (aF aj)) (aF aj)) (aF aj))) λJ=>(af J))
def jH (x:dj×Int×Int×Int×Int×Int×η×η):Option (Bool):=
 (jn (α:=Bool×dj×Int×Int×Int×Int×Int×η×η) (bd x.p2 1 (aF (ai,x)) (aF ((decide ((x.p2:Int)=2)),x))) λI=>(bcase I.1 (af (decide ((I.p6:Int)=(-1)))) (jn (α:=Bool) (iT 0 I.p6 (bz I.p6 (aY I.2.1.q5) (bF o7 I.2.1.q5 I.p6 λJ=>(aF (decide ((J.1:Int)=I.p2)))) (aF aj)) (aF aj)) λM=>(af M))))
def jy (it:xy) (x:dj×eL×Int×Int×Int×Int×Int×η×η):Option (Bool):=
 (jn (α:=Bool×eL×Int×Int×Int×Int×Int×η×η) (bd x.p3 3 (bF kE x.1.1 x.p4 λz2=>(aF ((!decide ((z2.2.2.1:Int)=0)),x.2))) (bd x.p3 4 (bF kE x.1.1 x.p4 λz3=>(aF ((!decide ((z3.2.2.1:Int)=0)),x.2))) (aF (aj,x.2)))) λI=>(jn (α:=eL×gj×Bool×Bool) (bd I.p3 5 (bd I.p3 4 (aF (I.2.1,I.2.2,ai,ai)) (aF (I.2.1,I.2.2,ai,(decide ((I.p3:Int)=22))))) (bd I.p3 4 (aF (I.2.1,I.2.2,I.1,ai)) (aF (I.2.1,I.2.2,I.1,(decide ((I.p3:Int)=22)))))) λx4=>(it (Int×eL×gj×Bool×Bool) _ (λJ=>(bz J.1 2 (bB (c6 0 J.1&&fV J.1 2) (lt (aJ (T:=(.sl aM)) [x4.2.1.p5,x4.2.1.q6] J.1) λZ=>(jn (α:=Bool×eL×gj×Bool×Bool) (bz 0 (aY Z) (bB (c6 0 J.1&&fV J.1 2) (bB (eX J.1 2) (lt (aJ (T:=.bool) [J.p3,J.q4] J.1) λz8=>(aF ((!z8),J.2))))) (aF (aj,J.2))) λx7=>(bcase x7.1 (aF aj) (it (ν×eL×gj×Bool×Bool) _ (λM=>(bz M.1.2 (aY Z) (bF aM Z M.1.2 λU=>(jn (α:=Bool×eL×gj×Bool×Bool) (iT U M.1.1 (aF (ai,M.2)) (bF aM M.2.1.q3 M.p2.1 λz12=>(aF ((c6 z12 U),M.2)))) λY=>(bcase Y.1 (aF (bP aj)) (cK ((U,(cF M.1.2)),Y.2))))) (aF (lD ((cF J.1),M.2))))) ((0,0),x7.2)))))) (aF ai))) (0,x4))))
def lI (x:dj×eL×Int×Int×Int×Int×Int×η×η):Option (Bool):=jy @iter x
def fd (x:dj×eL×Int×Int×Int×Int×Int×η×η):Option (Bool):=jy @fK x
def lP (it:xy) (x:eL×Int×Int×Int×Int×Int×η×η):Option (Bool):=
 (bd x.p2 3 (bF aM x.1.2.1 x.p3 λz1=>(af (decide ((x.p4:Int)=z1)))) (bd x.p2 23 (bF aM x.1.p2 x.p3 λz2=>(af (decide ((x.p4:Int)=z2)))) (bd x.p2 5 (jn (α:=Bool) (bd x.p4 0 (aF ai) (aF (decide ((x.p4:Int)=1)))) λx3=>(af x3)) (jn (α:=Bool×eL×Int×Int×Int×Int×Int×η×η) (bd x.p2 4 (aF ((decide ((x.p2:Int)=4)),x)) (aF ((decide ((x.p2:Int)=22)),x))) λM=>(bcase M.1 (af ai) (bd x.p2 18 (it ((Int×Bool×Int)×Int×Int×Int×Int×Int×η×η) _ (λJ=>(bz J.1.2.2 (aY M.2.1.1.q3) (jn (α:=(Int×Bool)×Int×Int×Int×Int×Int×η×η) (bF ib M.2.1.1.q3 J.1.2.2 λz7=>(jn (α:=Bool×Int×Int×Int×Int×Int×η×η) (bd z7.1 3 (aF ((decide ((z7.2.1:Int)=J.p3)),J.2)) (aF (aj,J.2))) λZ=>(bcase Z.1 (bcase J.1.2.1 (aF (((cF J.1.1),ai),Z.2)) (aF (((cF J.1.1),(decide ((Z.p4:Int)=J.1.2.2))),Z.2))) (aF ((J.1.1,J.1.2.1),Z.2))))) λx6=>(cK ((x6.1.1,x6.1.2,(cF J.1.2.2)),x6.2))) (obind (jn (α:=Bool) (bcase J.1.2.1 (aF ai) (bd J.1.1 0 (aF (decide ((J.p4:Int)=(-1)))) (aF aj))) λx9=>(af x9)) λr=>af (bP r)))) ((0,aj,0),M.2.2)) (bd x.p2 19 (it (ν×Int×Int×Int×Int×Int×η×η) _ (λI=>(bz I.1.2 (aY M.2.1.1.q3) (jn (α:=Int×Int×Int×Int×Int×Int×η×η) (bF ib M.2.1.1.q3 I.1.2 λY=>(jn (α:=Bool×Int×Int×Int×Int×Int×η×η) (bd Y.1 3 (aF ((decide ((Y.2.1:Int)=I.p3)),I.2)) (aF (aj,I.2))) λU=>(bcase U.1 (aF ((cF I.1.1),U.2)) (aF (I.1.1,U.2))))) λx11=>(cK ((x11.1,(cF I.1.2)),x11.2))) (aF (decide ((I.p4:Int)=I.1.1))))) ((0,0),M.2.2)) (af (decide ((M.p5:Int)=0))))))))))
def po (x:eL×Int×Int×Int×Int×Int×η×η):Option (Bool):=lP @iter x
def gy (x:eL×Int×Int×Int×Int×Int×η×η):Option (Bool):=lP @fK x
def mA (x:dz×Int):Option (Bool):=
 (jn (α:=Bool) (bd x.1.1 3 (aF (decide ((x.1.2.1:Int)=x.2))) (aF aj)) λI=>(af I))
def Jh (x:θ):Option θ:=
 (bcase (aC (al x) 0) (FL (af ([]:θ)) (bB (a_ (al ([]:θ)+al x) 1) (af (([]:θ)++x)))) (bB (a_ (al ([]:θ)+al x) 1) (af (([]:θ)++x))))
def OX (x:θ):Option θ:=chk (a_ (al x) 1) λ_=>af x
def EZ (x:θ):Option θ:=
 (bcase (aC (al x) 0) (FL (af ([]:θ)) (bB (a_ (al ([]:θ)+al x) 1) (af (([]:θ)++x)))) (bB (a_ (al ([]:θ)+al x) 1) (af (([]:θ)++x))))
def Jg (x:θ):Option θ:=chk (a_ (al x) 1) λ_=>af x
def Je (x:List dz):Option (List dz):=
 (bcase (aC (al x) 0) (FL (af ([]:List dz)) (bB (a_ (al ([]:List dz)+al x) 24) (af (([]:List dz)++x)))) (bB (a_ (al ([]:List dz)+al x) 24) (af (([]:List dz)++x))))
def OW (x:List dz):Option (List dz):=chk (a_ (al x) 24) λ_=>af x
def EX (x:List dz):Option (List dz):=
 (bcase (aC (al x) 0) (FL (af ([]:List dz)) (bB (a_ (al ([]:List dz)+al x) 24) (af (([]:List dz)++x)))) (bB (a_ (al ([]:List dz)+al x) 24) (af (([]:List dz)++x))))
def Jd (x:List dz):Option (List dz):=chk (a_ (al x) 24) λ_=>af x
def EY (x:η):Option η:=
 (bcase (aC (al x) 0) (FL (af ([]:η)) (bB (a_ (al ([]:η)+al x) 8) (af (([]:η)++x)))) (bB (a_ (al ([]:η)+al x) 8) (af (([]:η)++x))))
def zC (x:η):Option η:=chk (a_ (al x) 8) λ_=>af x
def sj (it:xy) (x:gH×Int×θ×List dz):Option Yd2:=
 (bB (c6 0 (aY x.1)&&c6 (aY x.1) (aY x.1)&&a_ (aT (aY x.1)) 32) (it (Int×pm×Int×List (Int×η)) _ (λI=>(bz I.1 (aY x.1) (bF dZ x.1 I.1 λJ=>(obind (xR J.2) λY=>(ck (eX I.1 (al I.q3)) (cK ((cF I.1),I.2.1,I.p2,(cw I.q3 I.1 (J.1,Y))))))) (obind (obind (Jg I.2.1.p2) λU=>(obind (Jd I.2.1.q3) λM=>(af (I.2.1.2.1,I.q3,U,M)))) λr=>af (bP r)))) (0,x,0,(aG (aT (aY x.1)) ((0,[]):Int×η)))))
def vZ (x:gH×Int×θ×List dz):Option Yd2:=sj @iter x
def kB (x:gH×Int×θ×List dz):Option Yd2:=sj @fK x
def qO (it:xy) (x:π×gH×θ×List dz):Option Yd2:=
 (it (ν×gH×θ×(List dz)×Int) _ (λI=>(bz I.1.2 (aY x.q3) (jn (α:=Int×gH×θ×(List dz)×Int) (kl ib I.p3 I.1.2 λU=>(jn (α:=Bool×gH×θ×(List dz)×Int) (obind (mA (U,x.1.2.1)) λY=>(bcase Y (bz I.1.1 0 (aF (ai,I.2)) (aF ((decide ((I.1.2:Int)=x.1.2.2)),I.2))) (aF (aj,I.2)))) λJ=>(bcase J.1 (aF (I.1.2,J.2)) (aF (I.1.1,J.2))))) λM=>(cK ((M.1,(cF I.1.2)),M.2))) (obind (jn (α:=gH×θ×List dz) (iT 0 I.1.1 (ck (eX I.1.1 (al I.p3)) (aF (I.2.1,I.p2,(cw I.p3 I.1.1 (4,(aJ (T:=ib) I.p3 I.1.1).2))))) (aF (I.2.1,I.p2,I.p3))) λZ=>(af (I.1.1,Z))) λr=>af (bP r)))) (((-1),0),x.2.1,x.p2,x.q3,x.1.1))
def uv (x:π×gH×θ×List dz):Option Yd2:=qO @iter x
def jM (x:π×gH×θ×List dz):Option Yd2:=qO @fK x
def mH (it:xy) (x:ν×gH×θ×List dz):Option Yd2:=
 (it (ν×gH×θ×(List dz)×Int) _ (λI=>(bz I.1.2 (aY x.q3) (jn (α:=Int×gH×θ×(List dz)×Int) (kl ib I.p3 I.1.2 λM=>(obind (mA (M,x.1.2)) λU=>(bcase U (ck (eX I.1.2 (al I.p3)) (aF ((cF I.1.1),I.2.1,I.p2,(cw I.p3 I.1.2 (4,(aJ (T:=ib) I.p3 I.1.2).2)),I.q4))) (aF (I.1.1,I.2))))) λJ=>(cK ((J.1,(cF I.1.2)),J.2))) (aF (I.1.1,I.2.1,I.p2,I.p3)))) ((0,0),x.2.1,x.p2,x.q3,x.1.1))
def qy (x:ν×gH×θ×List dz):Option Yd2:=mH @iter x
def gV (x:ν×gH×θ×List dz):Option Yd2:=mH @fK x
def qH (x:Int):Option (Bool):=
 (af (!decide ((x:Int)=x)))
def v9 (x:ν):Option (Bool):=
 (jn (α:=Bool) (obind (qH x.1) λJ=>(bcase J (obind (qH x.2) λI=>(bcase (!I) (aF ai) (aF (fV x.1 x.2)))) (aF (fV x.1 x.2)))) λM=>(af M))
def rJ (x:Int):Option (Int):=
 (iT 4294967296 x ah (iT 65536 x ah (iT 256 x ah (tO (bk .u8 x) ([0,1,2,2,3,3,3,3,4,4,4,4,4,4,4,4,5,5,5,5,5,5,5,5,5,5,5,5,5,5,5,5,6,6,6,6,6,6,6,6,6,6,6,6,6,6,6,6,6,6,6,6,6,6,6,6,6,6,6,6,6,6,6,6,7,7,7,7,7,7,7,7,7,7,7,7,7,7,7,7,7,7,7,7,7,7,7,7,7,7,7,7,7,7,7,7,7,7,7,7,7,7,7,7,7,7,7,7,7,7,7,7,7,7,7,7,7,7,7,7,7,7,7,7,7,7,7,7,8,8,8,8,8,8,8,8,8,8,8,8,8,8,8,8,8,8,8,8,8,8,8,8,8,8,8,8,8,8,8,8,8,8,8,8,8,8,8,8,8,8,8,8,8,8,8,8,8,8,8,8,8,8,8,8,8,8,8,8,8,8,8,8,8,8,8,8,8,8,8,8,8,8,8,8,8,8,8,8,8,8,8,8,8,8,8,8,8,8,8,8,8,8,8,8,8,8,8,8,8,8,8,8,8,8,8,8,8,8,8,8,8,8,8,8,8,8,8,8,8,8,8,8,8,8,8,8]) (af (bk .i64 (0+(bk .i64 (AL ([0,1,2,2,3,3,3,3,4,4,4,4,4,4,4,4,5,5,5,5,5,5,5,5,5,5,5,5,5,5,5,5,6,6,6,6,6,6,6,6,6,6,6,6,6,6,6,6,6,6,6,6,6,6,6,6,6,6,6,6,6,6,6,6,7,7,7,7,7,7,7,7,7,7,7,7,7,7,7,7,7,7,7,7,7,7,7,7,7,7,7,7,7,7,7,7,7,7,7,7,7,7,7,7,7,7,7,7,7,7,7,7,7,7,7,7,7,7,7,7,7,7,7,7,7,7,7,7,8,8,8,8,8,8,8,8,8,8,8,8,8,8,8,8,8,8,8,8,8,8,8,8,8,8,8,8,8,8,8,8,8,8,8,8,8,8,8,8,8,8,8,8,8,8,8,8,8,8,8,8,8,8,8,8,8,8,8,8,8,8,8,8,8,8,8,8,8,8,8,8,8,8,8,8,8,8,8,8,8,8,8,8,8,8,8,8,8,8,8,8,8,8,8,8,8,8,8,8,8,8,8,8,8,8,8,8,8,8,8,8,8,8,8,8,8,8,8,8,8,8,8,8,8,8,8,8]) (bk .u8 x))))))))))
def uH (x:Int):Option (Int):=
 (obind (rJ x) λI=>(af I))
def j8 (it:xy) (x:ν×η):Option η:=
 (it (Int×η) _ (λM=>(bz M.1 x.1.2 (it (Int×η) _ (λI=>(jn (α:=Bool×η) (bz x.1.1 I.1 (kl aM I.2 I.1 λz4=>(kl aM I.2 (bk .i64 (I.1-1)) λZ=>(obind (v9 (z4,Z)) λy6=>(aF (y6,I.2))))) (aF (aj,I.2))) λJ=>(bcase J.1 (kl aM J.2 (bk .i64 (I.1-1)) λU=>(kl aM J.2 I.1 λY=>(ck (eX I.1 (al J.2)) (ck (eX (bk .i64 (I.1-1)) (al (cw J.2 I.1 U))) (cK ((bk .i64 (I.1-1)),(cw (cw J.2 I.1 U) (bk .i64 (I.1-1)) Y))))))) (aF (lD ((cF M.1),J.2)))))) M) (aF M.2))) ((cF x.1.1),x.2))
def j7 (x:ν×η):Option η:=j8 @iter x
def fX (x:ν×η):Option η:=j8 @fK x
def oF (it:xy) (x:π×η):Option η:=
 (it ((Int×Int×Int×Bool×Bool)×η) _ (λI=>(iT (bk .i64 (I.1.2.1-I.1.1)) 12 (obind (fX ((I.1.1,I.1.2.1),I.2)) λJ=>(bB (aC (al I.2) (al J)&&ai) (aF J))) (bd I.1.p2 0 ah (bcase (!I.1.p3) ah ah)))) ((x.1.1,x.1.2.1,x.1.2.2,ai,ai),x.2))
def oA (x:π×η):Option η:=oF @iter x
def jq (x:π×η):Option η:=oF @fK x
def wQ (x:η):Option η:=
 (obind (uH (bk .u64 (aY x))) λJ=>(obind (jq ((0,(aY x),J),x)) λI=>(bB (aC (al x) (al I)&&ai) (af I))))
def yc (it:xy) (x:η):Option η:=
 (bz (aY x) 2 (af x) (it (Int×η) _ (λI=>(bz I.1 (aY I.2) (kl aM I.2 I.1 λM=>(kl aM I.2 (bk .i64 (I.1-1)) λJ=>(bd M J (bB (c6 0 I.1&&fV I.1 (al I.2)) ah) (cK ((cF I.1),I.2))))) (aF I.2))) (1,x)))
def xO (x:η):Option η:=yc @iter x
def lO (x:η):Option η:=yc @fK x
def pf (x:ν):Option (Bool×Int):=
 (af ((decide ((x.1:Int)=x.2)),x.2))
def uR (it:xy) (x:η×Int):Option (Int×η×Int):=
 (it (Int×η×Int) _ (λI=>(bz I.1 (aY x.1) (kl aM I.2.1 I.1 λM=>(obind (pf (M,I.2.2)) λJ=>(bcase J.1 (aF (I.1,I.2.1,J.2)) (cK ((cF I.1),I.2.1,J.2))))) (aF ((-1),I.2)))) (0,x))
def uw (x:η×Int):Option (Int×η×Int):=uR @iter x
def nu (x:η×Int):Option (Int×η×Int):=uR @fK x
def s9 (it:xy) (x:η×Int):Option (Int×η):=
 (obind (nu x) λJ=>(bB (aC (al x.1) (al J.2.1)&&ai) (bd J.1 (-1) ah (it (ν×η×Int) _ (λI=>(bz I.1.2 (aY I.2.1) (jn (α:=Int×η×Int) (kl aM I.2.1 I.1.2 λU=>(obind (pf (U,I.2.2)) λM=>(bcase (!M.1) (ck (eX I.1.1 (al I.2.1)) (aF ((cF I.1.1),(cw I.2.1 I.1.1 U),M.2))) (aF (I.1.1,I.2.1,M.2))))) λY=>(cK ((Y.1,(cF I.1.2)),Y.2))) (obind (ck (c6 0 I.1.1&&fV I.1.1 (al I.2.1)) (bB (c6 0 I.1.1&&fV I.1.1 (al (dF (aT I.1.1) I.2.1++aG (al I.2.1-aT I.1.1) (0:Int)))) (af (I.2.2,(dF (aT I.1.1) (dF (aT I.1.1) I.2.1++aG (al I.2.1-aT I.1.1) (0:Int))))))) λr=>af (bP r)))) ((J.1,(cF J.1)),J.2)))))
def sZ (x:η×Int):Option (Int×η):=s9 @iter x
def jk (x:η×Int):Option (Int×η):=s9 @fK x
def gW (x:dj×pm×Int×Int×Int×Int):Option (pm×Int×Bool):=
 (obind (ji (x.1,x.2.1,x.p2,x.p3,x.p4)) λy1=>(bcase (!y1) (af ((([]:List (Int×η)),0,([]:θ),([]:List dz)),0,aj)) (obind (kB x.2.1) λJ=>(jn (α:=Int×Int×Int×gH×θ×List dz) (bd x.p3 1 (ck (eX x.p2 (al J.q3)) (aF (0,J.1,0,J.2.1,J.p2,(cw J.q3 x.p2 (2,(aJ (T:=ib) J.q3 x.p2).2))))) (bd x.p3 2 (ck (eX x.p2 (al J.q3)) (aF (0,J.1,0,J.2.1,J.p2,(cw J.q3 x.p2 (5,(aJ (T:=ib) J.q3 x.p2).2))))) (jn (α:=Bool×dj×Int×Int×Int×gH×θ×List dz) (bd x.p3 6 (aF ((decide ((x.p3:Int)=6)),x.1,J.1,x.p2,0,J.2)) (aF ((decide ((x.p3:Int)=10)),x.1,J.1,x.p2,0,J.2))) λY=>(bcase Y.1 (ck (eX x.p4 (al Y.p5)) (aF (0,Y.p2,Y.p4,(cw Y.p5 x.p4 (Y.p3,(aJ (T:=dZ) Y.p5 x.p4).2)),Y.q6))) (jn (α:=Bool×dj×Int×Int×Int×gH×θ×List dz) (bd x.p3 7 (aF ((decide ((x.p3:Int)=7)),Y.2)) (aF ((decide ((x.p3:Int)=11)),Y.2))) λI=>(bcase I.1 (ck (eX x.p4 (al I.p5)) (aF (0,I.p2,I.p4,(cw I.p5 x.p4 ((-1),(aJ (T:=dZ) I.p5 x.p4).2)),I.q6))) (bd x.p3 8 (kl dZ I.p5 x.p4 λz6=>ah) (bd x.p3 9 (kl dZ I.p5 x.p4 λz7=>ah) (bd x.p3 12 (aF (0,I.q3)) (bd x.p3 13 (aF (0,(-1),I.q4)) (bd x.p3 14 (ck (eX I.p3 (al I.q7)) (aF (0,I.p2,I.p4,I.p5,I.p6,(cw I.q7 I.p3 ((aJ (T:=ib) I.q7 I.p3).1,((aJ (T:=ib) I.q7 I.p3).2).1,ai))))) (bd x.p3 15 (ck (eX I.p3 (al I.q7)) (aF (0,I.p2,I.p4,I.p5,I.p6,(cw I.q7 I.p3 ((aJ (T:=ib) I.q7 I.p3).1,((aJ (T:=ib) I.q7 I.p3).2).1,aj))))) (bd x.p3 16 (bF lZ I.2.1.p2 x.p4 λz8=>(ck (eX z8.2 (al I.p5)) (ck (eX I.p3 (al I.q7)) (ck (eX I.p3 (al (cw I.q7 I.p3 (3,(aJ (T:=ib) I.q7 I.p3).2)))) (aF (0,I.p2,I.p4,(cw I.p5 z8.2 ((-1),(aJ (T:=dZ) I.p5 z8.2).2)),I.p6,(cw (cw I.q7 I.p3 (3,(aJ (T:=ib) I.q7 I.p3).2)) I.p3 ((aJ (T:=ib) (cw I.q7 I.p3 (3,(aJ (T:=ib) I.q7 I.p3).2)) I.p3).1,x.p4,((aJ (T:=ib) (cw I.q7 I.p3 (3,(aJ (T:=ib) I.q7 I.p3).2)) I.p3).2).2)))))))) (bd x.p3 17 (bF lZ I.2.1.p2 x.p4 λz9=>(ck (eX z9.2 (al I.p5)) (ck (eX I.p3 (al I.q7)) (ck (eX I.p3 (al (cw I.q7 I.p3 (2,(aJ (T:=ib) I.q7 I.p3).2)))) (aF (0,I.p2,I.p4,(cw I.p5 z9.2 (I.p3,(aJ (T:=dZ) I.p5 z9.2).2)),I.p6,(cw (cw I.q7 I.p3 (2,(aJ (T:=ib) I.q7 I.p3).2)) I.p3 ((aJ (T:=ib) (cw I.q7 I.p3 (2,(aJ (T:=ib) I.q7 I.p3).2)) I.p3).1,0,((aJ (T:=ib) (cw I.q7 I.p3 (2,(aJ (T:=ib) I.q7 I.p3).2)) I.p3).2).2)))))))) (bd x.p3 18 (obind (jM ((I.p2,x.q4),I.q5)) λU=>(bB (aC (al I.q7) (al U.q3)&&(aC (al I.p6) (al U.p2)&&(aC (al I.p5) (al U.2.1)&&ai))) (aF (U.1,I.p2,I.p4,U.2)))) (bd x.p3 19 (obind (gV ((I.p2,x.p4),I.q5)) λM=>(bB (aC (al I.q7) (al M.q3)&&(aC (al I.p6) (al M.p2)&&(aC (al I.p5) (al M.2.1)&&ai))) (aF (M.1,I.p2,I.p4,M.2)))) (bd x.p3 20 (ck (eX x.p4 (al I.q7)) (aF (0,I.p2,I.p4,I.p5,I.p6,(cw I.q7 x.p4 (1,(aJ (T:=ib) I.q7 x.p4).2))))) (bd x.p3 22 (ck (eX x.p4 (al I.p6)) (aF (0,I.p2,I.p4,I.p5,(cw I.p6 x.p4 ai),I.q7))) (aF (0,I.p2,I.q4)))))))))))))))))))) λZ=>(af ((Z.p3,Z.2.1,Z.q4),Z.1,ai))))))
def nl (x:gH×Int×θ×List dz):Option (Yd6×(π)×η×η×η):=
 (bB (c6 0 (aY x.1)&&c6 (aY x.1) (aY x.1)&&a_ (aT (aY x.1)) 32&&decide (((aY x.1):Int)=3)) (jn (α:=pm×Int×(π)×η×η×η) (bz 0 (aY x.1) (bF dZ x.1 0 λI=>(obind (pg I.2) λU=>(bz 1 (aY x.1) (bF dZ x.1 1 λM=>(obind (pg M.2) λy5=>(bz 2 (aY x.1) (bF dZ x.1 2 λz6=>(obind (pg z6.2) λy7=>(bz 3 (aY x.1) (bF dZ x.1 3 λz8=>(obind (pg z8.2) λy9=>ah)) (aF (x,0,(I.1,M.1,z6.1),U,y5,y7))))) (aF (x,0,(I.1,M.1,0),U,y5,([]:η)))))) (aF (x,0,(I.1,0,0),U,([]:η),([]:η)))))) (aF (x,0,(0,0,0),([]:η),([]:η),([]:η)))) λJ=>(obind (OX J.1.p2) λZ=>(obind (OW J.1.q3) λY=>(af ((J.1.2.1,Z,Y),J.2.2))))))
def lh (x:dj×pm×Int×Int×Int×Int):Option (pm×Int×Bool):=
 (obind (ji (x.1,x.2.1,x.p2,x.p3,x.p4)) λy1=>(bcase (!y1) (af ((([]:List (Int×η)),0,([]:θ),([]:List dz)),0,aj)) (obind (nl x.2.1) λM=>(jn (α:=Int×Yd6×Int×((Int×η)×(Int×η)×Int)×Bool×η) (bd x.p3 1 (tO x.p2 M.1.2.2 ah) (bd x.p3 2 (tO x.p2 M.1.2.2 ah) (jn (α:=Bool×dj×Yd6×Int×Int×(π)×η×η×η) (bd x.p3 6 (aF ((decide ((x.p3:Int)=6)),x.1,M.1,x.p2,0,M.2)) (aF ((decide ((x.p3:Int)=10)),x.1,M.1,x.p2,0,M.2))) λJ=>(bcase J.1 ah (jn (α:=Bool×dj×Yd6×Int×Int×(Int×η×Int×η×Int)×η) (bd x.p3 7 (aF ((decide ((x.p3:Int)=7)),J.2.1,J.p2,J.p3,J.p4,(J.p5.1,J.p6,J.p5.2.1,J.p7,J.p5.2.2),J.q8)) (aF ((decide ((x.p3:Int)=11)),J.2.1,J.p2,J.p3,J.p4,(J.p5.1,J.p6,J.p5.2.1,J.p7,J.p5.2.2),J.q8))) λI=>(bcase I.1 ah (bd x.p3 8 (bd x.p4 0 ah (bd x.p4 1 ah (bd x.p4 2 (bB (a_ (al I.q6+al ([I.p3])) 8) (obind (wQ (I.q6++([I.p3]))) λY=>(bB (aC (al (I.q6++([I.p3]))) (al Y)&&ai) (obind (lO Y) λZ=>(bB (aC (al Y) (al Z)&&ai) (aF (0,I.p2,I.p4,((I.p5.1,I.p5.2.1),(I.p5.p2,I.p5.p3),I.p5.q4),ai,Z))))))) ah))) (bd x.p3 9 (bd x.p4 0 ah (bd x.p4 1 ah (bd x.p4 2 (obind (jk (I.q6,I.p3)) λy8=>(bB (aC (al I.q6) (al I.q6)&&ai) (aF (0,I.p2,I.p4,((I.p5.1,I.p5.2.1),(I.p5.p2,I.p5.p3),I.p5.q4),aj,y8.2)))) ah))) (bd x.p3 12 (aF (0,(I.p3,I.p2.2),I.p4,((I.p5.1,I.p5.2.1),(I.p5.p2,I.p5.p3),I.p5.q4),ai,I.q6)) (bd x.p3 13 (aF (0,((-1),I.p2.2),I.p4,((I.p5.1,I.p5.2.1),(I.p5.p2,I.p5.p3),I.p5.q4),ai,I.q6)) (bd x.p3 14 (tO I.p3 I.p2.2.2 ah) (bd x.p3 15 (tO I.p3 I.p2.2.2 ah) (bd x.p3 16 ah (bd x.p3 17 ah (bd x.p3 18 ah (bd x.p3 19 ah (bd x.p3 20 (tO x.p4 I.p2.2.2 ah) (bd x.p3 22 (tO x.p4 I.p2.2.1 ah) (aF (0,I.p2,I.p4,((I.p5.1,I.p5.2.1),(I.p5.p2,I.p5.p3),I.p5.q4),ai,I.q6)))))))))))))))))))) λU=>(af (([U.p3.1,U.p3.2.1,(U.p3.2.2,U.q5)],U.2.1),U.1,ai))))))
def sa (x:dj×pm×Int×Int×Int×Int):Option (pm×Int×Bool):=orE (gW x) (lh x)
def fU (x:dj×eL×Int×Int×Int×Int×Int×η×η):Option (eL×Bool):=
 (jn (α:=Bool×dj×eL×gj×Int) (obind (kX (x.1,x.2.1)) λy2=>(bcase (!y2) (aF (ai,x.1,x.2.1,x.2.2,0)) (bz x.p2 0 (aF (ai,x.1,x.2.1,x.2.2,0)) (iT (aY x.1.p4) x.p2 (aF (ai,x.1,x.2.1,x.2.2,0)) (bz x.p3 1 (aF (ai,x.1,x.2.1,x.2.2,0)) (aF ((fV 23 x.p3),x.1,x.2.1,x.2.2,0))))))) λM=>(bcase M.1 (af (((([]:List (Int×η)),0,([]:θ),([]:List dz)),([]:η),([]:η),([]:η)),aj)) (jn (α:=Bool×dj×eL×gj×Int) (obind (ji (M.2.1,M.p2.1,M.p3.1,M.p3.2.1,M.p3.p2)) λy4=>(bcase (!y4) (aF (ai,M.2)) (obind (jH (M.2.1,M.p3)) λy5=>(bcase (!y5) (aF (ai,M.2)) (obind (fd (M.2.1,M.p2,M.p3)) λy6=>(bcase (!y6) (aF (ai,M.2)) (obind (gy (M.p2,M.p3)) λy7=>(aF ((!y7),M.2))))))))) λx3=>(bcase x3.1 (af (((([]:List (Int×η)),0,([]:θ),([]:List dz)),([]:η),([]:η),([]:η)),aj)) (jn (α:=Int×dj×eL×gj×Int) (bd x3.p3.2.1 18 (aF (x3.p3.p3,x3.2)) (aF ((-1),x3.2))) λI=>(obind (sa (I.2.1,I.p2.1,I.p3.1,I.p3.2.1,I.p3.p2,I.1)) λy9=>(bcase (!y9.2.2) (af (((([]:List (Int×η)),0,([]:θ),([]:List dz)),([]:η),([]:η),([]:η)),aj)) (obind (zC I.p2.2.1) λY=>(obind (zC I.p2.p2) λU=>(obind (pg I.p2.q3) λZ=>(jn (α:=gj×Int×pm×η×η×η) (bd I.p3.2.1 4 (ck (eX I.p3.p2 (al Y)) (aF (I.p3,I.q4,y9.1,(cw Y I.p3.p2 I.p3.p3),U,Z))) (bd I.p3.2.1 22 (ck (eX I.p3.p2 (al U)) (aF (I.p3,I.q4,y9.1,Y,(cw U I.p3.p2 I.p3.p3),Z))) (aF (I.p3,I.q4,y9.1,Y,U,Z)))) λJ=>(kl aM J.q5 J.1.1 λz14=>(ck (eX J.1.1 (al J.q5)) (af ((J.p2,J.p3,J.p4,(cw J.q5 J.1.1 (cF z14))),ai)))))))))))))))
def lQ (it:xy) (x:dj×List gj):Option ν:=
 (bz 400 (aY x.2) (af (0,2)) (obind (dQ x.1) λy1=>(bcase (!y1) (af (0,1)) (obind (dk x.1) λy2=>(bB (c6 0 (aY x.1.p4)&&c6 (aY x.1.p4) (aY x.1.p4)&&a_ (aT (aY x.1.p4)) 24&&decide (((aY x.1.p4):Int)=1)) (it (Int×(dj×List gj)×eL×θ) _ (λJ=>(bz J.1 (aY x.2) (bF gA x.2 J.1 λM=>(obind (fU (J.2.1.1,J.p2,M)) λU=>(jn (α:=Bool×(dj×List gj)×eL×gj×eL×θ) (bd M.1 0 (bcase (!U.2) (aF (ai,J.2.1,J.p2,(0,M.2),U.1,J.q3)) (obind (cr (J.q3,0,M.2)) λZ=>(aF ((!Z),J.2.1,J.p2,(0,M.2),U.1,J.q3)))) ah) λI=>(bcase I.1 (aF (J.1,12)) (jn (α:=(dj×List gj)×eL×eL×θ) (bd I.p3.1 0 (bd I.p3.2.1 3 (bB (a_ (al I.q5+al ([ai])) 1) (aF (I.2.1,I.p2,I.p4,(I.q5++([ai]))))) (bB (a_ (al I.q5+al ([(decide ((I.p3.2.1:Int)=23))])) 1) (aF (I.2.1,I.p2,I.p4,(I.q5++([(decide ((I.p3.2.1:Int)=23))])))))) ah) λY=>(cK ((cF J.1),Y.1,Y.2.2))))))) (aF (0,0)))) (0,x,y2,([]:θ))))))))
def pw (x:dj×List gj):Option ν:=lQ @iter x
def ey (x:dj×List gj):Option ν:=lQ @fK x
def jR (it:xy) (x:dj×List gj):Option ν:=
 (bz 400 (aY x.2) (af (0,2)) (obind (dQ x.1) λy1=>(bcase (!y1) (af (0,1)) (obind (dk x.1) λy2=>(bB (c6 0 (aY x.1.p4)&&c6 (aY x.1.p4) (aY x.1.p4)&&a_ (aT (aY x.1.p4)) 24&&decide (((aY x.1.p4):Int)=2)) (it (Int×(dj×List gj)×eL×θ×θ) _ (λJ=>(bz J.1 (aY x.2) (bF gA x.2 J.1 λM=>(obind (fU (J.2.1.1,J.p2,M)) λU=>(jn (α:=Bool×(dj×List gj)×eL×gj×eL×θ×θ) (bd M.1 0 (bcase (!U.2) (aF (ai,J.2.1,J.p2,(0,M.2),U.1,J.q3)) (obind (cr (J.p3,0,M.2)) λy7=>(aF ((!y7),J.2.1,J.p2,(0,M.2),U.1,J.q3)))) (bd M.1 1 (bcase (!U.2) (aF (ai,J.2.1,J.p2,(1,M.2),U.1,J.q3)) (obind (cr (J.q4,1,M.2)) λZ=>(aF ((!Z),J.2.1,J.p2,(1,M.2),U.1,J.q3)))) ah)) λI=>(bcase I.1 (aF (J.1,12)) (jn (α:=(dj×List gj)×eL×eL×θ×θ) (bd I.p3.1 0 (bd I.p3.2.1 3 (bB (a_ (al I.p5+al ([ai])) 1) (aF (I.2.1,I.p2,I.p4,(I.p5++([ai])),I.q6))) (bB (a_ (al I.p5+al ([(decide ((I.p3.2.1:Int)=23))])) 1) (aF (I.2.1,I.p2,I.p4,(I.p5++([(decide ((I.p3.2.1:Int)=23))])),I.q6)))) (bd I.p3.1 1 (bd I.p3.2.1 3 (bB (a_ (al I.q6+al ([ai])) 1) (aF (I.2.1,I.p2,I.p4,I.p5,(I.q6++([ai]))))) (bB (a_ (al I.q6+al ([(decide ((I.p3.2.1:Int)=23))])) 1) (aF (I.2.1,I.p2,I.p4,I.p5,(I.q6++([(decide ((I.p3.2.1:Int)=23))])))))) ah)) λY=>(cK ((cF J.1),Y.1,Y.2.2))))))) (aF (0,0)))) (0,x,y2,([]:θ),([]:θ))))))))
def pu (x:dj×List gj):Option ν:=jR @iter x
def dl (x:dj×List gj):Option ν:=jR @fK x
def jQ (it:xy) (x:dj×List gj):Option ν:=
 (bz 400 (aY x.2) (af (0,2)) (obind (dQ x.1) λy1=>(bcase (!y1) (af (0,1)) (obind (dk x.1) λy2=>(bB (c6 0 (aY x.1.p4)&&c6 (aY x.1.p4) (aY x.1.p4)&&a_ (aT (aY x.1.p4)) 24&&decide (((aY x.1.p4):Int)=3)) (it (Int×(dj×List gj)×eL×θ×θ×θ) _ (λJ=>(bz J.1 (aY x.2) (bF gA x.2 J.1 λM=>(obind (fU (J.2.1.1,J.p2,M)) λU=>(jn (α:=Bool×(dj×List gj)×eL×gj×eL×θ×θ×θ) (bd M.1 0 (bcase (!U.2) (aF (ai,J.2.1,J.p2,(0,M.2),U.1,J.q3)) (obind (cr (J.p3,0,M.2)) λy7=>(aF ((!y7),J.2.1,J.p2,(0,M.2),U.1,J.q3)))) (bd M.1 1 (bcase (!U.2) (aF (ai,J.2.1,J.p2,(1,M.2),U.1,J.q3)) (obind (cr (J.p4,1,M.2)) λy8=>(aF ((!y8),J.2.1,J.p2,(1,M.2),U.1,J.q3)))) (bd M.1 2 (bcase (!U.2) (aF (ai,J.2.1,J.p2,(2,M.2),U.1,J.q3)) (obind (cr (J.q5,2,M.2)) λZ=>(aF ((!Z),J.2.1,J.p2,(2,M.2),U.1,J.q3)))) ah))) λI=>(bcase I.1 (aF (J.1,12)) (jn (α:=(dj×List gj)×eL×eL×θ×θ×θ) (bd I.p3.1 0 (bd I.p3.2.1 3 (bB (a_ (al I.p5+al ([ai])) 1) (aF (I.2.1,I.p2,I.p4,(I.p5++([ai])),I.q6))) (bB (a_ (al I.p5+al ([(decide ((I.p3.2.1:Int)=23))])) 1) (aF (I.2.1,I.p2,I.p4,(I.p5++([(decide ((I.p3.2.1:Int)=23))])),I.q6)))) (bd I.p3.1 1 (bd I.p3.2.1 3 (bB (a_ (al I.p6+al ([ai])) 1) (aF (I.2.1,I.p2,I.p4,I.p5,(I.p6++([ai])),I.q7))) (bB (a_ (al I.p6+al ([(decide ((I.p3.2.1:Int)=23))])) 1) (aF (I.2.1,I.p2,I.p4,I.p5,(I.p6++([(decide ((I.p3.2.1:Int)=23))])),I.q7)))) (bd I.p3.1 2 (bd I.p3.2.1 3 (bB (a_ (al I.q7+al ([ai])) 1) (aF (I.2.1,I.p2,I.p4,I.p5,I.p6,(I.q7++([ai]))))) (bB (a_ (al I.q7+al ([(decide ((I.p3.2.1:Int)=23))])) 1) (aF (I.2.1,I.p2,I.p4,I.p5,I.p6,(I.q7++([(decide ((I.p3.2.1:Int)=23))])))))) ah))) λY=>(cK ((cF J.1),Y.1,Y.2.2))))))) (aF (0,0)))) (0,x,y2,([]:θ),([]:θ),([]:θ))))))))
def pt (x:dj×List gj):Option ν:=jQ @iter x
def dN (x:dj×List gj):Option ν:=jQ @fK x
def jP (it:xy) (x:dj×List gj):Option ν:=
 (bz 400 (aY x.2) (af (0,2)) (obind (dQ x.1) λy1=>(bcase (!y1) (af (0,1)) (obind (dk x.1) λy2=>(bB (c6 0 (aY x.1.p4)&&c6 (aY x.1.p4) (aY x.1.p4)&&a_ (aT (aY x.1.p4)) 24&&decide (((aY x.1.p4):Int)=4)) (it (Int×(dj×List gj)×eL×θ×θ×θ×θ) _ (λJ=>(bz J.1 (aY x.2) (bF gA x.2 J.1 λM=>(obind (fU (J.2.1.1,J.p2,M)) λU=>(jn (α:=Bool×(dj×List gj)×eL×gj×eL×θ×θ×θ×θ) (bd M.1 0 (bcase (!U.2) (aF (ai,J.2.1,J.p2,(0,M.2),U.1,J.q3)) (obind (cr (J.p3,0,M.2)) λy7=>(aF ((!y7),J.2.1,J.p2,(0,M.2),U.1,J.q3)))) (bd M.1 1 (bcase (!U.2) (aF (ai,J.2.1,J.p2,(1,M.2),U.1,J.q3)) (obind (cr (J.p4,1,M.2)) λy8=>(aF ((!y8),J.2.1,J.p2,(1,M.2),U.1,J.q3)))) (bd M.1 2 (bcase (!U.2) (aF (ai,J.2.1,J.p2,(2,M.2),U.1,J.q3)) (obind (cr (J.p5,2,M.2)) λy9=>(aF ((!y9),J.2.1,J.p2,(2,M.2),U.1,J.q3)))) (bd M.1 3 (bcase (!U.2) (aF (ai,J.2.1,J.p2,(3,M.2),U.1,J.q3)) (obind (cr (J.q6,3,M.2)) λZ=>(aF ((!Z),J.2.1,J.p2,(3,M.2),U.1,J.q3)))) ah)))) λI=>(bcase I.1 (aF (J.1,12)) (jn (α:=(dj×List gj)×eL×eL×θ×θ×θ×θ) (bd I.p3.1 0 (bd I.p3.2.1 3 (bB (a_ (al I.p5+al ([ai])) 1) (aF (I.2.1,I.p2,I.p4,(I.p5++([ai])),I.q6))) (bB (a_ (al I.p5+al ([(decide ((I.p3.2.1:Int)=23))])) 1) (aF (I.2.1,I.p2,I.p4,(I.p5++([(decide ((I.p3.2.1:Int)=23))])),I.q6)))) (bd I.p3.1 1 (bd I.p3.2.1 3 (bB (a_ (al I.p6+al ([ai])) 1) (aF (I.2.1,I.p2,I.p4,I.p5,(I.p6++([ai])),I.q7))) (bB (a_ (al I.p6+al ([(decide ((I.p3.2.1:Int)=23))])) 1) (aF (I.2.1,I.p2,I.p4,I.p5,(I.p6++([(decide ((I.p3.2.1:Int)=23))])),I.q7)))) (bd I.p3.1 2 (bd I.p3.2.1 3 (bB (a_ (al I.p7+al ([ai])) 1) (aF (I.2.1,I.p2,I.p4,I.p5,I.p6,(I.p7++([ai])),I.q8))) (bB (a_ (al I.p7+al ([(decide ((I.p3.2.1:Int)=23))])) 1) (aF (I.2.1,I.p2,I.p4,I.p5,I.p6,(I.p7++([(decide ((I.p3.2.1:Int)=23))])),I.q8)))) (bd I.p3.1 3 (bd I.p3.2.1 3 (bB (a_ (al I.q8+al ([ai])) 1) (aF (I.2.1,I.p2,I.p4,I.p5,I.p6,I.p7,(I.q8++([ai]))))) (bB (a_ (al I.q8+al ([(decide ((I.p3.2.1:Int)=23))])) 1) (aF (I.2.1,I.p2,I.p4,I.p5,I.p6,I.p7,(I.q8++([(decide ((I.p3.2.1:Int)=23))])))))) ah)))) λY=>(cK ((cF J.1),Y.1,Y.2.2))))))) (aF (0,0)))) (0,x,y2,([]:θ),([]:θ),([]:θ),([]:θ))))))))
def pq (x:dj×List gj):Option ν:=jP @iter x
def eo (x:dj×List gj):Option ν:=jP @fK x
def mE (x:dj×List gj):Option ν:=orE (eo x) (orE (dN x) (orE (dl x) (ey x)))
def xX (it:xy) (x:dj×List gj):Option ((List η)×Int):=
 (obind (mE x) λY=>(iR Y.2 0 (af (([]:List η),12)) (obind (n_ x.1) λU=>(bB (c6 0 (aY x.2)&&c6 (aY x.2) (aY x.2)&&a_ (aT (aY x.2)) 24) (it (Int×(dj×List gj)×Yn×List η) _ (λI=>(bz I.1 (aY x.2) (bF gA x.2 I.1 λM=>(obind (sI (I.2.1.1,I.p2,M)) λJ=>(ck (eX I.1 (al I.q3)) (cK ((cF I.1),I.2.1,J.1,(cw I.q3 I.1 J.2)))))) (aF (I.q3,0)))) (0,x,U,(aG (aT (aY x.2)) ([]:η))))))))
def B7 (x:dj×List gj):Option ((List η)×Int):=xX @iter x
def pI (x:dj×List gj):Option ((List η)×Int):=xX @fK x
def Ps (it:xy) (x:Unit):Option dj:=
 (it Yd3 _ (λJ=>(bz J.1 (aO (al ([[109,97,105,110],[116,49],[116,50],[116,51]]))) (it Yd3 _ (λI=>(bz I.1 6 (bB (a_ (al I.q6+al ([(J.1,I.1,(bk .i64 ((bk .i64 ((bk .i64 (10*J.1))+I.1))+1)))])) 24) (cK ((cF I.1),I.2.1,I.p2,I.p3,I.p4,I.p5,(I.q6++([(J.1,I.1,(bk .i64 ((bk .i64 ((bk .i64 (10*J.1))+I.1))+1)))]))))) (aF (lD ((cF J.1),I.2))))) (0,J.2)) (aF J.2))) (0,[([120],0,0,aj,0),([121],0,0,aj,1),([118],0,0,ai,0),([113],0,2,aj,0),([113],1,2,aj,0)],[([109],aj),([110],aj),([114],ai)],[([99],0)],[[102]],[[109,97,105,110],[116,49],[116,50],[116,51]],([]:List π)))
def OR (x:Unit):Option dj:=Ps @iter x
def Db (x:Unit):Option dj:=Ps @fK x
def tK:Nat:=1000000000
def jl (a b:η):η:=(bt (max a.length b.length)).map λi=>ir (a.getD i 0) (b.getD i 0)
theorem oc (a b:η):(jl a b).length=max a.length b.length:=by simp[jl]
theorem pJ (a b:η) (i:Nat):(jl a b).getD i 0=ir (a.getD i 0) (b.getD i 0):=by
 unfold jl;simp only[aA,bc];by_cases h:i<max a.length b.length
 .rw[Hn h];rfl
 .rw[bR (by simp only[iC];omega),bR (l:=a) (by omega),bR (l:=b) (by omega)];rfl
theorem F1 (c:η) (i:Nat):je (c,(i:Int))=af (c.getD i 0):=by
 unfold je bz tO aY aF;simp only[];rw[sM (by omega)];simp only[cO,jm];by_cases h:i<c.length
 .rw[Nk (by simp;omega)];simp only[cO];rw[b8 (cS h),sP];rfl
 .rw[qJ (by simp;omega)];simp only[cV];rw[aA,bR (by omega)];rfl
theorem an5:xP=je:=rfl
theorem Xo:nQ=iK:=rfl
theorem Iz (a b:η) (U:a.length<=tK) (hb:b.length<=tK):iK (a,b)=af (jl a b):=by
 unfold tK at U hb;unfold iK vL ck bz bB aY cK aF cF;have hm:max a.length b.length<=1000000000:=by omega
 rw[b8 (by simp only[uI];rw[qJ (by omega),qJ (by omega),tM (by simp;omega) (by simp;omega)];rfl)];simp only[uI,dC,eP];have:=sJ (σ:=Int×η) (R:=η) (max a.length b.length) (by omega) (λi=>((i:Int),(bt (max a.length b.length)).map λk=>if k<i then ir (a.getD k 0) (b.getD k 0) else 0)) (f:=(λI=>(bcase (fV I.1 (aO (max a.length b.length))) (obind (je (a,I.1)) λM=>(obind (je (b,I.1)) λJ=>(chk (eX I.1 (al I.2)) λ_=>(chk (eX I.1 (al I.2)) λ_=>(af (lD ((bk .i64 (I.1+1)),(cw I.2 I.1 (ir M J))))))))) (af (bP I.2))))) (r:=jl a b) ?_ ?_
 .refine Eq.trans ?_ this;congr 1;simp only[Int.natCast_zero,xA,ef,aE,BR];apply dG<;>simp
 .intro i hi;simp only[];rw[sL (by simp;omega),cV,F1,F1,cG,cG,b8 (cS (by simpa using hi)),b8 (cS (by simpa using hi)),mm hi (by omega),eE];congr 3;apply dG
  .simp
  .intro k h1 h2;simp only[bY,iC]at h2;simp only[vy,rc,nG];by_cases e:i=k
   .subst e;simp
   .by_cases h:k<i
    .rw[ay e,aD h,aD (by omega)]
    .rw[ay e,ay h,ay (by omega)]
 .simp only[];rw[sM (by simp),cO];congr 2;unfold jl;apply qm;intro k hk;rw[aD (jU.1 hk)]
theorem aa3 (a b:η) (U:a.length<=tK) (hb:b.length<=tK):tV (a,b)=af (jl a b,b):=by
 unfold tK at U hb;unfold tV Ir ck bz bB aY cK aF cF;have hm:max a.length b.length<=1000000000:=by omega
 rw[b8 (by simp only[uI];rw[qJ (by omega),qJ (by omega),tM (by simp;omega) (by simp;omega)];rfl)];simp only[uI,dC,eP];have:=sJ (σ:=Int×η×η) (R:=η×η) (max a.length b.length) (by omega) (λi=>((i:Int),b,(bt (max a.length b.length)).map λk=>if k<i then ir (a.getD k 0) (b.getD k 0) else 0)) (f:=(λI=>(bcase (fV I.1 (aO (max a.length b.length))) (obind (je (a,I.1)) λM=>(obind (je (I.2.1,I.1)) λJ=>(chk (eX I.1 (al I.2.2)) λ_=>(chk (eX I.1 (al I.2.2)) λ_=>(af (lD ((bk .i64 (I.1+1)),I.2.1,(cw I.2.2 I.1 (ir M J))))))))) (af (bP (I.2.2,I.2.1)))))) (r:=(jl a b,b)) ?_ ?_
 .refine Eq.trans ?_ this;congr 1;simp only[Int.natCast_zero,xA,ef,aE,BR];apply dG<;>simp
 .intro i hi;simp only[];rw[sL (by simp;omega),cV,F1,F1,cG,cG,b8 (cS (by simpa using hi)),b8 (cS (by simpa using hi)),mm hi (by omega),eE];congr 4;apply dG
  .simp
  .intro k h1 h2;simp only[bY,iC]at h2;simp only[vy,rc,nG];by_cases e:i=k
   .subst e;simp
   .by_cases h:k<i
    .rw[ay e,aD h,aD (by omega)]
    .rw[ay e,ay h,ay (by omega)]
 .simp only[];rw[sM (by simp),cO];congr 3;unfold jl;apply qm;intro k hk;rw[aD (jU.1 hk)]
theorem Ud (a b:η) (I:a.length<=tK) (hb:b.length<=tK):Cb (a,b)=af (jl a b):=by
 unfold Cb;rw[aa3 a b I hb,cG];exact Q5 rfl _
def tk (c:η) (t:Nat):η:=(c++aG (t+1-c.length) 0).set t (c.getD t 0+1)
theorem EB (c:η) (t:Nat):(tk c t).length=max c.length (t+1):=by simp[tk];omega
theorem ajt (c:η) (n i:Nat):(c++aG n 0).getD i 0=c.getD i 0:=by
 simp only[aA];by_cases h:i<c.length
 .rw[bK h]
 .rw[bW (by omega),bR (l:=c) (by omega),lE];split<;>rfl
theorem uq (c:η) (t i:Nat):(tk c t).getD i 0=if i=t then c.getD t 0+1 else c.getD i 0:=by
 unfold tk;rw[aA,o_];by_cases h:t=i
 .subst h;rw[aD rfl,aD (by simp;omega),aD rfl];rfl
 .rw[ay h,ay (λe=>h e.symm),<-aA,ajt]
theorem ad2 (c:η) (n:Nat) (h:c.length<=n):Uw (aG n 0) c=c++aG (n-c.length) 0:=by
 unfold Uw;rw[eP,fk h,List.drop_replicate]
theorem Yo (c:η) (t:Nat) (hc:c.length<=tK) (ht:t<4) (h0:0<=c.getD t 0) (h1:c.getD t 0<9223372036854775807):qb (c,(t:Int))=af (tk c t):=by
 unfold tK at hc;unfold qb ck iT bB aY aF cF;simp only[];rw[qJ (by omega),cV,jm,sL (by omega)];simp only[cV,jm];have e1:ir (aO c.length) (bk .i64 ((t:Int)+1))=((max c.length (t+1):Nat):Int):=by
  rw[mm ht (by omega)];exact uI _ _
 rw[e1];rw[b8 (by rw[qJ (by omega),qJ (by omega),tM (by simp;omega) (by simp;omega)];rfl)];rw[dC];have e2:Uw (aG (max c.length (t+1)) (0:Int)) c=c++aG (t+1-c.length) 0:=by
  rw[ad2 c _ (by omega)];rw[show max c.length (t+1)-c.length=t+1-c.length from by omega]
 rw[e2];have hl:t<(c++aG (t+1-c.length) (0:Int)).length:=by simp;omega
 rw[b8 (cS hl),b8 (cS hl),jm];have e3:aJ (T:=.int .i64) (c++aG (t+1-c.length) (0:Int)) (t:Int)=c.getD t 0:=by
  rw[sP];exact ajt c _ t
 simp only[];rw[e3,sL h1,cV,b8 (cS hl),b8 (cS hl),b8 (cS hl),b8 (cS hl),jm,aap (by omega) (by omega),eE];rfl
theorem aem (c:η) (hc:c.length<=tK):uz c=af c:=by
 unfold tK at hc;unfold uz bB;rw[b8 (tM (by omega) (by omega))]
theorem Es (c:η) (hc:c.length<=tK):xR c=af c:=by
 unfold tK at hc;unfold xR;rw[b8 (tM (by omega) (by omega))]
theorem Oe (c:η) (hc:c.length<=tK):vD c=af c:=by
 unfold tK at hc;unfold vD wR bB;rw[b8 (tM (by simp;omega) (by simp;omega)),cG];exact Q5 rfl _
theorem Of (c:η) (hc:c.length<=tK):pg c=af c:=Es c hc
theorem UQ (c:η) (t:Nat) (hc:c.length<=tK) (ht:t<4) (h0:0<=c.getD t 0) (h1:c.getD t 0<9223372036854775807):mn (c,(t:Int))=af (tk c t):=by
 unfold tK at hc;unfold mn Az ck bz iT bB aY cK aF;simp only[];rw[aem c (by unfold tK;omega),cG,sM (by omega),cO,jm,Nk (by omega)];simp only[cO];have:=sJ (σ:=η) (R:=η) (t+1-c.length) (by omega) (λi=>c++aG i 0) (f:=(λI=>(bcase (c6 (aO (al I)) (t:Int)) (chk (a_ (al I+al ([(0:Int)])) 8) λ_=>(af (lD (I++([0]))))) (obind (jn (α:=η) (chk (eX (t:Int) (al I)) λ_=>(chk (eX (t:Int) (al I)) λ_=>(bcase (fV (aJ (T:=(.int .i64)) I (t:Int)) 9223372036854775807) (chk (eX (t:Int) (al I)) λ_=>(chk (eX (t:Int) (al I)) λ_=>(chk (eX (t:Int) (al I)) λ_=>(chk (eX (t:Int) (al I)) λ_=>(af (bP (cw I (t:Int) (bk .i64 ((aJ (T:=(.int .i64)) I (t:Int))+1))))))))) (af (bP I))))) λJ=>(af J)) λr=>af (bP r))))) (r:=tk c t) ?_ ?_
 .simpa using this
 .intro i hi;rw[qJ (by simp;omega),cV,b8 (tM (by simp;omega) (by simp;omega)),iD,<-vb]
 .have hl:t<(c++aG (t+1-c.length) (0:Int)).length:=by simp;omega
  have e3:aJ (T:=.int .i64) (c++aG (t+1-c.length) (0:Int)) (t:Int)=c.getD t 0:=by
   rw[sP];exact ajt c _ t
  rw[Nk (by simp;omega),cO,b8 (cS hl),b8 (cS hl),e3,sL h1,cV,b8 (cS hl),b8 (cS hl),b8 (cS hl),b8 (cS hl),jm,cG,aap (by omega) (by omega),eE];rfl
def GL (l:List η):Prop:=l.length<=tK/\∀c∈l,c.length<=tK
abbrev HTp:Type:=List η×List η×List η×List η×List η×List η×η×List η×η
def GH (h:HTp):Prop:=GL h.1/\GL h.2.1/\GL h.2.2.1/\GL h.2.2.2.1/\GL h.2.2.2.2.1/\GL h.2.2.2.2.2.1/\h.2.2.2.2.2.2.1.length<=tK/\GL h.2.2.2.2.2.2.2.1/\h.2.2.2.2.2.2.2.2.length<=tK
theorem Dx {l:List η} {i:Nat} (h:i<l.length):l.getD i []∈l:=by
 rw[aA,aB h];exact vz h
theorem GL.at {l:List η} (h:GL l) (i:Nat):(l.getD i []).length<=tK:=by
 by_cases hi:i<l.length
 .exact h.2 _ (Dx hi)
 .rw[aA,bR (by omega)];simp
theorem ZB (g:η->Option η) (l:List η) (hl:l.length<=tK) (hg:∀c∈l,g c=af c):
 fK (σ:=Int×List η) (λI=>(bcase (fV I.1 (aO (al l))) (chk (eX I.1 (al l)) λ_=>(obind (g (aJ (T:=(.sl (.int .i64))) l I.1)) λJ=>(chk (eX I.1 (al I.2)) λ_=>(chk (eX I.1 (al I.2)) λ_=>(af (lD ((bk .i64 (I.1+1)),(cw I.2 I.1 J)))))))) (af (bP I.2)))) (0,(aG (aT (aO (al l))) ([]:η)))=af l:=by
 unfold tK at hl;have:=sJ (σ:=Int×List η) (R:=List η) l.length (by omega) (λi=>((i:Int),(bt l.length).map λk=>if k<i then l.getD k [] else [])) (f:=(λI=>(bcase (fV I.1 (aO (al l))) (chk (eX I.1 (al l)) λ_=>(obind (g (aJ (T:=(.sl (.int .i64))) l I.1)) λJ=>(chk (eX I.1 (al I.2)) λ_=>(chk (eX I.1 (al I.2)) λ_=>(af (lD ((bk .i64 (I.1+1)),(cw I.2 I.1 J)))))))) (af (bP I.2))))) (r:=l) ?_ ?_
 .refine Eq.trans ?_ this;congr 1;simp only[Int.natCast_zero,xA,ef,aE,BR,au,dC];apply dG<;>simp
 .intro i hi;simp only[];rw[sL (by simp;omega),cV,b8 (cS hi),sP,show (l.getD i (Ty.zero (.sl (.int .i64))))=l.getD i [] from rfl,hg _ (Dx hi),cG,b8 (cS (by simpa using hi)),b8 (cS (by simpa using hi)),mm hi (by omega),eE];congr 3;apply dG
  .simp
  .intro k h1 h2;simp only[bY,iC]at h2;simp only[vy,rc,nG];by_cases e:i=k
   .subst e;simp
   .by_cases h:k<i
    .rw[ay e,aD h,aD (by omega)]
    .rw[ay e,ay h,ay (by omega)]
 .simp only[];rw[sM (by simp),cO];congr 2;apply dG
  .simp
  .intro k h1 h2;simp only[rc,nG];rw[aD h2,aA,aB h2];rfl
theorem rV (l:List η) (h:GL l):ip l=af l:=by
 have hl:=h.1;unfold tK at hl;unfold ip xW ck bz tO bB aY cK aF cF;rw[b8 (by rw[qJ (by simp),qJ (by omega),tM (by simp;omega) (by simp;omega)];rfl)];exact ZB xR l h.1 λc hc=>Es c (h.2 c hc)
theorem N6 (h:HTp) (g:GH h):rL h=af (h.2.2.2.2.2.2.1,h.1,h.2.1,h.2.2.1,h.2.2.2.1,h.2.2.2.2.1,h.2.2.2.2.2.1,h.2.2.2.2.2.2.2.1,h.2.2.2.2.2.2.2.2):=by
 obtain⟨g1,g2,g3,Z,Y,U,M,J,I⟩:=g;unfold rL aX bf bp ch dA jt nM;rw[rV _ g1,cG,rV _ g2,cG,rV _ g3,cG,rV _ Z,cG,rV _ Y,cG,rV _ U,cG,Of _ M,cG,rV _ J,cG,Of _ I,cG]
theorem ae7 (a b:η) (I:a.length<=tK) (hb:b.length<=tK) (h:∀i,a.getD i 0<=b.getD i 0):sC (a,b)=af ai:=by
 unfold tK at I hb;unfold sC Du bz aY cK aF cF;refine sJ (σ:=Int) (max a.length b.length) (by omega) (λi=>(i:Int)) (λi hi=>?_) ?_
 .simp only[uI];rw[sL (by omega),cV,an5,F1,F1,cG,cG,sM (h i),cO,mm hi (by omega)]
 .simp only[uI];rw[sM (by omega),cO]
theorem ahe (a b:η) (I:a.length<=tK) (hb:b.length<=tK) (h:∀i,a.getD i 0=b.getD i 0):uf (a,b)=af ai:=by
 unfold uf aF;rw[ae7 a b I hb λi=>Int.le_of_eq (h i),cG,cV,ae7 b a hb I λi=>Int.le_of_eq (h i).symm,cG,jm]
theorem Z4 (a:η) (h:a.length<=tK):uf (a,a)=af ai:=ahe a a h h λ_=>rfl
theorem Qp (l:List η) (h:GL l):jv (l,l)=af ai:=by
 have hl:=h.1;unfold tK at hl;unfold jv tY bz iR tO aY cK aF cF;simp only[cN,Bool.not_true,cO];refine sJ (σ:=Int) l.length (by omega) (λi=>(i:Int)) (λi hi=>?_) ?_
 .rw[sL (by simp;omega),cV,b8 (cS hi),b8 (cS hi),lU,Z4 _ (h.at i),cG];simp only[Bool.not_true,cO];rw[mm hi (by omega)]
 .rw[sM (by simp),cO]
abbrev uY:Type:=List (ζ×Int×Int×Bool×Int)×List (ζ×Bool)×List (ζ×Int)×List ζ×List ζ×List π
def h0 (w:uY):HTp:=(aG w.2.2.2.2.1.length [],aG w.2.2.2.2.1.length [],aG w.2.1.length [],aG w.2.1.length [],aG w.1.length [],aG w.2.2.2.1.length [],[],aG w.2.2.2.2.1.length [],aG w.2.2.2.2.1.length (-1))
theorem ae2 (w:uY) (h1:w.1.length<=tK) (h2:w.2.1.length<=tK) (M:w.2.2.2.1.length<=tK) (J:w.2.2.2.2.1.length<=tK):n_ w=af (h0 w):=by
 unfold tK at h1 h2 M J;have c:∀n b:Nat,n<=1000000000->b<=24->(c6 0 (aO n)&&c6 (aO n) (aO n)&&a_ (aT (aO n)) b)=ai:=λn b hn hb=>by
  have:n*b<=n*24:=Nat.mul_le_mul_left n hb;rw[qJ (by simp),qJ (by omega),tM (by simp;omega) (by simp;omega)];rfl
 unfold n_ AC aX bf bp ch dA jt nM ck bz bB aY cK aF cF;rw[b8 (c _ 24 J (by omega)),b8 (c _ 24 J (by omega)),b8 (c _ 24 h2 (by omega)),b8 (c _ 24 h2 (by omega)),b8 (c _ 24 h1 (by omega)),b8 (c _ 24 M (by omega)),b8 (c _ 24 J (by omega)),b8 (c _ 8 J (by omega))];simp only[au,dC,eP];have:=sJ (σ:=Int×(List η)×(List η)×(List η)×(List η)×(List η)×(List η)×(List η)×η) (R:=HTp) w.2.2.2.2.1.length (by omega) (λi=>((i:Int),aG w.2.2.2.2.1.length [],aG w.2.2.2.2.1.length [],aG w.2.1.length [],aG w.2.1.length [],aG w.1.length [],aG w.2.2.2.1.length [],aG w.2.2.2.2.1.length [],(bt w.2.2.2.2.1.length).map λk=>if k<i then -1 else 0)) (f:=(λI=>(bcase (fV I.1 (w.2.2.2.2.1.length:Int)) (chk (eX I.1 (al I.2.2.2.2.2.2.2.2)) λ_=>(chk (eX I.1 (al I.2.2.2.2.2.2.2.2)) λ_=>(af (lD ((bk .i64 (I.1+1)),I.2.1,I.2.2.1,I.2.2.2.1,I.2.2.2.2.1,I.2.2.2.2.2.1,I.2.2.2.2.2.2.1,I.2.2.2.2.2.2.2.1,(cw I.2.2.2.2.2.2.2.2 I.1 (-1))))))) (af (bP (I.2.1,I.2.2.1,I.2.2.2.1,I.2.2.2.2.1,I.2.2.2.2.2.1,I.2.2.2.2.2.2.1,([]:η),I.2.2.2.2.2.2.2.1,I.2.2.2.2.2.2.2.2)))))) (r:=h0 w) ?_ ?_
 .refine Eq.trans ?_ this;congr 1;simp only[Int.natCast_zero,xA,ef,aE,BR];apply dG<;>simp
 .intro i hi;simp only[];rw[sL (by omega),cV,b8 (cS (by simpa using hi)),b8 (cS (by simpa using hi)),mm hi (by omega),eE];congr 3;simp only[aE,BR];apply dG
  .simp
  .intro k h1 h2;simp only[bY,iC]at h2;simp only[vy,rc,nG];by_cases e:i=k
   .subst e;simp
   .by_cases h:k<i
    .rw[ay e,aD h,aD (by omega)]
    .rw[ay e,ay h,ay (by omega)]
 .simp only[];rw[sM (by omega),cO];unfold h0;congr 3;simp only[aE,BR];apply dG
  .simp
  .intro k h1 h2;simp only[eP]at h2;simp only[rc,nG,List.getElem_replicate];rw[aD h2]
theorem kr (x y:Int):ir x y=max x y:=by
 unfold ir;by_cases h:x<y
 .rw[sL h,aD rfl];omega
 .rw[sM (by omega)];simp;omega
theorem U_ (a b c:Int):ir (ir a b) c=ir a (ir b c):=by
 simp only[kr];omega
theorem uh {a b:η} (hl:a.length=b.length) (h:∀i,a.getD i 0=b.getD i 0):a=b:=by
 apply dG hl;intro i h1 h2;have:=h i;simpa[aA,aB h1,aB h2] using this
theorem qI (a b c:η):jl (jl a b) c=jl a (jl b c):=
 uh (by simp only[oc];omega) λi=>by simp only[pJ,U_]
def En (n:Int) (c:η):Prop:=c.length<=4/\∀i,0<=c.getD i 0/\c.getD i 0<=n
theorem En.nil {n:Int} (h:0<=n):En n []:=⟨by simp,λi=>by simp;exact h⟩
theorem En.mono {n m:Int} {c:η} (h:En n c) (hm:n<=m):En m c:=⟨h.1,λi=>⟨(h.2 i).1,Int.le_trans (h.2 i).2 hm⟩⟩
theorem En.jl {n:Int} {a b:η} (I:En n a) (hb:En n b):En n (jl a b):=⟨by rw[oc];have:=I.1;have:=hb.1;omega,λi=>by
 rw[pJ];obtain⟨h1,h2⟩:=I.2 i;obtain⟨M,J⟩:=hb.2 i;unfold ir;split<;>exact⟨by assumption,by assumption⟩⟩
theorem En.tk {n:Int} {c:η} {t:Nat} (h:En n c) (ht:t<4):En (n+1) (tk c t):=⟨by rw[EB];have:=h.1;omega,λi=>by
 rw[uq];obtain⟨h1,h2⟩:=h.2 i;obtain⟨J,I⟩:=h.2 t;split<;>omega⟩
theorem mD {n:Int} {c:η} (h:En n c):jl c []=c:=uh (by simp[oc]) λi=>by
 rw[pJ,kr];have:=(h.2 i).1;simp only[List.getD_nil];omega
theorem ajv {n:Int} {c:η} (h:En n c):jl [] c=c:=uh (by simp[oc]) λi=>by
 rw[pJ,kr];have:=(h.2 i).1;simp only[List.getD_nil];omega
def BN (n:Int) (l:List η):Prop:=∀i,En n (l.getD i [])
theorem BN.mono {n m:Int} {l:List η} (h:BN n l) (hm:n<=m):BN m l:=λi=>(h i).mono hm
theorem BN.set {n:Int} {l:List η} (h:BN n l) {c:η} (hc:En n c) (j:Nat):BN n (l.set j c):=λi=>by
 rw[aA,o_];by_cases e:j=i
 .subst e;rw[aD rfl];split
  .exact hc
  .have:=h j;simp only[aA]at this;rename_i hj;rw[bR (by omega)]at this;exact this
 .rw[ay e,<-aA];exact h i
theorem BN.repl {n:Int} (h:0<=n) (k:Nat):BN n (aG k []):=λi=>by
 rw[aA,lE];split<;>exact En.nil h
structure HS where
 T:List η
 S:List η
 L:List η
 R:List η
 C:List η
 F:List η
 X:η
 N:List η
 W:η
def HS.t (h:HS):HTp:=(h.T,h.S,h.L,h.R,h.C,h.F,h.X,h.N,h.W)
structure EV where
 th:Nat
 k:Nat
 ob:Nat
 va:Int
abbrev WTc:=List (ζ×Int)
def OU (I:WTc) (o:Nat):Nat:=((I.getD o ([],0)).2).toNat
def IF (I:List (ζ×Int×Int×Bool×Int)) (o:Nat):Bool:=(I.getD o ([],0,0,aj,0)).2.2.2.1
def qh (w:uY) (h:HS) (e:EV):List η:=
 if e.k=1 then [h.S.getD e.th []]
 else if e.k=21 then [h.T.getD e.ob []]
 else if e.k=6\/e.k=10 then [h.L.getD e.ob [],h.R.getD e.ob []]
 else if e.k=8 then [h.L.getD e.ob []]
 else if e.k=17 then [h.L.getD (OU w.2.2.1 e.ob) [],h.R.getD (OU w.2.2.1 e.ob) [],h.N.getD e.th []]
 else if e.k=3 then [h.C.getD e.ob []]
 else if e.k=23 then [h.F.getD e.ob []]
 else if e.k=12 then [h.X]
 else []
def t_ (w:uY) (h:HS) (e:EV):η:=tk ((qh w h e).foldl jl (h.T.getD e.th [])) e.th
def jat (l:List η) (i:Nat) (c:η):List η:=l.set i (jl (l.getD i []) c)
def CO (p:Nat->Bool) (c:η) (h:HS):HS:={h with N:=h.N.mapIdx λu x=>if p u then c else x,W:=h.W.mapIdx λu x=>if p u then -1 else x}
def ie (w:uY) (h:HS) (e:EV) (c:η):HS:=
 let h:={h with T:=h.T.set e.th c}
 if e.k=20 then {h with S:=h.S.set e.ob c}
 else if e.k=7\/e.k=11 then {h with L:=jat h.L e.ob c}
 else if e.k=9 then {h with R:=jat h.R e.ob c}
 else if e.k=16 then {h with L:=jat h.L (OU w.2.2.1 e.ob) c,W:=h.W.set e.th e.ob}
 else if e.k=4 then (if IF w.1 e.ob then {h with C:=jat h.C e.ob c} else h)
 else if e.k=22 then {h with F:=jat h.F e.ob c}
 else if e.k=13 then {h with X:=jl h.X c}
 else if e.k=18 then (if 0<=e.va/\e.va<h.N.length then {h with N:=h.N.set e.va.toNat c,W:=h.W.set e.va.toNat (-1)} else h)
 else if e.k=19 then CO (λu=>decide (h.W.getD u 0=(e.ob:Int))) c h
 else h
def F4 (w:uY) (h:HS) (e:EV):HS×η:=(ie w h e (t_ w h e),t_ w h e)
structure EOK (w:uY) (h:HS) (e:EV):Prop where
 th4:e.th<4
 th:e.th<h.T.length
 k1:1<=e.k
 k2:e.k<=23
 sp:e.k=20\/e.k=21->e.ob<h.T.length
 lk:6<=e.k/\e.k<=11->e.ob<h.L.length
 cd:e.k=16\/e.k=17->e.ob<w.2.2.1.length/\0<=(w.2.2.1.getD e.ob ([],0)).2/\OU w.2.2.1 e.ob<h.L.length
 ce:e.k=3\/e.k=4->e.ob<h.C.length/\e.ob<w.1.length
 fu:e.k=22\/e.k=23->e.ob<h.F.length
structure Qy (n:Int) (h:HS):Prop where
 n0:0<=n
 n1:n<=1000000
 T:BN n h.T
 S:BN n h.S
 L:BN n h.L
 R:BN n h.R
 C:BN n h.C
 F:BN n h.F
 X:En n h.X
 N:BN n h.N
 lT:h.T.length<=1000
 lS:h.S.length=h.T.length
 lN:h.N.length=h.T.length
 lW:h.W.length=h.T.length
 lL:h.L.length<=1000
 lR:h.R.length=h.L.length
 lC:h.C.length<=1000
 lF:h.F.length<=1000
theorem En.lb {n:Int} {c:η} (h:En n c):c.length<=tK:=by have:=h.1;unfold tK;omega
theorem BN.GL {n:Int} {l:List η} (h:BN n l) (hl:l.length<=1000):GL l:=⟨by unfold tK;omega,λc hc=>by
 obtain⟨i,hi⟩:=fm hc;have:=(h i).lb
 rwa [aA,hi]at this⟩
theorem Qy.GH {n:Int} {h:HS} (o:Qy n h):GH h.t:=
 ⟨o.T.GL o.lT,o.S.GL (by rw[o.lS];exact o.lT),o.L.GL o.lL,o.R.GL (by rw[o.lR];exact o.lL),o.C.GL o.lC,o.F.GL o.lF,o.X.lb,o.N.GL (by rw[o.lN];exact o.lT),by show h.W.length<=tK;have:=o.lT;rw[o.lW];unfold tK;omega⟩
theorem En.join {n:Int} {a b:η} (I:En n a) (hb:En n b):iK (a,b)=af (AI.jl a b):=Iz a b I.lb hb.lb
theorem OC {n:Int} {w:uY} {h:HS} (o:Qy n h) (e:EV):∀c∈qh w h e,En n c:=by
 intro c hc;unfold qh at hc;repeat' (split at hc)
 all_goals simp only[bm,cD,gh]at hc
 .subst hc;exact o.S _
 .subst hc;exact o.T _
 .rcases hc with rfl|rfl
  .exact o.L _
  .exact o.R _
 .subst hc;exact o.L _
 .rcases hc with rfl|rfl|rfl
  .exact o.L _
  .exact o.R _
  .exact o.N _
 .subst hc;exact o.C _
 .subst hc;exact o.F _
 .subst hc;exact o.X
theorem yd {n:Int}:∀(l:List η) (c:η),En n c->(∀x∈l,En n x)->En n (l.foldl jl c)
 |[],_,hc,_=>hc
 |x::r,c,hc,h=>yd r _ (hc.jl (h x (dh ..))) λy I=>h y (cM _ I)
theorem K5 {n:Int} {w:uY} {h:HS} (o:Qy n h) {e:EV} (he:e.th<4):En (n+1) (t_ w h e):=(yd _ _ (o.T _) (OC o e)).tk he
theorem BN.jat {n:Int} {l:List η} {c:η} (h:BN n l) (hc:En n c) (i:Nat):BN n (jat l i c):=h.set ((h i).jl hc) i
theorem BN.mapIdx {n:Int} {l:List η} {c:η} (h:BN n l) (hc:En n c) (p:Nat->Bool):BN n (l.mapIdx λu x=>if p u then c else x):=λi=>by
 rw[aA,Ev];have:=h i;rw[aA]at this;cases I:l[i]? with
 |none=>rw[I]at this;exact this
 |some x=>
  rw[I]at this;simp only[co,vu];split
  .exact hc
  .exact this
theorem X0 {n:Int} {w:uY} {h:HS} (o:Qy n h) (hn:n+1<=1000000) {e:EV} {c:η} (hc:En (n+1) c):Qy (n+1) (ie w h e c):=by
 have m:n<=n+1:=by omega
 have oT:BN (n+1) (h.T.set e.th c):=(o.T.mono m).set hc _;have b:Qy (n+1) {h with T:=h.T.set e.th c}:=⟨by have:=o.n0;omega,hn,oT,o.S.mono m,o.L.mono m,o.R.mono m,o.C.mono m,o.F.mono m,o.X.mono m,o.N.mono m,by simpa using o.lT,by simpa using o.lS,by simpa using o.lN,by simpa using o.lW,o.lL,o.lR,o.lC,o.lF⟩
 unfold ie;simp only[];repeat' split
 .exact {b with S:=(o.S.mono m).set hc _,lS:=by simpa using b.lS}
 .exact {b with L:=(o.L.mono m).jat hc _,lL:=by simpa[jat] using b.lL,lR:=by simpa[jat] using b.lR}
 .exact {b with R:=(o.R.mono m).jat hc _,lR:=by simpa[jat] using b.lR}
 .exact {b with L:=(o.L.mono m).jat hc _,lL:=by simpa[jat] using b.lL,lR:=by simpa[jat] using b.lR,lW:=by simpa using b.lW}
 .exact {b with C:=(o.C.mono m).jat hc _,lC:=by simpa[jat] using b.lC}
 .exact b
 .exact {b with F:=(o.F.mono m).jat hc _,lF:=by simpa[jat] using b.lF}
 .exact {b with X:=(o.X.mono m).jl hc}
 .exact {b with N:=(o.N.mono m).set hc _,lN:=by simpa using b.lN,lW:=by simpa using b.lW}
 .exact b
 .exact {b with N:=(o.N.mono m).mapIdx hc _,lN:=by simpa[CO] using b.lN,lW:=by simpa[CO] using b.lW}
 .exact b
theorem ab2 {n:Int} {w:uY} {h:HS} (o:Qy n h) (hn:n+1<=1000000) {e:EV} (he:e.th<4):Qy (n+1) (F4 w h e).1:=X0 o hn (K5 o he)
theorem WE {a b:Nat} (h:a=b):aC a b=ai:=by subst h;exact r7 a
theorem Sk (l:List η) (i:Nat) (h:i<l.length):ug ((i:Int),l)=af (l.getD i [],l):=by
 unfold ug ck bz aY aF;simp only[];rw[sM (by omega)];simp only[cO,jm];rw[Nk (by simp;omega)];simp only[cO];rw[b8 (cS h),b8 (cS h),lU]
theorem uj {n:Int} (l:List η) (i:Nat) (c:η) (h:i<l.length) (hl:BN n l) (hc:En n c):lM ((i:Int),l,c)=af (jat l i c,c):=by
 unfold lM ck iT aY aF;simp only[];rw[qJ (by omega)];simp only[cV,jm];rw[sL (by simp;omega)];simp only[cV];rw[b8 (cS h),b8 (cS h),lU,Ud _ _ (hl i).lb hc.lb,cG,b8 (cS h),b8 (cS h),eE];rfl
theorem rP (l:List η) (i:Nat) (c:η):(jat l i c).length=l.length:=by simp[jat]
theorem Xa {n:Int} (h:HS) (u:Nat) (c:η) (h1:u<h.N.length) (h2:u<h.W.length) (hc:En n c):wO ((u:Int),h.X,h.T,h.S,h.L,h.R,h.C,h.F,h.N,h.W,c)=af (h.X,h.T,h.S,h.L,h.R,h.C,h.F,h.N.set u c,h.W.set u (-1),c):=by
 unfold wO aX bf bp ch dA jt vq xz Prod.q10 ck;simp only[];rw[Oe c hc.lb,cG,b8 (cS h1),b8 (cS h1),b8 (cS h2),b8 (cS h2),eE,eE]
theorem Pp (I:WTc) (i:Nat):aJ (T:=.st (.pr .str (.int .i64))) I (i:Int)=I.getD i ([],0):=sP (T:=.st (.pr .str (.int .i64))) I i
theorem XP (I:List (ζ×Int×Int×Bool×Int)) (i:Nat):aJ (T:=.st (.pr .str (.pr (.int .i64) (.pr (.int .i64) (.pr .bool (.int .i64)))))) I (i:Int)=I.getD i ([],0,0,aj,0):=sP (T:=.st (.pr .str (.pr (.int .i64) (.pr (.int .i64) (.pr .bool (.int .i64)))))) I i
abbrev ETp:Type:=Int×Int×Int×Int×Int×η×η
structure EvT (e:EV) (x:ETp):Prop where
 th:x.1=(e.th:Int)
 k:x.2.1=(e.k:Int)
 ob:e.k∈[3,4,6,7,8,9,10,11,16,17,18,19,20,21,22,23]->x.2.2.1=(e.ob:Int)
 va:x.2.2.2.1=e.va
theorem Ii {k:Nat} {z:Int} (I:z=(k:Int)) (h1:1<=k) (h2:k<=23):(k=1/\z=1)\/(k=2/\z=2)\/(k=3/\z=3)\/(k=4/\z=4)\/(k=5/\z=5)\/(k=6/\z=6)\/(k=7/\z=7)\/(k=8/\z=8)\/(k=9/\z=9)\/(k=10/\z=10)\/(k=11/\z=11)\/(k=12/\z=12)\/(k=13/\z=13)\/(k=14/\z=14)\/(k=15/\z=15)\/(k=16/\z=16)\/(k=17/\z=17)\/(k=18/\z=18)\/(k=19/\z=19)\/(k=20/\z=20)\/(k=21/\z=21)\/(k=22/\z=22)\/(k=23/\z=23):=by
 have h:k=1\/k=2\/k=3\/k=4\/k=5\/k=6\/k=7\/k=8\/k=9\/k=10\/k=11\/k=12\/k=13\/k=14\/k=15\/k=16\/k=17\/k=18\/k=19\/k=20\/k=21\/k=22\/k=23:=by omega
 subst I;rcases h with rfl|rfl|rfl|rfl|rfl|rfl|rfl|rfl|rfl|rfl|rfl|rfl|rfl|rfl|rfl|rfl|rfl|rfl|rfl|rfl|rfl|rfl|rfl<;>simp
theorem WD (a:Nat):(aC a a&&ai)=ai:=by rw[WE rfl];rfl
theorem T5 {n:Int} {w:uY} {h:HS} (o:Qy n h) {e:EV} (ok:EOK w h e) {x:ETp} (hx:EvT e x):rM (x,h.X,w,h.T,h.S,h.L,h.R,h.C,h.F,h.N,h.W)=af (qh w h e,x,h.X,w,h.T,h.S,h.L,h.R,h.C,h.F,h.N,h.W):=by
 obtain⟨x1,x2,M,x4,x5,x6,x7⟩:=x;obtain⟨w1,w2,U,w4,w5,w6⟩:=w;obtain⟨th,k,ob,va⟩:=e;obtain⟨q1,Y,q3,q4⟩:=hx;simp only at q1 Y q3 q4;subst q1 q4;have t1:=ok.th;simp only at t1;have fS:eX (th:Int) h.S.length=ai:=cS (by rw[o.lS];exact t1);have fN:eX (th:Int) h.N.length=ai:=cS (by rw[o.lN];exact t1);have fT:k=21->eX (ob:Int) h.T.length=ai/\M=(ob:Int):=λe=>by
  subst e;have:=ok.sp (.inr rfl);exact⟨cS this,q3 (by decide)⟩
 have fL:(k=6\/k=10\/k=8)->eX (ob:Int) h.L.length=ai/\eX (ob:Int) h.R.length=ai/\M=(ob:Int):=λe=>by
  have h1:ob<h.L.length:=ok.lk (by rcases e with rfl|rfl|rfl<;>(simp only[];omega));exact⟨cS h1,cS (by rw[o.lR];exact h1),q3 (by rcases e with rfl|rfl|rfl<;>decide)⟩
 have fC:k=3->eX (ob:Int) h.C.length=ai/\M=(ob:Int):=λe=>by
  subst e;have:=(ok.ce (.inl rfl)).1;exact⟨cS this,q3 (by decide)⟩
 have fF:k=23->eX (ob:Int) h.F.length=ai/\M=(ob:Int):=λe=>by
  subst e;have:=ok.fu (.inr rfl);exact⟨cS this,q3 (by decide)⟩
 unfold rM qh xv aX bf bp ch dA jt vq xz Prod.q10 LD cR fc ck bd tO bB aF;rcases Ii Y ok.k1 ok.k2 with ⟨e,e'⟩|⟨e,e'⟩|⟨e,e'⟩|⟨e,e'⟩|⟨e,e'⟩|⟨e,e'⟩|⟨e,e'⟩|⟨e,e'⟩|⟨e,e'⟩|⟨e,e'⟩|⟨e,e'⟩|⟨e,e'⟩|⟨e,e'⟩|⟨e,e'⟩|⟨e,e'⟩|⟨e,e'⟩|⟨e,e'⟩|⟨e,e'⟩|⟨e,e'⟩|⟨e,e'⟩|⟨e,e'⟩|⟨e,e'⟩|⟨e,e'⟩<;>clear Y<;>subst e<;>subst e'
 case inr.inr.inr.inr.inr.inr.inr.inr.inr.inr.inr.inr.inr.inr.inr.inr.inl=>
  have q3:=q3 (by decide);subst q3;obtain⟨d1,d2,Z⟩:=ok.cd (.inr rfl);simp only at d1 d2 Z;have d4:OU U ob<h.R.length:=by rw[o.lR];exact Z
  have e1:(U.getD ob ([],0)).2=((OU U ob:Nat):Int):=by unfold OU;omega
  simp only[aV,cB,cN,cV,cO,jm,b8,cS d1,Pp,e1,Sk _ _ Z,Sk _ _ d4,cG,WD,fN,lU];rfl
 case inr.inr.inl=>
  obtain⟨I,rfl⟩:=fC rfl;simp only[aV,cB,cN,cV,cO,jm,b8,I,lU];rfl
 case inr.inr.inr.inr.inr.inr.inr.inr.inr.inr.inr.inr.inr.inr.inr.inr.inr.inr.inr.inr.inr.inr=>
  obtain⟨I,rfl⟩:=fF rfl;simp only[aV,cB,cN,cV,cO,jm,b8,I,lU];rfl
 case inr.inr.inr.inr.inr.inr.inr.inr.inr.inr.inr.inr.inr.inr.inr.inr.inr.inr.inr.inr.inl=>
  obtain⟨I,rfl⟩:=fT rfl;simp only[aV,cB,cN,cV,cO,jm,b8,I,lU];rfl
 case inl=>
  simp only[aV,cB,cN,cV,cO,jm,b8,fS,lU];rfl
 case inr.inr.inr.inr.inr.inl=>
  obtain⟨I,J,rfl⟩:=fL (by decide);simp only[aV,cB,cN,cV,cO,jm,b8,I,J,lU];rfl
 case inr.inr.inr.inr.inr.inr.inr.inr.inr.inl=>
  obtain⟨I,J,rfl⟩:=fL (by decide);simp only[aV,cB,cN,cV,cO,jm,b8,I,J,lU];rfl
 case inr.inr.inr.inr.inr.inr.inr.inl=>
  obtain⟨I,J,rfl⟩:=fL (by decide);simp only[aV,cB,cN,cV,cO,jm,b8,I,J,lU];rfl
 all_goals
  simp only[aV,cB,cN,cV,cO,jm];rfl
theorem E5 {σ R:Type} {f:σ->Option (σ⊕R)} {x0:σ} {r:R} (n:Nat) (hn:n<18446744073709551616) (st:Nat->σ) (I:x0=st 0) (h0:∀i,i<n->f (st i)=af (.inl (st (i+1)))) (h1:f (st n)=af (.inr r)):fK f x0=af r:=by
 subst I;exact sJ n hn st h0 h1
def LJ {α:Type} (p:Nat->Bool) (c:α) (u:Nat) (l:List α):List α:=l.mapIdx λk x=>if decide (k<u)&&p k then c else x
theorem aaq {α:Type} (p:Nat->Bool) (c:α) (l:List α):LJ p c 0 l=l:=by
 unfold LJ;apply dG
 .simp
 .intro i h1 h2;simp
theorem IE {α:Type} (p:Nat->Bool) (c:α) (u:Nat) (l:List α):(LJ p c u l).length=l.length:=by simp[LJ]
theorem QP {α:Type} (p:Nat->Bool) (c:α) (u:Nat) (l:List α) (h:l.length<=u):LJ p c u l=l.mapIdx λk x=>if p k then c else x:=by
 unfold LJ;apply dG
 .simp
 .intro i h1 h2;simp only[List.length_mapIdx]at h1;simp only[List.getElem_mapIdx];rw[show decide (i<u)=ai from aQ (by omega)];rfl
theorem W3 {α:Type} (p:Nat->Bool) (c:α) (u:Nat) (l:List α) (hp:p u=ai):(LJ p c u l).set u c=LJ p c (u+1) l:=by
 unfold LJ;apply dG
 .simp
 .intro i h1 h2;simp only[vy,List.getElem_mapIdx];by_cases e:u=i
  .subst e;simp[hp]
  .rw[ay e];by_cases h:i<u
   .rw[aQ h,aQ (show i<u+1 by omega)]
   .rw[bN h,bN (show ¬i<u+1 by omega)]
theorem QO {α:Type} (p:Nat->Bool) (c:α) (u:Nat) (l:List α) (hp:p u=aj):LJ p c u l=LJ p c (u+1) l:=by
 unfold LJ;apply dG
 .simp
 .intro i h1 h2;simp only[List.getElem_mapIdx];by_cases e:u=i
  .subst e;simp[hp]
  .by_cases h:i<u
   .rw[aQ h,aQ (show i<u+1 by omega)]
   .rw[bN h,bN (show ¬i<u+1 by omega)]
theorem ajj (p:Nat->Bool) (c:Int) (u:Nat) (l:η):(LJ p c u l).getD u 0=l.getD u 0:=by
 unfold LJ;rw[aA,Ev,aA];cases l[u]? with
 |none=>rfl
 |some x=>simp
def HS.e (h:HS) (c:η):η×List η×List η×List η×List η×List η×List η×List η×η×η:=(h.X,h.T,h.S,h.L,h.R,h.C,h.F,h.N,h.W,c)
theorem Sl {n:Int} {w:uY} {h:HS} (o:Qy n h) (hn:n+1<=1000000) {e:EV} (ok:EOK w h e) {x:ETp} (hx:EvT e x) {c:η} (hc:En (n+1) c):p_ ((w,x),h.e c)=af ((ie w h e c).e c):=by
 obtain⟨x1,x2,x3,I,x5,x6,x7⟩:=x;obtain⟨J,w2,M,w4,w5,w6⟩:=w;obtain⟨th,k,ob,va⟩:=e;obtain⟨q1,q2,q3,q4⟩:=hx;simp only at q1 q2 q3 q4;subst q1 q4;have t1:=ok.th;simp only at t1;have m:n<=n+1:=by omega
 have fT:eX (th:Int) h.T.length=ai:=cS t1;have fW:eX (th:Int) h.W.length=ai:=cS (by rw[o.lW];exact t1);have cl:=Oe c hc.lb;unfold p_ AA HS.e xv Eu Prod.p12 Prod.p13 Prod.p14 Prod.p15 Prod.p16 Prod.p17 aX bf bp ch dA jt vq xz Prod.q10 Prod.q16 Prod.q17 Prod.q18 cR kK Oi ck bd bz iT tO bB aY cK aF cF;rcases Ii q2 ok.k1 ok.k2 with ⟨e,e'⟩|⟨e,e'⟩|⟨e,e'⟩|⟨e,e'⟩|⟨e,e'⟩|⟨e,e'⟩|⟨e,e'⟩|⟨e,e'⟩|⟨e,e'⟩|⟨e,e'⟩|⟨e,e'⟩|⟨e,e'⟩|⟨e,e'⟩|⟨e,e'⟩|⟨e,e'⟩|⟨e,e'⟩|⟨e,e'⟩|⟨e,e'⟩|⟨e,e'⟩|⟨e,e'⟩|⟨e,e'⟩|⟨e,e'⟩|⟨e,e'⟩<;>clear q2<;>subst e<;>subst e'
 case inr.inr.inr.inr.inr.inr.inr.inr.inr.inr.inr.inr.inr.inr.inr.inr.inr.inr.inr.inl=>
  obtain rfl:=q3 (by decide);have f:eX (ob:Int) h.S.length=ai:=cS (by rw[o.lS];exact ok.sp (.inl rfl));simp only[aV,cB,cN,cV,cO,jm,cG,b8,cl,fT,f,eE];rfl
 case inr.inr.inr.inr.inr.inr.inl=>
  obtain rfl:=q3 (by decide);have f:ob<h.L.length:=ok.lk (by simp only[];omega);simp only[aV,cB,cN,cV,cO,jm,cG,b8,cl,fT,eE,uj _ _ _ f (o.L.mono m) hc,rP,WD];rfl
 case inr.inr.inr.inr.inr.inr.inr.inr.inr.inr.inl=>
  obtain rfl:=q3 (by decide);have f:ob<h.L.length:=ok.lk (by simp only[];omega);simp only[aV,cB,cN,cV,cO,jm,cG,b8,cl,fT,eE,uj _ _ _ f (o.L.mono m) hc,rP,WD];rfl
 case inr.inr.inr.inr.inr.inr.inr.inr.inl=>
  obtain rfl:=q3 (by decide);have f:ob<h.R.length:=by rw[o.lR];exact ok.lk (by simp only[];omega)
  simp only[aV,cB,cN,cV,cO,jm,cG,b8,cl,fT,eE,uj _ _ _ f (o.R.mono m) hc,rP,WD];rfl
 case inr.inr.inr.inr.inr.inr.inr.inr.inr.inr.inr.inr.inr.inr.inr.inl=>
  obtain rfl:=q3 (by decide);obtain⟨Y,Z,d3⟩:=ok.cd (.inl rfl);simp only at Y Z d3;have e1:(M.getD ob ([],0)).2=((OU M ob:Nat):Int):=by unfold OU;omega
  simp only[aV,cB,cN,cV,cO,jm,cG,b8,cl,fT,fW,eE,cS Y,Pp,e1,uj _ _ _ d3 (o.L.mono m) hc,rP,WD];rfl
 case inr.inr.inr.inl=>
  obtain rfl:=q3 (by decide);obtain⟨Y,Z⟩:=ok.ce (.inr rfl);simp only at Y Z;simp only[aV,cB,cN,cV,cO,jm,cG,b8,cl,fT,eE,cS Z,XP];cases hv:(J.getD ob ([],0,0,aj,0)).2.2.2.1 with
  |true=>
   simp only[cV,cG,b8,uj _ _ _ Y (o.C.mono m) hc,rP,WD,jm];have U:ie (J,w2,M,w4,w5,w6) h ⟨th,4,ob,I⟩ c=if IF J ob then {h with T:=h.T.set th c,C:=jat h.C ob c} else {h with T:=h.T.set th c}:=rfl
   rw[U,show IF J ob=ai from hv];rfl
  |false=>
   simp only[cO,jm];have U:ie (J,w2,M,w4,w5,w6) h ⟨th,4,ob,I⟩ c=if IF J ob then {h with T:=h.T.set th c,C:=jat h.C ob c} else {h with T:=h.T.set th c}:=rfl
   rw[U,show IF J ob=aj from hv];rfl
 case inr.inr.inr.inr.inr.inr.inr.inr.inr.inr.inr.inr.inr.inr.inr.inr.inr.inr.inr.inr.inr.inl=>
  obtain rfl:=q3 (by decide);have f:ob<h.F.length:=ok.fu (.inl rfl);simp only[aV,cB,cN,cV,cO,jm,cG,b8,cl,fT,eE,uj _ _ _ f (o.F.mono m) hc,rP,WD];rfl
 case inr.inr.inr.inr.inr.inr.inr.inr.inr.inr.inr.inr.inl=>
  simp only[aV,cB,cN,cV,cO,jm,cG,b8,cl,fT,eE,Ud _ _ (o.X.mono m).lb hc.lb];rfl
 case inr.inr.inr.inr.inr.inr.inr.inr.inr.inr.inr.inr.inr.inr.inr.inr.inr.inl=>
  simp only[aV,cB,cN,cV,cO,jm,cG,b8,cl,fT,eE];have U:ie (J,w2,M,w4,w5,w6) h ⟨th,18,ob,I⟩ c=if 0<=I/\I<h.N.length then {h with T:=h.T.set th c,N:=h.N.set I.toNat c,W:=h.W.set I.toNat (-1)} else {h with T:=h.T.set th c}:=rfl
  rw[U];by_cases h0:0<=I
  .by_cases h1:I<h.N.length
   .rw[qJ h0];simp only[cV,jm];rw[sL (show I<aO h.N.length from h1)];obtain⟨v,rfl⟩:∃v:Nat,I=(v:Int):=⟨I.toNat,by omega⟩
    have v1:v<h.N.length:=by omega
    have v2:v<h.W.length:=by rw[o.lW,<-o.lN];exact v1
    have:=Xa {h with T:=h.T.set th c} v c v1 v2 hc;simp only[]at this;simp only[cV,this,cG,sY,b8,WE rfl,iQ,jm];rw[aD ⟨h0,h1⟩];rfl
   .rw[qJ h0];simp only[cV,jm];rw[sM (show aO h.N.length<=I from CF.1 h1)];simp only[cO,jm];rw[ay (λq=>h1 q.2)]
  .rw[Nk (by omega)];simp only[cO,jm];rw[ay (λq=>h0 q.1)]
 case inr.inr.inr.inr.inr.inr.inr.inr.inr.inr.inr.inr.inr.inr.inr.inr.inr.inr.inl=>
  obtain rfl:=q3 (by decide);simp only[aV,cB,cN,cV,cO,jm,cG,b8,cl,fT,eE];rw[E5 (r:=bP (h.X,h.T.set th c,h.S,h.L,h.R,h.C,h.F,LJ (λu=>decide (h.W.getD u 0=(ob:Int))) c h.W.length h.N,LJ (λu=>decide (h.W.getD u 0=(ob:Int))) (-1) h.W.length h.W,c)) h.W.length (by have:=o.lW;have:=o.lT;omega)
   (λi=>((i:Int),h.X,h.T.set th c,h.S,h.L,h.R,h.C,h.F,LJ (λu=>decide (h.W.getD u 0=(ob:Int))) c i h.N,LJ (λu=>decide (h.W.getD u 0=(ob:Int))) (-1) i h.W,c,(th:Int),(19:Int),(ob:Int),I,x5,x6,x7)) ?_ ?_ ?_]
  .simp only[jm];rw[QP _ _ _ h.W (bX _),QP _ _ _ h.N (by rw[o.lN,o.lW];exact bX _)];rfl
  .simp only[aaq];rfl
  .intro i hi;simp only[];have hN:i<(LJ (λu=>decide (h.W.getD u 0=(ob:Int))) c i h.N).length:=by rw[IE,o.lN,<-o.lW];exact hi
   have hW:i<(LJ (λu=>decide (h.W.getD u 0=(ob:Int))) (-1) i h.W).length:=by rw[IE];exact hi
   rw[sL (by simp;omega),cV,b8 (cS hW),b8 (cS hW),ak3,ajj];have ws:=mm hi (show h.W.length<=1099511627776 by have:=o.lW;have:=o.lT;omega);by_cases hp:h.W.getD i 0=(ob:Int)
   .rw[aQ hp,cV];have:=Xa {h with T:=h.T.set th c,N:=LJ (λu=>decide (h.W.getD u 0=(ob:Int))) c i h.N,W:=LJ (λu=>decide (h.W.getD u 0=(ob:Int))) (-1) i h.W} i c hN hW hc;simp only[]at this;rw[this,cG,b8 (by simp only[sY,WE rfl,iQ]),jm,ws,W3 _ _ _ _ (aQ hp),W3 _ _ _ _ (aQ hp)]
   .rw[bN hp,cO,jm,ws,<-QO _ _ _ _ (bN hp),<-QO _ _ _ _ (bN hp)]
  .simp only[];rw[sM (by simp),cO]
 all_goals
  simp only[aV,cB,cN,cV,cO,jm,cG,b8,cl,fT,eE];rfl
theorem JW (l:List η) (c:η) (i:Nat) (hi:i<l.length):(l.take (i+1)).foldl jl c=jl ((l.take i).foldl jl c) (l.getD i []):=by
 rw[List.take_add_one,dR,aB hi,aA,aB hi];rfl
theorem F5 (w:uY) (h:HS) (e:EV):(qh w h e).length<=3:=by
 unfold qh;repeat' split
 all_goals simp
theorem ad7 {n:Int} {w:uY} {h:HS} (o:Qy n h) (e:EV) (i:Nat):0<=((qh w h e).foldl jl (h.T.getD e.th [])).getD i 0/\((qh w h e).foldl jl (h.T.getD e.th [])).getD i 0<9223372036854775807:=by
 have:=(yd _ _ (o.T e.th) (OC (w:=w) o e)).2 i;have:=o.n1;omega
theorem vN (w:uY) (h:HS) (e:EV) (c:η):(ie w h e c).T.length=h.T.length/\(ie w h e c).S.length=h.S.length/\(ie w h e c).L.length=h.L.length/\(ie w h e c).R.length=h.R.length/\(ie w h e c).C.length=h.C.length/\(ie w h e c).F.length=h.F.length/\(ie w h e c).N.length=h.N.length/\(ie w h e c).W.length=h.W.length:=by
 unfold ie;simp only[];repeat' split
 all_goals simp[jat,CO]
theorem ahc {n:Int} {w:uY} {h:HS} (o:Qy n h) (hn:n+1<=1000000) {e:EV} (ok:EOK w h e) {x:ETp} (hx:EvT e x):sI (w,h.t,x)=af ((F4 w h e).1.t,(F4 w h e).2):=by
 have s2:=T5 o ok hx;have hce:En (n+1) (t_ w h e):=K5 o ok.th4;have en:=Sl o hn ok hx hce;have cp:=N6 h.t o.GH;have sl:=F5 w h e;have sE:=OC (w:=w) o e;have hlen:=vN w h e (t_ w h e);obtain⟨x1,x2,x3,x4,x5,x6,x7⟩:=x;obtain⟨Z,Y,U,M,J,I⟩:=w;have t1:=hx.th;simp only at t1;subst t1;unfold HS.t at cp;simp only[]at cp;have fT:eX (e.th:Int) h.T.length=ai:=cS ok.th;unfold sI Dv HS.t xv Eu aX bf bp ch dA jt vq xz LD Prod.q12 cR fc nM Oi ck bz tO bB aY cK cF;simp only[];rw[cp,cG];simp only[];rw[b8 fT,b8 fT,s2,cG];simp only[];rw[b8 (by simp only[WE rfl,iQ])];refine E5 (qh (Z,Y,U,M,J,I) h e).length (by omega) (λi=>((i:Int),(Z,Y,U,M,J,I),((e.th:Int),x2,x3,x4,x5,x6,x7),h.X,((qh (Z,Y,U,M,J,I) h e).take i).foldl jl (h.T.getD e.th []),h.T,h.S,h.L,h.R,h.C,h.F,h.N,h.W)) ?_ ?_ ?_
 .simp only[lU,LG,List.foldl_nil];rfl
 .intro i hi;simp only[];rw[sL (by simp;omega),cV,b8 (cS hi),lU,(yd _ _ (o.T e.th) (λy hy=>sE y (fZ hy))).join (sE _ (Dx hi)),cG,mm hi (by omega),JW _ _ _ hi]
 .simp only[];rw[sM (by simp),cO,fk (bX _)];have hl:=ad7 (w:=(Z,Y,U,M,J,I)) o e e.th;rw[Yo _ e.th (yd _ _ (o.T e.th) sE).lb ok.th4 hl.1 hl.2,cG];unfold HS.e at en;unfold t_ at en hlen;rw[en,cG];simp only[];rw[b8 (by rw[hlen.1,hlen.2.1,hlen.2.2.1,hlen.2.2.2.1,hlen.2.2.2.2.1,hlen.2.2.2.2.2.1,hlen.2.2.2.2.2.2.1,hlen.2.2.2.2.2.2.2];simp only[WE rfl,iQ])];rfl
abbrev wA:Ty:=(.st (.pr (.int .i64) (.sl (.st (.pr (.int .i64) (.pr (.int .i64) (.pr (.int .i64) (.pr (.int .i64) (.pr (.int .i64) (.int .i64))))))))))
abbrev BT:Ty:=(.st (.pr (.int .i64) (.pr (.int .i64) (.pr (.int .i64) (.pr (.int .i64) (.pr (.int .i64) (.int .i64)))))))
abbrev vg:Ty:=(.st (.pr (.int .i64) (.pr (.sl (.int .i64)) (.pr (.sl (.sl (.int .i64))) (.int .i64)))))
abbrev zh:Ty:=(.st (.pr .str (.pr (.int .i64) (.pr (.sl .str) (.sl .sm)))))
abbrev tDc:Ty:=(.st (.pr (.int .i64) (.pr (.int .i64) (.pr .str (.pr (.int .i64) (.pr (.int .i64) .str))))))
abbrev tE:Ty:=(.st (.pr (.int .i64) (.pr (.int .i64) (.pr (.int .i64) (.pr (.int .i64) (.pr (.int .i64) (.pr (.sl (.int .i64)) (.sl (.int .i64)))))))))
abbrev UE:Ty:=(.st (.pr .str .bool))
abbrev QU:Ty:=(.st (.pr .str (.pr (.int .i64) (.pr (.int .i64) (.pr .bool (.int .i64))))))
abbrev yz:Ty:=(.st (.pr (.int .i64) (.pr (.int .i64) (.int .i64))))
abbrev Uu:Ty:=(.st (.pr .str (.int .i64)))
abbrev AK:Ty:=(.st (.pr (.int .i64) (.sl (.int .i64))))
abbrev jG:Ty:=(.st (.pr (.int .i64) (.pr (.int .i64) .bool)))
def Ok {R:Type} (o:Option R) (Q:R->Prop):Prop:=∃y,o=af y/\Q y
theorem Ok.mono {R:Type} {o:Option R} {Q Q':R->Prop} (h:Ok o Q) (hq:∀y,Q y->Q' y):Ok o Q':=by obtain⟨y,h1,h2⟩:=h;exact⟨y,h1,hq y h2⟩
theorem ar {R:Type} {y:R} {Q:R->Prop} (h:Q y):Ok (af y) Q:=⟨y,rfl,h⟩
theorem aii {R:Type} {o:Option R} {y:R} {Q:R->Prop} (e:o=af y) (h:Q y):Ok o Q:=⟨y,e,h⟩
theorem bg {R:Type} {b:Bool} {k:Option R} {Q:R->Prop} (h:b=ai) (hk:Ok k Q):Ok (chk b λ_=>k) Q:=by subst h;exact hk
theorem aP {R:Type} {b:Bool} {t f:Option R} {Q:R->Prop} (ht:b=ai->Ok t Q) (hf:b=aj->Ok f Q):Ok (bcase b t f) Q:=by
 cases b with
 |true=>exact ht rfl
 |false=>exact hf rfl
theorem fI {R:Type} {b:Bool} {t f:Option R} {Q:R->Prop} (h:b=ai) (ht:Ok t Q):Ok (bcase b t f) Q:=by subst h;exact ht
theorem fP {R:Type} {b:Bool} {t f:Option R} {Q:R->Prop} (h:b=aj) (hf:Ok f Q):Ok (bcase b t f) Q:=by subst h;exact hf
theorem ax {α R:Type} {o:Option α} {k:α->Option R} {P:α->Prop} {Q:R->Prop} (h:Ok o P) (hk:∀x,P x->Ok (k x) Q):Ok (obind o k) Q:=by
 obtain⟨x,rfl,I⟩:=h;exact hk x I
theorem aU {α R:Type} {o:Option α} {k:α->Option R} {x:α} {Q:R->Prop} (h:o=af x) (hk:Ok (k x) Q):Ok (obind o k) Q:=by subst h;exact hk
theorem aS {α R:Type} {x:α} {k:α->Option R} {Q:R->Prop} (h:Ok (k x) Q):Ok (lt x k) Q:=h
theorem aZ {α R:Type} {o:Option (R⊕α)} {k:α->Option R} {Q:R->Prop} (P:α->Prop) (h:Ok o λr=>match r with|.inl r=>Q r|.inr x=>P x) (hk:∀x,P x->Ok (k x) Q):Ok (jn o k) Q:=by
 obtain⟨r,rfl,hr⟩:=h;cases r with
 |inl r=>exact⟨r,rfl,hr⟩
 |inr x=>exact hk x hr
theorem gC {α R:Type} {o:Option (R⊕α)} {k:α->Option R} {Q:R->Prop} (h:Ok o λr=>match r with|.inl r=>Q r|.inr x=>Ok (k x) Q):Ok (jn o k) Q:=aZ (λx=>Ok (k x) Q) h λ_ h=>h
theorem afk {α R:Type} {a b:α} {r:Option R} {Q:R->Prop} (e:a=b) (h:Ok r Q):Ok (same a b r) Q:=by unfold same;rw[aD e];exact h
theorem qr {σ R:Type} {f:σ->Option (σ⊕R)} {Q:R->Prop} (μ:σ->Nat) (I:σ->Prop) (h:∀x,I x->Ok (f x) λr=>match r with|.inl y=>I y/\μ y<μ x|.inr r=>Q r) {x:σ} (J:I x):Ok (iter f x) Q:=by
 have key:∀n x,μ x<n->I x->∃m r,iterN f m x=af r/\Q r:=by
  intro n;induction n with
  |zero=>intro x hm;omega
  |succ n M=>
   intro x hm J;obtain⟨r,h1,h2⟩:=h x J;cases r with
   |inl y=>
    obtain⟨m,r,Y,U⟩:=M y (by have:=h2.2;omega) h2.1;exact⟨m+1,r,by rw[iterN,h1];exact Y,U⟩
   |inr r=>exact⟨1,r,by rw[iterN,h1],h2⟩
 obtain⟨m,r,h1,h2⟩:=key (μ x+1) x (q_ _) J;exact⟨r,zE h1,h2⟩
theorem ca {σ R:Type} {f:σ->Option (σ⊕R)} {Q:R->Prop} (n:Nat) (I:Nat->σ->Prop) (h0:∀i x,i<n->I i x->Ok (f x) λr=>match r with|.inl y=>I (i+1) y|.inr r=>Q r) (h1:∀x,I n x->Ok (f x) λr=>match r with|.inl _=>False|.inr r=>Q r) {x:σ} (U:I 0 x):Ok (iter f x) Q:=by
 have key:∀m i x,i+m=n->I i x->∃k r,iterN f k x=af r/\Q r:=by
  intro m;induction m with
  |zero=>
   intro i x hi U;have:i=n:=by omega
   subst this;obtain⟨r,M,J⟩:=h1 x U;cases r with
   |inl y=>exact J.elim
   |inr r=>exact⟨1,r,by rw[iterN,M],J⟩
  |succ m Y=>
   intro i x hi U;obtain⟨r,M,J⟩:=h0 i x (by omega) U;cases r with
   |inl y=>
    obtain⟨k,r,g3,Z⟩:=Y (i+1) y (by omega) J;exact⟨k+1,r,by rw[iterN,M];exact g3,Z⟩
   |inr r=>exact⟨1,r,by rw[iterN,M],J⟩
 obtain⟨m,r,M,J⟩:=key n 0 x (by omega) U;exact⟨r,zE M,J⟩
def itQ {σ R:Type} (f:σ->Option (σ⊕R)) (Q:R->Prop):σ⊕R->Prop
 |.inl y=>Ok (iter f y) Q
 |.inr r=>Q r
def jnQ {α R:Type} (k:α->Option R) (Q:R->Prop):R⊕α->Prop
 |.inl r=>Q r
 |.inr x=>Ok (k x) Q
theorem afj {σ R:Type} {f:σ->Option (σ⊕R)} {x:σ} {Q:R->Prop} (h:Ok (f x) (itQ f Q)):Ok (iter f x) Q:=by
 obtain⟨r,h1,h2⟩:=h;cases r with
 |inr r=>exact⟨r,zE (n:=1) (by rw[iterN,h1]),h2⟩
 |inl y=>
  obtain⟨z,I,J⟩:=h2;unfold iter at I;split at I
  .exact⟨z,zE (n:=_+1) (by rw[iterN,h1];exact I),J⟩
  .cases I
theorem XA {σ R:Type} {f:σ->Option (σ⊕R)} {y:σ} {Q:R->Prop} (h:Ok (iter f y) Q):Ok (af (.inl y)) (itQ f Q):=⟨_,rfl,h⟩
theorem Xz {σ R:Type} {f:σ->Option (σ⊕R)} {r:R} {Q:R->Prop} (h:Ok (af r) Q):Ok (af (.inr r)) (itQ f Q):=by
 obtain⟨_,h1,h2⟩:=h;cases h1;exact⟨_,rfl,h2⟩
theorem Xx {α R:Type} {o:Option (R⊕α)} {k:α->Option R} {Q:R->Prop} (h:Ok o (jnQ k Q)):Ok (jn o k) Q:=by
 obtain⟨r,rfl,hr⟩:=h;cases r with
 |inl r=>exact⟨r,rfl,hr⟩
 |inr x=>exact hr
theorem Xy {α R:Type} {r:R} {k:α->Option R} {Q:R->Prop} (h:Ok (af r) Q):Ok (af (.inl r)) (jnQ k Q):=by
 obtain⟨_,h1,h2⟩:=h;cases h1;exact⟨_,rfl,h2⟩
theorem Xw {α R:Type} {x:α} {k:α->Option R} {Q:R->Prop} (h:Ok (k x) Q):Ok (af (.inr x)) (jnQ k Q):=⟨_,rfl,h⟩
def oQ {α R:Type} (k:α->Option R) (Q:R->Prop) (x:α):Prop:=Ok (k x) Q
theorem Rm {α R:Type} {o:Option α} {k:α->Option R} {Q:R->Prop} (h:Ok o (oQ k Q)):Ok (obind o k) Q:=ax h λ_ h=>h
theorem Rl {α R:Type} {x:α} {k:α->Option R} {Q:R->Prop} (h:Ok (k x) Q):Ok (af x) (oQ k Q):=⟨_,rfl,h⟩
theorem afz {j:Int} {n:Nat}:eX j n=ai↔0<=j/\j<n:=by simp[eX,c6,fV]
theorem O3 {a b:Int}:c6 a b=ai↔a<=b:=by simp[c6]
theorem tX {a b:Int}:fV a b=ai↔a<b:=by simp[fV]
theorem gi {a b:Int}:fV a b=aj↔b<=a:=by simp[fV]
theorem me {a b:Int}:c6 a b=aj↔b<a:=by simp[c6]
theorem YC {n b:Nat}:a_ n b=ai↔n<=1099511627776/\n*b<=1099511627776:=by simp[a_]
theorem cI {R:Type} {o:Option R} {v:R} (h:Ok o (·=v)):o=af v:=by obtain⟨y,h1,h2⟩:=h;rw[h1,h2]
section steps
variable {R:Type} {k t f:Option R} {Q:R->Prop}
theorem aR {j:Int} {n:Nat} (h0:0<=j) (h1:j<n) (hk:Ok k Q):Ok (chk (eX j n) λ_=>k) Q:=bg (afz.2 ⟨h0,h1⟩) hk
theorem bh {n b:Nat} (h0:n<=1073741824) (h1:b<=1024) (hk:Ok k Q):Ok (chk (a_ n b) λ_=>k) Q:=
 bg (YC.2 ⟨by omega,dg (Nat.mul_le_mul h0 h1) (by omega)⟩) hk
theorem di {a b:Bool} (h:Ok (chk a λ_=>chk b λ_=>k) Q):Ok (chk (a&&b) λ_=>k) Q:=by
 cases a with
 |true=>exact h
 |false=>obtain⟨y,h,_⟩:=h;cases h
theorem eA {a b:Int} (h:a<=b) (hk:Ok k Q):Ok (chk (c6 a b) λ_=>k) Q:=bg (O3.2 h) hk
theorem Av {a b:Int} (h:a<b) (hk:Ok k Q):Ok (chk (fV a b) λ_=>k) Q:=bg (tX.2 h) hk
theorem XB {p:Prop} {i:Decidable p} (h:p) (hk:Ok k Q):Ok (chk (decide p) λ_=>k) Q:=bg (aQ h) hk
theorem zo {p:Prop} {i:Decidable p} (h:¬p) (hk:Ok k Q):Ok (chk (!decide p) λ_=>k) Q:=bg (by simp[h]) hk
theorem lH {a b:Nat} (h:a=b) (hk:Ok k Q):Ok (chk (aC a b) λ_=>k) Q:=bg (by subst h;exact r7 a) hk
theorem Bh (hk:Ok k Q):Ok (chk ai λ_=>k) Q:=hk
theorem bI {a b:Int} (ht:a<b->Ok t Q) (hf:b<=a->Ok f Q):Ok (bcase (fV a b) t f) Q:=aP (λh=>ht (tX.1 h)) (λh=>hf (gi.1 h))
theorem eV {a b:Int} (ht:a<=b->Ok t Q) (hf:b<a->Ok f Q):Ok (bcase (c6 a b) t f) Q:=aP (λh=>ht (O3.1 h)) (λh=>hf (me.1 h))
theorem aK {p:Prop} {i:Decidable p} (ht:p->Ok t Q) (hf:¬p->Ok f Q):Ok (bcase (decide p) t f) Q:=aP (λh=>ht (bw h)) (λh=>hf (Ux h))
theorem ci {p:Prop} {i:Decidable p} (ht:¬p->Ok t Q) (hf:p->Ok f Q):Ok (bcase (!decide p) t f) Q:=aP (λh=>ht (by simpa using h)) (λh=>hf (by simpa using h))
theorem em {b:Bool} (ht:b=aj->Ok t Q) (hf:b=ai->Ok f Q):Ok (bcase (!b) t f) Q:=aP (λh=>ht (by simpa using h)) (λh=>hf (by simpa using h))
theorem M' (ht:Ok t Q):Ok (bcase ai t f) Q:=ht
theorem gw (hf:Ok f Q):Ok (bcase aj t f) Q:=hf
theorem cg {j:Int} {n:Nat} (hk:Ok k Q) (h0:0<=j:=by first|omega|(dsimp only;omega)) (h1:j<n:=by first|omega|(dsimp only;omega)):Ok (chk (eX j n) λ_=>k) Q:=aR h0 h1 hk
theorem du {a b:Int} (ht:Ok t Q) (h:a<b:=by first|omega|(dsimp only[au];omega)):Ok (bcase (fV a b) t f) Q:=bI (λ_=>ht) λg=>cY h (CF.2 g)
theorem dv {a b:Int} (hf:Ok f Q) (h:b<=a:=by first|omega|(dsimp only[au];omega)):Ok (bcase (fV a b) t f) Q:=bI (λg=>cY g (CF.2 h)) λ_=>hf
end steps
theorem rj:(∀(p:Prop) [Decidable p],(decide p=ai)=p)/\(∀p:Prop,(True\/p)=True)/\(∀p:Prop,(p\/True)=True)/\(∀p:Prop,(True->p)=p)/\(∀p:Prop,(True/\p)=p)/\∀p:Prop,(p/\True)=p:=⟨λ_=>be,true_or,or_true,λ_=>true_implies _,BR,and_true⟩
theorem tC:(∀i:Decidable True,@decide True i=ai)/\(∀i:Decidable False,@decide False i=aj)/\(∀{R:Type} (t f:Option R),bcase ai t f=t)/\(∀{R:Type} (t f:Option R),bcase aj t f=f)/\(∀{α R:Type} (x:α) (k:α->Option R),jn (af (.inr x)) k=k x)/\(∀{α R:Type} (r:R) (k:α->Option R),jn (af (.inl r)) k=af r)/\(∀{α R:Type} (x:α) (k:α->Option R),obind (af x) k=k x)/\(∀{α R:Type} (x:α) (k:α->Option R),lt x k=k x)/\(!ai)=aj/\(!aj)=ai:=⟨cN,cB,λ_ _=>rfl,λ_ _=>rfl,λ_ _=>rfl,λ_ _=>rfl,λ_ _=>rfl,λ_ _=>rfl,rfl,rfl⟩
structure IM (p q:Prop):Prop where
 h:p->q
inductive OS {R:Type}:Option R->(R->Prop)->Prop where
 |cand {a b:Bool} {k:Option R} {Q:R->Prop} (h:Ok (chk a λ_=>chk b λ_=>k) Q):OS (chk (a&&b) λ_=>k) Q
 |eX {j:Int} {n:Nat} {k:Option R} {Q:R->Prop} (h0:0<=j) (h1:j<n) (hk:Ok k Q):OS (chk (eX j n) λ_=>k) Q
 |room {n b:Nat} {k:Option R} {Q:R->Prop} (h0:n<=1073741824) (h1:b<=1024) (hk:Ok k Q):OS (chk (a_ n b) λ_=>k) Q
 |cile {a b:Int} {k:Option R} {Q:R->Prop} (h:a<=b) (hk:Ok k Q):OS (chk (c6 a b) λ_=>k) Q
 |cilt {a b:Int} {k:Option R} {Q:R->Prop} (h:a<b) (hk:Ok k Q):OS (chk (fV a b) λ_=>k) Q
 |cdec {p:Prop} {i:Decidable p} {k:Option R} {Q:R->Prop} (h:p) (hk:Ok k Q):OS (chk (decide p) λ_=>k) Q
 |cndec {p:Prop} {i:Decidable p} {k:Option R} {Q:R->Prop} (h:¬p) (hk:Ok k Q):OS (chk (!decide p) λ_=>k) Q
 |cbeq {a b:Nat} {k:Option R} {Q:R->Prop} (h:a=b) (hk:Ok k Q):OS (chk (aC a b) λ_=>k) Q
 |cT {k:Option R} {Q:R->Prop} (hk:Ok k Q):OS (chk ai λ_=>k) Q
 |lt {α:Type} {x:α} {k:α->Option R} {Q:R->Prop} (h:Ok (k x) Q):OS (lt x k) Q
 |b1 {t f:Option R} {Q:R->Prop} (h:Ok t Q):OS (bcase ai t f) Q
 |b0 {t f:Option R} {Q:R->Prop} (h:Ok f Q):OS (bcase aj t f) Q
 |fV {a b:Int} {t f:Option R} {Q:R->Prop} (ht:IM (a<b) (Ok t Q)) (hf:IM (b<=a) (Ok f Q)):OS (bcase (fV a b) t f) Q
 |c6 {a b:Int} {t f:Option R} {Q:R->Prop} (ht:IM (a<=b) (Ok t Q)) (hf:IM (b<a) (Ok f Q)):OS (bcase (c6 a b) t f) Q
 |dec {p:Prop} {i:Decidable p} {t f:Option R} {Q:R->Prop} (ht:IM p (Ok t Q)) (hf:IM (¬p) (Ok f Q)):OS (bcase (decide p) t f) Q
 |ndec {p:Prop} {i:Decidable p} {t f:Option R} {Q:R->Prop} (ht:IM (¬p) (Ok t Q)) (hf:IM p (Ok f Q)):OS (bcase (!decide p) t f) Q
 |not {b:Bool} {t f:Option R} {Q:R->Prop} (ht:IM (b=aj) (Ok t Q)) (hf:IM (b=ai) (Ok f Q)):OS (bcase (!b) t f) Q
 |bcase {b:Bool} {t f:Option R} {Q:R->Prop} (ht:IM (b=ai) (Ok t Q)) (hf:IM (b=aj) (Ok f Q)):OS (bcase b t f) Q
 |jc {α:Type} {o:Option (R⊕α)} {k:α->Option R} {Q:R->Prop} (h:Ok o λr=>match r with|.inl r=>Q r|.inr x=>Ok (k x) Q):OS (jn o k) Q
 |some {y:R} {Q:R->Prop} (h:Q y):OS (af y) Q
theorem OS.ok {R:Type} {o:Option R} {Q:R->Prop} (h:OS o Q):Ok o Q:=by
 cases h with
 |cand h=>exact di h
 |eX a b h=>exact aR a b h
 |room a b h=>exact bh a b h
 |cile a h=>exact eA a h
 |cilt a h=>exact Av a h
 |cdec a h=>exact XB a h
 |cndec a h=>exact zo a h
 |cbeq a h=>exact lH a h
 |cT h=>exact h
 |lt h=>exact h
 |b1 h=>exact h
 |b0 h=>exact h
 |fV a b=>exact bI a.h b.h
 |c6 a b=>exact eV a.h b.h
 |dec a b=>exact aK a.h b.h
 |ndec a b=>exact ci a.h b.h
 |not a b=>exact em a.h b.h
 |bcase a b=>exact aP a.h b.h
 |jc h=>
  obtain⟨r,e,h⟩:=h;exact gC ⟨r,e,by cases r<;>exact h⟩
 |some h=>exact ar h
theorem bcT {R:Type} (t f:Option R):bcase ai t f=t:=rfl
theorem bcF {R:Type} (t f:Option R):bcase aj t f=f:=rfl
theorem jnr {α R:Type} (x:α) (k:α->Option R):jn (af (.inr x)) k=k x:=rfl
theorem XC {α R:Type} (x:α) (k:α->Option R):obind (af x) k=k x:=rfl
theorem Jm {k:Int}:k=1\/k=2\/k=3\/k=4\/k=5\/k=6\/k=7\/k=8\/k=9\/k=10\/k=11\/k=12\/k=13\/k=14\/k=15\/k=16\/k=17\/k=18\/k=19\/k=20\/k=21\/k=22\/k=23\/((∀j:Int,1<=j->j<=23->(k=j)=False)/\(k<1\/23<k)):=by
 by_cases h:1<=k/\k<=23
 .omega
 .have:(∀j:Int,1<=j->j<=23->(k=j)=False)/\(k<1\/23<k):=⟨λj h1 h2=>eq_false (by omega),by omega⟩
  repeat (first|exact this|refine Or.inr ?_)
theorem ic {n:Int} (h0: -9223372036854775808<=n) (h1:n<=9223372036854775807):bk .i64 n=n:=by
 rw[H9];unfold MZ;simp[c6,h0,h1]
theorem gO {i:Nat} (h:i<9223372036854775807):bk .i64 ((i:Int)+1)=((i+1:Nat):Int):=by rw[ic (by omega) (by omega)];omega
theorem zK {T:Ty} (xs:List T.den) (i:Nat):aJ xs (i:Int)=xs.getD i T.zero:=by unfold aJ;simp
theorem Pq (xs:η) (i:Nat):aJ (T:=.int .i64) xs (i:Int)=xs.getD i 0:=zK (T:=.int .i64) xs i
theorem bJ {T:Ty} {xs:List T.den} {j:Int} (h0:0<=j) (h1:j<xs.length):aJ xs j∈xs:=by
 unfold aJ;rw[aA,aB (by omega)];exact vz _
theorem bT {α:Type} (xs:List α) (j:Int) (x:α):(cw xs j x).length=xs.length:=by unfold cw;simp
theorem CV {α:Type} {xs:List α} {j:Int} {x y:α} (h:y∈cw xs j x):y∈xs\/y=x:=List.mem_or_eq_of_mem_set h
abbrev WT:Type:=List (ζ×Int×Int×Bool×Int)×List (ζ×Bool)×List (ζ×Int)×List ζ×List ζ×List π
abbrev SY:Type:=List (Int×η)×Int×θ×List (Int×Int×Bool)
theorem ac9 (a b:Int):qD (a,b)=af (decide (0<=a/\a<b)):=by
 refine cI ?_;unfold qD iT aF;with_reducible repeat' first|(refine OS.ok ?_;constructor)|refine IM.mk λ_=>?_
 .by_cases h:a<b<;>simp[*,fV]
 .simp;omega
theorem W1 (l:η) (n:Int) (hl:l.length<=1000000):qE (l,n)=af (l.contains n):=by
 refine cI ?_;unfold qE bd bz bF aY cK aF cF;refine ca l.length (λi x=>x=(i:Int)/\∀k,k<i->l.getD k 0≠n) ?_ ?_ ⟨rfl,λk hk=>by omega⟩
 .rintro i x hi ⟨rfl,I⟩;with_reducible repeat' first|(refine OS.ok ?_;constructor)|refine IM.mk λ_=>?_
  all_goals try simp only[au,rj] at*
  .omega
  .omega
  .rename_i h;rw[Pq]at h;show ai=_
   symm
   rw[tu,<-h,aA,aB hi];exact vz _
  .rename_i h;rw[Pq]at h;refine ⟨gO (by omega),λk hk=>?_⟩;rcases cf k i with h1|h1
   .exact I k h1
   .rw[show k=i by omega];exact h
  .omega
 .rintro x ⟨rfl,I⟩;with_reducible repeat' first|(refine OS.ok ?_;constructor)|refine IM.mk λ_=>?_
  all_goals try simp only[au,rj] at*
  .omega
  .omega
  .omega
  .omega
  .symm
   rw[Bool.eq_false_iff];intro hc;rw[tu]at hc;obtain⟨k,hk,he⟩:=List.getElem_of_mem hc;exact I k hk (by rw[aA,aB hk];exact he)
theorem iv {T:Ty} {xs:List T.den} {p:T.den->Prop} (h:∀k:Nat,k<al xs->p (aJ xs (k:Int))):∀c∈xs,p c:=λc hc=>by
 obtain⟨k,hk,he⟩:=List.getElem_of_mem hc;have:=h k hk;rw[zK,aA,aB hk,vu,he]at this;exact this
theorem Qz (w:WT) (s:SY) (hw:w.2.2.1.length<=1000000):Ok (rE (w,s)) λb=>b=ai->(∀c∈w.2.2.1,0<=c.2/\c.2<w.2.1.length)/\s.1.length=w.2.1.length/\s.2.2.1.length=w.2.2.2.1.length/\s.2.2.2.length=w.2.2.2.2.1.length:=by
 unfold rE aX bf bp cR bd bz bF aY cK aF cF;refine ca w.2.2.1.length (λi x=>x.1=(i:Int)/\x.2=(w,s)/\∀k:Nat,k<i->0<=(aJ (T:=Uu) w.2.2.1 (k:Int)).2/\(aJ (T:=Uu) w.2.2.1 (k:Int)).2<w.2.1.length) ?_ ?_ ⟨rfl,rfl,λk hk=>by omega⟩
 .rintro i ⟨Y,U⟩ hi ⟨J,I,M⟩;dsimp only at J I;subst J;subst I;with_reducible repeat' first|(refine OS.ok ?_;constructor)|refine IM.mk λ_=>?_
  all_goals try simp only[au,rj] at*
  all_goals first|omega|skip
  .intro h;cases h
  .intro h;cases h
  .refine ⟨gO (by omega),λk hk=>?_⟩;rcases cf k i with h1|h1
   .exact M k h1
   .rename_i h2 Z;rw[show k=i by omega];exact⟨h2,Z⟩
 .rintro⟨Y,U⟩ ⟨J,I,M⟩;dsimp only at J I;subst J;subst I;with_reducible repeat' first|(refine OS.ok ?_;constructor)|refine IM.mk λ_=>?_
  all_goals try simp only[au,rj] at*
  all_goals first|omega|skip
  refine ax (P:=λb=>b=ai->s.1.length=w.2.1.length/\s.2.2.1.length=w.2.2.2.1.length/\s.2.2.2.length=w.2.2.2.2.1.length) ?_ ?_
  .with_reducible repeat' first|(refine OS.ok ?_;constructor)|refine IM.mk λ_=>?_
   all_goals try simp only[au,rj] at*
   .intro h;omega
   .intro h;cases h
   .intro h;cases h
  .intro b hb;with_reducible repeat' first|(refine OS.ok ?_;constructor)|refine IM.mk λ_=>?_
   exact λh=>⟨iv (T:=Uu) M,hb h⟩
structure NM (w:WT) (k o:Int):Prop where
 k1:1<=k
 k2:k<=23
 ce:k=3\/k=4->0<=o/\o<w.1.length
 lk:6<=k/\k<=11->0<=o/\o<w.2.1.length
 cd:16<=k/\k<=19->0<=o/\o<w.2.2.1.length
 th:k=20\/k=21->0<=o/\o<w.2.2.2.2.1.length
 fu:k=22\/k=23->0<=o/\o<w.2.2.2.1.length
 no:k=1\/k=2\/k=5\/(12<=k/\k<=15)->o= -1
 mu:k=6\/k=7->(aJ (T:=UE) w.2.1 o).2=aj
 rw:8<=k/\k<=11->(aJ (T:=UE) w.2.1 o).2=ai
theorem abt (w:WT) (k o:Int):Ok (uD (w,k,o)) λb=>b=ai->NM w k o:=by
 unfold uD aX bf bp ch bd bF aY aF;rcases @Jm k with rfl|rfl|rfl|rfl|rfl|rfl|rfl|rfl|rfl|rfl|rfl|rfl|rfl|rfl|rfl|rfl|rfl|rfl|rfl|rfl|rfl|rfl|rfl|⟨hk,I⟩
 case inr.inr.inr.inr.inr.inr.inr.inr.inr.inr.inr.inr.inr.inr.inr.inr.inr.inr.inr.inr.inr.inr.inr=>
  simp only[hk 1 (by decide) (by decide),hk 2 (by decide) (by decide),hk 3 (by decide) (by decide),hk 4 (by decide) (by decide),hk 5 (by decide) (by decide),hk 6 (by decide) (by decide),hk 7 (by decide) (by decide),hk 8 (by decide) (by decide),hk 9 (by decide) (by decide),hk 10 (by decide) (by decide),hk 11 (by decide) (by decide),hk 12 (by decide) (by decide),hk 13 (by decide) (by decide),hk 14 (by decide) (by decide),hk 15 (by decide) (by decide),hk 16 (by decide) (by decide),hk 17 (by decide) (by decide),hk 18 (by decide) (by decide),hk 19 (by decide) (by decide),hk 20 (by decide) (by decide),hk 21 (by decide) (by decide),hk 22 (by decide) (by decide),hk 23 (by decide) (by decide),aV,bn,tC];exact ar λh=>by cases h
 all_goals simp only[aV,bn,tC,ac9]
 all_goals with_reducible repeat' first|(refine OS.ok ?_;constructor)|refine IM.mk λ_=>?_
 all_goals try simp only[au,rj] at*
 all_goals first|omega|(intro h;cases h;done)|(intro h;constructor<;>first|omega|(intro h2;first|omega|(simpa using h)))
structure SB (n:Nat) (s:SY):Prop where
 n1:n<=100000
 lk:s.1.length<=1000
 rd:∀l∈s.1,l.2.length<=n
 dn:s.2.2.1.length<=1000
 th:s.2.2.2.length<=1000
structure EN (w:WT) (s:SY) (t k o:Int):Prop where
 nm:NM w k o
 t0:0<=t
 t1:t<w.2.2.2.2.1.length
 cd:∀c∈w.2.2.1,0<=c.2/\c.2<w.2.1.length
 e1:s.1.length=w.2.1.length
 e2:s.2.2.1.length=w.2.2.2.1.length
 e3:s.2.2.2.length=w.2.2.2.2.1.length
structure WS (w:WT) (s:SY) (t k o:Int):Prop where
 b:k=1->(aJ (T:=jG) s.2.2.2 t).1=1
 wk:k=17->(aJ (T:=jG) s.2.2.2 t).1=4/\(aJ (T:=jG) s.2.2.2 t).2.1=o/\(aJ (T:=AK) s.1 (aJ (T:=Uu) w.2.2.1 o).2).1= -1
 r:k≠1->k≠17->(aJ (T:=jG) s.2.2.2 t).1=2
 aq:k=6\/k=8\/k=10->(aJ (T:=AK) s.1 o).1= -1
 wr:k=10->(aJ (T:=AK) s.1 o).2.length=0
 ra:k=8->(aJ (T:=AK) s.1 o).2.contains t=aj
 rl:k=7\/k=11->(aJ (T:=AK) s.1 o).1=t
 rr:k=9->(aJ (T:=AK) s.1 o).2.contains t=ai
 xb:k=12->s.2.1= -1
 xe:k=13->s.2.1=t
 ab:k=14->(aJ (T:=jG) s.2.2.2 t).2.2=aj
 ae:k=15->(aJ (T:=jG) s.2.2.2 t).2.2=ai
 nt:k=16\/k=18\/k=19->(aJ (T:=AK) s.1 (aJ (T:=Uu) w.2.2.1 o).2).1=t
 sp:k=20->¬o=t/\(aJ (T:=jG) s.2.2.2 o).1=0
 jo:k=21->¬o=t/\(aJ (T:=jG) s.2.2.2 o).1=5
 se:k=22->aJ (T:=.bool) s.2.2.1 o=aj
 ge:k=23->aJ (T:=.bool) s.2.2.1 o=ai
theorem LB {n:Nat} (w:WT) (s:SY) (hs:SB n s) (hw:w.2.2.1.length<=1000) (t k o:Int):Ok (kn (w,s,t,k,o)) λb=>b=ai->EN w s t k o/\WS w s t k o:=by
 unfold kn aX bf bp bL dw cR bd iR bF aY aF;refine aZ (λx=>x.2=(w,s)/\(x.1=aj->EN w s t k o)) ?_ ?_
 .refine ax (Qz w s (by omega)) λb hb=>?_
  with_reducible repeat' first|(refine OS.ok ?_;constructor)|refine IM.mk λ_=>?_
  .exact⟨rfl,λh=>by cases h⟩
  .simp only[ac9,XC];with_reducible repeat' first|(refine OS.ok ?_;constructor)|refine IM.mk λ_=>?_
   .exact⟨rfl,λh=>by cases h⟩
   .refine ax (abt w k o) λc hc=>?_
    with_reducible repeat' first|(refine OS.ok ?_;constructor)|refine IM.mk λ_=>?_
    all_goals try simp only[au,rj] at*
    rename_i h1 h2;obtain⟨f1,Z,f3,Y⟩:=hb h1;exact λh=>⟨hc (by simpa using h),by omega,by omega,f1,Z,f3,Y⟩
 .rintro⟨x1,x2⟩ ⟨I,J⟩;dsimp only at I J;subst I;refine aP (λh=>ar λh=>by cases h) (λh=>?_);have he:=J h;obtain⟨nm,t0,t1,cd,e1,e2,e3⟩:=id he;obtain⟨_,_,ce,lk,cn,th,fu⟩:=nm;have hm:16<=k/\k<=19->0<=(aJ (T:=Uu) w.2.2.1 o).2/\(aJ (T:=Uu) w.2.2.1 o).2<w.2.1.length:=λh=>cd _ (bJ (cn h).1 (cn h).2)
  have U:6<=k/\k<=11->qE ((aJ (T:=AK) s.1 o).2,t)=af ((aJ (T:=AK) s.1 o).2.contains t):=λh=>W1 _ _ (by
   have:=hs.rd _ (bJ (T:=AK) (lk h).1 (by have:=(lk h).2;omega));have:=hs.n1;omega)
  rcases @Jm k with rfl|rfl|rfl|rfl|rfl|rfl|rfl|rfl|rfl|rfl|rfl|rfl|rfl|rfl|rfl|rfl|rfl|rfl|rfl|rfl|rfl|rfl|rfl|⟨hk,M⟩
  case inr.inr.inr.inr.inr.inr.inr.inr.inr.inr.inr.inr.inr.inr.inr.inr.inr.inr.inr.inr.inr.inr.inr=>omega
  all_goals simp only[aV,bn,tC]
  all_goals with_reducible repeat' first|(refine OS.ok ?_;constructor)|refine IM.mk λ_=>?_
  all_goals try simp only[U (by omega),XC]
  all_goals with_reducible repeat' first|(refine OS.ok ?_;constructor)|refine IM.mk λ_=>?_
  all_goals try simp only[au,rj] at*
  all_goals first|omega|(intro h;cases h;done)|exact (hm ⟨by decide,by decide⟩).1|(rw [e1];exact (hm ⟨by decide,by decide⟩).2)|(intro h;refine ⟨he,?_⟩;constructor<;>first|omega|(intros;first|omega|assumption|(simpa using h)|exact⟨by assumption,by first|assumption|exact⟨by assumption,by assumption⟩⟩))|(refine ⟨he,?_⟩;constructor<;>first|omega|(intros;first|omega|assumption))
def ma:η->Int->η
 |[],n=>[n]
 |x::r,n=>if x<n then x::ma r n else if x=n then x::r else n::x::r
theorem EK (n:Int):∀(i:Nat) (l:η),i<=l.length->(∀k,k<i->l.getD k 0<n)->ma l n=l.take i++ma (l.drop i) n
 |0,l,_,_=>by simp
 |i+1,[],h,_=>by simp at h
 |i+1,x::r,h,hk=>by
  have h0:=hk 0 (by omega);simp at h0;have:=EK n i r (by simpa using h) (λk I=>by have:=hk (k+1) (by omega);simpa using this);rw[ma,aD h0,this,wy,wz,gr]
theorem F8 (n:Int):∀l:η,(ma l n).length<=l.length+1
 |[]=>by simp[ma]
 |x::r=>by
  have:=F8 n r;rw[ma];split
  .simp;omega
  .split<;>simp
theorem IY {n y:Int}:∀{l:η},y∈ma l n↔y=n\/y∈l
 |[]=>by simp[ma]
 |x::r=>by
  have:=IY (n:=n) (y:=y) (l:=r);rw[ma];split
  .simp[this];constructor
   .rintro (h|h|h)<;>simp[h]
   .rintro (h|h|h)<;>simp[h]
  .split
   .rename_i h;subst h;simp
   .simp
def H4:η->Prop
 |[]=>True
 |x::r=>(∀y∈r,x<y)/\H4 r
theorem Rh {n:Int}:∀{l:η},H4 l->H4 (ma l n)
 |[],_=>by simp[ma,H4]
 |x::r,h=>by
  rw[ma];split
  .rename_i J;refine ⟨λy I=>?_,Rh h.2⟩;rcases IY.1 I with rfl|I
   .exact J
   .exact h.1 y I
  .split
   .exact h
   .rename_i h1 h2;refine ⟨λy I=>?_,h⟩;rcases bm.1 I with rfl|I
    .omega
    .have:=h.1 y I;omega
theorem ae6 (l:η) (n:Int) (hl:l.length<=1000000):wN (l,n)=af (ma l n):=by
 refine cI ?_;unfold wN bz bB bF aY cK aF cF;have fin:∀i:Nat,i<=l.length->(∀k,k<i->l.getD k 0<n)->(i<l.length->¬l.getD i 0<n/\l.getD i 0≠n)->l.take i++[n]++l.drop i=ma l n:=λi hi hk hn=>by
  rw[EK n i l hi hk];cases hd:l.drop i with
  |nil=>simp[ma]
  |cons y r=>
   have hlt:i<l.length:=by
    rcases cf i l.length with h|h
    .exact h
    .rw[List.drop_eq_nil_of_le h]at hd;cases hd
   have J:l.getD i 0=y:=by
    rw[aA,<-List.head?_drop,hd];rfl
   obtain⟨h1,h2⟩:=hn hlt;rw[J]at h1 h2;rw[ma,ay h1,ay h2];simp
 refine ca l.length (λi x=>x=(i:Int)/\∀k,k<i->l.getD k 0<n) ?_ ?_ ⟨rfl,λk hk=>by omega⟩
 .rintro i x hi ⟨rfl,I⟩;by_cases hlt:l.getD i 0<n
  .with_reducible repeat' first|(refine OS.ok ?_;constructor)|refine IM.mk λ_=>?_
   all_goals try simp only[au,rj] at*
   all_goals first|omega|skip
   .refine ⟨gO (by omega),λk hk=>?_⟩;rcases cf k i with h1|h1
    .exact I k h1
    .rw[show k=i by omega];exact hlt
   .rename_i h;exact cY hlt (CF.2 h)
  .have key:l.getD i 0=n->ma l n=l:=λhe=>by
    rw[EK n i l (by omega) I];cases hd:l.drop i with
    |nil=>have:=gM al hd;simp at this;omega
    |cons y r=>
     have J:l.getD i 0=y:=by rw[aA,<-List.head?_drop,hd];rfl
     rw[J]at he;rw[ma,ay (by omega),aD he,<-hd,BP]
   with_reducible repeat' first|(refine OS.ok ?_;constructor)|refine IM.mk λ_=>?_
   all_goals try simp only[au,rj] at*
   all_goals first|omega|skip
   .rename_i h;exact cY h hlt
   .refine ax (P:=λr=>r=ma l n) ?_ λr hr=>ar hr
    with_reducible repeat' first|(refine OS.ok ?_;constructor)|refine IM.mk λ_=>?_
    all_goals try simp only[au,rj] at*
    all_goals first|omega|skip
    .rename_i h;exact (key h).symm
    .simp;omega
    .simp;omega
    .simp;omega
    .rename_i h;simpa using fin i (by omega) I (λ_=>⟨hlt,h⟩)
 .rintro x ⟨rfl,I⟩;with_reducible repeat' first|(refine OS.ok ?_;constructor)|refine IM.mk λ_=>?_
  all_goals try simp only[au,rj] at*
  all_goals first|omega|skip
  refine ax (P:=λr=>r=ma l n) ?_ λr hr=>ar hr
  with_reducible repeat' first|(refine OS.ok ?_;constructor)|refine IM.mk λ_=>?_
  all_goals try simp only[au,rj] at*
  all_goals first|omega|skip
  .simp;omega
  .simp;omega
  .simp;omega
  .simpa using fin l.length (by omega) I (λh=>by omega)
def xF (a b:η):η:=b.foldl ma (a.foldl ma [])
theorem wV:∀(b acc:η),(b.foldl ma acc).length<=acc.length+b.length
 |[],acc=>by simp
 |x::r,acc=>by
  have:=wV r (ma acc x);have:=F8 x acc;rw[xD,b_];omega
theorem JY:∀{b acc:η},H4 acc->H4 (b.foldl ma acc)
 |[],_,h=>h
 |x::r,acc,h=>by rw[xD];exact JY (Rh h)
theorem JX {y:Int}:∀{b acc:η},y∈b.foldl ma acc↔y∈acc\/y∈b
 |[],acc=>by simp
 |x::r,acc=>by
  rw[xD,JX,IY];simp;constructor
  .rintro ((h|h)|h)<;>simp[h]
  .rintro (h|h|h)<;>simp[h]
theorem QR (a b:η):H4 (xF a b):=JY (JY trivial)
theorem IH {a b:η} {y:Int}:y∈xF a b↔y∈a\/y∈b:=by unfold xF;rw[JX,JX];simp
theorem aav (a b:η):(xF a b).length<=a.length+b.length:=by
 have:=wV b (a.foldl ma []);have:=wV a [];unfold xF;simp at *;omega
theorem Nr {b acc:η} {i:Nat} (hi:i<b.length):(b.take (i+1)).foldl ma acc=ma ((b.take i).foldl ma acc) (b.getD i 0):=by
 rw[o9 hi,dR,aA,aB hi];rfl
theorem T4 (a b:η) (M:a.length<=400000) (hb:b.length<=400000):rF (a,b)=af (xF a b):=by
 refine cI ?_;unfold rF bz bF aY cK aF cF;refine ca a.length (λi x=>x.2=(i:Int)/\x.1=(a.take i).foldl ma []) ?_ ?_ ⟨rfl,rfl⟩
 .rintro i ⟨J,I⟩ hi ⟨h1,h2⟩;dsimp only at h1 h2;subst h1;subst h2;have hl:((a.take i).foldl ma []).length<=1000000:=by have:=wV (a.take i) [];have:=qn i a;simp at *;omega
  with_reducible repeat' first|(refine OS.ok ?_;constructor)|refine IM.mk λ_=>?_
  all_goals try simp only[au,rj] at*
  all_goals first|omega|skip
  refine aU (ae6 _ _ hl) (ar ?_);dsimp only;refine ⟨gO (by omega),?_⟩;rw[Pq,Nr hi]
 .rintro⟨J,I⟩ ⟨h1,h2⟩;dsimp only at h1 h2;subst h1;subst h2;rw[cX];have hla:=wV a [];with_reducible repeat' first|(refine OS.ok ?_;constructor)|refine IM.mk λ_=>?_
  all_goals try simp only[au,rj] at*
  all_goals first|omega|skip
  refine ax (P:=λr=>r=xF a b) ?_ λr hr=>ar hr
  refine ca b.length (λi x=>x.2=(i:Int)/\x.1=(b.take i).foldl ma (a.foldl ma [])) ?_ ?_ ⟨rfl,rfl⟩
  .rintro i ⟨J,I⟩ hi ⟨h1,h2⟩;dsimp only at h1 h2;subst h1;subst h2;have hl:((b.take i).foldl ma (a.foldl ma [])).length<=1000000:=by have:=wV (b.take i) (a.foldl ma []);have:=qn i b;simp at *;omega
   with_reducible repeat' first|(refine OS.ok ?_;constructor)|refine IM.mk λ_=>?_
   all_goals try simp only[au,rj] at*
   all_goals first|omega|skip
   refine aU (ae6 _ _ hl) (ar ?_);dsimp only;refine ⟨gO (by omega),?_⟩;rw[Pq,Nr hi]
  .rintro⟨J,I⟩ ⟨h1,h2⟩;dsimp only at h1 h2;subst h1;subst h2;rw[cX];with_reducible repeat' first|(refine OS.ok ?_;constructor)|refine IM.mk λ_=>?_
   all_goals try simp only[au,rj] at*
   all_goals first|omega|rfl
def IB (c:Int) (x:Int×Int×Bool):Bool:=decide (x.1=3)&&decide (x.2.1=c)
def wl (th:List (Int×Int×Bool)) (c:Int):Nat->η
 |0=>[]
 |i+1=>if IB c (aJ (T:=jG) th (i:Int)) then wl th c i++[(i:Int)] else wl th c i
theorem vX (th:List (Int×Int×Bool)) (c:Int):∀i,(wl th c i).length<=i
 |0=>bX _
 |i+1=>by have:=vX th c i;rw[wl];split<;>simp<;>omega
theorem rx {th:List (Int×Int×Bool)} {c u:Int}:∀{i:Nat},u∈wl th c i↔0<=u/\u<i/\IB c (aJ (T:=jG) th u)=ai
 |0=>by simp[wl];omega
 |i+1=>by
  have I:= @rx th c u i;rw[wl];by_cases hu:u=(i:Int)
  .subst hu;split
   .rename_i h;simp[h];omega
   .rename_i h;rw[I];simp[h]
  .split
   .rw[bV,I,aL];constructor
    .rintro (h|h)
     .exact⟨h.1,by omega,h.2.2⟩
     .exact cY h hu
    .intro h;exact .inl ⟨h.1,by omega,h.2.2⟩
   .rw[I];constructor
    .intro h;exact⟨h.1,by omega,h.2.2⟩
    .intro h;exact⟨h.1,by omega,h.2.2⟩
theorem amz {th:List (Int×Int×Bool)} {c:Int} {i:Nat} (h1:(aJ (T:=jG) th (i:Int)).1=3) (h2:(aJ (T:=jG) th (i:Int)).2.1=c):wl th c (i+1)=wl th c i++[(i:Int)]:=by
 rw[wl,aD];unfold IB;rw[h1,h2];simp
theorem ai6 {th:List (Int×Int×Bool)} {c:Int} {i:Nat} (h1:¬(aJ (T:=jG) th (i:Int)).1=3):wl th c (i+1)=wl th c i:=by
 rw[wl,ay];unfold IB;rw[bN h1];simp
theorem ai5 {th:List (Int×Int×Bool)} {c:Int} {i:Nat} (h1:¬(aJ (T:=jG) th (i:Int)).2.1=c):wl th c (i+1)=wl th c i:=by
 rw[wl,ay];unfold IB;rw[bN h1];simp
theorem WL (s:SY) (c:Int) (hs:s.2.2.2.length<=1000):nU (s,c)=af (wl s.2.2.2 c s.2.2.2.length):=by
 refine cI ?_;unfold nU bL bd bz bB bF aY cK aF cF;refine ca s.2.2.2.length (λi x=>x=((i:Int),s,wl s.2.2.2 c i)) ?_ ?_ rfl
 .rintro i x hi rfl;have hl:=vX s.2.2.2 c i;with_reducible repeat' first|(refine OS.ok ?_;constructor)|refine IM.mk λ_=>?_
  all_goals try simp only[au,rj] at*
  all_goals first|omega|skip
  all_goals first|(simp;omega)|skip
  .rename_i h1 h2;rw[amz h1 h2,gO (by omega)]
  .rename_i h1 h2;rw[ai5 h2,gO (by omega)]
  .rename_i h1;rw[ai6 h1,gO (by omega)]
 .rintro x rfl;with_reducible repeat' first|(refine OS.ok ?_;constructor)|refine IM.mk λ_=>?_
  all_goals try simp only[au,rj] at*
  all_goals first|omega|rfl
def wo (l:η) (n:Int):η:=l.filter λx=> !decide (x=n)
theorem Uy (l:η) (n:Int) (hl:l.length<=1000000):qC (l,n)=af (wo l n):=by
 refine cI ?_;unfold qC bz iR bB bF aY cK aF cF;refine ca l.length (λi x=>x=((i:Int),wo (l.take i) n)) ?_ ?_ rfl
 .rintro i x hi rfl;have hq:(wo (l.take i) n).length<=i:=dg (BQ ..) (qn ..);have ht:wo (l.take (i+1)) n=if aJ (T:=.int .i64) l (i:Int)=n then wo (l.take i) n else wo (l.take i) n++[aJ (T:=.int .i64) l (i:Int)]:=by
   unfold wo;rw[o9 hi,yw,Pq,aA,aB hi];by_cases h:l[i]=n<;>simp[h]
  with_reducible repeat' first|(refine OS.ok ?_;constructor)|refine IM.mk λ_=>?_
  all_goals try simp only[au,rj] at*
  all_goals first|omega|skip
  .simp;omega
  .rename_i h;rw[ht,ay h,gO (by omega)]
  .rename_i h;rw[ht,aD h,gO (by omega)]
 .rintro x rfl;with_reducible repeat' first|(refine OS.ok ?_;constructor)|refine IM.mk λ_=>?_
  all_goals try simp only[au,rj] at*
  all_goals first|omega|(rw [cX])
theorem mP {T:Ty} {xs:List T.den} {i:Nat} (hi:i<al xs):dF (i+1) xs=dF i xs++[aJ xs (i:Int)]:=by
 rw[o9 hi,zK,aA,aB hi];rfl
theorem qY {n:Nat} (s:SY) (hs:SB n s):im s=af (s.2.1,s.1,s.2.2.1,s.2.2.2):=by
 refine cI ?_;obtain⟨s1,s2,J,I⟩:=s;have hn:=hs.n1;have Y:=hs.lk;have U:=hs.dn;have M:=hs.th;dsimp only at Y U M;unfold im aX bf bp bL cR bz bB bF aY cK aF cF;with_reducible repeat' first|(refine OS.ok ?_;constructor)|refine IM.mk λ_=>?_
 all_goals try simp only[au,rj] at*
 .simp;omega
 .omega
 .simp;omega
 .omega
 refine ca s1.length (λi x=>x=((i:Int),(s1,s2,J,I),0,s2,s1.take i,J,I)) ?_ ?_ ?_
 .rintro i x hi rfl;have hg:=hs.rd _ (bJ (T:=AK) (xs:=s1) (j:=(i:Int)) (by omega) (by omega));with_reducible repeat' first|(refine OS.ok ?_;constructor)|refine IM.mk λ_=>?_
  all_goals try simp only[au,rj] at*
  all_goals first|omega|skip
  .simp;omega
  .simp;omega
  .rw[gO (by omega),mP (T:=AK) hi];rfl
 .rintro x rfl;with_reducible repeat' first|(refine OS.ok ?_;constructor)|refine IM.mk λ_=>?_
  all_goals try simp only[au,rj] at*
  all_goals first|omega|skip
  simp
 .simp
theorem Hj (s:SY) (c:Int) (hs:s.2.2.2.length<=1000):jI ((s.2.1,c),s.1,s.2.2.1,s.2.2.2)=af (wl s.2.2.2 c s.2.2.2.length):=by
 refine cI ?_;unfold jI;refine ax (P:=λy=>y=(wl s.2.2.2 c s.2.2.2.length,s.1,s.2.2.1,s.2.2.2)) ?_ λy I=>by subst I;exact afk rfl (ar rfl)
 unfold mq aX bf bp bL cR bd bz bB kl aY cK aF cF;refine ca s.2.2.2.length (λi x=>x=((i:Int),s.1,s.2.2.1,s.2.2.2,s.2.1,wl s.2.2.2 c i)) ?_ ?_ rfl
 .rintro i x hi rfl;have hl:=vX s.2.2.2 c i;with_reducible repeat' first|(refine OS.ok ?_;constructor)|refine IM.mk λ_=>?_
  all_goals try simp only[au,rj] at*
  all_goals first|omega|skip
  all_goals first|(simp;omega)|skip
  .rename_i h1 h2;rw[amz h1 h2,gO (by omega)]
  .rename_i h1 h2;rw[ai5 h2,gO (by omega)]
  .rename_i h1;rw[ai6 h1,gO (by omega)]
 .rintro x rfl;with_reducible repeat' first|(refine OS.ok ?_;constructor)|refine IM.mk λ_=>?_
  all_goals try simp only[au,rj] at*
  all_goals first|omega|rfl
structure AP (n:Nat) (s y:SY):Prop where
 a1:y.1.length=s.1.length
 a2:y.2.2.1.length=s.2.2.1.length
 a3:y.2.2.2.length=s.2.2.2.length
 rd:∀l∈y.1,l.2.length<=n+1
theorem AP.toSB {n:Nat} {s y:SY} (h:AP n s y) (hs:SB n s) (hn:n+1<=100000):SB (n+1) y:=
 ⟨hn,by rw[h.a1];exact hs.lk,h.rd,by rw[h.a2];exact hs.dn,by rw[h.a3];exact hs.th⟩
theorem AP.same {n:Nat} {s:SY} (hs:SB n s) (x:Int) (d:θ) (t:List (Int×Int×Bool)) (hd:d.length=s.2.2.1.length) (ht:t.length=s.2.2.2.length):AP n s (s.1,x,d,t):=
 ⟨rfl,hd,ht,λl hl=>iB (hs.rd l hl)⟩
theorem AP.set {n:Nat} {s:SY} (hs:SB n s) (j a:Int) (r:η) (hr:r.length<=n+1) (x:Int) (d:θ) (t:List (Int×Int×Bool)) (hd:d.length=s.2.2.1.length) (ht:t.length=s.2.2.2.length):AP n s (cw s.1 j (a,r),x,d,t):=
 ⟨bT _ _ _,hd,ht,λl hl=>by
   rcases CV hl with h|rfl
   .exact iB (hs.rd l h)
   .exact hr⟩
def yA (th:List (Int×Int×Bool)) (t st:Int):List (Int×Int×Bool):=cw th t (st,(aJ (T:=jG) th t).2)
def owP (lk:List (Int×η)) (o t:Int):List (Int×η):=cw lk o (t,(aJ (T:=AK) lk o).2)
def rdP (lk:List (Int×η)) (o:Int) (l:η):List (Int×η):=cw lk o ((aJ (T:=AK) lk o).1,l)
def cdP (th:List (Int×Int×Bool)) (t c:Int):List (Int×Int×Bool):=cw th t ((aJ (T:=jG) th t).1,c,(aJ (T:=jG) th t).2.2)
def atP (th:List (Int×Int×Bool)) (t:Int) (b:Bool):List (Int×Int×Bool):=cw th t ((aJ (T:=jG) th t).1,(aJ (T:=jG) th t).2.1,b)
def C_ (th:List (Int×Int×Bool)) (l:η):List (Int×Int×Bool):=l.foldl (λx u=>yA x u 4) th
def BI (l:η) (u:Int):Int:=if l.length=0 then -1 else if l.contains u then u else aJ (T:=.int .i64) l 0
def muP (w:WT) (o:Int):Int:=(aJ (T:=Uu) w.2.2.1 o).2
def rn (w:WT) (s:SY) (t k o u:Int):SY×Int:=
 if k=1 then ((s.1,s.2.1,s.2.2.1,yA s.2.2.2 t 2),0)
 else if k=2 then ((s.1,s.2.1,s.2.2.1,yA s.2.2.2 t 5),0)
 else if k=6\/k=10 then ((owP s.1 o t,s.2),0)
 else if k=7\/k=11 then ((owP s.1 o (-1),s.2),0)
 else if k=8 then ((rdP s.1 o (xF (aJ (T:=AK) s.1 o).2 [t]),s.2),0)
 else if k=9 then ((rdP s.1 o (wo (aJ (T:=AK) s.1 o).2 t),s.2),0)
 else if k=12 then ((s.1,t,s.2.2),0)
 else if k=13 then ((s.1,-1,s.2.2),0)
 else if k=14 then ((s.1,s.2.1,s.2.2.1,atP s.2.2.2 t ai),0)
 else if k=15 then ((s.1,s.2.1,s.2.2.1,atP s.2.2.2 t aj),0)
 else if k=16 then ((owP s.1 (muP w o) (-1),s.2.1,s.2.2.1,cdP (yA s.2.2.2 t 3) t o),0)
 else if k=17 then ((owP s.1 (muP w o) t,s.2.1,s.2.2.1,cdP (yA s.2.2.2 t 2) t 0),0)
 else if k=18 then (if (wl s.2.2.2 o s.2.2.2.length).length=0 then (s,-1) else ((s.1,s.2.1,s.2.2.1,yA s.2.2.2 (BI (wl s.2.2.2 o s.2.2.2.length) u) 4),BI (wl s.2.2.2 o s.2.2.2.length) u))
 else if k=19 then ((s.1,s.2.1,s.2.2.1,C_ s.2.2.2 (wl s.2.2.2 o s.2.2.2.length)),((wl s.2.2.2 o s.2.2.2.length).length:Int))
 else if k=20 then ((s.1,s.2.1,s.2.2.1,yA s.2.2.2 o 1),0)
 else if k=22 then ((s.1,s.2.1,cw s.2.2.1 o ai,s.2.2.2),0)
 else (s,0)
theorem Ih (l:η):∀th,(C_ th l).length=th.length:=by
 induction l with
 |nil=>intro th;rfl
 |cons x r I=>intro th;unfold C_;rw[xD];exact (I _).trans (bT ..)
theorem abu {th:List (Int×Int×Bool)} {l:η} {i:Nat} (hi:i<l.length):C_ th (l.take (i+1))=yA (C_ th (l.take i)) (aJ (T:=.int .i64) l (i:Int)) 4:=by
 unfold C_;rw[o9 hi,dR,Pq,aA,aB hi];rfl
theorem Us {n:Nat} (w:WT) (s:SY) (hs:SB n s) (U:w.2.2.1.length<=1000) (t k o u:Int):Ok (py (w,s,t,k,o,u)) λy=>(y.2.2=ai->EN w s t k o/\WS w s t k o/\AP n s y.1/\(y.1,y.2.1)=rn w s t k o u)/\(y.2.2=aj->y.1=([],0,[],[]))/\(kn (w,s,t,k,o)=af ai->y.2.2=ai):=by
 unfold py aX bf bp ch bL dw cR fc ck bd bz bF kl aY cK aF cF;obtain⟨b,J,hb⟩:=LB w s hs U t k o;refine aU J ?_;refine em (λh=>ar ⟨λh=>(by cases h),λ_=>rfl,λh2=>(by rw[J,h]at h2;cases h2)⟩) (λh=>?_);obtain⟨he,hry⟩:=hb h;refine aU (qY s hs) ?_;suffices hmain:Ok _ _ from aZ (λx=>AP n s (x.2.2.2.1,x.2.1,x.2.2.2.2)/\((x.2.2.2.1,x.2.1,x.2.2.2.2),x.1)=rn w s t k o u) hmain λx M=>ar ⟨λ_=>⟨he,hry,M⟩,λh=>(by cases h),λ_=>rfl⟩
 obtain⟨nm,t0,t1,cd,e1,e2,e3⟩:=id he;obtain⟨_,_,ce,lk,cn,th,fu⟩:=nm;have hn:=hs.n1;have hlk:=hs.lk;have hm:16<=k/\k<=19->0<=(aJ (T:=Uu) w.2.2.1 o).2/\(aJ (T:=Uu) w.2.2.1 o).2<w.2.1.length:=λh=>cd _ (bJ (cn h).1 (cn h).2)
 have hr:∀j:Int,0<=j->j<s.1.length->(aJ (T:=AK) s.1 j).2.length<=n:=λj h0 h1=>hs.rd _ (bJ (T:=AK) h0 h1)
 rcases @Jm k with rfl|rfl|rfl|rfl|rfl|rfl|rfl|rfl|rfl|rfl|rfl|rfl|rfl|rfl|rfl|rfl|rfl|rfl|rfl|rfl|rfl|rfl|rfl|⟨hk,Y⟩
 case inr.inr.inr.inr.inr.inr.inr.inr.inr.inr.inr.inr.inr.inr.inr.inr.inr.inr.inr.inr.inr.inr.inr=>omega
 all_goals simp only[aV,bn,tC]
 all_goals with_reducible repeat' first|(refine OS.ok ?_;constructor)|refine IM.mk λ_=>?_
 all_goals try simp only[au,rj] at*
 all_goals try rw[bT]
 all_goals first|omega|exact (hm ⟨by decide,by decide⟩).1|exact e1▸(hm ⟨by decide,by decide⟩).2|exact⟨AP.same hs _ _ _ rfl rfl,rfl⟩|exact⟨AP.same hs _ _ _ rfl (bT _ _ _),rfl⟩|exact⟨AP.same hs _ _ _ (bT _ _ _) rfl,rfl⟩|skip
 all_goals try exact⟨AP.set hs _ _ _ (iB (hr o (by omega) (by omega))) _ _ _ rfl rfl,rfl⟩
 .have:=hr o (by omega) (by omega);refine aU (T4 _ _ (dg this (by have:=hs.n1;omega)) (by simp)) ?_;with_reducible repeat' first|(refine OS.ok ?_;constructor)|refine IM.mk λ_=>?_
  all_goals try simp only[au,rj] at*
  all_goals first|omega|skip
  exact⟨AP.set hs _ _ _ (by have:=aav (aJ (T:=AK) s.1 o).2 [t];simp at this;omega) _ _ _ rfl rfl,rfl⟩
 .have:=hr o (by omega) (by omega);have hl:(wo (aJ (T:=AK) s.1 o).2 t).length<=(aJ (T:=AK) s.1 o).2.length:=BQ ..;refine aU (Uy _ _ (by omega)) ?_;with_reducible repeat' first|(refine OS.ok ?_;constructor)|refine IM.mk λ_=>?_
  all_goals try simp only[au,rj] at*
  all_goals first|omega|skip
  exact⟨AP.set hs _ _ _ (dg hl (by omega)) _ _ _ rfl rfl,rfl⟩
 .exact⟨AP.set hs _ _ _ (iB (hr _ (hm ⟨by decide,by decide⟩).1 (by rw[e1];exact (hm ⟨by decide,by decide⟩).2))) _ _ _ rfl (by rw[bT,bT]),rfl⟩
 .exact⟨AP.set hs _ _ _ (iB (hr _ (hm ⟨by decide,by decide⟩).1 (by rw[e1];exact (hm ⟨by decide,by decide⟩).2))) _ _ _ rfl (by rw[bT,bT]),rfl⟩
 .refine aU (Hj s o hs.th) ?_;have hth:=hs.th;have hll:=vX s.2.2.2 o s.2.2.2.length;have hml:∀u∈wl s.2.2.2 o s.2.2.2.length,0<=u/\u<s.2.2.2.length:=λu hu=>⟨(rx.1 hu).1,(rx.1 hu).2.1⟩
  have hap:rn w s t 18 o u=if (wl s.2.2.2 o s.2.2.2.length).length=0 then (s,-1) else ((s.1,s.2.1,s.2.2.1,yA s.2.2.2 (BI (wl s.2.2.2 o s.2.2.2.length) u) 4),BI (wl s.2.2.2 o s.2.2.2.length) u):=rfl
  unfold BI at hap;revert hll hml hap;generalize wl s.2.2.2 o s.2.2.2.length=l;intro hll hml hap;with_reducible repeat' first|(refine OS.ok ?_;constructor)|refine IM.mk λ_=>?_
  all_goals try simp only[au,rj] at*
  all_goals first|omega|skip
  .have I:=hml _ (bJ (T:=.int .i64) (xs:=l) (j:=0) (by omega) (by omega));rw[ay (by omega),ay (by omega)]at hap;simp only[W1 l u (by omega),XC];refine aP (λhc=>?_) λhc=>?_
   .have hu:=hml u (tu.1 hc);rw[hc,aD rfl]at hap;refine ar (aR hu.1 hu.2 (aR hu.1 hu.2 (ar ⟨AP.same hs _ _ _ rfl (bT ..),?_⟩)));rw[hap];rfl
   .rw[hc,ay (by decide)]at hap;refine ar (aR I.1 I.2 (aR I.1 I.2 (ar ⟨AP.same hs _ _ _ rfl (bT ..),?_⟩)));rw[hap];rfl
  .rw[aD (by omega)]at hap;exact⟨AP.same hs _ _ _ rfl rfl,hap.symm⟩
 .refine aU (Hj s o hs.th) ?_;have hth:=hs.th;have hll:=vX s.2.2.2 o s.2.2.2.length;have hml:∀u∈wl s.2.2.2 o s.2.2.2.length,0<=u/\u<s.2.2.2.length:=λu hu=>⟨(rx.1 hu).1,(rx.1 hu).2.1⟩
  have hap:rn w s t 19 o u=((s.1,s.2.1,s.2.2.1,C_ s.2.2.2 (wl s.2.2.2 o s.2.2.2.length)),((wl s.2.2.2 o s.2.2.2.length).length:Int)):=rfl;rw[hap];clear hap;generalize wl s.2.2.2 o s.2.2.2.length=l at hll hml ⊢;refine ca l.length (λi x=>x=((i:Int),s.2.1,0,s.1,s.2.2.1,C_ s.2.2.2 (l.take i))) ?_ ?_ rfl
  .rintro i x hi rfl;have I:=hml _ (bJ (T:=.int .i64) (xs:=l) (j:=(i:Int)) (by omega) (by omega));have hq:=Ih (l.take i) s.2.2.2;with_reducible repeat' first|(refine OS.ok ?_;constructor)|refine IM.mk λ_=>?_
   all_goals try simp only[au,rj] at*
   all_goals first|omega|skip
   rw[gO (by omega),abu hi];rfl
  .rintro x rfl;rw[cX];with_reducible repeat' first|(refine OS.ok ?_;constructor)|refine IM.mk λ_=>?_
   all_goals try simp only[au,rj] at*
   all_goals first|omega|skip
   exact AP.same hs _ _ _ rfl (Ih ..)
abbrev SN:Type:=SY×η×η×η
abbrev ET:Type:=Int×Int×Int×Int×Int×η×η
theorem anf (a b:Int):C' (a,b)=af (decide (0<=a/\a<b)):=ac9 a b
structure NB (n:Nat) (s:SN):Prop where
 sb:SB n s.1
 c:s.2.1.length<=1000
 f:s.2.2.1.length<=1000
 k:s.2.2.2.length<=1000
structure SP (n:Nat) (s y:SN):Prop where
 ap:AP n s.1 y.1
 c:y.2.1.length=s.2.1.length
 f:y.2.2.1.length=s.2.2.1.length
 k:y.2.2.2.length=s.2.2.2.length
theorem SP.NB {n:Nat} {s y:SN} (h:SP n s y) (hs:NB n s) (hn:n+1<=100000):NB (n+1) y:=
 ⟨h.ap.toSB hs.sb hn,by rw[h.c];exact hs.c,by rw[h.f];exact hs.f,by rw[h.k];exact hs.k⟩
def sn0:SN:=(([],0,[],[]),[],[],[])
structure F16 (w:WT) (s:SN):Prop where
 c:s.2.1.length=w.1.length
 f:s.2.2.1.length=w.2.2.2.1.length
 k:s.2.2.2.length=w.2.2.2.2.1.length
theorem aa4 (w:WT) (s:SN) (I:w.2.2.1.length<=1000):Ok (wI (w,s)) λb=>b=ai->F16 w s:=by
 unfold wI aX bf bp dw bd aY aF;refine gC (ax (Qz w s.1 (by omega)) λb hb=>?_);with_reducible repeat' first|(refine OS.ok ?_;constructor)|refine IM.mk λ_=>?_
 all_goals try simp only[au,rj] at*
 all_goals first|(intro h;constructor<;>omega)|(intro h;cases h;done)
theorem Yg:∀(l:η),(∀k:Nat,k+1<l.length->l.getD k 0<l.getD (k+1) 0)->H4 l
 |[],_=>trivial
 |[x],_=>⟨λy M=>(by cases M),trivial⟩
 |x::y::r,h=>by
  have J:=Yg (y::r) λk hk=>by have:=h (k+1) (by simpa using hk);simpa using this
  have h0:=h 0 (by simp);simp at h0;refine ⟨λz I=>?_,J⟩;rcases bm.1 I with rfl|I
  .exact h0
  .have:=J.1 z I;omega
structure AN (c:Int) (l:η):Prop where
 a:H4 l
 m:∀x:Int,x∈l->1<=x/\x<c
theorem I8 (l:η) (c:Int) (hl:l.length<=1000000000):Ok (nR (l,c)) λb=>b=ai->AN c l:=by
 unfold nR bz iT bF aY cK aF cF;refine ca l.length (λi x=>x=(i:Int)/\(∀k:Nat,k<i->1<=aJ (T:=.int .i64) l (k:Int)/\aJ (T:=.int .i64) l (k:Int)<c)/\∀k:Nat,k+1<i->l.getD k 0<l.getD (k+1) 0) ?_ ?_ ⟨rfl,λk hk=>by omega,λk hk=>by omega⟩
 .rintro i x hi ⟨rfl,I,J⟩;have M:0<(i:Int)->bk .i64 ((i:Int)-1)=((i-1:Nat):Int):=λh=>by rw[ic (by omega) (by omega)];omega
  have hq:(0<i->l.getD (i-1) 0<l.getD i 0)->1<=aJ (T:=.int .i64) l (i:Int)/\aJ (T:=.int .i64) l (i:Int)<c->bk .i64 ((i:Int)+1)=((i+1:Nat):Int)/\(∀k:Nat,k<i+1->1<=aJ (T:=.int .i64) l (k:Int)/\aJ (T:=.int .i64) l (k:Int)<c)/\∀k:Nat,k+1<i+1->l.getD k 0<l.getD (k+1) 0:=λg1 Z=>by
   refine ⟨gO (by omega),λk hk=>?_,λk hk=>?_⟩
   .rcases cf k i with h1|h1
    .exact I k h1
    .rw[show k=i by omega];exact Z
   .rcases cf (k+1) i with h1|h1
    .exact J k h1
    .have:=g1 (by omega);rw[show k=i-1 by omega,show i-1+1=i by omega];exact this
  with_reducible repeat' first|(refine OS.ok ?_;constructor)|refine IM.mk λ_=>?_
  all_goals try simp only[au,rj] at*
  all_goals first|omega|(intro h;cases h;done)|(rw [M (by omega)];omega)|skip
  .rename_i h1 h2 Y U;rw[M Y,Pq,Pq]at U;exact hq (λ_=>U) ⟨by omega,by omega⟩
  .exact hq (λh=>by omega) ⟨by omega,by omega⟩
 .rintro x ⟨rfl,I,J⟩;with_reducible repeat' first|(refine OS.ok ?_;constructor)|refine IM.mk λ_=>?_
  all_goals try simp only[au,rj] at*
  all_goals first|omega|skip
  exact⟨Yg l λk hk=>J k hk,iv (T:=.int .i64) I⟩
structure VA (w:WT) (sy:SY) (ce fu:η) (t k o v:Int):Prop where
 ld:k=3->v=aJ (T:=.int .i64) ce o
 gt:k=23->v=aJ (T:=.int .i64) fu o
 br:k=5->v=0\/v=1
 el:¬k=3->¬k=23->¬k=5->¬k=4->¬k=22->v=(rn w sy t k o v).2
theorem ite2 {c:Prop} [Decidable c] {a b:SY×Int} (I:a.2=0) (hb:b.2=0):(if c then a else b).2=0:=by by_cases h:c<;>simp[h,I,hb]
theorem aiz (w:WT) (sy:SY) (t k o u:Int) (h1:¬k=18) (h2:¬k=19):(rn w sy t k o u).2=0:=by
 unfold rn;rw[ay h1,ay h2];repeat (first|exact rfl|refine ite2 rfl ?_)
theorem Yk (w:WT) (sy:SY) (t k o u I:Int) (h1:¬k=18):rn w sy t k o u=rn w sy t k o I:=by
 unfold rn;rw[ay h1,ay h1]
theorem FO (w:WT) (sy:SY) (t o u:Int):rn w sy t 18 o u=if (wl sy.2.2.2 o sy.2.2.2.length).length=0 then (sy,-1) else ((sy.1,sy.2.1,sy.2.2.1,yA sy.2.2.2 (BI (wl sy.2.2.2 o sy.2.2.2.length) u) 4),BI (wl sy.2.2.2 o sy.2.2.2.length) u):=rfl
theorem akk (w:WT) (sy:SY) (t o u:Int):(rn w sy t 19 o u).2=((wl sy.2.2.2 o sy.2.2.2.length).length:Int):=rfl
theorem aau {n:Nat} (w:WT) (s:SN) (hs:NB n s) (hf:F16 w s) (e:ET) (he:EN w s.1 e.1 e.2.1 e.2.2.1):Ok (uA (s,e)) λb=>b=ai->VA w s.1 s.2.1 s.2.2.1 e.1 e.2.1 e.2.2.1 e.2.2.2.1:=by
 obtain⟨t,k,o,v,si,de,fr⟩:=e;obtain⟨s1,s2,s3,s4⟩:=s;obtain⟨nm,t0,t1,cd,e1,e2,e3⟩:=he;obtain⟨_,_,ce,lk,cn,th,fu,_,_,_⟩:=nm;obtain⟨f1,f2,f3⟩:=hf;have hth:=hs.sb.th;dsimp only at*
 unfold uA aX bf bp ch bL bd bz iT bF aY aF;have hW:=WL s1 o hth;have hWl:=vX s1.2.2.2 o s1.2.2.2.length;refine aK (λh=>?_) λn3=>?_
 .have h:k=3:=h;obtain⟨Z,Y⟩:=ce (.inl h);exact aR Z (by rw[f1];exact Y) (aS (ar λh2=>⟨λ_=>bw h2,λI=>by omega,λI=>by omega,λI=>(I h).elim⟩))
 refine aK (λh=>?_) λJ=>?_
 .have h:k=23:=h;obtain⟨Z,Y⟩:=fu (.inr h);exact aR Z (by rw[f2];exact Y) (aS (ar λh2=>⟨λI=>by omega,λ_=>bw h2,λI=>by omega,λ_ I=>(I h).elim⟩))
 refine aK (λh=>?_) λn5=>?_
 .have h:k=5:=h;exact gC (aK (λh2=>ar (ar λ_=>⟨λI=>by omega,λI=>by omega,λ_=>.inl h2,λ_ _ I=>(I h).elim⟩)) λ_=>ar (ar λh2=>⟨λI=>by omega,λI=>by omega,λ_=>.inr (bw h2),λ_ _ I=>(I h).elim⟩))
 refine aZ (λx=>x.2=((s1,s2,s3,s4),t,k,o,v,si,de,fr)/\(x.1=ai->k=4\/k=22)) (aK (λh=>ar ⟨rfl,λ_=>.inl h⟩) λ_=>ar ⟨rfl,λh=>.inr (bw h)⟩) ?_;rintro⟨b,x⟩ ⟨e,hb⟩;dsimp only at e hb;subst e;refine aP (λh=>ar λ_=>⟨λI=>(n3 I).elim,λI=>(J I).elim,λI=>(n5 I).elim,λ_ _ _ h4 h5=>(hb h).elim (λh=>(h4 h).elim) λh=>(h5 h).elim⟩) λ_=>?_
 have fin:v=(rn w s1 t k o v).2->VA w s1 s2 s3 t k o v:=λh=>⟨λI=>(n3 I).elim,λI=>(J I).elim,λI=>(n5 I).elim,λ_ _ _ _ _=>h⟩
 refine aK (λh=>?_) λU=>?_
 .have h:k=18:=h;subst h;rw[FO]at fin;refine aU hW ?_;revert fin hWl;generalize wl s1.2.2.2 o s1.2.2.2.length=l;intro hWl fin;refine aK (λh=>ar λh2=>fin ?_) λh=>?_
  .dsimp only[au]at h;rw[aD (by omega)];exact bw h2
  .dsimp only[au]at h;have hne:¬l.length=0:=by omega
   refine gC (eV (λ_=>bI (λ_=>?_) λ_=>ar (ar λh=>(by cases h))) λ_=>ar (ar λh=>(by cases h)));refine aU (W1 _ _ (by omega)) (ar (ar λh2=>fin ?_));rw[ay hne];unfold BI;rw[ay hne,aD h2]
 refine aK (λh=>?_) λM=>?_
 .have h:k=19:=h;subst h;exact aU hW (ar λh2=>fin (bw h2))
 exact ar λh2=>fin (by rw[aiz _ _ _ _ _ _ U M];exact bw h2)
structure S16 (w:WT) (s:SN) (e:ET):Prop where
 rd:WS w s.1 e.1 e.2.1 e.2.2.1
 s1:e.2.1=1\/e.2.1=2->e.2.2.2.2.1= -1
 s2:¬(e.2.1=1\/e.2.1=2)->0<=e.2.2.2.2.1/\e.2.2.2.2.1<w.2.2.2.2.2.length/\(aJ (T:=yz) w.2.2.2.2.2 e.2.2.2.2.1).1=e.1
 de:0<e.2.2.2.2.2.1.length->e.2.1=5\/(e.2.1=3\/e.2.1=4)/\¬(aJ (T:=QU) w.1 e.2.2.1).2.2.1=0
 fr:0<e.2.2.2.2.2.2.length->e.2.1=4\/e.2.1=22
 nd:AN (aJ (T:=.int .i64) s.2.2.2 e.1) e.2.2.2.2.2.1
 nf:AN (aJ (T:=.int .i64) s.2.2.2 e.1) e.2.2.2.2.2.2
 va:VA w s.1 s.2.1 s.2.2.1 e.1 e.2.1 e.2.2.1 e.2.2.2.1
def ZJ (ce:η) (e:ET):η:=if e.2.1=4 then cw ce e.2.2.1 e.2.2.2.1 else ce
def fuP (fu:η) (e:ET):η:=if e.2.1=22 then cw fu e.2.2.1 e.2.2.2.1 else fu
def nxP (w:WT) (s:SN) (e:ET):SN:=((rn w s.1 e.1 e.2.1 e.2.2.1 e.2.2.2.1).1,ZJ s.2.1 e,fuP s.2.2.1 e,cw s.2.2.2 e.1 (bk .i64 (aJ (T:=.int .i64) s.2.2.2 e.1+1)))
theorem FU {n:Nat} (w:WT) (s:SN) (hs:NB n s) (hw:w.2.2.1.length<=1000) (e:ET) (hd:e.2.2.2.2.2.1.length<=1000000000) (hf:e.2.2.2.2.2.2.length<=1000000000):Ok (rC (w,s,e)) λy=>(y.2=ai->EN w s.1 e.1 e.2.1 e.2.2.1/\SP n s y.1/\S16 w s e/\y.1=nxP w s e)/\(y.2=aj->y.1=sn0):=by
 have Z:∀{Q:SN×Bool->Prop},Q (sn0,aj)->Ok (af (sn0,aj)) Q:=λh=>ar h
 have z0:((sn0,aj).2=ai->EN w s.1 e.1 e.2.1 e.2.2.1/\SP n s (sn0,aj).1/\S16 w s e/\(sn0,aj).1=nxP w s e)/\((sn0,aj).2=aj->(sn0,aj).1=sn0):=⟨λh=>(by cases h),λ_=>rfl⟩
 unfold rC aX bf bp ch dA bL dw cR fc kK ck bd bz iR bB bF kl aY cK aF cF;refine aZ (λx=>x.2=(w,s,e,0)/\(x.1=aj->F16 w s/\(EN w s.1 e.1 e.2.1 e.2.2.1/\WS w s.1 e.1 e.2.1 e.2.2.1)/\kn (w,s.1,e.1,e.2.1,e.2.2.1)=af ai)) ?_ ?_
 .refine ax (aa4 w s hw) λb hb=>?_
  with_reducible repeat' first|(refine OS.ok ?_;constructor)|refine IM.mk λ_=>?_
  .exact⟨rfl,λh=>(by cases h)⟩
  simp only[anf,XC];with_reducible repeat' first|(refine OS.ok ?_;constructor)|refine IM.mk λ_=>?_
  .exact⟨rfl,λh=>(by cases h)⟩
  .exact⟨rfl,λh=>(by cases h)⟩
  .exact⟨rfl,λh=>(by cases h)⟩
  obtain⟨c,hc0,hc⟩:=LB w s.1 hs.sb hw e.1 e.2.1 e.2.2.1;refine aU hc0 (ar ⟨rfl,λh=>?_⟩);have h:c=ai:=by simpa using h
  exact⟨hb (by assumption),hc h,h▸hc0⟩
 rintro⟨J,M⟩ ⟨I,hx⟩;dsimp only at I hx;subst I;refine aP (λ_=>Z z0) λh1=>?_
 obtain⟨hF,⟨hE,hR⟩,hEn⟩:=hx h1;clear hx h1;refine aZ (λx=>x=(w,s,e,0)/\(e.2.1=1\/e.2.1=2->e.2.2.2.2.1= -1)/\(¬(e.2.1=1\/e.2.1=2)->0<=e.2.2.2.2.1/\e.2.2.2.2.1<w.2.2.2.2.2.length/\(aJ (T:=yz) w.2.2.2.2.2 e.2.2.2.2.1).1=e.1)) ?_ ?_
 .refine aZ (λx=>x.2=(w,s,e,0)/\(x.1=ai->e.2.1=1\/e.2.1=2)/\(x.1=aj->¬(e.2.1=1\/e.2.1=2))) ?_ ?_
  .refine aK (λh=>ar ⟨rfl,λ_=>.inl h,λh=>(by cases h)⟩) λh=>ar ⟨rfl,λh2=>.inr (bw h2),λh2=>?_⟩
   have:=Ux h2;exact λY=>Y.elim h this
  rintro⟨J,M⟩ ⟨I,hy1,hy2⟩;dsimp only at I hy1 hy2;subst I;refine aP (λhk=>?_) λhk=>?_
  .exact ci (λ_=>ar z0) λh=>ar ⟨rfl,λ_=>h,λY=>(Y (hy1 hk)).elim⟩
  .refine aZ (λx=>x.2=(w,s,e,0)/\(x.1=aj->0<=e.2.2.2.2.1/\e.2.2.2.2.1<w.2.2.2.2.2.length/\(aJ (T:=yz) w.2.2.2.2.2 e.2.2.2.2.1).1=e.1)) ?_ ?_
   .simp only[anf,XC];refine ci (λ_=>ar ⟨rfl,λh=>(by cases h)⟩) λh=>aR h.1 h.2 (aS (ar ⟨rfl,λh2=>⟨h.1,h.2,?_⟩⟩))
    simpa using h2
   rintro⟨J,M⟩ ⟨I,Z⟩;dsimp only at I Z;subst I;exact aP (λ_=>ar z0) λh=>ar ⟨rfl,λY=>((hy2 hk) Y).elim,λ_=>Z h⟩
 rintro x ⟨rfl,hS1,hS2⟩;obtain⟨nm,t0,t1,cd,e1,e2,e3⟩:=id hE;obtain⟨_,_,ce,lk,cn,th,fu,_,_,_⟩:=nm;obtain⟨f1,f2,f3⟩:=id hF;refine aZ (λx=>x.2=(w,s,e,0)/\(x.1=ai->e.2.1=3\/e.2.1=4)) ?_ ?_
 .with_reducible repeat' first|(refine OS.ok ?_;constructor)|refine IM.mk λ_=>?_
  .exact⟨rfl,λ_=>.inl (by assumption)⟩
  .exact⟨rfl,λh=>.inr (bw h)⟩
 rintro⟨J,M⟩ ⟨I,U⟩;dsimp only at I U;subst I;refine aZ (λx=>x.2=(w,s,e,0)/\(x.1=aj->0<e.2.2.2.2.2.1.length->e.2.1=5\/(e.2.1=3\/e.2.1=4)/\¬(aJ (T:=QU) w.1 e.2.2.1).2.2.1=0)) ?_ ?_
 .refine bI (λ_=>ci (λ_=>aP (λh=>?_) λ_=>ar ⟨rfl,λh=>(by cases h)⟩) λh5=>ar ⟨rfl,λ_ _=>.inl h5⟩) λh=>ar ⟨rfl,λ_ h2=>?_⟩
  .refine aR (ce (U h)).1 (ce (U h)).2 (aS (ar ⟨rfl,λh2 _=>.inr ⟨U h,?_⟩⟩));simpa using h2
  .dsimp only[au]at h;omega
 rintro⟨J,M⟩ ⟨I,hDe⟩;dsimp only at I hDe;subst I;refine aP (λ_=>Z z0) λhde=>?_
 refine aZ (λx=>x.2=(w,s,e,0)/\(x.1=aj->0<e.2.2.2.2.2.2.length->e.2.1=4\/e.2.1=22)) ?_ ?_
 .refine bI (λ_=>ci (λ_=>ar ⟨rfl,λh _=>.inr (by simpa using h)⟩) λh4=>ar ⟨rfl,λ_ _=>.inl h4⟩) λh=>ar ⟨rfl,λ_ h2=>?_⟩
  dsimp only[au]at h;omega
 rintro⟨J,M⟩ ⟨I,hFr⟩;dsimp only at I hFr;subst I;refine aP (λ_=>Z z0) λhfr=>?_
 have hk:=hs.k;have hc:=hs.c;have hfu:=hs.f;refine aZ (λx=>x.2=(w,s,e,0)/\(x.1=aj->AN (aJ (T:=.int .i64) s.2.2.2 e.1) e.2.2.2.2.2.1/\AN (aJ (T:=.int .i64) s.2.2.2 e.1) e.2.2.2.2.2.2/\VA w s.1 s.2.1 s.2.2.1 e.1 e.2.1 e.2.2.1 e.2.2.2.1)) ?_ ?_
 .have hv:=aau w s hs hF e hE;refine aR t0 (by rw[f3];exact t1) (aS (ax (I8 _ _ hd) λb hb=>?_));refine em (λ_=>ar ⟨rfl,λh=>(by cases h)⟩) λb1=>?_
  refine aR t0 (by rw[f3];exact t1) (aS (ax (I8 _ _ hf) λb hb2=>?_));refine em (λ_=>ar ⟨rfl,λh=>(by cases h)⟩) λb2=>?_
  exact ax hv λb hb3=>ar ⟨rfl,λh=>⟨hb b1,hb2 b2,hb3 (by simpa using h)⟩⟩
 rintro⟨J,M⟩ ⟨I,hNum⟩;dsimp only at I hNum;subst I;refine aP (λ_=>Z z0) λhnu=>?_
 obtain⟨hN1,hN2,hVA⟩:=hNum hnu;have hS:S16 w s e:=⟨hR,hS1,hS2,hDe hde,hFr hfr,hN1,hN2,hVA⟩
 refine bh (by simp;omega) (by omega) (bh (by simp;omega) (by omega) (bh (by simp;omega) (by omega) ?_));refine aZ (λx=>x.2=(w,s,e,0,0,s.2.1,s.2.2.1,s.2.2.2)/\rn w s.1 e.1 e.2.1 e.2.2.1 x.1=rn w s.1 e.1 e.2.1 e.2.2.1 e.2.2.2.1) ?_ ?_
 .exact aK (λ_=>ar ⟨rfl,rfl⟩) λh=>ar ⟨rfl,Yk _ _ _ _ _ _ _ h⟩
 rintro⟨J,M⟩ ⟨I,hxu⟩;dsimp only at I hxu;subst I;refine ax (Us w s.1 hs.sb hw e.1 e.2.1 e.2.2.1 J) λy hy=>?_
 obtain⟨_,_,hap,hyq⟩:=hy.1 (hy.2.2 hEn);rw[hxu]at hyq;refine aZ (λx=>x.1=e/\x.2.2.1=y.1/\x.2.2.2.1=ZJ s.2.1 e/\x.2.2.2.2=(s.2.2.1,s.2.2.2)) ?_ ?_
 .unfold ZJ;refine aK (λh=>?_) λh=>ar ⟨rfl,rfl,(ay h).symm,rfl⟩
  have hc4:=ce (.inr h);with_reducible repeat' first|(refine OS.ok ?_;constructor)|refine IM.mk λ_=>?_
  all_goals try simp only[au,rj] at*
  all_goals first|omega|exact (aD h).symm
 rintro⟨J,M,x3,x4,x5,x6⟩ ⟨h1,h2,Y,h4⟩;simp only[aE]at h1 h2 Y h4;obtain⟨rfl,rfl⟩:=h4;subst h1;subst h2;subst Y;refine aZ (λx=>x.1=J/\x.2.2.1=y.1/\x.2.2.2.1=ZJ s.2.1 J/\x.2.2.2.2.1=fuP s.2.2.1 J/\x.2.2.2.2.2=s.2.2.2) ?_ ?_
 .unfold fuP;refine aK (λh=>?_) λh=>ar ⟨rfl,rfl,rfl,(ay h).symm,rfl⟩
  have hc4:=fu (.inl h);with_reducible repeat' first|(refine OS.ok ?_;constructor)|refine IM.mk λ_=>?_
  all_goals try simp only[au,rj] at*
  all_goals first|omega|exact (aD h).symm
 rintro⟨J,M,x3,x4,x5,x6⟩ ⟨h1,h2,h4,h5,h6⟩;simp only at h1 h2 h4 h5 h6;subst h1;subst h2;subst h4;subst h5;subst h6;have l1:(ZJ s.2.1 J).length=s.2.1.length:=by unfold ZJ;split<;>simp[bT]
 have l2:(fuP s.2.2.1 J).length=s.2.2.1.length:=by unfold fuP;split<;>simp[bT]
 with_reducible repeat' first|(refine OS.ok ?_;constructor)|refine IM.mk λ_=>?_
 all_goals try simp only[au,rj] at*
 all_goals first|omega|skip
 exact⟨⟨hE,⟨hap,l1,l2,by rw[bT]⟩,hS,by unfold nxP;rw[<- hyq]⟩,λh=>(by cases h)⟩
theorem Uc:Ok (kA ()) λl=>l.length=22:=by
 unfold kA;with_reducible repeat' first|(refine OS.ok ?_;constructor)|refine IM.mk λ_=>?_
 all_goals rfl
theorem Qx (s:ζ):Ok (jL s) λ_=>True:=by
 unfold jL bz bF aY cK aF cF;refine ax Uc λl hl=>?_
 refine ca l.length (λi x=>x=(i:Int)) ?_ ?_ rfl
 .rintro i x hi rfl;with_reducible repeat' first|(refine OS.ok ?_;constructor)|refine IM.mk λ_=>?_
  all_goals try simp only[au,rj] at*
  all_goals first|omega|exact gO (by omega)
 .rintro x rfl;with_reducible repeat' first|(refine OS.ok ?_;constructor)|refine IM.mk λ_=>?_
  all_goals try simp only[au,rj] at*
  all_goals omega
theorem Oa (c:Int):Ok (lB c) λ_=>True:=by
 unfold lB iT aF;with_reducible repeat' first|(refine OS.ok ?_;constructor)|refine IM.mk λ_=>?_
 all_goals exact trivial
theorem ac7 (c:Int):Ok (pE c) λ_=>True:=by
 unfold pE rI iT aF;refine gC (ax (Oa c) λ_ _=>?_);with_reducible repeat' first|(refine OS.ok ?_;constructor)|refine IM.mk λ_=>?_
 all_goals try exact trivial
 refine ax (P:=λ_=>True) ?_ λ_ _=>?_
 .with_reducible repeat' first|(refine OS.ok ?_;constructor)|refine IM.mk λ_=>?_
  all_goals exact trivial
 .with_reducible repeat' first|(refine OS.ok ?_;constructor)|refine IM.mk λ_=>?_
  all_goals exact trivial
theorem iy (s:ζ):Ok (fw s) λ_=>True:=by
 unfold fw bz tO aY cK aF cF;refine aZ (λb=>b=aj->s.length<=12) ?_ ?_
 .with_reducible repeat' first|(refine OS.ok ?_;constructor)|refine IM.mk λ_=>?_
  .exact λh=>(by cases h)
  .exact λh=>(by cases h)
  .omega
  .simp only[au]at *;omega
  refine ax (Oa _) λ_ _=>?_
  with_reducible repeat' first|(refine OS.ok ?_;constructor)|refine IM.mk λ_=>?_
  .exact λh=>(by cases h)
  refine ax (Qx _) λ_ _=>ar λ_=>?_
  simp only[au]at *;omega
 .rintro b hb;refine aP (λ_=>ar trivial) λh=>?_
  have hb:=hb h;refine ca s.length (λi x=>x=(i:Int)) ?_ ?_ rfl
  .rintro i x hi rfl;with_reducible repeat' first|(refine OS.ok ?_;constructor)|refine IM.mk λ_=>?_
   all_goals try simp only[au,rj] at*
   all_goals first|omega|skip
   refine ax (ac7 _) λ_ _=>?_
   with_reducible repeat' first|(refine OS.ok ?_;constructor)|refine IM.mk λ_=>?_
   .exact trivial
   .exact gO (by omega)
  .rintro x rfl;with_reducible repeat' first|(refine OS.ok ?_;constructor)|refine IM.mk λ_=>?_
   all_goals try simp only[au,rj] at*
   all_goals first|omega|exact trivial
theorem yW (l:List ζ) (s:ζ) (hl:l.length<=1000000000):Ok (jd (l,s)) λr=> -1<=r/\r<l.length/\(0<=r->aJ (T:=.str) l r=s)/\(r<0->s∉l):=by
 unfold jd bz bF aY cK aF cF;refine ca l.length (λi x=>x=(i:Int)/\∀k:Nat,k<i->aJ (T:=.str) l (k:Int)≠s) ?_ ?_ ⟨rfl,λk hk=>by omega⟩
 .rintro i x hi ⟨rfl,I⟩;with_reducible repeat' first|(refine OS.ok ?_;constructor)|refine IM.mk λ_=>?_
  all_goals try simp only[au,rj] at*
  all_goals first|omega|skip
  .exact⟨by omega,by omega,λ_=>by assumption,λh=>by omega⟩
  .refine ⟨gO (by omega),λk hk=>?_⟩;rcases cf k i with h1|h1
   .exact I k h1
   .rw[show k=i by omega];assumption
 .rintro x ⟨rfl,I⟩;with_reducible repeat' first|(refine OS.ok ?_;constructor)|refine IM.mk λ_=>?_
  all_goals try simp only[au,rj] at*
  all_goals first|omega|skip
  exact⟨by omega,by omega,λh=>by omega,λ_ h=>iv (T:=.str) (p:=λc=>c≠s) I s h rfl⟩
structure VL (w:WT):Prop where
 c:w.1.length<=12
 l:w.2.1.length<=4
 d:w.2.2.1.length<=2
 f:w.2.2.2.1.length<=2
 t0:1<=w.2.2.2.2.1.length
 t:w.2.2.2.2.1.length<=4
 s:w.2.2.2.2.2.length<=60
theorem abr (w:WT) (h:VL w):Ok (pA w) λy=>y.1.length<=100:=by
 obtain⟨I,U,M,w4,Z,Y⟩:=w;obtain⟨h1,h2,h3,h4,_,h5,h6⟩:=h;dsimp only at*
 unfold pA aX bf bp ch dw kK bd bz iR bB bF aY cK aF cF;refine qr (λx=>((I.length:Int)-x.1).toNat) (λx=>x.2.1=(I,U,M,w4,Z,Y)/\0<=x.1/\x.1<=(I.length:Int)/\(x.2.2.length:Int)<=x.1) ?_ ⟨rfl,by simp,by simp,by simp⟩;rintro⟨x1,x2,x3⟩ ⟨e,g1,g2,g3⟩;dsimp only at e g1 g2 g3;subst e;refine bI (λg4=>?_) λg4=>?_
 .dsimp only[au]at g4;refine aZ (λx=>x.2.1=(I,U,M,w4,Z,Y)/\x1<x.1/\x.1<=(I.length:Int)/\(x.2.2.length:Int)<=x.1) ?_ ?_
  .refine cg (aS (bh (by simp;omega) (by omega) ?_));refine aK (λ_=>?_) λ_=>?_
   .with_reducible repeat' first|(refine OS.ok ?_;constructor)|refine IM.mk λ_=>?_
    .exact lq _
    .rw[ic (by omega) (by omega)];exact⟨rfl,by dsimp only;omega,by dsimp only;omega,by simp;omega⟩
   .generalize hz:aJ _ x1=z;obtain⟨z1,(z2:Int),(J:Int),z4,z5⟩:=z;dsimp only;refine aZ (λx=>x.2=((I,U,M,w4,Z,Y),x3++[z1],z1,z2,J,z4,z5)/\(x.1=aj->1<=J/\J<=4/\x1+J<=I.length)) ?_ ?_
    .with_reducible repeat' first|(refine OS.ok ?_;constructor)|refine IM.mk λ_=>?_
     .exact⟨rfl,λh=>(by cases h)⟩
     .exact⟨rfl,λh=>(by cases h)⟩
     .refine ⟨rfl,λh=>?_⟩;dsimp only[au] at*
      rw[ic (by omega) (by omega),gi]at h;omega
    .rintro⟨b,y⟩ ⟨e,hb⟩;dsimp only at e hb;subst e;refine aP (λ_=>ar (lq _)) λh=>?_
     obtain⟨q1,q2,q3⟩:=hb h;refine qr (λx=>(J-x.1).toNat) (λx=>x.2=((I,U,M,w4,Z,Y),x3++[z1],z1,z2,J,z4,z5)/\0<=x.1/\x.1<=J) ?_ ⟨rfl,by simp,by dsimp only;omega⟩;rintro⟨k,y⟩ ⟨e,k0,k1⟩;dsimp only at e k0 k1;subst e;refine bI (λk2=>?_) λk2=>?_
     .dsimp only at k2;have e1:bk .i64 (x1+k)=x1+k:=ic (by omega) (by omega);refine aR (by dsimp only;rw[e1];omega) (by dsimp only;rw[e1];omega) (aS ?_);refine aZ (λx=>x.2=((I,U,M,w4,Z,Y),x3++[z1],z1,z2,J,z4,z5)) ?_ ?_
      .with_reducible repeat' first|(refine OS.ok ?_;constructor)|refine IM.mk λ_=>?_
       all_goals rfl
      .rintro⟨b,y⟩ e;dsimp only at e;subst e;refine aP (λ_=>ar (lq _)) λ_=>ar ?_
       dsimp only;rw[ic (by omega) (by omega)];exact⟨⟨rfl,by omega,by omega⟩,by omega⟩
     .dsimp only at k2;refine ar ?_;dsimp only;rw[ic (by omega) (by omega)];exact⟨rfl,by omega,by omega,by simp;omega⟩
  .rintro⟨y1,y2,y3⟩ ⟨e,g5,g6,g7⟩;dsimp only at e g5 g6 g7;subst e;refine ar ⟨⟨rfl,by dsimp only;omega,g6,g7⟩,?_⟩;dsimp only;omega
 .dsimp only[au]at g4;refine ax (P:=λy=>y.1.length<=100) ?_ λy hy=>ar hy
  refine ca U.length (λi x=>x.1=(i:Int)/\x.2.1=(I,U,M,w4,Z,Y)/\x.2.2.length<=12+i) ?_ ?_ ⟨rfl,rfl,by dsimp only;omega⟩
  .rintro i ⟨a,b,c⟩ hi ⟨e1,e2,e3⟩;dsimp only at e1 e2 e3;subst e1;subst e2;with_reducible repeat' first|(refine OS.ok ?_;constructor)|refine IM.mk λ_=>?_
   all_goals try simp only[au,rj] at*
   all_goals first|omega|(simp;omega)|skip
   exact⟨gO (by omega),by simp;omega⟩
  .rintro⟨a,b,c⟩ ⟨e1,e2,e3⟩;dsimp only at e1 e2 e3;subst e1;subst e2;refine bI (λg4=>(by dsimp only[au]at g4;omega)) λ_=>?_
   refine ax (P:=λy=>y.1.length<=100) ?_ λy hy=>ar hy
   refine ca M.length (λi x=>x.1=(i:Int)/\x.2.1=(I,U,M,w4,Z,Y)/\x.2.2.length<=16+i) ?_ ?_ ⟨rfl,rfl,by dsimp only;omega⟩
   .rintro i ⟨a,b,c⟩ hi ⟨e1,e2,e3⟩;dsimp only at e1 e2 e3;subst e1;subst e2;with_reducible repeat' first|(refine OS.ok ?_;constructor)|refine IM.mk λ_=>?_
    all_goals try simp only[au,rj] at*
    all_goals first|omega|(simp;omega)|skip
    exact⟨gO (by omega),by simp;omega⟩
   .rintro⟨a,b,c⟩ ⟨e1,e2,e3⟩;dsimp only at e1 e2 e3;subst e1;subst e2;refine bI (λg4=>(by dsimp only[au]at g4;omega)) λ_=>?_
    refine ax (P:=λy=>y.1.length<=100) ?_ λy hy=>ar hy
    with_reducible repeat' first|(refine OS.ok ?_;constructor)|refine IM.mk λ_=>?_
    all_goals try simp only[au,rj] at*
    all_goals first|omega|(simp;omega)
def Uv (T:Int) (o:Option ν) (s:π):Option ν:=
 match o with
 |none=>ah
 |some (t,n)=>if s.1=t/\s.2.1=n then af (t,n+1) else if t<s.1/\s.1<T/\s.2.1=0 then af (s.1,1) else ah
def LL (T:Int) (l:List π):Option ν:=l.foldl (Uv T) (af (0,0))
def SV0 (w:WT):Prop:=LL w.2.2.2.2.1.length w.2.2.2.2.2≠ah
theorem IL {T:Int} {l:List π} {i:Nat} (hi:i<l.length):LL T (l.take (i+1))=Uv T (LL T (l.take i)) (aJ (T:=yz) l (i:Int)):=by
 rw[mP (T:=yz) hi];unfold LL;rw[dR];rfl
theorem BJ (w:WT):Ok (hY w) λb=>b=ai->VL w/\SV0 w:=by
 unfold hY aX bf bp ch cR fc bd bz iT iR bB bF aY cK aF cF;refine aZ (λx=>x.2=w/\(x.1=aj->VL w)) ?_ ?_
 .with_reducible repeat' first|(refine OS.ok ?_;constructor)|refine IM.mk λ_=>?_
  all_goals first|exact⟨rfl,λh=>(by cases h)⟩|skip
  dsimp only[au] at*
  refine ⟨rfl,λh=>?_⟩;rw[gi]at h;constructor<;>omega
 rintro⟨b,x⟩ ⟨e,hb⟩;dsimp only at e hb;subst e;refine aP (λ_=>ar λh=>(by cases h)) λh=>?_
 have hv:=hb h;refine ax (abr _ hv) λy hy=>?_
 refine em (λ_=>ar λh=>(by cases h)) λ_=>?_
 obtain⟨w1,w2,U,Z,J,I⟩:=x;have h6:=hv.s;have h3:=hv.d;dsimp only at h6 h3;refine ca y.1.length (λi x=>x.1=(i:Int)/\x.2=(w1,w2,U,Z,J,I)) ?_ ?_ ⟨rfl,rfl⟩
 .rintro i ⟨a,b⟩ hi ⟨e1,e2⟩;dsimp only at e1 e2;subst e1;subst e2;refine bI (λY=>?_) λY=>(by dsimp only[au]at Y;omega)
  refine aZ (λx=>x.2=(w1,w2,U,Z,J,I)) ?_ ?_
  .refine cg (aS (ax (iy _) λ_ _=>?_));refine em (λ_=>ar rfl) λ_=>?_
   with_reducible repeat' first|(refine OS.ok ?_;constructor)|refine IM.mk λ_=>?_
   all_goals try simp only[au,rj] at*
   all_goals first|omega|skip
   refine ax (yW _ _ (by simp;omega)) λ_ _=>ar rfl
  .rintro⟨a,b⟩ e;dsimp only at e;subst e;with_reducible repeat' first|(refine OS.ok ?_;constructor)|refine IM.mk λ_=>?_
   .exact λh=>(by cases h)
   .dsimp only;exact⟨gO (by omega),rfl⟩
 rintro⟨a,b⟩ ⟨e1,e2⟩;dsimp only at e1 e2;subst e1;subst e2;refine bI (λY=>(by dsimp only[au]at Y;omega)) λ_=>?_
 refine ax (P:=λb=>b=ai->VL (w1,w2,U,Z,J,I)/\SV0 (w1,w2,U,Z,J,I)) ?_ λy hy=>ar hy
 refine ca U.length (λi x=>x.1=(i:Int)/\x.2=(w1,w2,U,Z,J,I)) ?_ ?_ ⟨rfl,rfl⟩
 .rintro i ⟨a,b⟩ hi ⟨e1,e2⟩;dsimp only at e1 e2;subst e1;subst e2;refine bI (λY=>?_) λY=>(by dsimp only[au]at Y;omega)
  refine cg (aS ?_);refine aZ (λx=>x.2=(w1,w2,U,Z,J,I)) ?_ ?_
  .with_reducible repeat' first|(refine OS.ok ?_;constructor)|refine IM.mk λ_=>?_
   all_goals try simp only[au,rj] at*
   all_goals first|omega|rfl
  .rintro⟨a,b⟩ e;dsimp only at e;subst e;with_reducible repeat' first|(refine OS.ok ?_;constructor)|refine IM.mk λ_=>?_
   .exact λh=>(by cases h)
   .dsimp only;exact⟨gO (by omega),rfl⟩
 rintro⟨a,b⟩ ⟨e1,e2⟩;dsimp only at e1 e2;subst e1;subst e2;refine bI (λY=>(by dsimp only[au]at Y;omega)) λ_=>?_
 refine ax (P:=λb=>b=ai->VL (w1,w2,U,Z,J,I)/\SV0 (w1,w2,U,Z,J,I)) ?_ λy hy=>ar hy
 refine ca I.length (λi x=>x.1=(i:Int)/\x.2=(w1,w2,U,Z,J,I)/\LL J.length (I.take i)=af (if i=0 then (0,0) else ((aJ (T:=yz) I ((i-1:Nat):Int)).1,(aJ (T:=yz) I ((i-1:Nat):Int)).2.1+1))/\(¬i=0->(0:Int)<=(aJ (T:=yz) I ((i-1:Nat):Int)).2.1/\(i:Int)>(aJ (T:=yz) I ((i-1:Nat):Int)).2.1)) ?_ ?_ ⟨rfl,rfl,rfl,λh=>(h rfl).elim⟩
 .rintro i ⟨a,b⟩ hi ⟨e1,e2,e3,hpb⟩;dsimp only at e1 e2;subst e1;subst e2;have hw:¬(i:Int)=0->bk .i64 ((i:Int)-1)=((i-1:Nat):Int):=λh=>by rw[ic (by omega) (by omega)];omega
  have hnx:=IL (T:=J.length) hi;rw[e3]at hnx;clear e3;refine bI (λY=>?_) λY=>(by dsimp only[au]at Y;omega)
  refine aZ (λx=>x=(w1,w2,U,Z,J,I)/\LL J.length (I.take (i+1))=af (((aJ (T:=yz) I (i:Int)).1,(aJ (T:=yz) I (i:Int)).2.1+1))/\(0:Int)<=(aJ (T:=yz) I (i:Int)).2.1/\((i+1:Nat):Int)>(aJ (T:=yz) I (i:Int)).2.1) ?_ ?_
  .refine cg (aS ?_);rw[hnx];generalize hz:aJ (T:=yz) I (i:Int)=z;obtain⟨(z1:Int),(z2:Int),(z3:Int)⟩:=z;dsimp only;refine aZ (λx=>x.2=((w1,w2,U,Z,J,I),z1,z2,z3)/\(x.1=aj->0<=z1/\z1<J.length)) ?_ ?_
   .refine bI (λ_=>ar ⟨rfl,λh=>(by cases h)⟩) λg=>ar ⟨rfl,λh=>⟨g,?_⟩⟩
    rw[me]at h;exact h
   rintro⟨c,y⟩ ⟨e,hzr⟩;dsimp only at e hzr;subst e;refine aP (λ_=>ar λh=>(by cases h)) λhzb=>?_
   obtain⟨z0,zT⟩:=hzr hzb;refine aZ (λx=>x.2=((w1,w2,U,Z,J,I),z1,z2,z3)/\(x.1=ai->i=0\/¬(aJ (T:=yz) I ((i-1:Nat):Int)).1=z1)/\(x.1=aj->¬(i:Int)=0/\(aJ (T:=yz) I ((i-1:Nat):Int)).1=z1)) ?_ ?_
   .refine aK (λh=>ar ⟨rfl,λ_=>.inl (by have h:((i:Nat):Int)=0:=h;omega),λh=>(by cases h)⟩) λh=>?_
    rw[hw h];refine cg (aS (ar ⟨rfl,λh2=>.inr (by simpa using h2),λh2=>⟨h,by simpa using h2⟩⟩))
   rintro⟨c,y⟩ ⟨e,hc1,hc⟩;dsimp only at e hc1 hc;subst e;refine aP (λhct=>?_) λhcf=>?_
   .refine aZ (λx=>x.2=(w1,w2,U,Z,J,I)/\(x.1=aj->z2=0/\(¬i=0->((aJ (T:=yz) I ((i-1:Nat):Int)).1:Int)<z1))) ?_ ?_
    .refine ci (λ_=>ar ⟨rfl,λh=>(by cases h)⟩) λhz2=>?_
     refine bI (λh=>?_) λM=>ar ⟨rfl,λ_=>⟨hz2,λh=>by have M:((i:Nat):Int)<=0:=M;omega⟩⟩
     have h:(0:Int)<((i:Nat):Int):=h;rw[hw (by omega)];refine cg (aS (ar ⟨rfl,λh2=>⟨hz2,λh3=>?_⟩⟩));rw[gi]at h2;have h4:=(hc1 hct).resolve_left h3;have h2:(aJ (T:=yz) I ((i-1:Nat):Int)).1<=z1:=h2;exact Int.lt_iff_le_and_ne.2 ⟨h2,h4⟩
    rintro⟨c,y⟩ ⟨e,hy⟩;dsimp only at e hy;subst e;refine aP (λ_=>ar λh=>(by cases h)) λh=>ar ⟨rfl,?_⟩
    obtain⟨q1,q2⟩:=hy h;have q1:z2=0:=q1;subst q1;refine ⟨?_,eB 0,by show _>(0:Int);omega⟩;unfold Uv;by_cases M:i=0
    .subst M;rw[aD rfl];dsimp only;by_cases hz1:z1=0
     .subst hz1;rfl
     .rw[ay (λh=>hz1 h.1),aD ⟨by omega,zT,rfl⟩];rfl
    .have:=q2 M;rw[ay M];dsimp only;rw[ay (λh=>by omega),aD ⟨this,zT,rfl⟩];rfl
   .obtain⟨M,hpr⟩:=hc hcf;rw[hw M];refine cg (aS ?_);refine ci (λ_=>ar λh=>(by cases h)) λh=>ar ⟨rfl,?_⟩
    obtain⟨b0,b1⟩:=hpb (by omega);have h:z2=bk .i64 ((aJ (T:=yz) I ((i-1:Nat):Int)).2.1+1):=h;rw[ic (by omega) (by omega)]at h;refine ⟨?_,by omega,by omega⟩;rw[ay (by omega)];unfold Uv;dsimp only;rw[aD ⟨hpr.symm,h⟩,hpr,h]
  .rintro x ⟨rfl,hx,hx2⟩;refine ar ?_;dsimp only;refine ⟨gO (by omega),rfl,?_,λ_=>hx2⟩;rw[ay (by omega)];exact hx
 .rintro⟨a,b⟩ ⟨e1,e2,e3,_⟩;dsimp only at e1 e2;subst e1;subst e2;refine bI (λY=>(by dsimp only[au]at Y;omega)) λ_=>?_
  rw[cX]at e3;exact ar λ_=>⟨hv,by unfold SV0;dsimp only;rw[e3];simp⟩
def tN (e:ET):Bool:=decide (e.2.1=3)||decide (e.2.1=23)
def fl (l:List ET) (t:Int):θ:=(l.filter λe=>decide (e.1=t)).map tN
def Lz (l:List ET) (t y:Int):Prop:=0<=y/\(fl l t).getD y.toNat aj=ai
theorem uS (l m:List ET) (t:Int):fl (l++m) t=fl l t++fl m t:=by unfold fl;rw[yw,cC]
theorem zO {e:ET} {t:Int} (h:e.1=t):fl [e] t=[tN e]:=by unfold fl;simp[h]
theorem wW {e:ET} {t:Int} (h:¬e.1=t):fl [e] t=[]:=by unfold fl;simp[h]
theorem Lz.app {l:List ET} {t y:Int} (h:Lz l t y) (m:List ET):Lz (l++m) t y:=by
 obtain⟨h0,h1⟩:=h;refine ⟨h0,?_⟩;rw[uS];rw[aA]at h1 ⊢;rcases cf y.toNat (fl l t).length with g|g
 .rw[bK g];exact h1
 .rw[bR g]at h1;cases h1
theorem Lz.lt {l:List ET} {t y:Int} (h:Lz l t y):y<(fl l t).length:=by
 obtain⟨h0,h1⟩:=h;rcases cf y.toNat (fl l t).length with g|g
 .omega
 .rw[aA,bR g]at h1;cases h1
theorem Lz.last {l:List ET} {e:ET} {y:Int} (h:tN e=ai) (I:y=(fl l e.1).length):Lz (l++[e]) e.1 y:=by
 subst I;refine ⟨by omega,?_⟩;rw[uS,zO rfl,aA,bW (by simp),h];simp
theorem XT (l:List ET) (t:Int):(fl l t).length<=l.length:=by unfold fl;rw[bY];exact BQ ..
structure SCx (w:WT) (l:List ET) (sy:SY) (ce fu:η) (e:ET):Prop where
 en:EN w sy e.1 e.2.1 e.2.2.1
 rd:WS w sy e.1 e.2.1 e.2.2.1
 s1:e.2.1=1\/e.2.1=2->e.2.2.2.2.1= -1
 s2:¬(e.2.1=1\/e.2.1=2)->0<=e.2.2.2.2.1/\e.2.2.2.2.1<w.2.2.2.2.2.length/\(aJ (T:=yz) w.2.2.2.2.2 e.2.2.2.2.1).1=e.1
 de:0<e.2.2.2.2.2.1.length->e.2.1=5\/(e.2.1=3\/e.2.1=4)/\¬(aJ (T:=QU) w.1 e.2.2.1).2.2.1=0
 fr:0<e.2.2.2.2.2.2.length->e.2.1=4\/e.2.1=22
 nd:AN (fl l e.1).length e.2.2.2.2.2.1
 nf:AN (fl l e.1).length e.2.2.2.2.2.2
 rd1:∀y∈e.2.2.2.2.2.1,Lz l e.1 y
 rd2:∀y∈e.2.2.2.2.2.2,Lz l e.1 y
 va:VA w sy ce fu e.1 e.2.1 e.2.2.1 e.2.2.2.1
def Yx:Nat->List (Int×Int×Bool)
 |0=>[]
 |n+1=>(1,0,aj)::aG n (0,0,aj)
def QE (w:WT):SY:=(aG w.2.1.length (-1,[]),-1,aG w.2.2.2.1.length aj,Yx w.2.2.2.2.1.length)
def ce0 (w:WT):η:=w.1.map λc=>c.2.2.2.2
def fu0 (w:WT):η:=aG w.2.2.2.1.length 0
inductive Acw (w:WT):List ET->SY->η->η->Prop
 |nil:Acw w [] (QE w) (ce0 w) (fu0 w)
 |snoc {l:List ET} {sy:SY} {ce fu:η} {e:ET} (h:Acw w l sy ce fu) (hs:SCx w l sy ce fu e):Acw w (l++[e]) (rn w sy e.1 e.2.1 e.2.2.1 e.2.2.2.1).1 (ZJ ce e) (fuP fu e)
theorem ab0 (i:Nat):Yx (i+2)=Yx (i+1)++[(0,0,aj)]:=by
 show (1,0,aj)::aG (i+1) (0,0,aj)=(1,0,aj)::aG i (0,0,aj)++[(0,0,aj)]
 rw[vb,gr]
theorem Ia:∀n,(Yx n).length=n
 |0=>rfl
 |n+1=>by simp[Yx]
theorem Lq (w:WT) (h:VL w):rD w=af (QE w):=by
 obtain⟨w1,I,Z,J,U,Y⟩:=w;obtain⟨h1,h2,h3,h4,_,h5,h6⟩:=h;dsimp only at*
 refine cI ?_;unfold rD aX bf bp ch dw cR fc bd bz bB aY cK aF cF;refine ca I.length (λi x=>x.1=(i:Int)/\x.2.1=(w1,I,Z,J,U,Y)/\x.2.2.2=(-1,aG i (-1,[]))) ?_ ?_ ⟨rfl,rfl,rfl⟩
 .rintro i ⟨a,b,c,d,e⟩ hi ⟨e1,e2,e3⟩;simp only[aE]at e1 e2 e3;obtain⟨rfl,rfl⟩:=e3;subst e1;subst e2;with_reducible repeat' first|(refine OS.ok ?_;constructor)|refine IM.mk λ_=>?_
  all_goals try simp only[au,rj] at*
  all_goals first|omega|(simp;omega)|skip
  exact⟨gO (by omega),by rw[vb]⟩
 rintro⟨a,b,c,d,e⟩ ⟨e1,e2,e3⟩;simp only[aE]at e1 e2 e3;obtain⟨rfl,rfl⟩:=e3;subst e1;subst e2;refine bI (λM=>(by dsimp only[au]at M;omega)) λ_=>?_
 refine ax (P:=λs=>s=QE (w1,I,Z,J,U,Y)) ?_ λy hy=>ar hy
 refine ca J.length (λi x=>x.1=(i:Int)/\x.2.1=(w1,I,Z,J,U,Y)/\x.2.2.2=(-1,aG I.length (-1,[]),aG i aj)) ?_ ?_ ⟨rfl,rfl,rfl⟩
 .rintro i ⟨a,b,c,d,e',f⟩ hi ⟨e1,e2,e3⟩;simp only[aE]at e1 e2 e3;obtain⟨rfl,rfl,rfl⟩:=e3;subst e1;subst e2;with_reducible repeat' first|(refine OS.ok ?_;constructor)|refine IM.mk λ_=>?_
  all_goals try simp only[au,rj] at*
  all_goals first|omega|(simp;omega)|skip
  exact⟨gO (by omega),by rw[vb]⟩
 rintro⟨a,b,c,d,e',f⟩ ⟨e1,e2,e3⟩;simp only[aE]at e1 e2 e3;obtain⟨rfl,rfl,rfl⟩:=e3;subst e1;subst e2;refine bI (λM=>(by dsimp only[au]at M;omega)) λ_=>?_
 refine ax (P:=λs=>s=QE (w1,I,Z,J,U,Y)) ?_ λy hy=>ar hy
 refine ca U.length (λi x=>x.1=(i:Int)/\x.2.1=(w1,I,Z,J,U,Y)/\x.2.2.2=(-1,aG I.length (-1,[]),aG J.length aj,Yx i)) ?_ ?_ ⟨rfl,rfl,rfl⟩
 .rintro i ⟨a,b,c,d,e'',f',g⟩ hi ⟨e1,e2,e3⟩;simp only[aE]at e1 e2 e3;obtain⟨rfl,rfl,rfl,rfl⟩:=e3;subst e1;subst e2;have hl:=Ia i;refine bI (λ_=>?_) λM=>(by dsimp only[au]at M;omega)
  refine gC (aK (λh0=>ar ?_) λh0=>ar ?_)
  .have h0:((i:Nat):Int)=0:=h0;have h0:i=0:=by omega
   subst h0;exact bh (by simp[Yx]) (by omega) (ar ⟨rfl,rfl,rfl⟩)
  .have h0:¬((i:Nat):Int)=0:=h0;obtain⟨j,rfl⟩:∃j,i=j+1:=⟨i-1,by omega⟩
   refine bh (by dsimp only;rw[hl];simp;omega) (by omega) (ar ⟨gO (by omega),rfl,?_⟩);dsimp only;rw[ab0]
 rintro⟨a,b,c,d,e'',f',g⟩ ⟨e1,e2,e3⟩;simp only[aE]at e1 e2 e3;obtain⟨rfl,rfl,rfl,rfl⟩:=e3;subst e1;subst e2;refine bI (λM=>(by dsimp only[au]at M;omega)) λ_=>ar rfl
theorem UL {w:WT} (h:VL w):SB 0 (QE w):=by
 obtain⟨h1,h2,U,M,_,J,I⟩:=h;refine ⟨by omega,by simp[QE];omega,λl hl=>?_,by simp[QE];omega,by simp[QE,Ia];omega⟩;rw[pP hl];simp
theorem Lp (w:WT) (h:VL w):mU w=af (QE w,ce0 w,fu0 w,aG w.2.2.2.2.1.length 0):=by
 have hs:=Lq w h;have hd:(QE w)=QE w:=rfl;obtain⟨I,Z,Y,M,J,U⟩:=w;obtain⟨h1,h2,h3,h4,_,h5,h6⟩:=h;dsimp only at*
 refine cI ?_;unfold mU aX bf bp bL cR bz bB bF aY cK aF cF;refine aU hs ?_;with_reducible repeat' first|(refine OS.ok ?_;constructor)|refine IM.mk λ_=>?_
 all_goals try simp only[au,rj] at*
 all_goals first|omega|skip
 refine ca I.length (λi x=>x.1=(i:Int)/\x.2.1=(I,Z,Y,M,J,U)/\x.2.2.2=(QE (I,Z,Y,M,J,U),(I.take i).map (λc=>c.2.2.2.2),aG M.length 0,aG J.length 0)) ?_ ?_ ⟨rfl,rfl,rfl⟩
 .rintro i ⟨a,b,c,d,e,f,g⟩ hi ⟨e1,e2,e3⟩;simp only[aE]at e1 e2 e3;obtain⟨rfl,rfl,rfl,rfl⟩:=e3;subst e1;subst e2;with_reducible repeat' first|(refine OS.ok ?_;constructor)|refine IM.mk λ_=>?_
  all_goals try simp only[au,rj] at*
  all_goals first|omega|(simp;omega)|skip
  exact⟨gO (by omega),by rw[mP (T:=QU) hi,cC];rfl⟩
 rintro⟨a,b,c,d,e,f,g⟩ ⟨e1,e2,e3⟩;simp only[aE]at e1 e2 e3;obtain⟨rfl,rfl,rfl,rfl⟩:=e3;subst e1;subst e2;refine bI (λg4=>(by dsimp only[au]at g4;omega)) λ_=>ar ?_
 rw[cX];rfl
theorem WO (w:WT) (h:VL w):Ok (mU w) λs=>NB 0 s/\s.2.1.length=w.1.length/\s.2.2.1.length=w.2.2.2.1.length/\s.2.2.2.length=w.2.2.2.2.1.length:=
 aii (Lp w h) ⟨⟨UL h,by have:=h.c;simp[ce0];omega,by have:=h.f;simp[fu0];omega,by have:=h.t;simp;omega⟩,by simp[ce0],by simp[fu0],by simp⟩
theorem Rd (l:List ET) (i t:Int) (I:η) (hl:l.length<=1000000000) (hi:0<=i/\i<=l.length) (hn:I.length<=1000000000):Ok (rB (l,i,t,I)) λb=>b=ai->∀y∈I,Lz (l.take i.toNat) t y:=by
 unfold rB aX bL bd bz iR bF aY cK aF cF;refine ca I.length (λk x=>x=(k:Int)/\∀j:Nat,j<k->Lz (l.take i.toNat) t (aJ (T:=.int .i64) I (j:Int))) ?_ ?_ ⟨rfl,λj hj=>(by omega)⟩
 .rintro k x hk ⟨rfl,Y⟩;refine bI (λM=>?_) λM=>(by dsimp only[au]at M;omega)
  refine qr (λx=>(i-x.2.2).toNat) (λx=>0<=x.2.2/\x.2.2<=i/\x.1=((fl (l.take x.2.2.toNat) t).length:Int)/\(x.2.1=ai->Lz (l.take x.2.2.toNat) t (aJ (T:=.int .i64) I (k:Int)))) ?_ ⟨by simp,hi.1,by simp[fl],λh=>(by cases h)⟩;rintro⟨a,b,(c:Int)⟩ ⟨U,c1,Z,hb⟩;dsimp only at U c1 Z hb;subst Z;obtain⟨c,rfl⟩:∃n:Nat,c=(n:Int):=⟨c.toNat,by omega⟩
  rw[dC]at hb;dsimp only;rw[dC];have hfl:=XT (l.take c) t;have htl:=qn c l;refine bI (λJ=>?_) λJ=>?_
  .have J:(c:Int)<i:=J;have htk:l.take (c+1)=l.take c++[aJ (T:=tE) l (c:Int)]:=mP (T:=tE) (by omega);refine aZ (λy=>y.1=((fl (l.take (c+1)) t).length:Int)/\(y.2=ai->Lz (l.take (c+1)) t (aJ (T:=.int .i64) I (k:Int)))) ?_ ?_
   .rw[htk,uS];refine aR U (by first|omega|(dsimp only;omega)) (aS ?_);refine ci (λhne=>ar ⟨by rw[wW hne];simp,λh=>(hb h).app _⟩) λhe=>?_
    have he:(aJ (T:=tE) l (c:Int)).1=t:=he;refine aZ (λy=>y=ai->Lz (l.take c++[aJ (T:=tE) l (c:Int)]) t (aJ (T:=.int .i64) I (k:Int))) ?_ λy hy=>ar ⟨?_,hy⟩
    .refine aP (λh=>ar λ_=>(hb h).app _) λ_=>?_
     refine aR (by omega) (by first|omega|(dsimp only;omega)) (aS ?_);refine aK (λhn=>?_) λ_=>ar λh=>(by cases h)
     have hq:tN (aJ (T:=tE) l (c:Int))=ai->Lz (l.take c++[aJ (T:=tE) l (c:Int)]) t (aJ (T:=.int .i64) I (k:Int)):=λh=>by
      rw[<- he]at hn ⊢;exact Lz.last h hn.symm
     refine aR U (by first|omega|(dsimp only;omega)) (aS ?_);refine aK (λh=>ar λ_=>hq (by unfold tN;rw[aQ h];rfl)) λ_=>?_
     exact aR U (by first|omega|(dsimp only;omega)) (aS (ar λh=>hq (by unfold tN;rw[h];simp)))
    .dsimp only;rw[zO he,gO (by omega)];simp
   .rintro⟨p,q⟩ ⟨hp,hq⟩;refine ar ?_;dsimp only at hp hq ⊢;rw[gO (by omega),dC];exact⟨⟨by omega,by omega,hp,hq⟩,by omega⟩
  .refine ax (P:=λr=>match r with|.inl y=>y=((k+1:Nat):Int)/\∀j:Nat,j<k+1->Lz (l.take i.toNat) t (aJ (T:=.int .i64) I (j:Int))|.inr r=>r=ai->∀y∈I,Lz (l.take i.toNat) t y) ?_ λr hr=>ar ?_
   .refine em (λ_=>ar λh=>(by cases h)) λh=>ar ⟨gO (by omega),λj hj=>?_⟩
    rcases cf j k with h1|h1
    .exact Y j h1
    .have:=hb h;have hci:c=i.toNat:=by have J:i<=(c:Int):=J;omega
     rw[show j=k by omega,<-hci];exact this
   .cases r with
    |inl y=>exact hr
    |inr r=>exact hr
 .rintro x ⟨rfl,Y⟩;refine bI (λM=>(by dsimp only[au]at M;omega)) λ_=>ar λ_=>iv (T:=.int .i64) Y
def CN (l:List ET) (c:η):Prop:=∀t:Int,0<=t->t<c.length->aJ (T:=.int .i64) c t=((fl l t).length:Int)
theorem rS {T:Ty} (xs:List T.den) (j k:Int) (x:T.den) (hj:0<=j) (I:j<xs.length) (hk:0<=k):aJ (cw xs j x) k=if k=j then x else aJ xs k:=by
 unfold aJ cw;rw[aA,aA,o_];by_cases h:k=j
 .subst h;rw[aD rfl,aD rfl,aD (by omega)];rfl
 .rw[ay (by omega),ay h]
theorem CN.next {l:List ET} {c:η} (h:CN l c) (e:ET) (h0:0<=e.1) (h1:e.1<c.length) (hl:l.length<1000000):CN (l++[e]) (cw c e.1 (bk .i64 (aJ (T:=.int .i64) c e.1+1))):=λt t0 t1=>by
 rw[bT]at t1;have:=XT l e.1;rw[rS (T:=.int .i64) _ _ _ _ h0 h1 t0,uS];split
 .rename_i h2;subst h2;rw[zO rfl,h _ h0 h1,gO (by omega)];simp
 .rename_i h2;rw[wW λI=>h2 I.symm,h _ t0 t1];simp
structure EvF (w:WT) (e:ET):Prop where
 nm:NM w e.2.1 e.2.2.1
 t0:0<=e.1
 t1:e.1<w.2.2.2.2.1.length
 cd:∀c∈w.2.2.1,0<=c.2/\c.2<w.2.1.length
theorem aen (w:WT) (l:List ET) (hd:∀e∈l,e.2.2.2.2.2.1.length<=1000000000/\e.2.2.2.2.2.2.length<=1000000000):Ok (uB (w,l)) λy=>y.2=0->(VL w/\SV0 w)/\(∀e∈l,EvF w e)/\∃sy ce fu,Acw w l sy ce fu:=by
 unfold uB ch bL fc bz bF aY cK aF cF;refine bI (λ_=>ar λh=>(by cases h)) λhl=>?_
 dsimp only[au]at hl;refine ax (BJ w) λb hb=>?_
 refine em (λ_=>ar λh=>(by cases h)) λh=>?_
 obtain⟨hv,hsv⟩:=hb h;refine aU (Lp w hv) ?_;have hs:NB 0 (QE w,ce0 w,fu0 w,aG w.2.2.2.2.1.length 0):=⟨UL hv,by have:=hv.c;simp[ce0];omega,by have:=hv.f;simp[fu0];omega,by have:=hv.t;simp;omega⟩
 have hw:w.2.2.1.length<=1000:=by have:=hv.d;omega
 refine ca l.length (λi x=>x.1=(i:Int)/\x.2.1=(w,l)/\NB i x.2.2/\(∀k:Nat,k<i->EvF w (aJ (T:=tE) l (k:Int)))/\Acw w (l.take i) x.2.2.1 x.2.2.2.1 x.2.2.2.2.1/\CN (l.take i) x.2.2.2.2.2/\x.2.2.2.2.2.length=w.2.2.2.2.1.length) ?_ ?_ ⟨rfl,rfl,hs,λk hk=>(by omega),.nil,λt t0 t1=>?_,by simp⟩
 .rintro i ⟨a,b,s⟩ hi ⟨e1,e2,e3,Y,U,e6,Z⟩;dsimp only at e1 e2 e3 Y U e6 Z;subst e1;subst e2;refine bI (λI=>?_) λI=>(by dsimp only[au]at I;omega)
  refine cg (aS ?_);have hmem:=bJ (T:=tE) (xs:=l) (j:=(i:Int)) (by omega) (by omega);obtain⟨d1,d2⟩:=hd _ hmem;refine ax (FU w s e3 hw _ d1 d2) λy hy=>?_
  refine aZ (λx=>x.2.1=(w,l)/\x.2.2.2=y.1/\(x.1=aj->y.2=ai/\(∀z∈(aJ (T:=tE) l (i:Int)).2.2.2.2.2.1,Lz (l.take i) (aJ (T:=tE) l (i:Int)).1 z)/\∀z∈(aJ (T:=tE) l (i:Int)).2.2.2.2.2.2,Lz (l.take i) (aJ (T:=tE) l (i:Int)).1 z)) ?_ ?_
  .refine em (λ_=>ar ⟨rfl,rfl,λh=>(by cases h)⟩) λh=>?_
   refine ax (Rd l _ _ _ (by omega) ⟨by dsimp only;omega,by dsimp only;omega⟩ d1) λb1 hr1=>?_
   refine em (λ_=>ar ⟨rfl,rfl,λh=>(by cases h)⟩) λhb1=>?_
   refine ax (Rd l _ _ _ (by omega) ⟨by dsimp only;omega,by dsimp only;omega⟩ d2) λb2 hr2=>ar ⟨rfl,rfl,λhb2=>⟨h,hr1 hb1,hr2 (by simpa using hb2)⟩⟩
  .rintro⟨c,p,q,r⟩ ⟨f1,f2,f3⟩;dsimp only at f1 f2 f3;subst f1;subst f2;refine aP (λ_=>ar λh=>(by cases h)) λh=>?_
   obtain⟨f4,r1,r2⟩:=f3 h;obtain⟨J,g2,M,I⟩:=hy.1 f4;refine ar ?_;dsimp only;have htk:l.take (i+1)=l.take i++[aJ (T:=tE) l (i:Int)]:=mP (T:=tE) hi;have hc:=e6 _ J.t0 (by rw[Z];exact J.t1);have hnx:=gM Prod.fst I;have hac:=U.snoc (e:=aJ (T:=tE) l (i:Int)) ⟨J,M.rd,M.s1,M.s2,M.de,M.fr,by rw[<- hc];exact M.nd,by rw[<- hc];exact M.nf,r1,r2,M.va⟩;refine ⟨gO (by omega),rfl,g2.NB e3 (by omega),λk hk=>?_,by rw[htk,I];exact hac,by rw[htk,I];exact e6.next _ J.t0 (by rw[Z];exact J.t1) (by rw[bH];omega),by rw[I];unfold nxP;rw[bT];exact Z⟩;rcases cf k i with h1|h1
   .exact Y k h1
   .rw[show k=i by omega];exact⟨J.nm,J.t0,J.t1,J.cd⟩
 .rintro⟨a,b,s⟩ ⟨e1,e2,e3,Y,U,_⟩;dsimp only at e1 e2 e3 Y U;subst e1;subst e2;rw[cX]at U;refine bI (λI=>(by dsimp only[au]at I;omega)) λ_=>ar λ_=>⟨⟨hv,hsv⟩,iv (T:=tE) Y,_,_,_,U⟩
 .rw[eP]at t1;obtain⟨t,rfl⟩:∃n:Nat,t=(n:Int):=⟨t.toNat,by omega⟩
  rw[Pq,aA,lE];split<;>simp[fl]
structure TP (t:η×Int):Prop where
 l0:t.1.length<=9223372036854775807
 by_:∀x∈t.1,0<=x/\x<=255
 a0:0<=t.2
 a1:t.2<=t.1.length
structure vo (t t':η×Int):Prop where
 e:t'.1=t.1
 m:t.2<=t'.2
 p:TP t'
theorem vo.refl {t:η×Int} (h:TP t):vo t t:=⟨rfl,eB _,h⟩
theorem vo.trans {a b c:η×Int} (h:vo a b) (g:vo b c):vo a c:=⟨g.e.trans h.e,Int.le_trans h.m g.m,g.p⟩
theorem gp (n:Int) (t:η×Int) (h:TP t):Ok (bA (n,t)) λy=>vo t y.2/\0<=y.1/\(1<=n->y.1<n)/\(t.2<t.1.length->1<=n->t.2<y.2.2):=by
 obtain⟨L,a⟩:=t;have U:=h;obtain⟨l0,hb,a0,a1⟩:=h;dsimp only at l0 hb a0 a1;unfold bA iT bB bF aY aF cF;refine aZ (λx=>x.2=(L,a)/\(x.1=ai->a=L.length\/n<1)/\(x.1=aj->a<L.length/\1<=n)) ?_ ?_
 .refine eV (λh=>ar ⟨rfl,λ_=>?_,λh=>(by cases h)⟩) λh=>ar ⟨rfl,λh2=>?_,λh2=>?_⟩
  .dsimp only[au]at h;omega
  .rw[tX]at h2;exact .inr h2
  .rw[gi]at h2;dsimp only[au]at h h2;omega
 rintro⟨b,x⟩ ⟨e,h1,h2⟩;dsimp only at e h1 h2;subst e;refine aP (λh=>ar ⟨vo.refl U,eB _,λM=>(by dsimp only;omega),λM Z=>?_⟩) λh=>?_
 .have:=h1 h;dsimp only at M;omega
 obtain⟨J,Y⟩:=h2 h;refine aS ?_;have e1:bk .i64 (a+1)=a+1:=ic (by omega) (by omega);dsimp only;rw[e1,ic (n:=a+1-1) (by omega) (by omega),show a+1-1=a by omega];have I:=hb _ (bJ (T:=.int .u8) (xs:=L) (j:=a) a0 J);refine aR a0 J (aS ?_);generalize (aJ _ a)=z at I;have I:0<=z/\z<=255:=I;rw[ic (n:=z) (by omega) (by omega)];refine zo (by omega) (ar ?_);dsimp only;refine ⟨⟨rfl,by dsimp only;omega,⟨l0,hb,by dsimp only;omega,by dsimp only;omega⟩⟩,Int.tmod_nonneg _ I.1,λ_=>?_,λ_ _=>by omega⟩;exact Int.tmod_lt_of_pos _ (by omega)
theorem UA (s:SY) (hs:s.2.2.2.length<=1000) (y:η×η×η):Ok (kZ (s,y)) λl=>l.length<=s.2.2.2.length:=by
 unfold kZ bL bd bz bB bF aY cK aF cF;refine ca s.2.2.2.length (λi x=>x.1=(i:Int)/\x.2.length<=i) ?_ ?_ ⟨rfl,by simp⟩
 .rintro i ⟨a,b⟩ hi ⟨e1,e2⟩;dsimp only at e1 e2;subst e1;with_reducible repeat' first|(refine OS.ok ?_;constructor)|refine IM.mk λ_=>?_
  all_goals try simp only[au,rj] at*
  all_goals first|omega|(simp;omega)|skip
  .exact⟨gO (by omega),by simp;omega⟩
  .exact⟨gO (by omega),by omega⟩
 .rintro⟨a,b⟩ ⟨e1,e2⟩;dsimp only at e1 e2;subst e1;refine bI (λI=>(by dsimp only[au]at I;omega)) λ_=>ar e2
theorem YL (k u:Int) (t:η×Int) (h:TP t):Ok (oP ((k,u),t)) λy=>vo t y.2/\(k=3\/k=4->0<=y.1/\y.1<5):=by
 unfold oP bd kl aF cF;rcases @Jm k with rfl|rfl|rfl|rfl|rfl|rfl|rfl|rfl|rfl|rfl|rfl|rfl|rfl|rfl|rfl|rfl|rfl|rfl|rfl|rfl|rfl|rfl|rfl|⟨hk,J⟩
 case inr.inr.inr.inr.inr.inr.inr.inr.inr.inr.inr.inr.inr.inr.inr.inr.inr.inr.inr.inr.inr.inr.inr=>
  simp only[hk 1 (by decide) (by decide),hk 2 (by decide) (by decide),hk 3 (by decide) (by decide),hk 4 (by decide) (by decide),hk 5 (by decide) (by decide),hk 6 (by decide) (by decide),hk 7 (by decide) (by decide),hk 8 (by decide) (by decide),hk 9 (by decide) (by decide),hk 10 (by decide) (by decide),hk 11 (by decide) (by decide),hk 12 (by decide) (by decide),hk 13 (by decide) (by decide),hk 14 (by decide) (by decide),hk 15 (by decide) (by decide),hk 16 (by decide) (by decide),hk 17 (by decide) (by decide),hk 18 (by decide) (by decide),hk 19 (by decide) (by decide),hk 20 (by decide) (by decide),hk 21 (by decide) (by decide),hk 22 (by decide) (by decide),hk 23 (by decide) (by decide),aV,bn,tC];exact ar ⟨vo.refl h,λh=>(by first|omega|(simp at h;done)|(rcases h with h|h<;>cases h;done))⟩
 all_goals simp only[aV,bn,tC]
 all_goals first
  |exact ar ⟨vo.refl h,λh=>(by first|omega|(simp at h;done)|(rcases h with h|h<;>cases h;done))⟩
  |exact ax (gp 2 t h) λy I=>ar ⟨I.1,λh=>(by first|omega|(simp at h;done)|(rcases h with h|h<;>cases h;done))⟩
  |exact ax (gp 3 t h) λy I=>ar ⟨I.1,λh=>(by first|omega|(simp at h;done)|(rcases h with h|h<;>cases h;done))⟩
  |skip
 all_goals
  refine ax (gp 8 t h) λy I=>?_
  have h1:=I.2.1;have h2:=I.2.2.1 (by omega);refine aR h1 (by simp;omega) (aR h1 (by simp;omega) (aS (ar ⟨I.1,λ_=>?_⟩)));have:∀z:Int,z∈([0,0,0,1,1,2,3,4]:η)->0<=z/\z<5:=by decide
  exact this _ (bJ (T:=.int .i64) h1 (by simp;omega))
structure SZ (n:Nat) (s:SN):Prop where
 nb:NB n s
 c:s.2.1.length=5
 f:s.2.2.1.length=1
 k:s.2.2.2.length=4
theorem SZ.step {n:Nat} {s y:SN} (h:SZ n s) (hp:SP n s y) (hn:n+1<=100000):SZ (n+1) y:=
 ⟨hp.NB h.nb hn,by rw[hp.c];exact h.c,by rw[hp.f];exact h.f,by rw[hp.k];exact h.k⟩
theorem Yy {n:Nat} (s:SN) (hs:SZ n s) (k o:Int) (M:k=3->0<=o/\o<5) (t:η×Int) (h:TP t):Ok (qz ((s,k,o),t)) λy=>vo t y.2:=by
 obtain⟨s1,s2,Y,U⟩:=s;have hc:=hs.c;have hf:=hs.f;have hth:=hs.nb.sb.th;dsimp only at hc hf hth;have J:=UA s1 hth (s2,Y,U);unfold qz aX bd bz bF aY aF;rcases @Jm k with rfl|rfl|rfl|rfl|rfl|rfl|rfl|rfl|rfl|rfl|rfl|rfl|rfl|rfl|rfl|rfl|rfl|rfl|rfl|rfl|rfl|rfl|rfl|⟨hk,Z⟩
 case inr.inr.inr.inr.inr.inr.inr.inr.inr.inr.inr.inr.inr.inr.inr.inr.inr.inr.inr.inr.inr.inr.inr=>
  simp only[hk 1 (by decide) (by decide),hk 2 (by decide) (by decide),hk 3 (by decide) (by decide),hk 4 (by decide) (by decide),hk 5 (by decide) (by decide),hk 6 (by decide) (by decide),hk 7 (by decide) (by decide),hk 8 (by decide) (by decide),hk 9 (by decide) (by decide),hk 10 (by decide) (by decide),hk 11 (by decide) (by decide),hk 12 (by decide) (by decide),hk 13 (by decide) (by decide),hk 14 (by decide) (by decide),hk 15 (by decide) (by decide),hk 16 (by decide) (by decide),hk 17 (by decide) (by decide),hk 18 (by decide) (by decide),hk 19 (by decide) (by decide),hk 20 (by decide) (by decide),hk 21 (by decide) (by decide),hk 22 (by decide) (by decide),hk 23 (by decide) (by decide),aV,bn,tC];exact ar (vo.refl h)
 all_goals simp only[aV,bn,tC]
 all_goals first
  |exact ar (vo.refl h)
  |exact ax (gp 2 t h) λy I=>ar I.1
  |exact ax (gp 3 t h) λy I=>ar I.1
  |exact ax J λy I=>ar (vo.refl h)
  |exact aR (by decide) (by omega) (aS (ar (vo.refl h)))
  |exact aR (M rfl).1 (by have:=(M rfl).2;omega) (aS (ar (vo.refl h)))
  |skip
 refine ax J λl hl=>?_
 refine bI (λh1=>?_) λ_=>ar (vo.refl h)
 refine ax (gp _ t h) λy I=>?_
 dsimp only[au]at h1;have h2:=I.2.2.1 (by dsimp only[au];omega);exact aR I.2.1 h2 (aS (ar I.1))
theorem af9 (t:η×Int) (h:TP t) (r:η) (hr:r.length<=1000000):Ok (gD (t,r)) λy=>y.1.length<=r.length/\vo t y.2.1/\y.2.2=r:=by
 unfold gD aX bL bz iT bB kl aY cK aF cF;refine ca r.length (λi x=>x.1=(i:Int)/\vo t x.2.1/\x.2.2.1=r/\x.2.2.2.length<=i) ?_ ?_ ⟨rfl,vo.refl h,rfl,by simp⟩
 .rintro i ⟨a,b,c,d⟩ hi ⟨e1,e2,e3,U⟩;dsimp only at e1 e2 e3 U;subst e1;subst e3;refine bI (λM=>?_) λM=>(by dsimp only[au]at M;omega)
  refine aZ (λx=>vo t x.1/\x.2.1=c/\x.2.2.length<=i+1) ?_ ?_
  .refine cg (cg (aS ?_));refine aZ (λx=>vo t x.2.1/\x.2.2=(c,d)) ?_ ?_
   .refine aP (λ_=>?_) λ_=>ar ⟨e2,rfl⟩
    exact ax (gp 2 b e2.p) λy Y=>ar ⟨e2.trans Y.1,rfl⟩
   .rintro⟨p,q,u⟩ ⟨I,J⟩;dsimp only at I J;subst J;refine aP (λ_=>?_) λ_=>ar ⟨I,rfl,by dsimp only;omega⟩
    exact bh (by simp;omega) (by omega) (ar ⟨I,rfl,by simp;omega⟩)
  .rintro⟨p,q,u⟩ ⟨I,J,f3⟩;dsimp only at I J f3;subst J;refine ar ?_;dsimp only;exact⟨gO (by omega),I,rfl,f3⟩
 .rintro⟨a,b,c,d⟩ ⟨e1,e2,e3,U⟩;dsimp only at e1 e2 e3 U;subst e1;subst e3;refine bI (λM=>(by dsimp only[au]at M;omega)) λ_=>ar ⟨U,e2,rfl⟩
theorem ac2:tQ ()=af [3,3,3,3,3,4,4,4,4,4,5,5,5,6,6,6,7,7,7,8,9,10,11,12,13,14,14,15,16,16,17,17,18,18,19,20,1,1,2,21,22,23,23]:=rfl
abbrev RR:Type:=η×η×η×η
structure RB4 (m:Nat) (r:RR):Prop where
 r0:r.1.length<=m
 r1:r.2.1.length<=m
 r2:r.2.2.1.length<=m
 r3:r.2.2.2.length<=m
theorem acw {n:Nat} (s:SN) (hs:SZ n s) (w:WT) (hw:w.1.length=5) (t:η×Int) (h:TP t) (r:RR) (hr:RB4 1000000 r):Ok (qA ((s,w),t,r)) λy=>vo t y.2.1/\y.2.2=r/\(t.2<t.1.length->t.2<y.2.1.2)/\y.1.2.2.2.2.2.1.length<=1000000/\y.1.2.2.2.2.2.2.length<=1000000:=by
 obtain⟨r0,r1,r2,r3⟩:=r;obtain⟨h0,h1,h2,h3⟩:=hr;dsimp only at h0 h1 h2 h3;unfold qA xv Eu Prod.p12 aX bf bp ch dA jt vq xz LD Prod.q12 cR fc bd bB bF aY aF;refine ax (gp 4 t h) λy hy=>?_
 refine aU ac2 ?_;refine ax (gp _ y.2 hy.1.p) λz hz=>?_
 obtain⟨y1,yt⟩:=y;obtain⟨z1,zt⟩:=z;obtain⟨ty,yy0,yy1,yy2⟩:=hy;obtain⟨tz,zz0,zz1,_⟩:=hz;dsimp only at ty yy0 yy1 yy2 tz zz0 zz1;have yy1:=yy1 (by decide);have hzl:=zz1 (by decide);refine aR zz0 hzl (aS ?_);generalize (aJ _ z1)=k;refine ax (gp 6 zt tz.p) λv hv=>?_
 obtain⟨v1,vt⟩:=v;have tv:=hv.1;dsimp only at tv;have tt:=(ty.trans tz).trans tv;have hadv:t.2<t.1.length->t.2<vt.2:=λh=>by
  have:=yy2 h (by decide);have:=tz.m;have:=tv.m;omega
 refine aZ (λx=>x.1=vt/\x.2.1=r0/\x.2.2.1=r1/\x.2.2.2.1=r2/\x.2.2.2.2.1=r3/\x.2.2.2.2.2.1=s/\x.2.2.2.2.2.2.1=w) ?_ ?_
 .refine aZ (λx=>x.2.1=vt/\x.2.2.1=r0/\x.2.2.2.1=r1/\x.2.2.2.2.1=r2/\x.2.2.2.2.2.1=r3/\x.2.2.2.2.2.2.1=s/\x.2.2.2.2.2.2.2.1=w) ?_ ?_
  .with_reducible repeat' first|(refine OS.ok ?_;constructor)|refine IM.mk λ_=>?_
   all_goals exact⟨rfl,rfl,rfl,rfl,rfl,rfl,rfl⟩
  .rintro⟨p,q⟩ hq;dsimp only at hq;with_reducible repeat' first|(refine OS.ok ?_;constructor)|refine IM.mk λ_=>?_
   all_goals exact hq
 rintro⟨x1,x2,x3,x4,x5,x6,x7,x8,x9,x10⟩ ⟨J,Y,f3,f4,f5,f6,U⟩;dsimp only at J Y f3 f4 f5 f6 U;subst J;subst Y;subst f3;subst f4;subst f5;subst f6;subst U;refine ax (YL _ _ _ tv.p) λo Z=>?_
 obtain⟨o1,ot⟩:=o;obtain⟨to,Z⟩:=Z;dsimp only at to Z;refine ax (Yy _ hs _ _ (λhk=>Z (.inl hk)) _ to.p) λq hq=>?_
 obtain⟨q1,qt⟩:=q;dsimp only at hq;have M:=(tt.trans to).trans hq;have hadv2:t.2<t.1.length->t.2<qt.2:=λh=>by have:=hadv h;have:=to.m;have:=hq.m;omega
 have row:∀(T:η×Int) (c:η) {R:Type} (k:η×((η×Int)×η)->Option R) (Q:R->Prop),vo t T->c.length<=1000000->(∀v T',vo T T'->v.length<=1000000->Ok (k (v,T',c)) Q)->Ok (obind (gD (T,c)) k) Q:=λT c R k Q I hc hk=>by
  refine ax (af9 T I.p c hc) λy hy=>?_
  obtain⟨a,b,d⟩:=y;obtain⟨g1,g2,g3⟩:=hy;dsimp only at g1 g2 g3;subst g3;exact hk a b g2 (by omega)
 refine aZ (λx=>vo t x.1/\(t.2<t.1.length->t.2<x.1.2)/\x.2.1=x2/\x.2.2.1=x3/\x.2.2.2.1=x4/\x.2.2.2.2.1=x5/\x.2.2.2.2.2.2.2.2.2.2.2.length<=1000000) ?_ ?_
 .refine aZ (λx=>x.2.1=qt/\x.2.2.1=x2/\x.2.2.2.1=x3/\x.2.2.2.2.1=x4/\x.2.2.2.2.2.1=x5) ?_ ?_
  .refine aK (λ_=>ar ⟨rfl,rfl,rfl,rfl,rfl⟩) λ_=>?_
   refine aK (λhk=>?_) λ_=>aK (λhk=>?_) λ_=>ar ⟨rfl,rfl,rfl,rfl,rfl⟩
   .exact aR (Z (.inl hk)).1 (by dsimp only;rw[hw];exact (Z (.inl hk)).2) (aS (ar ⟨rfl,rfl,rfl,rfl,rfl⟩))
   .exact aR (Z (.inr hk)).1 (by dsimp only;rw[hw];exact (Z (.inr hk)).2) (aS (ar ⟨rfl,rfl,rfl,rfl,rfl⟩))
  .rintro⟨b,p1,p2,p3,p4,p5,p6⟩ ⟨J,Y,f3,f4,f5⟩;dsimp only at J Y f3 f4 f5;subst J;subst Y;subst f3;subst f4;subst f5;refine aP (λ_=>?_) λ_=>ar ⟨M,hadv2,rfl,rfl,rfl,rfl,by simp⟩
   have adv3:∀T',vo p1 T'->t.2<t.1.length->t.2<T'.2:=λT' I h=>by have:=hadv2 h;have:=I.m;omega
   refine aK (λ_=>?_) λ_=>aK (λ_=>?_) λ_=>aK (λ_=>?_) λ_=>aK (λ_=>?_) λ_=>?_
   .refine row p1 p2 _ _ M h0 λv T' I hv=>?_
    refine di (lH rfl (Bh ?_));exact ar ⟨M.trans I,adv3 T' I,rfl,rfl,rfl,rfl,hv⟩
   .refine row p1 p3 _ _ M h1 λv T' I hv=>?_
    refine di (lH rfl (Bh ?_));exact ar ⟨M.trans I,adv3 T' I,rfl,rfl,rfl,rfl,hv⟩
   .refine row p1 p4 _ _ M h2 λv T' I hv=>?_
    refine di (lH rfl (Bh ?_));exact ar ⟨M.trans I,adv3 T' I,rfl,rfl,rfl,rfl,hv⟩
   .refine row p1 p5 _ _ M h3 λv T' I hv=>?_
    refine di (lH rfl (Bh ?_));exact ar ⟨M.trans I,adv3 T' I,rfl,rfl,rfl,rfl,hv⟩
   .omega
 rintro⟨u1,u2,u3,u4,u5,u6,u7,u8,u9,u10,u11,u12⟩ ⟨J,Y,f3,f4,f5,f6,U⟩;dsimp only at J Y f3 f4 f5 f6 U;subst f3;subst f4;subst f5;subst f6;refine aZ (λx=>vo t x.1/\(t.2<t.1.length->t.2<x.1.2)/\x.2.1=u2/\x.2.2.1=u3/\x.2.2.2.1=u4/\x.2.2.2.2.1=u5/\x.2.2.2.2.2.2.2.2.2.2.2.1.length<=1000000/\x.2.2.2.2.2.2.2.2.2.2.2.2.length<=1000000) ?_ ?_
 .refine aZ (λx=>x.2=(u1,u2,u3,u4,u5,u6,u7,u8,u9,u10,u11,u12)) ?_ ?_
  .with_reducible repeat' first|(refine OS.ok ?_;constructor)|refine IM.mk λ_=>?_
   all_goals rfl
  .rintro⟨b,x⟩ e;dsimp only at e;subst e;refine aP (λ_=>?_) λ_=>ar ⟨J,Y,rfl,rfl,rfl,rfl,U,by simp⟩
   have adv3:∀T',vo u1 T'->t.2<t.1.length->t.2<T'.2:=λT' I h=>by have:=Y h;have:=I.m;omega
   refine aK (λ_=>?_) λ_=>aK (λ_=>?_) λ_=>aK (λ_=>?_) λ_=>aK (λ_=>?_) λ_=>?_
   .refine row u1 u2 _ _ J h0 λv T' I hv=>?_
    refine di (lH rfl (Bh ?_));exact ar ⟨J.trans I,adv3 T' I,rfl,rfl,rfl,rfl,U,hv⟩
   .refine row u1 u3 _ _ J h1 λv T' I hv=>?_
    refine di (lH rfl (Bh ?_));exact ar ⟨J.trans I,adv3 T' I,rfl,rfl,rfl,rfl,U,hv⟩
   .refine row u1 u4 _ _ J h2 λv T' I hv=>?_
    refine di (lH rfl (Bh ?_));exact ar ⟨J.trans I,adv3 T' I,rfl,rfl,rfl,rfl,U,hv⟩
   .refine row u1 u5 _ _ J h3 λv T' I hv=>?_
    refine di (lH rfl (Bh ?_));exact ar ⟨J.trans I,adv3 T' I,rfl,rfl,rfl,rfl,U,hv⟩
   .omega
 rintro⟨a1,a2,a3,a4,a5,a6,a7⟩ ⟨g1,g2,g3,g4,g5,g6,g7,g8⟩;dsimp only at g1 g2 g3 g4 g5 g6 g7 g8;subst g3;subst g4;subst g5;subst g6;exact ar ⟨g1,rfl,g2,g7,g8⟩
def EvS (e:ET):Prop:=e.2.2.2.2.2.1.length<=1000000/\e.2.2.2.2.2.2.length<=1000000
theorem afg {m:Nat} (hm:m<=1000) (s:SN) (hs:SZ m s) (w:WT) (hw:w.1.length=5) (hwt:w.2.2.2.2.1.length=4) (hwc:w.2.2.1.length<=1000) (n:Int) (hn:n<=60) (t:η×Int) (h:TP t):Ok (sB ((s,w,n,aj),t)) λy=>(∀e∈y.1,EvS e)/\y.1.length<=60:=by
 unfold sB aX bf bp ch dA jt vq xz Prod.q10 bL cR fc kK nM Oi bd bz bB bF aY cK aF;refine di (di (di (eA (by dsimp only[au];omega) (eA (eB _) (bh (by dsimp only[au];omega) (by omega) (XB (by dsimp only[au];omega) ?_))))));refine aZ (λx=>x=(t,s,w,[],[],[],[])) ⟨_,rfl,rfl⟩ ?_;rintro x rfl;refine qr (λx=>((t.1.length:Int)-x.1.2).toNat) (λx=>vo t x.1/\x.2.2.1=w/\SZ (m+x.2.2.2.1.length) x.2.1/\x.2.2.2.1.length<=60/\(∀e∈x.2.2.2.1,EvS e)/\RB4 x.2.2.2.1.length x.2.2.2.2) ?_ ⟨vo.refl h,rfl,(by simpa using hs),by simp,λe he=>(by cases he),⟨by simp,by simp,by simp,by simp⟩⟩;rintro⟨I,s,w',out,r⟩ ⟨i1,i2,U,i4,i5,i6⟩;dsimp only at i1 i2 U i4 i5 i6;subst i2;refine aZ (λx=>x.2=(I,s,w',out,r)/\(x.1=ai->out.length<60/\I.2<I.1.length)) ?_ ?_
 .refine bI (λh1=>ar ⟨rfl,λh2=>?_⟩) λ_=>ar ⟨rfl,λh=>(by cases h)⟩
  rw[tX]at h2;dsimp only[au]at h1 h2;exact⟨by omega,h2⟩
 rintro⟨b,x⟩ ⟨e,hb⟩;dsimp only at e hb;subst e;refine aP (λh1=>?_) λ_=>ar ⟨i5,i4⟩
 obtain⟨ho,ht⟩:=hb h1;obtain⟨q0,q1,q2,q3⟩:=id i6;refine aZ (λx=>vo I x.1/\I.2<x.1.2/\x.2.2.1=w'/\SZ (m+x.2.2.2.1.length) x.2.1/\x.2.2.2.1.length<=60/\(∀e∈x.2.2.2.1,EvS e)/\RB4 x.2.2.2.1.length x.2.2.2.2) ?_ ?_
 .refine ax (acw s U w' hw I i1.p r ⟨by omega,by omega,by omega,by omega⟩) λy hy=>?_
  obtain⟨ev,tp',r'⟩:=y;obtain⟨j1,j2,j3,M,J⟩:=hy;dsimp only at j1 j2 j3 M J;subst j2;have j3:=j3 ht;refine di (lH rfl (di (lH rfl (di (lH rfl (di (lH rfl (Bh ?_))))))));refine ax (FU w' s U.nb hwc ev (by omega) (by omega)) λz hz=>?_
  refine em (λ_=>ar ⟨j1,j3,rfl,U,i4,i5,i6⟩) λh2=>?_
  obtain⟨z1,z2⟩:=z;obtain⟨hE,hS,_⟩:=hz.1 h2;have hS2:=U.step hS (by omega);refine aZ (λx=>x.1=tp'/\x.2.2.1=w'/\x.2.2.2.1=out/\EvS x.2.2.2.2.1/\x.2.2.2.2.2.1=z1/\RB4 (out.length+1) x.2.2.2.2.2.2) ?_ ?_
  .refine aZ (λx=>x.2=(tp',s,w',out,ev,z1,r')) ?_ ?_
   .refine aK (λ_=>ar rfl) λ_=>ar rfl
   .rintro⟨b,x⟩ e;dsimp only at e;subst e;have hk:=U.k;obtain⟨ev1,ev2⟩:=ev;have t0:=hE.t0;have t1:=hE.t1;rw[hwt]at t1;dsimp only at t0 t1;refine aP (λ_=>?_) λ_=>ar ⟨rfl,rfl,rfl,⟨M,J⟩,rfl,⟨by dsimp only;omega,by dsimp only;omega,by dsimp only;omega,by dsimp only;omega⟩⟩
    refine aK (λ_=>?_) λ_=>aK (λ_=>?_) λ_=>aK (λ_=>?_) λ_=>aK (λ_=>?_) λ_=>?_
    .exact aR (by decide) (by dsimp only;omega) (aS (bh (by simp;omega) (by omega) (ar ⟨rfl,rfl,rfl,⟨M,J⟩,rfl,⟨by simp;omega,by dsimp only;omega,by dsimp only;omega,by dsimp only;omega⟩⟩)))
    .exact aR (by decide) (by dsimp only;omega) (aS (bh (by simp;omega) (by omega) (ar ⟨rfl,rfl,rfl,⟨M,J⟩,rfl,⟨by dsimp only;omega,by simp;omega,by dsimp only;omega,by dsimp only;omega⟩⟩)))
    .exact aR (by decide) (by dsimp only;omega) (aS (bh (by simp;omega) (by omega) (ar ⟨rfl,rfl,rfl,⟨M,J⟩,rfl,⟨by dsimp only;omega,by dsimp only;omega,by simp;omega,by dsimp only;omega⟩⟩)))
    .exact aR (by decide) (by dsimp only;omega) (aS (bh (by simp;omega) (by omega) (ar ⟨rfl,rfl,rfl,⟨M,J⟩,rfl,⟨by dsimp only;omega,by dsimp only;omega,by dsimp only;omega,by simp;omega⟩⟩)))
    .dsimp only at *;omega
  .rintro⟨x1,x2,x3,x4,x5,x6,x7⟩ ⟨k1,k2,k3,k4,Z,Y⟩;dsimp only at k1 k2 k3 k4 Z Y;subst k1;subst k2;subst k3;subst Z;refine bh (by simp;omega) (by omega) (ar ⟨j1,j3,rfl,?_,by simp;omega,λe he=>?_,?_⟩)
   .dsimp only;rw[bx,dS,<-pO];exact hS2
   .rcases bV.1 he with he|he
    .exact i5 e he
    .rw[aL]at he;subst he;exact k4
   .dsimp only;rw[bx,dS];exact Y
 rintro⟨tp',s',w'',out',r'⟩ ⟨k1,k2,k3,k4,Z,Y,k7⟩;dsimp only at k1 k2 k3 k4 Z Y k7;have e1:=i1.e;have a1:=k1.p.a1;have e2:=k1.e;refine ar ⟨⟨i1.trans k1,k3,k4,Z,Y,k7⟩,?_⟩;dsimp only;rw[e2,e1]at a1;omega
def C0:List (ζ×Int×Int×Bool×Int):=[([120],0,0,aj,0),([121],0,0,aj,1),([118],0,0,ai,0),([113],0,2,aj,0),([113],1,2,aj,0)]
def Hl:List (ζ×Bool):=[([109],aj),([110],aj),([114],ai)]
def MY:List (ζ×Int):=[([99],0)]
def Ug:List ζ:=[[102]]
def wB:List ζ:=[[109,97,105,110],[116,49],[116,50],[116,51]]
structure WX (w:WT):Prop where
 c:w.1=C0
 l:w.2.1=Hl
 d:w.2.2.1=MY
 f:w.2.2.2.1=Ug
 t:∃n,1<=n/\n<=4/\w.2.2.2.2.1=wB.take n
 s:w.2.2.2.2.2.length<=60
 v:SV0 w
structure W0 (w:WT):Prop where
 c:w.1.length=5
 l:w.2.1.length=3
 d:w.2.2.1.length=1
 f:w.2.2.2.1.length=1
 t:w.2.2.2.2.1.length=4
 s:w.2.2.2.2.2.length<=24
 x:WX w
theorem W0.vl {w:WT} (h:W0 w):VL w:=⟨by rw[h.c];decide,by rw[h.l];decide,by rw[h.d];decide,by rw[h.f];decide,by rw[h.t];decide,by rw[h.t];decide,by have:=h.s;omega⟩
def nxS (i j:Nat):ν:=if j=0 then (if i=0 then (0,0) else ((i:Int)-1,6)) else (i,j)
theorem Xi {T:Int} {l:List π} {s:π}:LL T (l++[s])=Uv T (LL T l) s:=by unfold LL;rw[dR];rfl
theorem TY:Ok (nP ()) W0:=by
 unfold nP aX bf bp ch fc bz bB cK aF cF;refine ca 4 (λi x=>x.1=(i:Int)/\x.2.1=C0/\x.2.2.1=Hl/\x.2.2.2.1=MY/\x.2.2.2.2.1=Ug/\x.2.2.2.2.2.1=wB/\x.2.2.2.2.2.2.length<=6*i/\LL 4 x.2.2.2.2.2.2=af (nxS i 0)) ?_ ?_ ⟨rfl,rfl,rfl,rfl,rfl,rfl,by simp,rfl⟩
 .rintro i ⟨a,w1,w2,w3,w4,w5,w6⟩ hi ⟨e1,e2,e3,Z,Y,I,e7,U⟩;dsimp only at e1 e2 e3 Z Y I e7 U;subst e1;have hl5:w5.length=4:=by rw[I];rfl
  refine bI (λ_=>?_) λg=>(by dsimp only[au]at g;simp at g;omega)
  refine ca 6 (λj x=>x.1=(j:Int)/\x.2.1=w1/\x.2.2.1=w2/\x.2.2.2.1=w3/\x.2.2.2.2.1=w4/\x.2.2.2.2.2.1=w5/\x.2.2.2.2.2.2.length<=6*i+j/\LL 4 x.2.2.2.2.2.2=af (nxS i j)) ?_ ?_ ⟨rfl,rfl,rfl,rfl,rfl,rfl,by dsimp only;omega,U⟩
  .rintro j ⟨b,v1,v2,v3,v4,v5,v6⟩ hj ⟨d1,d2,d3,d4,d5,d6,d7,d8⟩;dsimp only at d1 d2 d3 d4 d5 d6 d7 d8;subst d1;refine du ?_;refine bh (by simp;omega) (by omega) (ar ?_);dsimp only;refine ⟨gO (by omega),d2,d3,d4,d5,d6,by simp;omega,?_⟩;rw[Xi,d8];by_cases J:j=0
   .subst J;by_cases M:i=0
    .subst M;rfl
    .rw[show nxS i 0=((i:Int)-1,6) by unfold nxS;simp[M],show nxS i (0+1)=((i:Int),1) by unfold nxS;simp];unfold Uv;dsimp only;rw[ay (λh=>by have:=h.1;omega),aD ⟨by omega,by omega,rfl⟩]
   .rw[show nxS i j=((i:Int),(j:Int)) by unfold nxS;simp[J],show nxS i (j+1)=((i:Int),(j:Int)+1) by unfold nxS;simp];unfold Uv;dsimp only;rw[aD ⟨rfl,rfl⟩]
  .rintro⟨b,v1,v2,v3,v4,v5,v6⟩ ⟨d1,d2,d3,d4,d5,d6,d7,d8⟩;dsimp only at d1 d2 d3 d4 d5 d6 d7 d8;subst d1;subst d2;subst d3;subst d4;subst d5;subst d6;refine dv (ar ?_);dsimp only;refine ⟨gO (by omega),e2,e3,Z,Y,I,by omega,?_⟩;rw[d8];unfold nxS;simp
 .rintro⟨a,w1,w2,w3,w4,w5,w6⟩ ⟨e1,e2,e3,Z,Y,I,e7,U⟩;dsimp only at e1 e2 e3 Z Y I e7 U;subst e1;subst e2;subst e3;subst Z;subst Y;subst I;refine bI (λg=>(by dsimp only[au]at g;simp[wB]at g)) λ_=>ar ?_
  refine ⟨rfl,rfl,rfl,rfl,rfl,by dsimp only;omega,rfl,rfl,rfl,rfl,⟨4,by decide,by decide,rfl⟩,by dsimp only;omega,?_⟩;unfold SV0;show LL 4 w6≠ah;rw[U];simp
theorem SZ.mono {n m:Nat} {s:SN} (h:SZ n s) (hnm:n<=m) (hm:m<=100000):SZ m s:=
 ⟨⟨⟨hm,h.nb.sb.lk,λl hl=>dg (h.nb.sb.rd l hl) hnm,h.nb.sb.dn,h.nb.sb.th⟩,h.nb.c,h.nb.f,h.nb.k⟩,h.c,h.f,h.k⟩
theorem WN (w:WT) (I:W0 w):Ok (mU w) λs=>SZ 0 s:=by
 refine (WO w I.vl).mono λs hs=>⟨hs.1,?_,?_,?_⟩
 .rw[hs.2.1,I.c]
 .rw[hs.2.2.1,I.f]
 .rw[hs.2.2.2,I.t]
structure WB (w:WT):Prop where
 c:w.1.length<=12
 l:w.2.1.length<=4
 d:w.2.2.1.length<=2
 f:w.2.2.2.1.length<=2
 t:w.2.2.2.2.1.length<=4
 s:w.2.2.2.2.2.length<=60
theorem VL.wb {w:WT} (h:VL w):WB w:=⟨h.c,h.l,h.d,h.f,h.t,h.s⟩
structure TR (y:WT×List ET):Prop where
 wb:WB y.1
 vl:VL y.1
 ev:∀e∈y.2,EvF y.1 e
 len:y.2.length<=400
 ls:∀e∈y.2,EvS e
 wx:WX y.1
 ac:∃sy ce fu,Acw y.1 y.2 sy ce fu
theorem IP (L:η) (n:Int) (hl:L.length<=9223372036854775807) (hb:∀x∈L,0<=x/\x<=255):Ok (qB (L,n)) TR:=by
 unfold qB aX bf bp dw cR bz iT iR bB kl aY cK aF cF;refine aZ (λx=>x.length<=600/\∀z∈x,0<=z/\z<=255) ?_ ?_
 .refine bI (λg=>?_) λg=>?_
  .dsimp only[au]at g;refine di (eA (by omega) (eA (by dsimp only;omega) (ar ⟨by dsimp only;rw[bH];simp;omega,λz I=>hb z (fZ I)⟩)))
  .dsimp only[au]at g;exact ar ⟨by dsimp only;omega,hb⟩
 rintro L' ⟨hL,hB⟩;refine ax TY λw J=>?_
 have hvl:=J.vl;refine ax (WN w J) λs hs=>?_
 refine ax (gp 3 (L',0) ⟨by dsimp only;omega,hB,by dsimp only;omega,by dsimp only;omega⟩) λy hy=>?_
 obtain⟨y1,yt⟩:=y;obtain⟨ty,yy0,yy1,_⟩:=hy;have yy1:=yy1 (by decide);dsimp only at ty yy0 yy1;have ew:bk .i64 (1+y1)=1+y1:=ic (by omega) (by omega);refine qr (λx=>(1+y1+1-x.1).toNat) (λx=>1<=x.1/\x.1<=2+y1/\x.2.1=yt/\x.2.2.1=w/\x.2.2.2.1=s/\((x.2.2.2.2.length:Nat):Int)<=2*x.1/\∀e∈x.2.2.2.2,EvS e) ?_ ⟨by dsimp only;omega,by dsimp only;omega,rfl,rfl,rfl,by simp,λe he=>?_⟩
 .rintro⟨a,t,w',s',es⟩ ⟨e1,e2,e3,e4,e5,e6,e7⟩;dsimp only at e1 e2 e3 e4 e5 e6 e7;subst e3;subst e4;subst e5;refine eV (λg=>?_) λg=>?_
  .dsimp only at g;rw[ew]at g;refine bh (by simp;omega) (by omega) (ar ?_);dsimp only;rw[ic (n:=a+1) (by omega) (by omega)];refine ⟨⟨by omega,by omega,rfl,rfl,rfl,by simp;omega,λe he=>?_⟩,by omega⟩;rcases bV.1 he with he|he
   .exact e7 e he
   .simp only[bm,cD,gh]at he;rcases he with he|he<;>subst he<;>exact⟨by simp,by simp⟩
  .refine ax (P:=TR) ?_ λr hr=>ar hr
   refine ca es.length (λi x=>x.1=(i:Int)/\TP x.2.1/\x.2.2.1=w'/\SZ i x.2.2.2.1/\x.2.2.2.2.1=es/\x.2.2.2.2.2.length<=i/\∀e∈x.2.2.2.2.2,EvS e) ?_ ?_ ⟨rfl,ty.p,rfl,hs,rfl,by simp,λe he=>(by cases he)⟩
   .rintro i ⟨b,t,w',s',es',out⟩ hi ⟨d1,U,Z,M,Y,d6,d7⟩;dsimp only at d1 U Z M Y d6 d7;subst d1;subst Z;subst Y;refine du ?_;refine aZ (λx=>TP x.1/\x.2.1=w'/\SZ (i+1) x.2.2.1/\x.2.2.2.1=es'/\x.2.2.2.2.length<=i+1/\∀e∈x.2.2.2.2,EvS e) ?_ ?_
    .refine cg (cg (aS ?_));have I:=e7 _ (bJ (T:=.st (.pr (.int .i64) (.pr (.int .i64) (.pr (.int .i64) (.pr (.int .i64) (.pr (.int .i64) (.pr (.sl (.int .i64)) (.sl (.int .i64))))))))) (xs:=es') (j:=(i:Int)) (by omega) (by omega));revert I;generalize (aJ _ _)=z;intro I;refine ax (FU w' s' M.nb (by rw[J.d];decide) z (by have:=I.1;omega) (by have:=I.2;omega)) λv hv=>?_
     refine aP (λh=>?_) λh=>ar ⟨U,rfl,M.mono (by omega) (by omega),rfl,by dsimp only;omega,d7⟩
     refine bh (by simp;omega) (by omega) (ar ⟨U,rfl,M.step (hv.1 h).2.1 (by omega),rfl,by simp;omega,λe he=>?_⟩);rcases bV.1 he with he|he
     .exact d7 e he
     .rw[aL]at he;subst he;exact I
    .rintro⟨t,w'',s'',es'',out'⟩ ⟨f1,f2,f3,f4,f5,f6⟩;dsimp only at f1 f2 f3 f4 f5 f6;refine ar ?_;dsimp only;exact⟨gO (by omega),f1,f2,f3,f4,f5,f6⟩
   .rintro⟨b,t,w',s',es',out⟩ ⟨d1,U,Z,M,Y,d6,d7⟩;dsimp only at d1 U Z M Y d6 d7;subst d1;subst Z;subst Y;refine dv ?_;refine ax (P:=TR) ?_ λr hr=>ar hr
    have hmin:Hy (ir n 0) 60<=60:=by
     unfold Hy;split
     .omega
     .rename_i h;simp[fV]at h;exact h
    refine ax (afg (by omega) s' M w' J.c J.t (by rw[J.d];decide) _ hmin t U) λv hv=>?_
    refine bh (by have:=hv.2;dsimp only;omega) (by omega) ?_;have hall:∀e∈out++v.1,EvS e:=λe he=>by
     rcases bV.1 he with he|he
     .exact d7 e he
     .exact hv.1 e he
    refine ax (aen w' (out++v.1) λe he=>by have:=hall e he;exact⟨by have:=this.1;omega,by have:=this.2;omega⟩) λc hc=>?_
    refine ci (λ_=>?_) λh=>?_
    .exact ax TY λu hu=>ar ⟨hu.vl.wb,hu.vl,λe he=>(by cases he),by simp,λe he=>(by cases he),hu.x,_,_,_,.nil⟩
    .exact ar ⟨(hc h).1.1.wb,(hc h).1.1,(hc h).2.1,by have:=hv.2;simp;omega,hall,J.x,(hc h).2.2⟩
 .rw[aL]at he;subst he;exact⟨by simp,by simp⟩
abbrev IT:Type:=ω
abbrev CT:Type:=WT×List (Int×List IT)
theorem sg (a b:Int):jw (a,b)=af (decide (0<=a/\a<b)):=by
 refine cI ?_;unfold jw iT aF;with_reducible repeat' first|(refine OS.ok ?_;constructor)|refine IM.mk λ_=>?_
 .by_cases h:a<b<;>simp[*,fV]
 .simp;omega
theorem FW (k:Int):pW k=af (decide (1<=k/\k<=5)):=by
 refine cI ?_;unfold pW iT aF;with_reducible repeat' first|(refine OS.ok ?_;constructor)|refine IM.mk λ_=>?_
 .by_cases h:k<=5<;>simp[*,c6]
 .simp;omega
def iS (i:IT):η:=
 if i.1=1\/i.1=6\/i.1=10\/i.1=27 then [i.2.1]
 else if i.1=2\/i.1=3 then [i.2.1,i.2.2.1]
 else if i.1=4 then [i.2.1,i.2.2.1,i.2.2.2.1]
 else if i.1=7 then [i.2.1,i.2.2.2.1]
 else if i.1=8\/i.1=26 then [i.2.2.1]
 else if i.1=9 then [i.2.2.1,i.2.2.2.1]
 else []
theorem ua (i:IT):jK i=af (iS i):=by
 obtain⟨I,i2⟩:=i;unfold jK iS aX bf bp bd aF;by_cases h1:I=1
 .subst h1;rfl
 by_cases h2:I=6
 .subst h2;rfl
 by_cases h3:I=10
 .subst h3;rfl
 by_cases h4:I=27
 .subst h4;rfl
 by_cases h5:I=2
 .subst h5;rfl
 by_cases h6:I=3
 .subst h6;rfl
 by_cases Z:I=4
 .subst Z;rfl
 by_cases Y:I=7
 .subst Y;rfl
 by_cases U:I=8
 .subst U;rfl
 by_cases M:I=26
 .subst M;rfl
 by_cases J:I=9
 .subst J;rfl
 simp only[h1,h2,h3,h4,h5,h6,Z,Y,U,M,J,cB,bcF,jnr,gh,ef]
theorem C3 (z:IT):(iS z).length<=3:=by
 unfold iS
 (repeat' split)<;>simp
theorem ac1 (l:List IT) (a:Int) (hl:l.length<=1000000):Ok (pB (l,a)) λ_=>True:=by
 unfold pB bd bz iT bF aY cK aF cF;refine qr (λx=>((l.length:Int)+1-x.2).toNat) (λx=>0<=x.2/\x.2<=(l.length:Int)+1) ?_ ⟨by dsimp only;omega,by dsimp only;omega⟩;rintro⟨(a:Int),(n:Int)⟩ ⟨h0,h1⟩;dsimp only at h0 h1;refine eV (λg=>?_) λ_=>ar trivial
 dsimp only[au]at g;refine aZ (λ_=>True) ?_ λb _=>ar ?_
 .refine aZ (λb=>b=aj->0<=a/\a<(l.length:Int)) ?_ ?_
  .refine bI (λ_=>ar λh=>(by cases h)) λI=>ar λh=>?_
   rw[me]at h;dsimp only[au]at h I;exact⟨I,h⟩
  .intro b hb;refine aP (λ_=>ar trivial) λh=>?_
   obtain⟨q0,J⟩:=hb h;refine aR q0 (by dsimp only;omega) (aS ?_);refine aU (FW _) ?_;refine em (λ_=>ar trivial) λ_=>?_
   refine aR q0 (by dsimp only;omega) (aS ?_);refine aK (λ_=>?_) λ_=>ar trivial
   exact aR q0 (by dsimp only;omega) (aS (ar trivial))
 .dsimp only;rw[ic (by omega) (by omega)];exact⟨⟨by omega,by omega⟩,by omega⟩
structure AR (w:WT) (b n:Int):Prop where
 b0:0<=b
 b1:b<w.1.length
 ix:(aJ (T:=QU) w.1 b).2.1=0
 sz:¬(aJ (T:=QU) w.1 b).2.2.1=0
 sn:(aJ (T:=QU) w.1 b).2.2.1=n
theorem TJ (w:WT) (b n:Int):Ok (nk (w,b,n)) λr=>r=ai->AR w b n:=by
 unfold nk bd iR bF aY aF;refine gC ?_;refine aU (sg _ _) ?_;refine aK (λh=>?_) λ_=>ar (ar λh=>(by cases h))
 refine aR h.1 h.2 (aS (aK (λh1=>?_) λ_=>ar (ar λh=>(by cases h))));refine aR h.1 h.2 (aS (ci (λh2=>?_) λ_=>ar (ar λh=>(by cases h))));exact aR h.1 h.2 (aS (ar (ar λI=>⟨h.1,h.2,h1,h2,bw I⟩)))
theorem UX (w:WT) (i:IT):Ok (lK (w,i)) λb=>b=ai->(i.1=7->AR w i.2.2.1 i.2.2.2.2.1)/\(i.1=9->AR w i.2.1 i.2.2.2.2.1):=by
 have tr:∀{b:Bool},¬i.1=7->¬i.1=9->b=ai->(i.1=7->AR w i.2.2.1 i.2.2.2.2.1)/\(i.1=9->AR w i.2.1 i.2.2.2.2.1):=λh1 h2 _=>⟨λh=>(h1 h).elim,λh=>(h2 h).elim⟩
 unfold lK aX bf bp ch dA bd iT bF aY aF;simp only[sg,XC];refine aK (λM=>?_) λ_=>?_
 .refine aZ (λ_=>True) ?_ λ_ _=>ar (tr (by have M:i.1=6:=M;omega) (by have M:i.1=6:=M;omega))
  refine aK (λh=>?_) λ_=>ar trivial
  exact aR h.1 h.2 (aS (ar trivial))
 refine aK (λI=>?_) λ_=>?_
 .refine aZ (λ_=>True) ?_ λ_ _=>ar (tr (by have I:i.1=8:=I;omega) (by have I:i.1=8:=I;omega))
  refine aK (λh=>?_) λ_=>ar trivial
  exact aR h.1 h.2 (aS (ar trivial))
 refine aK (λJ=>?_) λU=>?_
 .exact ax (TJ _ _ _) λ_ h=>ar λh2=>⟨λ_=>h h2,λZ=>by have J:i.1=7:=J;omega⟩
 refine aK (λZ=>?_) λY=>?_
 .exact ax (TJ _ _ _) λ_ h=>ar λh2=>⟨λJ=>(U J).elim,λ_=>h h2⟩
 have tr:∀{b:Bool},b=ai->(i.1=7->AR w i.2.2.1 i.2.2.2.2.1)/\(i.1=9->AR w i.2.1 i.2.2.2.2.1):=tr U Y;refine aZ (λx=>x.2=(w,i)) (aK (λ_=>ar rfl) λ_=>ar rfl) ?_;rintro⟨b,x⟩ e;dsimp only at e;subst e;refine aP (λ_=>?_) λ_=>?_
 .refine aZ (λ_=>True) ?_ λ_ _=>ar tr
  refine aK (λh=>?_) λ_=>ar trivial
  exact aR h.1 h.2 (aS (ar trivial))
 refine aZ (λx=>x.2=(w,i)) (aK (λ_=>ar rfl) λ_=>aK (λ_=>ar rfl) λ_=>aK (λ_=>ar rfl) λ_=>ar rfl) ?_;rintro⟨b,x⟩ e;dsimp only at e;subst e;refine aP (λ_=>?_) λ_=>?_
 .refine aZ (λ_=>True) ?_ λ_ _=>ar tr
  refine aK (λh=>?_) λ_=>ar trivial
  exact aR h.1 h.2 (aS (ar trivial))
 refine aZ (λx=>x.2=(w,i)) (aK (λ_=>ar rfl) λ_=>aK (λ_=>ar rfl) λ_=>ar rfl) ?_;rintro⟨b,x⟩ e;dsimp only at e;subst e;refine aP (λ_=>ar tr) λ_=>?_
 refine aZ (λx=>x.2=(w,i)) (aK (λ_=>ar rfl) λ_=>ar rfl) ?_;rintro⟨b,x⟩ e;dsimp only at e;subst e;with_reducible repeat' first|(refine OS.ok ?_;constructor)|refine IM.mk λ_=>?_
 all_goals exact tr
structure VI (n:Int) (i:IT):Prop where
 o1:1<=i.1
 o2:i.1<=28
 r:∀j∈iS i,0<=j/\j<n
structure VT (t:Int×List IT):Prop where
 r0:0<=t.1
 r1:t.1<=32
 i:∀i∈t.2,VI t.1 i
structure VJ (w:WT) (k:Int) (i:IT):Prop where
 a7:i.1=7->AR w i.2.2.1 i.2.2.2.2.1
 a9:i.1=9->AR w i.2.1 i.2.2.2.2.1
 se:i.1=28->i.2.2.2.2.2= -1
 si:¬i.1=28->0<=i.2.2.2.2.2/\i.2.2.2.2.2<w.2.2.2.2.2.length/\(aJ (T:=yz) w.2.2.2.2.2 i.2.2.2.2.2).1=k
theorem IG (w:WT) (k:Int) (c:Int×List IT) (hc:c.2.length<=1000000):Ok (io (w,k,c)) λb=>b=ai->VT c/\∀i∈c.2,VJ w k i:=by
 unfold io aX bf bp ch bL cR nM bd bz iR bF aY cK aF cF;refine aZ (λx=>x.2=(w,c)/\(x.1=aj->0<=c.1/\c.1<=32)) ?_ ?_
 .refine bI (λ_=>ar ⟨rfl,λh=>(by cases h)⟩) λh0=>bI (λ_=>ar ⟨rfl,λh=>(by cases h)⟩) λh1=>ar ⟨rfl,λ_=>⟨h0,h1⟩⟩
 rintro⟨b,x⟩ ⟨e,hb⟩;dsimp only at e hb;subst e;refine aP (λ_=>ar λh=>(by cases h)) λh=>?_
 obtain⟨r0,r1⟩:=hb h;refine ca c.2.length (λi x=>x.1=(i:Int)/\x.2=(w,c)/\∀q:Nat,q<i->VI c.1 (aJ (T:=BT) c.2 (q:Int))/\VJ w k (aJ (T:=BT) c.2 (q:Int))) ?_ ?_ ⟨rfl,rfl,λk hk=>by omega⟩
 .rintro i ⟨a,x⟩ hi ⟨e1,e2,e3⟩;dsimp only at e1 e2 e3;subst e1;subst e2;refine du ?_;refine cg (aS ?_);generalize Y:(aJ _ _)=z;refine aZ (λx=>x.2=(w,c,z)/\(x.1=aj->(1<=z.1/\z.1<=28)/\(z.1=7->AR w z.2.2.1 z.2.2.2.2.1)/\(z.1=9->AR w z.2.1 z.2.2.2.2.1))) ?_ ?_
  .refine bI (λ_=>ar ⟨rfl,λh=>(by cases h)⟩) λh0=>bI (λ_=>ar ⟨rfl,λh=>(by cases h)⟩) λh1=>?_
   refine aP (λ_=>ar ⟨rfl,λh=>(by cases h)⟩) λ_=>?_
   refine ax (UX w z) λy Z=>?_
   refine em (λ_=>ar ⟨rfl,λh=>(by cases h)⟩) λhyt=>?_
   exact ax (ac1 c.2 _ hc) λy _=>ar ⟨rfl,λ_=>⟨⟨h0,h1⟩,Z hyt⟩⟩
  rintro⟨b,x⟩ ⟨e,hb⟩;dsimp only at e hb;subst e;refine aP (λ_=>ar λh=>(by cases h)) λh=>?_
  obtain⟨⟨o1,o2⟩,a7,a9⟩:=hb h;refine aZ (λx=>x.2=(w,c,z)/\(x.1=aj->(z.1=28->z.2.2.2.2.2= -1)/\(¬z.1=28->0<=z.2.2.2.2.2/\z.2.2.2.2.2<w.2.2.2.2.2.length/\(aJ (T:=yz) w.2.2.2.2.2 z.2.2.2.2.2).1=k))) ?_ ?_
  .simp only[sg,XC];refine aK (λI=>?_) λI=>?_
   .refine ci (λ_=>ar ⟨rfl,λh=>(by cases h)⟩) λhm=>?_
    exact ci (λh=>(h I).elim) λ_=>ar ⟨rfl,λ_=>⟨λ_=>hm,λh=>(h I).elim⟩⟩
   .refine ci (λ_=>?_) λh=>(I h).elim
    refine ci (λ_=>ar ⟨rfl,λh=>(by cases h)⟩) λh=>?_
    exact aR h.1 h.2 (aS (ar ⟨rfl,λh2=>⟨λh3=>(I h3).elim,λ_=>⟨h.1,h.2,by simpa using h2⟩⟩⟩))
  rintro⟨b,x⟩ ⟨e,hsi⟩;dsimp only at e hsi;subst e;refine aP (λ_=>ar λh=>(by cases h)) λhbs=>?_
  obtain⟨se,si⟩:=hsi hbs;refine aZ (λx=>x.2=(w,c,z)) ?_ ?_
  .simp only[sg,XC];with_reducible repeat' first|(refine OS.ok ?_;constructor)|refine IM.mk λ_=>?_
   all_goals rfl
  rintro⟨b,x⟩ e;dsimp only at e;subst e;refine aP (λ_=>ar λh=>(by cases h)) λ_=>?_
  refine aU (ua z) ?_;refine ca (iS z).length (λj x=>x.1=(j:Int)/\x.2=(w,c)/\∀k:Nat,k<j->0<=aJ (T:=.int .i64) (iS z) (k:Int)/\aJ (T:=.int .i64) (iS z) (k:Int)<c.1) ?_ ?_ ⟨rfl,rfl,λk hk=>by omega⟩
  .rintro j ⟨a,x⟩ hj ⟨U,M,J⟩;dsimp only at U M J;subst U;subst M;refine du ?_;refine cg (aS ?_);refine aU (sg _ _) ?_;refine ci (λ_=>ar λh=>(by cases h)) λh=>ar ?_
   dsimp only at h ⊢;have hj32:(iS z).length<=3:=C3 z;refine ⟨gO (by omega),rfl,λk hk=>?_⟩;rcases cf k j with h1|h1
   .exact J k h1
   .rw[show k=j by omega];exact h
  .rintro⟨a,x⟩ ⟨U,M,J⟩;dsimp only at U M J;subst U;subst M;refine dv (ar ?_);dsimp only;refine ⟨gO (by omega),rfl,λk hk=>?_⟩;rcases cf k i with h1|h1
   .exact e3 k h1
   .rw[show k=i by omega,Y];exact⟨⟨o1,o2,iv (T:=.int .i64) J⟩,⟨a7,a9,se,si⟩⟩
 .rintro⟨a,x⟩ ⟨e1,e2,e3⟩;dsimp only at e1 e2 e3;subst e1;subst e2;refine dv (ar λ_=>⟨⟨r0,r1,iv (T:=BT) (p:=VI c.1) λq hq=>(e3 q hq).1⟩,iv (T:=BT) (p:=VJ w k) λq hq=>(e3 q hq).2⟩)
structure VC (c:CT):Prop where
 vl:VL c.1
 tl:c.2.length=c.1.2.2.2.2.1.length
 t:∀t∈c.2,VT t
 sv:SV0 c.1
 j:∀k:Nat,k<c.2.length->∀i∈(aJ (T:=wA) c.2 (k:Int)).2,VJ c.1 (k:Int) i
structure CB (c:CT):Prop where
 th:c.2.length<=1000000
 ins:∀t∈c.2,t.2.length<=1000000
 rg:∀t∈c.2,1<=t.1
 wx:WX c.1
 ok:jJ c=af ai
theorem T3 (c:CT) (h1:c.2.length<=1000000) (h2:∀t∈c.2,t.2.length<=1000000):Ok (jJ c) λb=>b=ai->VC c:=by
 obtain⟨w,l⟩:=c;dsimp only at h1 h2;unfold jJ bp bz bF aY cK aF cF;refine aZ (λx=>x.2=(w,l)/\(x.1=aj->(VL w/\SV0 w)/\l.length=w.2.2.2.2.1.length)) ?_ ?_
 .refine ax (BJ w) λb hb=>?_
  refine em (λ_=>ar ⟨rfl,λh=>(by cases h)⟩) λh=>ar ⟨rfl,λM=>⟨hb h,?_⟩⟩
  simp at M;omega
 rintro⟨b,x⟩ ⟨e,I⟩;dsimp only at e I;subst e;refine aP (λ_=>ar λh=>(by cases h)) λh=>?_
 obtain⟨⟨hv,hsv⟩,hl⟩:=I h;refine ca l.length (λi x=>x.1=(i:Int)/\x.2=(w,l)/\∀k:Nat,k<i->VT (aJ (T:=wA) l (k:Int))/\∀q∈(aJ (T:=wA) l (k:Int)).2,VJ w (k:Int) q) ?_ ?_ ⟨rfl,rfl,λk hk=>by omega⟩
 .rintro i ⟨a,x⟩ hi ⟨e1,e2,e3⟩;dsimp only at e1 e2 e3;subst e1;subst e2;refine du ?_;refine cg (aS ?_);have hm:=bJ (T:=wA) (xs:=l) (j:=(i:Int)) (by omega) (by omega);revert hm;generalize J:(aJ (T:=wA) l (i:Int))=z;intro hm;refine ax (IG w _ z (h2 z hm)) λb hb=>?_
  refine em (λ_=>ar λh=>(by cases h)) λh=>ar ?_
  dsimp only;refine ⟨gO (by omega),rfl,λk hk=>?_⟩;rcases cf k i with h1|h1
  .exact e3 k h1
  .rw[show k=i by omega,J];exact hb h
 .rintro⟨a,x⟩ ⟨e1,e2,e3⟩;dsimp only at e1 e2 e3;subst e1;subst e2;refine dv (ar λ_=>⟨hv,hl,iv (T:=wA) (p:=VT) λk hk=>(e3 k hk).1,hsv,λk hk=>(e3 k hk).2⟩)
abbrev TT:Type:=Int×η×List η×Int
structure TL (F:Int->Prop) (E:Nat) (l:η):Prop where
 a:H4 l
 m:∀y∈l,0<=y/\y<(E:Int)
 f:∀y∈l,F y
theorem Qk:∀(l:η) (lo hi:Int),H4 l->(∀y∈l,lo<=y/\y<hi)->(l.length:Int)<=max 0 (hi-lo)
 |[],lo,hi,_,_=>by simp;omega
 |x::r,lo,hi,h,hm=>by
  have h1:=hm x (dh ..);have h2:=Qk r (x+1) hi h.2 λy I=>⟨by have:=h.1 y I;omega,(hm y (cM _ I)).2⟩
  rw[b_];omega
variable {F:Int->Prop}
theorem TL.len {E:Nat} {l:η} (h:TL F E l):l.length<=E:=by
 have:=Qk l 0 E h.a h.m;omega
theorem TL.nil (E:Nat):TL F E []:=⟨trivial,λy I=>(by cases I),λy I=>(by cases I)⟩
theorem TL.uni {E:Nat} {a b:η} (J:TL F E a) (hb:TL F E b):TL F E (xF a b):=
 ⟨QR a b,λy I=>by
   rcases IH.1 I with h|h
   .exact J.m y h
   .exact hb.m y h,λy I=>(IH.1 I).elim (J.f y) (hb.f y)⟩
theorem TL.mono {E M:Nat} {J:Int->Prop} {l:η} (h:TL F E l) (hf:E<=M) (U:∀y,F y->J y):TL J M l:=⟨h.a,λy I=>⟨(h.m y I).1,by have:=(h.m y I).2;omega⟩,λy I=>U y (h.f y I)⟩
structure TH (F:Int->Prop) (E:Nat) (s:TT):Prop where
 r:s.2.1.length<=32
 t:s.2.2.1.length<=32
 l:∀l∈s.2.2.1,TL F E l
 e0:0<=s.2.2.2
 e1:s.2.2.2<=(E:Int)
theorem TH.zero (E:Nat):TH F E (0,[],[],0):=⟨by simp,by simp,λl hl=>(by cases hl),by simp,by simp⟩
theorem TH.mono {E J:Nat} {I:Int->Prop} {s:TT} (h:TH F E s) (hf:E<=J) (M:∀y,F y->I y):TH I J s:=⟨h.r,h.t,λl hl=>(h.l l hl).mono hf M,h.e0,by have:=h.e1;omega⟩
theorem dc (s:TT) (E:Nat) (Y:E<=100000) (h:TH F E s):ct s=af ((s.1,s.2.2.2),s.2.1,s.2.2.1):=by
 obtain⟨h1,h2,U,h4,Z⟩:=h;refine cI ?_;unfold ct aX bf bp bL cR bz bB bF aY cK aF cF;refine bh (by simp;omega) (by omega) ?_;refine ca s.2.2.1.length (λi x=>x.1=(i:Int)/\x.2.1=s/\x.2.2.2.1=(s.1,s.2.2.2)/\x.2.2.2.2.1=s.2.1/\x.2.2.2.2.2=s.2.2.1.take i) ?_ ?_ ⟨rfl,rfl,rfl,rfl,rfl⟩
 .rintro i ⟨a,b,c,d,e,f⟩ hi ⟨e1,e2,e3,J,I⟩;dsimp only at e1 e2 e3 J I;subst e1;subst e2;subst I;refine du ?_;refine cg (aS ?_);have M:=(U _ (bJ (T:=.sl (.int .i64)) (xs:=b.2.2.1) (j:=(i:Int)) (by omega) (by omega))).len;refine bh (by simp only[j6,bQ];exact dg M (by omega)) (by omega) ?_;refine bh (by simp;omega) (by omega) (ar ?_);dsimp only;refine ⟨gO (by omega),rfl,e3,J,?_⟩;rw[mP (T:=.sl (.int .i64)) hi];rfl
 .rintro⟨a,b,c,d,e,f⟩ ⟨e1,e2,e3,J,I⟩;dsimp only at e1 e2 e3 J I;subst e1;subst e2;subst I;refine dv (ar ?_);show (d,e,_)=_;rw[e3,J,cX]
theorem wC (b:Bool):Ok (f_ b) λ_=>True:=by
 unfold f_;with_reducible repeat' first|(refine OS.ok ?_;constructor)|refine IM.mk λ_=>?_
 all_goals trivial
theorem F' (n:Int):Ok (mr n) λ_=>True:=by
 unfold mr bz aF;with_reducible repeat' first|(refine OS.ok ?_;constructor)|refine IM.mk λ_=>?_
 all_goals trivial
theorem ady (x:ν):Ok (uG x) λ_=>True:=by
 unfold uG bd;refine aK (λ_=>ar trivial) λ_=>aK (λ_=>?_) λ_=>ar trivial
 exact ax (wC _) λ_ _=>ar trivial
theorem aai (x:π):Ok (sF x) λ_=>True:=by
 unfold sF bd iR bB aF;have t1:∀b,Ok (obind (f_ b) λy=>af (y,ai)) λ_=>True:=λb=>ax (wC _) λ_ _=>ar trivial
 refine aK (λ_=>ar trivial) λ_=>aK (λ_=>ar trivial) λ_=>aK (λ_=>ar trivial) λ_=>?_
 refine aK (λ_=>aK (λ_=>ar trivial) λh=>zo h (ar trivial)) λ_=>?_
 refine aK (λ_=>aK (λ_=>ar trivial) λh=>zo h (ar trivial)) λ_=>?_
 refine aK (λ_=>t1 _) λ_=>aK (λ_=>t1 _) λ_=>aK (λ_=>t1 _) λ_=>aK (λ_=>t1 _) λ_=>aK (λ_=>t1 _) λ_=>aK (λ_=>t1 _) λ_=>?_
 refine aK (λ_=>aZ (λ_=>True) (ci (λ_=>ax (wC _) λ_ _=>ar trivial) λ_=>ax (wC _) λ_ _=>ar trivial) λ_ _=>ar trivial) λ_=>?_
 exact aK (λ_=>aZ (λ_=>True) (ci (λ_=>ax (wC _) λ_ _=>ar trivial) λ_=>ax (wC _) λ_ _=>ar trivial) λ_ _=>ar trivial) λ_=>ar trivial
theorem YA (E:Nat) (hE:E<=100000) (i:IT) (p:ν) (R:η) (T:List η) (hr:∀j∈iS i,0<=j/\j<(R.length:Int)) (o1:1<=i.1) (o2:i.1<=5) (hR:R.length<=32) (I:T.length=R.length) (hl:∀l∈T,TL F E l):Ok (wM ((i,p),R,T)) λy=>y.1.1.2=p.2/\y.2.1.length=R.length/\y.2.2.length=T.length/\∀l∈y.2.2,TL F E l:=by
 unfold wM aX bf bp ck bd bz bB bF kl aY cK aF cF;refine aU (ua i) ?_;have h3:=C3 i;refine ca (iS i).length (λj x=>x.1=(j:Int)/\x.2.1=R/\x.2.2.1=T/\x.2.2.2.1=i/\x.2.2.2.2.1=p) ?_ ?_ ⟨rfl,rfl,rfl,rfl,rfl⟩
 .rintro j ⟨a,b,c,d,e⟩ hj ⟨e1,e2,e3,Z,M⟩;dsimp only at e1 e2 e3 Z M;subst e1;subst e2;subst e3;subst Z;refine du ?_;have hz:=hr _ (bJ (T:=.int .i64) (xs:=iS d) (j:=(j:Int)) (by omega) (by omega));refine aZ (λx=>x.2=(b,c,d,e)/\x.1=aj) ?_ ?_
  .refine cg (aS ?_);refine bI (λg=>?_) λ_=>?_
   .dsimp only at g;omega
   refine cg (aS (ar ⟨rfl,?_⟩));dsimp only;rw[me];exact hz.2
  rintro⟨b',x⟩ ⟨Y,U⟩;dsimp only at Y U;subst Y;subst U;refine aP (λh=>(by cases h)) λ_=>ar ?_
  dsimp only;exact⟨gO (by omega),rfl,rfl,rfl,M⟩
 .rintro⟨a,b,c,d,e⟩ ⟨e1,e2,e3,Z,M⟩;dsimp only at e1 e2 e3 Z M;subst e1;subst e2;subst e3;subst Z;refine dv ?_;obtain⟨e,e'⟩:=e;dsimp only at M;subst M;refine ax (P:=λy=>y.1.1.2=e.2/\y.2.1.length=b.length/\y.2.2.length=c.length/\∀l∈y.2.2,TL F E l) ?_ λr hr=>ar hr
  have hA:d.1≠5->0<=d.2.1/\d.2.1<(b.length:Int):=λh5=>hr _ (by
   unfold iS;(repeat' split)<;>simp<;>omega)
  have hB:2<=d.1->d.1≠5->0<=d.2.2.1/\d.2.2.1<(b.length:Int):=λh2 h5=>hr _ (by
   unfold iS;(repeat' split)<;>simp<;>omega)
  have hC:d.1=4->0<=d.2.2.2.1/\d.2.2.2.1<(b.length:Int):=λh5=>hr _ (by
   unfold iS;(repeat' split)<;>simp<;>omega)
  have hg:∀{j:Int},0<=j->j<(b.length:Int)->TL F E (aJ (T:=.sl (.int .i64)) c j):=λh0 h1=>hl _ (bJ (T:=.sl (.int .i64)) (xs:=c) h0 (by rw[I];exact h1))
  refine aZ (λx=>x.2.1=b/\x.2.2.1=c/\x.2.2.2.1=d/\x.2.2.2.2.1=e/\TL F E x.1.2.2/\d.1≠5) ?_ ?_
  .refine aK (λ_=>ar ⟨rfl,rfl,rfl,hl⟩) λJ=>?_
   refine aK (λ_=>ar ⟨rfl,rfl,rfl,rfl,TL.nil E,J⟩) λn1=>?_
   dsimp only at n1 J;obtain⟨b0,b1⟩:=hB (by omega) J;refine aK (λ_=>?_) λn2=>?_
   .refine aR b0 b1 (aR b0 b1 (aS ?_));refine aR b0 (by dsimp only;rw[I];exact b1) (aR b0 (by dsimp only;rw[I];exact b1) (aS ?_));exact ar ⟨rfl,rfl,rfl,rfl,hg b0 b1,J⟩
   refine aK (λ_=>?_) λn3=>?_
   .refine ax (F' _) λy _=>?_
    refine aR b0 b1 (aR b0 b1 (aS ?_));refine ax (ady _) λy _=>?_
    refine aR b0 (by dsimp only;rw[I];exact b1) (aR b0 (by dsimp only;rw[I];exact b1) (aS ?_));exact ar ⟨rfl,rfl,rfl,rfl,hg b0 b1,J⟩
   dsimp only at n2 n3;obtain⟨c0,c1⟩:=hC (by omega);refine ax (F' _) λy _=>?_
   refine aR b0 b1 (aR b0 b1 (aS ?_));refine aR c0 c1 (aR c0 c1 (aS ?_));refine ax (aai _) λy _=>?_
   refine aR b0 (by dsimp only;rw[I];exact b1) (aR b0 (by dsimp only;rw[I];exact b1) (aS ?_));refine aR c0 (by dsimp only;rw[I];exact c1) (aR c0 (by dsimp only;rw[I];exact c1) (aS ?_));have g1:=hg b0 b1;have g2:=hg c0 c1;refine aU (T4 _ _ (dg g1.len (by omega)) (dg g2.len (by omega))) ?_;exact ar ⟨rfl,rfl,rfl,rfl,g1.uni g2,J⟩
  rintro⟨⟨v,ok,tn⟩,b',c',d',e',e''⟩ ⟨Y,U,f3,f4,f5,f6⟩;dsimp only at Y U f3 f4 f5 f6;subst Y;subst U;subst f3;subst f4;obtain⟨a0,a1⟩:=hA f6;have ht:=f5.len;refine bh (by simp;omega) (by omega) ?_;refine aR a0 a1 (aR a0 a1 (aR a0 (by dsimp only;rw[I];exact a1) (aR a0 (by dsimp only;rw[I];exact a1) (ar ?_))));refine ⟨rfl,bT ..,bT ..,λl hm=>?_⟩;rcases CV hm with h|h
  .exact hl l h
  .rw[h];exact f5
theorem Z3 (E:Nat) (Z:E<=100000) (c:Int×List IT) (hc:c.2.length<=1000000) (hv:VT c) (s:TT) (h:TH F E s):Ok (nj (c,s)) λy=>TH F E y.1/\(y.1.2.1.length=0\/y.1.2.2.2=s.2.2.2):=by
 unfold nj aX bf bp bL dw cR bd bz iT iR bB bF aY cK aF cF;have J:=h;obtain⟨h1,h2,h3,h4,h5⟩:=h;refine aZ (λx=>x.2.1=c/\x.2.2.1=s/\(x.1=aj->(s.2.1.length:Int)=c.1/\(s.2.2.1.length:Int)=c.1)) ?_ ?_
 .refine ci (λ_=>ar ⟨rfl,rfl,λh=>(by cases h)⟩) λg=>ar ⟨rfl,rfl,λh=>?_⟩
  simp at h;exact⟨g,h⟩
 rintro⟨b,c',s',z⟩ ⟨e1,e2,e3⟩;dsimp only at e1 e2 e3;subst e1;subst e2;refine aP (λ_=>ar ⟨TH.zero E,.inl rfl⟩) λhb=>?_
 obtain⟨q1,q2⟩:=e3 hb;refine aU (dc s' E Z J) ?_;refine qr (λx=>((c'.2.length:Int)+1-x.1).toNat) (λx=>0<=x.1/\x.1<=(c'.2.length:Int)+1/\x.2.1=c'/\x.2.2.1.2=s'.2.2.2/\x.2.2.2.2.1.length=s'.2.1.length/\x.2.2.2.2.2.length=s'.2.2.1.length/\∀l∈x.2.2.2.2.2,TL F E l) ?_ ⟨by dsimp only;omega,by dsimp only;omega,rfl,rfl,rfl,rfl,h3⟩;rintro⟨(n:Int),c,⟨(I:Int),ev⟩,z',R,T⟩ ⟨n0,n1,e1,e2,e3,e4,M⟩;dsimp only at n0 n1 e1 e2 e3 e4 M;subst e1;subst e2;refine eV (λg=>?_) λ_=>ar ⟨TH.zero E,.inl rfl⟩
 dsimp only[au]at g;refine aZ (λx=>x.2=(c,(I,s'.2.2.2),z',R,T)/\(x.1=aj->0<=I/\I<(c.2.length:Int))) ?_ ?_
 .refine bI (λ_=>ar ⟨rfl,λh=>(by cases h)⟩) λg1=>ar ⟨rfl,λh=>?_⟩
  dsimp only at g1 h;rw[me]at h;exact⟨g1,h⟩
 rintro⟨b',x⟩ ⟨f1,f2⟩;dsimp only at f1 f2;subst f1;refine aP (λ_=>ar ⟨TH.zero E,.inl rfl⟩) λhb=>?_
 obtain⟨p0,p1⟩:=f2 hb;refine aR p0 p1 (aS ?_);have hi:=hv.i _ (bJ (T:=BT) (xs:=c.2) (j:=I) p0 p1);revert hi;generalize (aJ (T:=BT) _ _)=i;intro hi;refine aU (FW _) ?_;refine ci (λ_=>ar ⟨⟨by dsimp only;omega,by dsimp only;omega,M,h4,h5⟩,.inr rfl⟩) λhsil=>?_
 refine aK (λ_=>ar ⟨TH.zero E,.inl rfl⟩) λhn=>?_
 dsimp only[au]at hn;refine ax (YA E Z i (I,s'.2.2.2) R T (λj hj=>by have:=hi.r j hj;omega) hsil.1 hsil.2 (by omega) (by omega) M) λy hy=>?_
 obtain⟨⟨⟨pc',ev'⟩,ok⟩,R',T'⟩:=y;obtain⟨k1,k2,Y,U⟩:=hy;dsimp only at k1 k2 Y U;refine di (lH Y.symm (di (lH k2.symm (Bh ?_))));refine em (λ_=>ar ⟨TH.zero E,.inl rfl⟩) λ_=>ar ?_
 dsimp only;rw[ic (by omega) (by omega)];exact⟨⟨by omega,by omega,rfl,k1,by omega,by omega,U⟩,by omega⟩
abbrev ST:Type:=SY×η×η×List TT
structure TF (c:Int×List IT) (t:TT):Prop where
 p0:0<=t.1
 p1:t.1<(c.2.length:Int)
 r:(t.2.1.length:Int)=c.1
 t:(t.2.2.1.length:Int)=c.1
structure FSx (c:CT) (s:ST):Prop where
 vc:VC c
 cd:∀d∈c.1.2.2.1,0<=d.2/\d.2<(c.1.2.1.length:Int)
 e3:s.1.2.2.2.length=c.1.2.2.2.2.1.length
 ce:s.2.1.length=c.1.1.length
 fu:s.2.2.1.length=c.1.2.2.2.1.length
 th:s.2.2.2.length=c.2.length
 t:∀k:Nat,k<c.2.length->TF (aJ (T:=wA) c.2 (k:Int)) (aJ (T:=vg) s.2.2.2 (k:Int))
def FQ (L:List ET) (k:Int) (y:Int):Prop:=1<=y/\Lz L k y
structure SV (n:Nat) (L:List ET) (s:ST):Prop where
 sb:SB n s.1
 ln:L.length=n
 t:∀k:Nat,k<s.2.2.2.length->TH (FQ L k) n (aJ (T:=vg) s.2.2.2 (k:Int))
theorem SV.ti {n:Nat} {L:List ET} {s:ST} (h:SV n L s) {k:Int} (h0:0<=k) (h1:k<(s.2.2.2.length:Int)):TH (FQ L k) n (aJ (T:=vg) s.2.2.2 k):=by
 have:=h.t k.toNat (by omega);rw[show ((k.toNat:Nat):Int)=k by omega]at this;exact this
structure TG (c:CT) (L:List ET) (sy:SY) (k:Int) (t:TT):Prop where
 ev:t.2.2.2=((fl L k).length:Int)
 wi:(aJ (T:=jG) sy.2.2.2 k).1=3\/(aJ (T:=jG) sy.2.2.2 k).1=4->(aJ (T:=BT) (aJ (T:=wA) c.2 k).2 t.1).1=21
 nw:(fl L k).length=0->(aJ (T:=jG) sy.2.2.2 k).1=0\/(aJ (T:=jG) sy.2.2.2 k).1=1
structure LN (c:CT) (L:List ET) (s:ST):Prop where
 ac:Acw c.1 L s.1 s.2.1 s.2.2.1
 t:∀k:Nat,k<s.2.2.2.length->(aJ (T:=vg) s.2.2.2 (k:Int)).2.1.length=0\/TG c L s.1 (k:Int) (aJ (T:=vg) s.2.2.2 (k:Int))
theorem agd (c:CT) (s:ST) (hc:CB c):Ok (wL (c,s)) λb=>b=ai->FSx c s:=by
 unfold wL aX bf dw cR bz iT iR bF aY cK aF cF;refine aZ (λx=>x.2=(c,s)/\(x.1=aj->VC c/\(∀d∈c.1.2.2.1,0<=d.2/\d.2<(c.1.2.1.length:Int))/\s.1.2.2.2.length=c.1.2.2.2.2.1.length/\s.2.1.length=c.1.1.length/\s.2.2.1.length=c.1.2.2.2.1.length/\s.2.2.2.length=c.2.length)) ?_ ?_
 .refine ax (T3 c hc.th hc.ins) λb hb=>?_
  refine em (λ_=>ar ⟨rfl,λh=>(by cases h)⟩) λh=>?_
  have hv:=hb h;refine ax (Qz c.1 s.1 (by have:=hv.vl.d;omega)) λb2 I=>?_
  refine em (λ_=>ar ⟨rfl,λh=>(by cases h)⟩) λh2=>?_
  obtain⟨J,_,_,Z⟩:=I h2;refine ci (λ_=>ar ⟨rfl,λh=>(by cases h)⟩) λk1=>?_
  refine ci (λ_=>ar ⟨rfl,λh=>(by cases h)⟩) λk2=>ar ⟨rfl,λU=>⟨hv,J,Z,?_,?_,?_⟩⟩
  .dsimp only[au]at k1;omega
  .dsimp only[au]at k2;omega
  .simp at U;omega
 rintro⟨b,x⟩ ⟨e,hb⟩;dsimp only at e hb;subst e;refine aP (λ_=>ar λh=>(by cases h)) λh=>?_
 obtain⟨hv,hcd,Y,hce,hfu,hth⟩:=hb h;have hcl:=hc.th;refine ca c.2.length (λi x=>x.1=(i:Int)/\x.2=(c,s)/\∀k:Nat,k<i->TF (aJ (T:=wA) c.2 (k:Int)) (aJ (T:=vg) s.2.2.2 (k:Int))) ?_ ?_ ⟨rfl,rfl,λk hk=>by omega⟩
 .rintro i ⟨a,x⟩ hi ⟨e1,e2,e3⟩;dsimp only at e1 e2 e3;subst e1;subst e2;refine du ?_;have hin:((i:Nat):Int)<(c.2.length:Int):=by omega
  refine cg (aS ?_);refine aZ (λx=>x.2=(c,s)/\(x.1=aj->TF (aJ (T:=wA) c.2 (i:Int)) (aJ (T:=vg) s.2.2.2 (i:Int)))) ?_ ?_
  .refine bI (λ_=>ar ⟨rfl,λh=>(by cases h)⟩) λg0=>?_
   refine aR (by dsimp only;omega) hin (aS ?_);refine eV (λ_=>ar ⟨rfl,λh=>(by cases h)⟩) λJ=>?_
   refine aR (by dsimp only;omega) hin (aS ?_);refine ci (λ_=>ar ⟨rfl,λh=>(by cases h)⟩) λg2=>?_
   refine aR (by dsimp only;omega) hin (aS (ar ⟨rfl,λM=>⟨g0,J,g2,?_⟩⟩));simp at M;exact M
  rintro⟨b,x⟩ ⟨e,hb⟩;dsimp only at e hb;subst e;refine aP (λ_=>ar λh=>(by cases h)) λh=>ar ?_
  dsimp only;refine ⟨gO (by omega),rfl,λk hk=>?_⟩;rcases cf k i with h1|h1
  .exact e3 k h1
  .rw[show k=i by omega];exact hb h
 .rintro⟨a,x⟩ ⟨e1,e2,e3⟩;dsimp only at e1 e2 e3;subst e1;subst e2;refine dv (ar λ_=>⟨hv,hcd,Y,hce,hfu,hth,e3⟩)
theorem aig {i:IT} (h:i.1=6\/i.1=7\/i.1=27\/i.1=10):i.2.1∈iS i:=by
 unfold iS;(repeat' split)<;>simp<;>omega
theorem aif {i:IT} (h:i.1=8\/i.1=9\/i.1=26):i.2.2.1∈iS i:=by
 unfold iS;(repeat' split)<;>simp<;>omega
theorem an4 {i:IT} (h:i.1=7\/i.1=9):i.2.2.2.1∈iS i:=by
 unfold iS;(repeat' split)<;>simp<;>omega
structure KD (op k:Int):Prop where
 ld:k=3->op=6\/op=7
 st:k=4->op=8\/op=9
 br:k=5->op=10
 se:k=22->op=26
 ge:k=23->op=27
 e1:k=2->op=28
 n1:¬k=1
 n17:¬k=17
 wt:k=16->op=21
 e2:¬k=0->op=28->k=2
 d7:¬k=0->op=7->k=3
 d8:¬k=0->op=8->k=4
 d9:¬k=0->op=9->k=4
 d10:¬k=0->op=10->k=5
 d26:¬k=0->op=26->k=22
theorem afu (op:Int):Ok (wJ op) λk=>KD op k:=by
 unfold wJ bz kl aF;refine aZ (λx=>x.2=[3,3,4,4,5,6,7,8,9,10,11,12,13,14,15,16,18,19,20,21,22,23,2]/\(x.1=aj->6<=op/\op<=28)) ?_ ?_
 .refine bI (λ_=>ar ⟨rfl,λh=>(by cases h)⟩) λg=>ar ⟨rfl,λh=>?_⟩
  dsimp only at h;rw[gi]at h;exact⟨g,h⟩
 rintro⟨b,x⟩ ⟨e,hb⟩;dsimp only at e hb;subst e;refine aP (λ_=>ar (by constructor<;>first|decide|(intro h;first|(exact (h rfl).elim)|(cases h;done)))) λh=>?_
 obtain⟨h1,h2⟩:=hb h;dsimp only;rw[ic (n:=op-6) (by omega) (by omega)];refine aR (by omega) (by simp;omega) (aR (by omega) (by simp;omega) (aS (ar ?_)));have:op=6\/op=7\/op=8\/op=9\/op=10\/op=11\/op=12\/op=13\/op=14\/op=15\/op=16\/op=17\/op=18\/op=19\/op=20\/op=21\/op=22\/op=23\/op=24\/op=25\/op=26\/op=27\/op=28:=by omega
 rcases this with rfl|rfl|rfl|rfl|rfl|rfl|rfl|rfl|rfl|rfl|rfl|rfl|rfl|rfl|rfl|rfl|rfl|rfl|rfl|rfl|rfl|rfl|rfl;all_goals (constructor<;>decide)
theorem Uf (a n:Int):Ok (rG (a,n)) λr=>n=2->r=0\/r=1:=by
 unfold rG bz bB aF;refine bI (λ_=>ar λh=>(by dsimp only at *;omega)) λh=>?_
 dsimp only at h;refine zo (by dsimp only;omega) ?_;have t1:=Int.tmod_lt_of_pos a (b:=n) (by omega);have I:=Int.lt_tmod_of_pos a (b:=n) (by omega);refine aZ (λr=>n=2->r=0\/r=1) (bI (λg=>ar λh2=>?_) λg=>ar λh2=>?_) λ_ h=>ar h
 .dsimp only at g ⊢;rw[ic (by omega) (by omega)];omega
 .dsimp only at g ⊢;omega
theorem Rp (i:IT) (t:TT) (hr:∀j∈iS i,0<=j/\j<(t.2.1.length:Int)):Ok (sD (i,t)) λo=>(i.1=7->i.2.2.1=3->i.2.2.2.2.1=2->o=3\/o=4)/\(i.1=9->i.2.1=3->i.2.2.2.2.1=2->o=3\/o=4):=by
 unfold sD aX bf bp bd bF aF;have J:i.1=7\/i.1=9->0<=i.2.2.2.1/\i.2.2.2.1<(t.2.1.length:Int):=λh=>hr _ (by
  unfold iS;(repeat' split)<;>simp<;>omega)
 have tr:∀{o:Int},¬i.1=7->¬i.1=9->(i.1=7->i.2.2.1=3->i.2.2.2.2.1=2->o=3\/o=4)/\(i.1=9->i.2.1=3->i.2.2.2.2.1=2->o=3\/o=4):=λh1 h2=>⟨λh=>(h1 h).elim,λh=>(h2 h).elim⟩
 have wk:∀{b r n:Int},b=3->n=2->(n=2->r=0\/r=1)->bk .i64 (b+r)=3\/bk .i64 (b+r)=4:=λh1 h2 I=>by
  have:=I h2;rw[ic (by omega) (by omega)];omega
 refine aZ (λx=>x.2=(i,t)/\(x.1=ai->i.1=6\/i.1=27)) (aK (λh=>ar ⟨rfl,λ_=>.inl h⟩) λ_=>ar ⟨rfl,λh=>.inr (bw h)⟩) ?_;rintro⟨b,x⟩ ⟨e,hb⟩;dsimp only at e hb;subst e;refine aP (λh=>ar (tr (by have:=hb h;omega) (by have:=hb h;omega))) λ_=>?_
 refine aK (λh=>?_) λM=>?_
 .exact aR (J (.inl h)).1 (J (.inl h)).2 (aS (ax (Uf _ _) λy U=>ar ⟨λ_ I Y=>wk I Y U,λh9=>by dsimp only at h;omega⟩))
 refine aK (λh=>?_) λZ=>?_
 .exact aR (J (.inr h)).1 (J (.inr h)).2 (aS (ax (Uf _ _) λy U=>ar ⟨λh7=>(M h7).elim,λ_ I Y=>wk I Y U⟩))
 refine aZ (λ_=>True) ?_ λx _=>aP (λ_=>ar (tr M Z)) λ_=>ar (tr M Z)
 with_reducible repeat' first|(refine OS.ok ?_;constructor)|refine IM.mk λ_=>?_
 all_goals trivial
theorem aiy {w:WT} (I:w.1=C0) {b n:Int} (h:AR w b n):b=3/\n=2:=by
 obtain⟨b0,b1,ix,sz,sn⟩:=h;rw[I]at b1 ix sz sn;have b1:b<5:=b1;rcases (by omega:b=0\/b=1\/b=2\/b=3\/b=4) with rfl|rfl|rfl|rfl|rfl
 .exact (sz rfl).elim
 .exact (sz rfl).elim
 .exact (sz rfl).elim
 .exact⟨rfl,sn.symm⟩
 .exact cY ix (by decide)
theorem ai8 {w:WT} (I:w.1=C0) {o:Int} (h:o=3\/o=4):¬(aJ (T:=QU) w.1 o).2.2.1=0:=by
 rw[I];rcases h with rfl|rfl<;>decide
structure PE (n:Nat) (c:CT) (s:ST) (t:Int) (e:ET):Prop where
 fs:FSx c s
 t0:0<=t
 t1:t<(c.2.length:Int)
 et:e.1=t
 d:e.2.2.2.2.2.1.length<=n
 f:e.2.2.2.2.2.2.length<=n
 a:e.2.1=3\/e.2.1=23\/e.2.1=5->0<=(aJ (T:=BT) (aJ (T:=wA) c.2 t).2 (aJ (T:=vg) s.2.2.2 t).1).2.1/\(aJ (T:=BT) (aJ (T:=wA) c.2 t).2 (aJ (T:=vg) s.2.2.2 t).1).2.1<((aJ (T:=vg) s.2.2.2 t).2.1.length:Int)
 b:e.2.1=4\/e.2.1=22->0<=(aJ (T:=BT) (aJ (T:=wA) c.2 t).2 (aJ (T:=vg) s.2.2.2 t).1).2.2.1/\(aJ (T:=BT) (aJ (T:=wA) c.2 t).2 (aJ (T:=vg) s.2.2.2 t).1).2.2.1<((aJ (T:=vg) s.2.2.2 t).2.1.length:Int)
structure PS (c:CT) (L:List ET) (s:ST) (t:Int) (e:ET):Prop where
 tg:TG c L s.1 t (aJ (T:=vg) s.2.2.2 t)
 s1:e.2.1=1\/e.2.1=2->e.2.2.2.2.1= -1
 s2:¬(e.2.1=1\/e.2.1=2)->0<=e.2.2.2.2.1/\e.2.2.2.2.1<c.1.2.2.2.2.2.length/\(aJ (T:=yz) c.1.2.2.2.2.2 e.2.2.2.2.1).1=t
 de:0<e.2.2.2.2.2.1.length->e.2.1=5\/(e.2.1=3\/e.2.1=4)/\¬(aJ (T:=QU) c.1.1 e.2.2.1).2.2.1=0
 fr:0<e.2.2.2.2.2.2.length->e.2.1=4\/e.2.1=22
 da:H4 e.2.2.2.2.2.1
 dq:∀y∈e.2.2.2.2.2.1,FQ L t y
 fa:H4 e.2.2.2.2.2.2
 fq:∀y∈e.2.2.2.2.2.2,FQ L t y
 wt:e.2.1=16->(aJ (T:=BT) (aJ (T:=wA) c.2 t).2 (aJ (T:=vg) s.2.2.2 t).1).1=21
theorem WU (n:Nat) (hn:n<=100000) (c:CT) (L:List ET) (s:ST) (hc:CB c) (hs:SV n L s) (hI:LN c L s) (t:Int):Ok (nS (c,s,t)) λy=>y.2=ai->PE n c s t y.1/\PS c L s t y.1:=by
 unfold nS aX bf bp bL dw cR bd bz bB bF aY aF;refine aZ (λx=>x.2.1=c/\x.2.2.1=s/\(x.1=aj->FSx c s/\0<=t/\t<(c.2.length:Int))) ?_ ?_
 .refine ax (agd c s hc) λb hb=>?_
  refine em (λ_=>ar ⟨rfl,rfl,λh=>(by cases h)⟩) λh=>?_
  refine bI (λ_=>ar ⟨rfl,rfl,λh=>(by cases h)⟩) λg0=>ar ⟨rfl,rfl,λg1=>?_⟩
  dsimp only at g0 g1;rw[me]at g1;exact⟨hb h,g0,g1⟩
 rintro⟨b,c',s',z⟩ ⟨e1,e2,hb⟩;dsimp only at e1 e2 hb;subst e1;subst e2;refine aP (λ_=>ar λh=>(by cases h)) λh=>?_
 obtain⟨hf,t0,t1⟩:=hb h;have hk:((t.toNat:Nat):Int)=t:=by omega
 have htf:=hf.t t.toNat (by omega);rw[hk]at htf;have hvt:=hf.vc.t _ (bJ (T:=wA) (xs:=c'.2) (j:=t) t0 t1);have hth:=hs.ti t0 (by rw[hf.th];exact t1);have key:∀e:ET,e.1=t->e.2.2.2.2.2.1.length<=n->e.2.2.2.2.2.2.length<=n->(e.2.1=1\/e.2.1=17\/KD (aJ (T:=BT) (aJ (T:=wA) c'.2 t).2 (aJ (T:=vg) s'.2.2.2 t).1).1 e.2.1)->PE n c' s' t e:=by
  intro e h1 h2 h3 J;have hi:=hvt.i _ (bJ (T:=BT) (xs:=(aJ (T:=wA) c'.2 t).2) (j:=(aJ (T:=vg) s'.2.2.2 t).1) htf.p0 htf.p1);refine ⟨hf,t0,t1,h1,h2,h3,λh5=>?_,λh5=>?_⟩
  .rw[htf.r];rcases J with J|J|J
   .omega
   .omega
   .refine hi.r _ ?_;have a1:=J.ld;have a2:=J.ge;have a3:=J.br;revert a1 a2 a3 h5;generalize (aJ (T:=BT) (aJ (T:=wA) c'.2 t).2 (aJ (T:=vg) s'.2.2.2 t).1)=i;intro h5 a1 a2 a3;exact aig (by omega)
  .rw[htf.r];rcases J with J|J|J
   .omega
   .omega
   .refine hi.r _ ?_;have a1:=J.st;have a2:=J.se;revert a1 a2 h5;generalize (aJ (T:=BT) (aJ (T:=wA) c'.2 t).2 (aJ (T:=vg) s'.2.2.2 t).1)=i;intro h5 a1 a2;exact aif (by omega)
 have hir:=(hvt.i _ (bJ (T:=BT) (xs:=(aJ (T:=wA) c'.2 t).2) (j:=(aJ (T:=vg) s'.2.2.2 t).1) htf.p0 htf.p1)).r;rw[<- htf.r]at hir;have hrg:=hc.rg _ (bJ (T:=wA) (xs:=c'.2) (j:=t) t0 t1);have htg:TG c' L s'.1 t (aJ (T:=vg) s'.2.2.2 t):=by
  have:=hI.t t.toNat (by rw[hf.th];omega);rw[hk]at this;refine this.resolve_left λh=>?_
  have:=htf.r;omega
 have hvj:=hf.vc.j t.toNat (by omega);rw[hk]at hvj;have hvj:=hvj _ (bJ (T:=BT) (xs:=(aJ (T:=wA) c'.2 t).2) (j:=(aJ (T:=vg) s'.2.2.2 t).1) htf.p0 htf.p1);have hC0:=hc.wx.c;refine aR t0 (by dsimp only;rw[hf.th];exact t1) (aS ?_);refine aR t0 t1 (aS ?_);refine aR htf.p0 htf.p1 (aS ?_);have t4:t<(s'.1.2.2.2.length:Int):=by rw[hf.e3,<-hf.vc.tl];exact t1
 have tz:(aJ (T:=vg) s'.2.2.2 t).2.2.1.length=(aJ (T:=vg) s'.2.2.2 t).2.1.length:=by have:=htf.r;have:=htf.t;omega
 refine aR t0 t4 (aS ?_);refine aK (λ_=>ar λ_=>⟨key _ rfl (lq _) (lq _) (.inl rfl),⟨htg,λ_=>rfl,λh=>(h (.inl rfl)).elim,λh=>(by cases h),λh=>(by cases h),trivial,λy Z=>(by cases Z),trivial,λy Z=>(by cases Z),λh=>(by cases h)⟩⟩) λ_=>?_
 refine aK (λJ=>aR t0 t4 (aS (ar λ_=>⟨key _ rfl (lq _) (lq _) (.inr (.inl rfl)),⟨htg,λh=>(by rcases h with h|h<;>cases h),λ_=>hvj.si (by rw[htg.wi (.inr J)];decide),λh=>(by cases h),λh=>(by cases h),trivial,λy Z=>(by cases Z),trivial,λy Z=>(by cases Z),λh=>(by cases h)⟩⟩))) λ_=>?_
 refine aK (λ_=>?_) λ_=>ar λh=>(by cases h)
 refine ax (afu _) λk I=>?_
 refine ax (Rp _ _ hir) λo ho=>?_
 refine aK (λ_=>ar λh=>(by cases h)) λM=>?_
 have fin:∀e:ET,e.1=t->e.2.1=k->e.2.2.1=o->e.2.2.2.2.1=(aJ (T:=BT) (aJ (T:=wA) c'.2 t).2 (aJ (T:=vg) s'.2.2.2 t).1).2.2.2.2.2->(0<e.2.2.2.2.2.1.length->(aJ (T:=BT) (aJ (T:=wA) c'.2 t).2 (aJ (T:=vg) s'.2.2.2 t).1).1=10\/(aJ (T:=BT) (aJ (T:=wA) c'.2 t).2 (aJ (T:=vg) s'.2.2.2 t).1).1=7\/(aJ (T:=BT) (aJ (T:=wA) c'.2 t).2 (aJ (T:=vg) s'.2.2.2 t).1).1=9)->(0<e.2.2.2.2.2.2.length->(aJ (T:=BT) (aJ (T:=wA) c'.2 t).2 (aJ (T:=vg) s'.2.2.2 t).1).1=8\/(aJ (T:=BT) (aJ (T:=wA) c'.2 t).2 (aJ (T:=vg) s'.2.2.2 t).1).1=9\/(aJ (T:=BT) (aJ (T:=wA) c'.2 t).2 (aJ (T:=vg) s'.2.2.2 t).1).1=26)->TL (FQ L t) n e.2.2.2.2.2.1->TL (FQ L t) n e.2.2.2.2.2.2->PE n c' s' t e/\PS c' L s' t e:=by
  intro e h1 h2 h3 J h5 h6 h7 h8;refine ⟨key e h1 h7.len h8.len (.inr (.inr (h2▸I))),htg,λh=>?_,λh=>?_,λh=>?_,λh=>?_,h7.a,h7.f,h8.a,h8.f,λh=>I.wt (h2▸h)⟩
  .rw[J];rw[h2]at h;exact hvj.se (I.e1 (h.resolve_left I.n1))
  .rw[J];rw[h2]at h;exact hvj.si λh9=>h (.inr (I.e2 M h9))
  .rw[h2,h3];rcases h5 h with g|g|g
   .exact .inl (I.d10 M g)
   .obtain⟨q1,q2⟩:=aiy hC0 (hvj.a7 g);exact .inr ⟨.inl (I.d7 M g),ai8 hC0 (ho.1 g q1 q2)⟩
   .obtain⟨q1,q2⟩:=aiy hC0 (hvj.a9 g);exact .inr ⟨.inr (I.d9 M g),ai8 hC0 (ho.2 g q1 q2)⟩
  .rw[h2];rcases h6 h with g|g|g
   .exact .inl (I.d8 M g)
   .exact .inl (I.d9 M g)
   .exact .inr (I.d26 M g)
 clear key htg hvj ho hC0 hrg;revert fin htf hvt hth hir tz I;dsimp only;generalize (aJ (T:=vg) s'.2.2.2 t)=th;generalize (aJ (T:=BT) _ th.1)=i;intro htf hvt hth hir tz I fin;have hlen:∀{j:Int},0<=j->j<(th.2.2.1.length:Int)->TL (FQ L t) n (aJ (T:=.sl (.int .i64)) th.2.2.1 j):=λh0 h1=>hth.l _ (bJ (T:=.sl (.int .i64)) (xs:=th.2.2.1) h0 h1)
 have hA:i.1=10->0<=i.2.1/\i.2.1<(th.2.2.1.length:Int):=λh=>by
  rw[tz];exact hir _ (aig (.inr (.inr (.inr h))))
 have hB:i.1=8\/i.1=9\/i.1=26->0<=i.2.2.1/\i.2.2.1<(th.2.2.1.length:Int):=λh=>by
  rw[tz];exact hir _ (aif (h))
 have hC:i.1=7\/i.1=9->0<=i.2.2.2.1/\i.2.2.2.1<(th.2.2.1.length:Int):=λh=>by
  rw[tz];exact hir _ (an4 (h))
 refine aZ (λx=>x.2.1=th/\x.2.2.1=i/\(x.2.2.2.1.1=t/\x.2.2.2.1.2.1=k/\x.2.2.2.1.2.2.1=o/\x.2.2.2.1.2.2.2.2=i.2.2.2.2.2)/\TL (FQ L t) n x.2.2.2.2/\(0<x.2.2.2.2.length->i.1=10\/i.1=7\/i.1=9)) ?_ ?_
 .refine aK (λh=>?_) λ_=>?_
  .obtain⟨a0,a1⟩:=hA h;refine aR a0 a1 (aS ?_);have:=hlen a0 a1;exact bh (dg this.len (by omega)) (by omega) (ar ⟨rfl,rfl,⟨rfl,rfl,rfl,rfl⟩,this,λ_=>.inl h⟩)
  refine aZ (λx=>x.2.2.1=th/\x.2.2.2.1=i/\(x.2.2.2.2.1=t/\x.2.2.2.2.2.1=k/\x.2.2.2.2.2.2.1=o/\x.2.2.2.2.2.2.2.2=i.2.2.2.2.2)/\(x.1=ai->i.1=7\/i.1=9)) ?_ ?_
  .refine aK (λh=>ar ⟨rfl,rfl,⟨rfl,rfl,rfl,rfl⟩,λ_=>.inl h⟩) λ_=>ar ⟨rfl,rfl,⟨rfl,rfl,rfl,rfl⟩,λh=>.inr (bw h)⟩
  rintro⟨b,z0,th',Y,t',k',z1⟩ ⟨e1,e2,e3,U⟩;dsimp only at e1 e2 e3 U;subst e1;subst e2;refine aP (λh=>?_) λ_=>ar ⟨rfl,rfl,e3,TL.nil n,λh=>(by cases h)⟩
  obtain⟨a0,a1⟩:=hC (U h);refine aR a0 a1 (aS ?_);have:=hlen a0 a1;exact bh (dg this.len (by omega)) (by omega) (ar ⟨rfl,rfl,e3,this,λ_=>.inr (U h)⟩)
 rintro⟨z0,th',Y,⟨t',k',z1⟩,ds⟩ ⟨e1,e2,e3,hd,hd2⟩;dsimp only at e1 e2 e3 hd hd2;subst e1;subst e2;refine aZ (λx=>(x.2.1.1=t/\x.2.1.2.1=k/\x.2.1.2.2.1=o/\x.2.1.2.2.2.2=Y.2.2.2.2.2)/\x.2.2.1=ds/\TL (FQ L t) n x.2.2.2/\(0<x.2.2.2.length->Y.1=8\/Y.1=9\/Y.1=26)) ?_ ?_
 .refine aZ (λx=>x.2=(z0,th',Y,(t',k',z1),ds)/\(x.1=ai->Y.1=8\/Y.1=9\/Y.1=26)) ?_ ?_
  .exact aK (λh=>ar ⟨rfl,λ_=>.inl h⟩) λ_=>aK (λh=>ar ⟨rfl,λ_=>.inr (.inl h)⟩) λ_=>ar ⟨rfl,λh=>.inr (.inr (bw h))⟩
  rintro⟨b,x⟩ ⟨e,U⟩;dsimp only at e U;subst e;refine aP (λh=>?_) λ_=>ar ⟨e3,rfl,TL.nil n,λh=>(by cases h)⟩
  obtain⟨a0,a1⟩:=hB (U h);refine aR a0 a1 (aS ?_);have:=hlen a0 a1;exact bh (dg this.len (by omega)) (by omega) (ar ⟨e3,rfl,this,λ_=>U h⟩)
 rintro⟨z2,⟨t2,k2,o2,z3,si⟩,d2,f2⟩ ⟨e1,e2,h1,h2⟩;dsimp only at e1 e2 h1 h2;subst e2;obtain⟨g1,g2,g3,g4⟩:=e1;exact ar λ_=>fin _ g1 g2 g3 g4 hd2 h2 hd h1
theorem ajn {n:Nat} {k:Int} (h0:0<=k) (h1:k<n):(aJ (T:=jG) (Yx n) k).1=0\/(aJ (T:=jG) (Yx n) k).1=1:=by
 have hm:=bJ (T:=jG) (xs:=Yx n) h0 (by rw[Ia];exact h1);revert hm;generalize aJ (T:=jG) (Yx n) k=z;intro hm;cases n with
 |zero=>cases hm
 |succ n=>
  rcases bm.1 hm with rfl|hm
  .exact .inr rfl
  .rw[pP hm];exact .inl rfl
theorem WP (c:CT) (hvt:jJ c=af ai) (hv:VC c):Ok (uC c) λs=>SV 0 [] s/\LN c [] s:=by
 unfold uC aX bf bp ch bL dw cR fc bz tO bB bF aY cK aF cF;refine aU hvt (em (λh=>(by cases h)) λ_=>?_);obtain⟨vc,vl,vd,Z,_,Y,_⟩:=id hv.vl;have htl:=hv.tl;refine aU (Lq c.1 hv.vl) ?_;refine ca c.1.1.length (λi x=>x.1=(i:Int)/\x.2.1=c/\x.2.2.2.1=QE c.1/\x.2.2.2.2=(c.1.1.take i).map λc=>c.2.2.2.2) ?_ ?_ ⟨rfl,rfl,rfl,rfl⟩
 .rintro i ⟨a,c',z,U,l⟩ hi ⟨e1,e2,e3,I⟩;dsimp only at e1 e2 e3 I;subst e1;subst e2;subst e3;subst I;refine du ?_;refine cg (aS (bh (by simp;omega) (by omega) (ar ?_)));dsimp only;exact⟨gO (by omega),rfl,rfl,by rw[mP (T:=QU) hi,cC];rfl⟩
 rintro⟨a,c',z,U,l⟩ ⟨e1,e2,e3,I⟩;dsimp only at e1 e2 e3 I;subst e1;subst e2;subst e3;rw[cX]at I;subst I;refine dv ?_;refine ax (P:=λs=>SV 0 [] s/\LN c' [] s) ?_ λr hr=>ar hr
 refine ca c'.1.2.2.2.1.length (λi x=>x.1=(i:Int)/\x.2.1=c'/\x.2.2.2.1=QE c'.1/\x.2.2.2.2.1=ce0 c'.1/\x.2.2.2.2.2=aG i 0) ?_ ?_ ⟨rfl,rfl,rfl,rfl,rfl⟩
 .rintro i ⟨a,c,z,y,l,f⟩ hi ⟨e1,e2,e3,I,J⟩;dsimp only at e1 e2 e3 I J;subst e1;subst e2;subst e3;subst J;refine du ?_;refine bh (by simp;omega) (by omega) (ar ?_);dsimp only;exact⟨gO (by omega),rfl,rfl,I,by rw[vb]⟩
 rintro⟨a,c,z,y,l,f⟩ ⟨e1,e2,e3,I,J⟩;dsimp only at e1 e2 e3 I J;subst e1;subst e2;subst e3;subst I;subst J;refine dv ?_;refine ax (P:=λs=>SV 0 [] s/\LN c [] s) ?_ λr hr=>ar hr
 refine ca c.2.length (λi x=>x.1=(i:Int)/\x.2.1=c/\x.2.2.2.1=QE c.1/\x.2.2.2.2.1=ce0 c.1/\x.2.2.2.2.2.1=fu0 c.1/\x.2.2.2.2.2.2.length=i/\∀t∈x.2.2.2.2.2.2,(∀F,TH F 0 t)/\t.2.2.2=0) ?_ ?_ ⟨rfl,rfl,rfl,rfl,rfl,rfl,λt ht=>(by cases ht)⟩
 .rintro i ⟨a,c,z,y,l,f,th⟩ hi ⟨e1,e2,e3,I,e4b,J,M⟩;dsimp only at e1 e2 e3 I e4b J M;subst e1;subst e2;subst e3;refine du ?_;have hin:((i:Nat):Int)<(c.2.length:Int):=by omega
  have hvt:=hv.t _ (bJ (T:=wA) (xs:=c.2) (j:=(i:Int)) (by omega) hin);have q0:=hvt.r0;have q1:=hvt.r1;refine aR (by dsimp only;omega) hin (aS ?_);refine di (di (eA q0 (eA (eB _) (bh (by dsimp only;omega) (by omega) ?_))));refine aR (by dsimp only;omega) hin (aS ?_);refine di (di (eA q0 (eA (eB _) (bh (by dsimp only;omega) (by omega) ?_))));refine bh (by simp;omega) (by omega) (ar ?_);dsimp only;refine ⟨gO (by omega),rfl,rfl,I,e4b,by simp;omega,λt ht=>?_⟩;rcases bV.1 ht with h|h
  .exact M t h
  .rw[aL]at h;subst h;refine ⟨λF=>⟨?_,?_,λl hl=>?_,eB _,eB _⟩,rfl⟩
   .dsimp only;rw[eP];omega
   .dsimp only;rw[eP];omega
   .rw[pP hl];exact TL.nil 0
 .rintro⟨a,c,z,y,l,f,th⟩ ⟨e1,e2,e3,I,e4b,J,M⟩;dsimp only at e1 e2 e3 I e4b J M;subst e1;subst e2;subst e3;subst I;subst e4b;refine dv (ar ?_);have hm:∀k:Nat,k<th.length->_:=λk hk=>M _ (bJ (T:=vg) (xs:=th) (j:=(k:Int)) (by omega) (by omega))
  refine ⟨⟨UL hv.vl,rfl,λk hk=>(hm k hk).1 _⟩,⟨.nil,λk hk=>.inr ?_⟩⟩;dsimp only at hk;have hst:=ajn (n:=c.1.2.2.2.2.1.length) (k:=(k:Int)) (by omega) (by omega);exact⟨(hm k hk).2,λh=>(by rcases hst with q|q<;>rcases h with h|h<;>exact cY (q.symm.trans h) (by decide)),λ_=>hst⟩
theorem IJ {th:List (Int×Int×Bool)} {t x j:Int} (h0:0<=t) (h1:t<th.length) (hj:0<=j):(aJ (T:=jG) (yA th t x) j).1=if j=t then x else (aJ (T:=jG) th j).1:=by
 unfold yA;rw[rS (T:=jG) _ _ _ _ h0 h1 hj];split<;>rfl
theorem aiq {th:List (Int×Int×Bool)} {t x j:Int} (h0:0<=t) (h1:t<th.length) (hj:0<=j):(aJ (T:=jG) (cdP th t x) j).1=(aJ (T:=jG) th j).1:=by
 unfold cdP;rw[rS (T:=jG) _ _ _ _ h0 h1 hj];split
 .rename_i h;rw[h]
 .rfl
theorem aiw {th:List (Int×Int×Bool)} {t j:Int} {x:Bool} (h0:0<=t) (h1:t<th.length) (hj:0<=j):(aJ (T:=jG) (atP th t x) j).1=(aJ (T:=jG) th j).1:=by
 unfold atP;rw[rS (T:=jG) _ _ _ _ h0 h1 hj];split
 .rename_i h;rw[h]
 .rfl
theorem aij {j:Int} (hj:0<=j):∀(l:η) (th:List (Int×Int×Bool)),(∀u:Int,u∈l->0<=u/\u<th.length)->(aJ (T:=jG) (C_ th l) j).1=if j∈l then 4 else (aJ (T:=jG) th j).1
 |[],th,_=>by simp[C_]
 |x::r,th,h=>by
  have I:=h x (dh ..);have J:=aij hj r (yA th x 4) λu hu=>by unfold yA;rw[bT];exact h u (cM _ hu)
  have e:C_ th (x::r)=C_ (yA th x 4) r:=rfl;rw[e,J,IJ I.1 I.2 hj];by_cases h1:j∈r
  .rw[aD h1,aD (cM _ h1)]
  .rw[ay h1];by_cases h2:j=x
   .rw[aD h2,aD (by rw[h2];exact dh ..)]
   .rw[ay h2,ay λh=>(bm.1 h).elim h2 h1]
theorem Iu {l:η} (u:Int) (hl:¬l.length=0):BI l u∈l:=by
 unfold BI;rw[ay hl];split
 .rename_i h;exact tu.1 h
 .exact bJ (T:=.int .i64) (by omega) (by omega)
theorem TN {w:WT} {s:SY} {t k o u v:Int} {sy:SY} (h:(sy,v)=rn w s t k o u):rn w s t k o v=(sy,v):=by
 by_cases hk:k=18
 .subst hk;rw[FO]at h ⊢;by_cases hl:(wl s.2.2.2 o s.2.2.2.length).length=0
  .rw[aD hl]at h ⊢;exact h.symm
  .rw[ay hl]at h ⊢;have hm:=Iu u hl;generalize wl s.2.2.2 o s.2.2.2.length=l at h hl hm ⊢;obtain⟨rfl,rfl⟩:=Prod.mk.inj h;have:BI l (BI l u)=BI l u:=by
    rw[BI,ay hl,aD (tu.2 hm)]
   rw[this]
 .rw[Yk _ _ _ _ _ _ u hk,<-h]
theorem akj {w:WT} {s:SY} {t k o:Int} (u:Int) (he:EN w s t k o) (hr:WS w s t k o) {j:Int} (h0:0<=j):(¬j=t->(aJ (T:=jG) (rn w s t k o u).1.2.2.2 j).1=(aJ (T:=jG) s.2.2.2 j).1\/((aJ (T:=jG) s.2.2.2 j).1=3/\(aJ (T:=jG) (rn w s t k o u).1.2.2.2 j).1=4)\/((aJ (T:=jG) s.2.2.2 j).1=0/\(aJ (T:=jG) (rn w s t k o u).1.2.2.2 j).1=1))/\(j=t->¬k=16->¬(aJ (T:=jG) (rn w s t k o u).1.2.2.2 j).1=3/\¬(aJ (T:=jG) (rn w s t k o u).1.2.2.2 j).1=4):=by
 have t0:=he.t0;have t1:t<s.2.2.2.length:=by have:=he.t1;have:=he.e3;omega
 have M:=hr.r;have hml:∀u:Int,u∈wl s.2.2.2 o s.2.2.2.length->0<=u/\u<s.2.2.2.length:=λu hu=>⟨(rx.1 hu).1,(rx.1 hu).2.1⟩
 have h3:∀u:Int,u∈wl s.2.2.2 o s.2.2.2.length->(aJ (T:=jG) s.2.2.2 u).1=3:=λu hu=>by
  have:=(rx.1 hu).2.2;unfold IB at this;rw[av]at this;exact bw this.1
 have same:¬k=1->¬k=17->∀th:List (Int×Int×Bool),(aJ (T:=jG) th j).1=(aJ (T:=jG) s.2.2.2 j).1->(¬j=t->(aJ (T:=jG) th j).1=(aJ (T:=jG) s.2.2.2 j).1\/((aJ (T:=jG) s.2.2.2 j).1=3/\(aJ (T:=jG) th j).1=4)\/((aJ (T:=jG) s.2.2.2 j).1=0/\(aJ (T:=jG) th j).1=1))/\(j=t->¬k=16->¬(aJ (T:=jG) th j).1=3/\¬(aJ (T:=jG) th j).1=4):=λa b th h=>⟨λ_=>.inl h,λh2 _=>by rw[h,h2,M a b];decide⟩
 have st:∀x:Int,¬x=3\/k=16->¬x=4->∀th:List (Int×Int×Bool),(aJ (T:=jG) th j).1=(if j=t then x else (aJ (T:=jG) s.2.2.2 j).1)->(¬j=t->(aJ (T:=jG) th j).1=(aJ (T:=jG) s.2.2.2 j).1\/((aJ (T:=jG) s.2.2.2 j).1=3/\(aJ (T:=jG) th j).1=4)\/((aJ (T:=jG) s.2.2.2 j).1=0/\(aJ (T:=jG) th j).1=1))/\(j=t->¬k=16->¬(aJ (T:=jG) th j).1=3/\¬(aJ (T:=jG) th j).1=4):=λx hx hx4 th h=>⟨λhn=>.inl (by rw[h,ay hn]),λh2 h16=>by rw[h,aD h2];exact⟨hx.resolve_right h16,hx4⟩⟩
 have U:∀x:Int,t<(yA s.2.2.2 t x).length:=λx=>by unfold yA;rw[bT];exact t1
 by_cases k1:k=1
 .subst k1;exact st 2 (.inl (by decide)) (by decide) _ (IJ t0 t1 h0)
 by_cases k2:k=2
 .subst k2;exact st 5 (.inl (by decide)) (by decide) _ (IJ t0 t1 h0)
 by_cases k16:k=16
 .subst k16;exact st 3 (.inr rfl) (by decide) _ ((aiq t0 (U _) h0).trans (IJ t0 t1 h0))
 by_cases I:k=17
 .subst I;exact st 2 (.inl (by decide)) (by decide) _ ((aiq t0 (U _) h0).trans (IJ t0 t1 h0))
 by_cases k14:k=14
 .subst k14;exact same k1 I _ (aiw t0 t1 h0)
 by_cases k15:k=15
 .subst k15;exact same k1 I _ (aiw t0 t1 h0)
 by_cases k18:k=18
 .subst k18;rw[FO];by_cases hl:(wl s.2.2.2 o s.2.2.2.length).length=0
  .rw[aD hl];exact same k1 I _ rfl
  .rw[ay hl];have hc:=Iu u hl;have Y:=hml _ hc;have J:=h3 _ hc;dsimp only;rw[IJ Y.1 Y.2 h0];generalize BI (wl s.2.2.2 o s.2.2.2.length) u=c at J;by_cases hj:j=c
   .rw[aD hj,hj];exact⟨λ_=>.inr (.inl ⟨J,rfl⟩),λh _=>by rw[h,M k1 I]at J;exact cY J (by decide)⟩
   .rw[ay hj];exact⟨λ_=>.inl rfl,λh _=>by rw[h,M k1 I];decide⟩
 by_cases k19:k=19
 .subst k19;show (_->(aJ (T:=jG) (C_ _ _) j).1=_\/_/\(aJ (T:=jG) (C_ _ _) j).1=_\/_/\(aJ (T:=jG) (C_ _ _) j).1=_)/\(_->_->¬(aJ (T:=jG) (C_ _ _) j).1=_/\¬(aJ (T:=jG) (C_ _ _) j).1=_)
  rw[aij h0 _ _ hml];by_cases hj:j∈wl s.2.2.2 o s.2.2.2.length
  .rw[aD hj];have J:=h3 _ hj;exact⟨λ_=>.inr (.inl ⟨J,rfl⟩),λh _=>by rw[h,M k1 I]at J;exact cY J (by decide)⟩
  .rw[ay hj];exact⟨λ_=>.inl rfl,λh _=>by rw[h,M k1 I];decide⟩
 by_cases k20:k=20
 .subst k20;obtain⟨o0,o1⟩:=he.nm.th (.inl rfl);obtain⟨hot,ho0⟩:=hr.sp rfl;have Z:o<s.2.2.2.length:=by rw[he.e3];exact o1
  show (_->(aJ (T:=jG) (yA _ _ _) j).1=_\/_/\(aJ (T:=jG) (yA _ _ _) j).1=_\/_/\(aJ (T:=jG) (yA _ _ _) j).1=_)/\(_->_->¬(aJ (T:=jG) (yA _ _ _) j).1=_/\¬(aJ (T:=jG) (yA _ _ _) j).1=_)
  rw[IJ o0 Z h0];by_cases hj:j=o
  .rw[aD hj,hj];exact⟨λ_=>.inr (.inr ⟨ho0,rfl⟩),λh _=>(hot h).elim⟩
  .rw[ay hj];exact⟨λ_=>.inl rfl,λh _=>by rw[h,M k1 I];decide⟩
 refine same k1 I _ ?_;unfold rn;rw[ay k1,ay k2];repeat' split
 all_goals first|rfl|omega
theorem agc {e e':ET} (h1:e'.1=e.1) (h2:e'.2.1=e.2.1) (t:Int):fl [e'] t=fl [e] t:=by
 by_cases h:e.1=t
 .rw[zO h,zO (h1.trans h)];unfold tN;rw[h2]
 .rw[wW h,wW (λg=>h (h1.symm.trans g))]
theorem ahy {L:List ET} {e e':ET} (h1:e'.1=e.1) (h2:e'.2.1=e.2.1) {k y:Int} (h:FQ (L++[e]) k y):FQ (L++[e']) k y:=by
 unfold FQ Lz at h ⊢;rw[uS,agc h1 h2,<-uS];exact h
theorem JO {T:Ty} (xs:List T.den) (i k:Nat) (x:T.den) (hi:i<xs.length):aJ (xs.set i x) (k:Int)=if k=i then x else aJ xs (k:Int):=by
 refine (rS xs (i:Int) (k:Int) x (by omega) (by omega) (by omega)).trans ?_;by_cases h:k=i
 .rw[aD h,aD (by omega)]
 .rw[ay h,ay (by omega)]
def SQ (n:Nat) (c:CT) (L:List ET) (y:ST×ET×Bool):Prop:=y.2.2=ai->SV (n+1) (L++[y.2.1]) y.1/\LN c (L++[y.2.1]) y.1/\EvF c.1 y.2.1/\EvS y.2.1
theorem ahf {n:Nat} (hn:n+1<=100000) {c:CT} {L:List ET} {s:ST} {i:Nat} {kd o v0 si:Int} {ds fs:η} {sy:SY} (hs:SV n L s) (hI:LN c L s) (hp:PE n c s (i:Int) ((i:Int),kd,o,v0,si,ds,fs)) (hm:PS c L s (i:Int) ((i:Int),kd,o,v0,si,ds,fs)) (he:EN c.1 s.1 (i:Int) kd o) (hr:WS c.1 s.1 (i:Int) kd o) (ha:AP n s.1 sy) (I:Int) (ce fu:η) (t':TT) (hap:(rn c.1 s.1 (i:Int) kd o I).1=sy) (hva:VA c.1 s.1 s.2.1 s.2.2.1 (i:Int) kd o I) (hce:ce=ZJ s.2.1 ((i:Int),kd,o,I,si,ds,fs)) (hfu:fu=fuP s.2.2.1 ((i:Int),kd,o,I,si,ds,fs)) (ht:TH (FQ (L++[((i:Int),kd,o,v0,si,ds,fs)]) (i:Int)) (n+1) t') (hg:t'.2.1.length=0\/t'.2.2.2=bk .i64 ((aJ (T:=vg) s.2.2.2 (i:Int)).2.2.2+1)/\(kd=16->t'.1=(aJ (T:=vg) s.2.2.2 (i:Int)).1)):SQ n c L ((sy,ce,fu,s.2.2.2.set i t'),((i:Int),kd,o,I,si,ds,fs),ai):=by
 intro _;have q1:=hp.t1;have q2:=hp.fs.th;have q3:=hp.fs.e3;have q4:=hp.fs.vc.tl;have hil:i<s.2.2.2.length:=by omega
 have hln:=hs.ln;refine ⟨⟨ha.toSB hs.sb hn,by simp[hln],λk hk=>?_⟩,⟨?_,λk hk=>?_⟩,⟨he.nm,he.t0,he.t1,he.cd⟩,⟨dg hp.d (by omega),dg hp.f (by omega)⟩⟩
 .dsimp only at hk ⊢;rw[sY]at hk;rw[JO (T:=vg) _ _ _ _ hil];split
  .rename_i h;subst h;exact ht.mono (bX _) λy J=>ahy (e:=((k:Int),kd,o,v0,si,ds,fs)) (e':=((k:Int),kd,o,I,si,ds,fs)) rfl rfl J
  .exact (hs.t k hk).mono (by omega) λy J=>⟨J.1,J.2.app _⟩
 .rw[<- hap,hce,hfu];exact hI.ac.snoc (e:=((i:Int),kd,o,I,si,ds,fs)) ⟨he,hr,hm.s1,hm.s2,hm.de,hm.fr,⟨hm.da,λx U=>⟨(hm.dq x U).1,(hm.dq x U).2.lt⟩⟩,⟨hm.fa,λx U=>⟨(hm.fq x U).1,(hm.fq x U).2.lt⟩⟩,λy J=>(hm.dq y J).2,λy J=>(hm.fq y J).2,hva⟩
 .dsimp only at hk ⊢;rw[sY]at hk;rw[JO (T:=vg) _ _ _ _ hil];obtain⟨IK,st2⟩:=akj I he hr (j:=(k:Int)) (by omega);rw[hap]at IK st2;have hfl:=XT L (i:Int);split
  .rename_i h;subst h;rcases hg with hg|⟨g1,g2⟩
   .exact .inl hg
   .refine .inr ⟨?_,λZ=>?_,λM=>?_⟩
    .rw[g1,hm.tg.ev,uS,zO rfl,gO (by omega)];simp
    .have Y:kd=16:=vW λh=>Z.elim (st2 rfl h).1 (st2 rfl h).2
     rw[g2 Y];exact hm.wt Y
    .rw[uS,zO rfl]at M;simp at M
  .rename_i h;have hki:¬(k:Int)=(i:Int):=by omega
   have hfo:∀e:ET,e.1=(i:Int)->fl (L++[e]) (k:Int)=fl L (k:Int):=λe h=>by
    rw[uS,wW (by rw[h];exact λh=>hki h.symm),iZ]
   have IK:=IK hki;refine (hI.t k hk).imp id λg=>⟨by rw[hfo _ rfl];exact g.ev,λZ=>g.wi (by
    rcases IK with h1|⟨h1,_⟩|⟨_,h1⟩
    .rw[<- h1];exact Z
    .exact .inl h1
    .exact Z.elim (λh=>cY (h1.symm.trans h) (by decide)) λh=>cY (h1.symm.trans h) (by decide)),λM=>?_⟩
   rw[hfo _ rfl]at M;have g2:=g.nw M;rcases IK with h1|⟨h1,_⟩|⟨_,h1⟩
   .rw[h1];exact g2
   .exact (g2.elim (λh=>cY (h1.symm.trans h) (by decide)) λh=>cY (h1.symm.trans h) (by decide))
   .exact .inr h1
theorem kz {α R:Type} (o:Option α):obind o (λ_=>(ah:Option R))=ah:=by cases o<;>rfl
theorem oZ {R:Type} (b:Bool):chk b (λ_=>(ah:Option R))=ah:=by cases b<;>rfl
theorem sd {α R:Type} (x:α):lt x (λ_=>(ah:Option R))=ah:=rfl
def QM {R:Type} (o:Option R) (Q:R->Prop):Prop:=o=ah\/Ok o Q
theorem QM.or {R:Type} {a b:Option R} {Q:R->Prop} (I:QM a Q) (hb:QM b Q):QM (orE a b) Q:=by
 rcases I with rfl|⟨y,rfl,h⟩
 .exact hb
 .exact .inr ⟨y,rfl,h⟩
theorem Ok.orL {R:Type} {a b:Option R} {Q:R->Prop} (I:Ok a Q):Ok (orE a b) Q:=by
 obtain⟨y,rfl,h⟩:=I;exact⟨y,rfl,h⟩
theorem QM.orR {R:Type} {a b:Option R} {Q:R->Prop} (I:QM a Q) (hb:Ok b Q):Ok (orE a b) Q:=by
 rcases I with rfl|⟨y,rfl,h⟩
 .exact hb
 .exact⟨y,rfl,h⟩
theorem II {n:Nat} (hn:n+1<=100000) {c:CT} {L:List ET} {s:ST} {t u:Int} (hc:CB c) (hs:SV n L s) (U:LN c L s) (G:Option (ST×ET×Bool)->Prop) (Y:∀y,SQ n c L y->G (af y)) (k:ET×Bool->SY×Int×Bool->Option (ST×ET×Bool))
 (hk:∀e v sy,PE n c s t e->PS c L s t e->EN c.1 s.1 t e.2.1 e.2.2.1->WS c.1 s.1 t e.2.1 e.2.2.1->AP n s.1 sy->(sy,v)=rn c.1 s.1 t e.2.1 e.2.2.1 u->G (k (e,ai) (sy,v,ai))):
 G (obind (nS (c,s,t)) λI=>bcase (!I.2) (af ((([],0,[],[]),[],[],[]),(0,0,0,0,0,[],[]),aj)) (obind (py (c.1,s.1,t,I.1.2.1,I.1.2.2.1,u)) λJ=>bcase (!J.2.2) (af ((([],0,[],[]),[],[],[]),(0,0,0,0,0,[],[]),aj)) (k I J))):=by
 have M:=Y ((([],0,[],[]),[],[],[]),(0,0,0,0,0,[],[]),aj) λh=>(by cases h)
 obtain⟨⟨e,b⟩,h1,h2⟩:=WU n (by omega) c L s hc hs U t;rw[h1,XC];cases b with
 |false=>exact M
 |true=>
  obtain⟨hp,hm⟩:=h2 rfl;have hcd:c.1.2.2.1.length<=1000:=by have:=hp.fs.vc.vl.d;omega
  obtain⟨⟨sy,v,b⟩,h3,Z,_,_⟩:=Us c.1 s.1 hs.sb hcd t e.2.1 e.2.2.1 u;have e0:∀{R:Type} (a b:Option R),bcase (!ai) a b=b:=λ_ _=>rfl
  rw[e0,h3,XC];cases b with
  |false=>exact M
  |true=>
   obtain⟨g1,g2,g3,g4⟩:=Z rfl;exact hk e v sy hp hm g1 g2 g3 g4
theorem aaf {E:Nat} {L:List ET} (sy:SY) (ce fu:η) (a:TT) (h:SV E L (sy,ce,fu,[a])) (hce:ce.length<=1000) (hfu:fu.length<=1000):nh (sy,ce,fu,[a])=af ((sy.2.1,sy.1,sy.2.2.1,sy.2.2.2).1,(sy.2.1,sy.1,sy.2.2.1,sy.2.2.2).2.1,(sy.2.1,sy.1,sy.2.2.1,sy.2.2.2).2.2.1,(sy.2.1,sy.1,sy.2.2.1,sy.2.2.2).2.2.2,(([]:η)++ce),(([]:η)++fu),((a.1,a.2.2.2),a.2.1,a.2.2.1)):=by
 have J:=h.sb.n1;have I:TH (FQ L 0) E a:=h.t 0 (by simp);refine cI ?_;unfold nh aX bL bz bB bF aY;refine aU (qY sy h.sb) ?_;refine bh (by simp;omega) (by omega) (bh (by simp;omega) (by omega) ?_);refine fI rfl (bg rfl (aS (aU (dc a E J I) ?_)));exact fP rfl (ar rfl)
theorem Uq (sy:SY) (ce fu:η) (l:List TT) (h0:l.length<=4) (h:l.length≠1):nh (sy,ce,fu,l)=ah:=by
 unfold nh aX bL bz bB bF aY;rcases l with _|⟨a,_|⟨b,_|⟨c,_|⟨d,_|⟨e,l⟩⟩⟩⟩⟩;all_goals first|(simp at h;done)|(exfalso;simp only[b_]at h0;omega)|simp[fV,kz,oZ,sd,bcT,bcF]
theorem aae {E:Nat} {L:List ET} (sy:SY) (ce fu:η) (a b:TT) (h:SV E L (sy,ce,fu,[a,b])) (hce:ce.length<=1000) (hfu:fu.length<=1000):ng (sy,ce,fu,[a,b])=af ((sy.2.1,sy.1,sy.2.2.1,sy.2.2.2).1,(sy.2.1,sy.1,sy.2.2.1,sy.2.2.2).2.1,(sy.2.1,sy.1,sy.2.2.1,sy.2.2.2).2.2.1,(sy.2.1,sy.1,sy.2.2.1,sy.2.2.2).2.2.2,(([]:η)++ce),(([]:η)++fu),(((a.1,a.2.2.2),a.2.1,a.2.2.1).1.1,((a.1,a.2.2.2),a.2.1,a.2.2.1).1.2,((b.1,b.2.2.2),b.2.1,b.2.2.1).1.1,((b.1,b.2.2.2),b.2.1,b.2.2.1).2.1,((b.1,b.2.2.2),b.2.1,b.2.2.1).2.2,((b.1,b.2.2.2),b.2.1,b.2.2.1).1.2),((a.1,a.2.2.2),a.2.1,a.2.2.1).2):=by
 have I:=h.sb.n1;have J:TH (FQ L 0) E a:=h.t 0 (by simp);have hb:TH (FQ L 1) E b:=h.t 1 (by simp);refine cI ?_;unfold ng aX bL bz bB bF aY;refine aU (qY sy h.sb) ?_;refine bh (by simp;omega) (by omega) (bh (by simp;omega) (by omega) ?_);refine fI rfl (bg rfl (aS (aU (dc a E I J) ?_)));refine fI rfl (bg rfl (aS (aU (dc b E I hb) ?_)));exact fP rfl (ar rfl)
theorem Up (sy:SY) (ce fu:η) (l:List TT) (h0:l.length<=4) (h:l.length≠2):ng (sy,ce,fu,l)=ah:=by
 unfold ng aX bL bz bB bF aY;rcases l with _|⟨a,_|⟨b,_|⟨c,_|⟨d,_|⟨e,l⟩⟩⟩⟩⟩;all_goals first|(simp at h;done)|(exfalso;simp only[b_]at h0;omega)|simp[fV,kz,oZ,sd,bcT,bcF]
theorem aad {E:Nat} {L:List ET} (sy:SY) (ce fu:η) (a b:TT) (h:SV E L (sy,ce,fu,[a,b])) (hce:ce.length<=1000) (hfu:fu.length<=1000):ne (sy,ce,fu,[a,b])=af ((sy.2.1,sy.1,sy.2.2.1,sy.2.2.2).1,(sy.2.1,sy.1,sy.2.2.1,sy.2.2.2).2.1,(sy.2.1,sy.1,sy.2.2.1,sy.2.2.2).2.2.1,(sy.2.1,sy.1,sy.2.2.1,sy.2.2.2).2.2.2,(([]:η)++ce),(([]:η)++fu),((((a.1,a.2.2.2),a.2.1,a.2.2.1).1.1,((a.1,a.2.2.2),a.2.1,a.2.2.1).2.1,((a.1,a.2.2.2),a.2.1,a.2.2.1).2.2,((a.1,a.2.2.2),a.2.1,a.2.2.1).1.2),((b.1,b.2.2.2),b.2.1,b.2.2.1).1),((b.1,b.2.2.2),b.2.1,b.2.2.1).2):=by
 have I:=h.sb.n1;have J:TH (FQ L 0) E a:=h.t 0 (by simp);have hb:TH (FQ L 1) E b:=h.t 1 (by simp);refine cI ?_;unfold ne aX bL bz bB bF aY;refine aU (qY sy h.sb) ?_;refine bh (by simp;omega) (by omega) (bh (by simp;omega) (by omega) ?_);refine fI rfl (bg rfl (aS (aU (dc a E I J) ?_)));refine fI rfl (bg rfl (aS (aU (dc b E I hb) ?_)));exact fP rfl (ar rfl)
theorem Uo (sy:SY) (ce fu:η) (l:List TT) (h0:l.length<=4) (h:l.length≠2):ne (sy,ce,fu,l)=ah:=by
 unfold ne aX bL bz bB bF aY;rcases l with _|⟨a,_|⟨b,_|⟨c,_|⟨d,_|⟨e,l⟩⟩⟩⟩⟩;all_goals first|(simp at h;done)|(exfalso;simp only[b_]at h0;omega)|simp[fV,kz,oZ,sd,bcT,bcF]
theorem aac {E:Nat} {L:List ET} (sy:SY) (ce fu:η) (a b c:TT) (h:SV E L (sy,ce,fu,[a,b,c])) (hce:ce.length<=1000) (hfu:fu.length<=1000):m_ (sy,ce,fu,[a,b,c])=af ((sy.2.1,sy.1,sy.2.2.1,sy.2.2.2).1,(sy.2.1,sy.1,sy.2.2.1,sy.2.2.2).2.1,(sy.2.1,sy.1,sy.2.2.1,sy.2.2.2).2.2.1,(sy.2.1,sy.1,sy.2.2.1,sy.2.2.2).2.2.2,(([]:η)++ce),(([]:η)++fu),(((a.1,a.2.2.2),a.2.1,a.2.2.1).1.1,((a.1,a.2.2.2),a.2.1,a.2.2.1).1.2,(((b.1,b.2.2.2),b.2.1,b.2.2.1).1.1,((b.1,b.2.2.2),b.2.1,b.2.2.1).2.1,((b.1,b.2.2.2),b.2.1,b.2.2.1).2.2,((b.1,b.2.2.2),b.2.1,b.2.2.1).1.2),((c.1,c.2.2.2),c.2.1,c.2.2.1).1.1,((c.1,c.2.2.2),c.2.1,c.2.2.1).2.1,((c.1,c.2.2.2),c.2.1,c.2.2.1).2.2,((c.1,c.2.2.2),c.2.1,c.2.2.1).1.2),((a.1,a.2.2.2),a.2.1,a.2.2.1).2):=by
 have I:=h.sb.n1;have J:TH (FQ L 0) E a:=h.t 0 (by simp);have hb:TH (FQ L 1) E b:=h.t 1 (by simp);have hc:TH (FQ L 2) E c:=h.t 2 (by simp);refine cI ?_;unfold m_ aX bL bz bB bF aY;refine aU (qY sy h.sb) ?_;refine bh (by simp;omega) (by omega) (bh (by simp;omega) (by omega) ?_);refine fI rfl (bg rfl (aS (aU (dc a E I J) ?_)));refine fI rfl (bg rfl (aS (aU (dc b E I hb) ?_)));refine fI rfl (bg rfl (aS (aU (dc c E I hc) ?_)));exact fP rfl (ar rfl)
theorem Un (sy:SY) (ce fu:η) (l:List TT) (h0:l.length<=4) (h:l.length≠3):m_ (sy,ce,fu,l)=ah:=by
 unfold m_ aX bL bz bB bF aY;rcases l with _|⟨a,_|⟨b,_|⟨c,_|⟨d,_|⟨e,l⟩⟩⟩⟩⟩;all_goals first|(simp at h;done)|(exfalso;simp only[b_]at h0;omega)|simp[fV,kz,oZ,sd,bcT,bcF]
theorem aab {E:Nat} {L:List ET} (sy:SY) (ce fu:η) (a b c:TT) (h:SV E L (sy,ce,fu,[a,b,c])) (hce:ce.length<=1000) (hfu:fu.length<=1000):m8 (sy,ce,fu,[a,b,c])=af ((sy.2.1,sy.1,sy.2.2.1,sy.2.2.2).1,(sy.2.1,sy.1,sy.2.2.1,sy.2.2.2).2.1,(sy.2.1,sy.1,sy.2.2.1,sy.2.2.2).2.2.1,(sy.2.1,sy.1,sy.2.2.1,sy.2.2.2).2.2.2,(([]:η)++ce),(([]:η)++fu),((((a.1,a.2.2.2),a.2.1,a.2.2.1).1.1,((a.1,a.2.2.2),a.2.1,a.2.2.1).2.1,((a.1,a.2.2.2),a.2.1,a.2.2.1).2.2,((a.1,a.2.2.2),a.2.1,a.2.2.1).1.2),((b.1,b.2.2.2),b.2.1,b.2.2.1).1.1,((b.1,b.2.2.2),b.2.1,b.2.2.1).1.2,((c.1,c.2.2.2),c.2.1,c.2.2.1).1.1,((c.1,c.2.2.2),c.2.1,c.2.2.1).2.1,((c.1,c.2.2.2),c.2.1,c.2.2.1).2.2,((c.1,c.2.2.2),c.2.1,c.2.2.1).1.2),((b.1,b.2.2.2),b.2.1,b.2.2.1).2):=by
 have I:=h.sb.n1;have J:TH (FQ L 0) E a:=h.t 0 (by simp);have hb:TH (FQ L 1) E b:=h.t 1 (by simp);have hc:TH (FQ L 2) E c:=h.t 2 (by simp);refine cI ?_;unfold m8 aX bL bz bB bF aY;refine aU (qY sy h.sb) ?_;refine bh (by simp;omega) (by omega) (bh (by simp;omega) (by omega) ?_);refine fI rfl (bg rfl (aS (aU (dc a E I J) ?_)));refine fI rfl (bg rfl (aS (aU (dc b E I hb) ?_)));refine fI rfl (bg rfl (aS (aU (dc c E I hc) ?_)));exact fP rfl (ar rfl)
theorem Um (sy:SY) (ce fu:η) (l:List TT) (h0:l.length<=4) (h:l.length≠3):m8 (sy,ce,fu,l)=ah:=by
 unfold m8 aX bL bz bB bF aY;rcases l with _|⟨a,_|⟨b,_|⟨c,_|⟨d,_|⟨e,l⟩⟩⟩⟩⟩;all_goals first|(simp at h;done)|(exfalso;simp only[b_]at h0;omega)|simp[fV,kz,oZ,sd,bcT,bcF]
theorem aaa {E:Nat} {L:List ET} (sy:SY) (ce fu:η) (a b c:TT) (h:SV E L (sy,ce,fu,[a,b,c])) (hce:ce.length<=1000) (hfu:fu.length<=1000):m7 (sy,ce,fu,[a,b,c])=af ((sy.2.1,sy.1,sy.2.2.1,sy.2.2.2).1,(sy.2.1,sy.1,sy.2.2.1,sy.2.2.2).2.1,(sy.2.1,sy.1,sy.2.2.1,sy.2.2.2).2.2.1,(sy.2.1,sy.1,sy.2.2.1,sy.2.2.2).2.2.2,(([]:η)++ce),(([]:η)++fu),((((a.1,a.2.2.2),a.2.1,a.2.2.1).1.1,((a.1,a.2.2.2),a.2.1,a.2.2.1).2.1,((a.1,a.2.2.2),a.2.1,a.2.2.1).2.2,((a.1,a.2.2.2),a.2.1,a.2.2.1).1.2),(((b.1,b.2.2.2),b.2.1,b.2.2.1).1.1,((b.1,b.2.2.2),b.2.1,b.2.2.1).2.1,((b.1,b.2.2.2),b.2.1,b.2.2.1).2.2,((b.1,b.2.2.2),b.2.1,b.2.2.1).1.2),((c.1,c.2.2.2),c.2.1,c.2.2.1).1),((c.1,c.2.2.2),c.2.1,c.2.2.1).2):=by
 have I:=h.sb.n1;have J:TH (FQ L 0) E a:=h.t 0 (by simp);have hb:TH (FQ L 1) E b:=h.t 1 (by simp);have hc:TH (FQ L 2) E c:=h.t 2 (by simp);refine cI ?_;unfold m7 aX bL bz bB bF aY;refine aU (qY sy h.sb) ?_;refine bh (by simp;omega) (by omega) (bh (by simp;omega) (by omega) ?_);refine fI rfl (bg rfl (aS (aU (dc a E I J) ?_)));refine fI rfl (bg rfl (aS (aU (dc b E I hb) ?_)));refine fI rfl (bg rfl (aS (aU (dc c E I hc) ?_)));exact fP rfl (ar rfl)
theorem Ul (sy:SY) (ce fu:η) (l:List TT) (h0:l.length<=4) (h:l.length≠3):m7 (sy,ce,fu,l)=ah:=by
 unfold m7 aX bL bz bB bF aY;rcases l with _|⟨a,_|⟨b,_|⟨c,_|⟨d,_|⟨e,l⟩⟩⟩⟩⟩;all_goals first|(simp at h;done)|(exfalso;simp only[b_]at h0;omega)|simp[fV,kz,oZ,sd,bcT,bcF]
theorem aa9 {E:Nat} {L:List ET} (sy:SY) (ce fu:η) (a b c d:TT) (h:SV E L (sy,ce,fu,[a,b,c,d])) (hce:ce.length<=1000) (hfu:fu.length<=1000):m6 (sy,ce,fu,[a,b,c,d])=af ((sy.2.1,sy.1,sy.2.2.1,sy.2.2.2).1,(sy.2.1,sy.1,sy.2.2.1,sy.2.2.2).2.1,(sy.2.1,sy.1,sy.2.2.1,sy.2.2.2).2.2.1,(sy.2.1,sy.1,sy.2.2.1,sy.2.2.2).2.2.2,(([]:η)++ce),(([]:η)++fu),(((a.1,a.2.2.2),a.2.1,a.2.2.1).1.1,((a.1,a.2.2.2),a.2.1,a.2.2.1).1.2,(((b.1,b.2.2.2),b.2.1,b.2.2.1).1.1,((b.1,b.2.2.2),b.2.1,b.2.2.1).2.1,((b.1,b.2.2.2),b.2.1,b.2.2.1).2.2,((b.1,b.2.2.2),b.2.1,b.2.2.1).1.2),(((c.1,c.2.2.2),c.2.1,c.2.2.1).1.1,((c.1,c.2.2.2),c.2.1,c.2.2.1).2.1,((c.1,c.2.2.2),c.2.1,c.2.2.1).2.2,((c.1,c.2.2.2),c.2.1,c.2.2.1).1.2),((d.1,d.2.2.2),d.2.1,d.2.2.1).1.1,((d.1,d.2.2.2),d.2.1,d.2.2.1).2.1,((d.1,d.2.2.2),d.2.1,d.2.2.1).2.2,((d.1,d.2.2.2),d.2.1,d.2.2.1).1.2),((a.1,a.2.2.2),a.2.1,a.2.2.1).2):=by
 have I:=h.sb.n1;have J:TH (FQ L 0) E a:=h.t 0 (by simp);have hb:TH (FQ L 1) E b:=h.t 1 (by simp);have hc:TH (FQ L 2) E c:=h.t 2 (by simp);have hd:TH (FQ L 3) E d:=h.t 3 (by simp);refine cI ?_;unfold m6 aX bL bz bB bF aY;refine aU (qY sy h.sb) ?_;refine bh (by simp;omega) (by omega) (bh (by simp;omega) (by omega) ?_);refine fI rfl (bg rfl (aS (aU (dc a E I J) ?_)));refine fI rfl (bg rfl (aS (aU (dc b E I hb) ?_)));refine fI rfl (bg rfl (aS (aU (dc c E I hc) ?_)));refine fI rfl (bg rfl (aS (aU (dc d E I hd) ?_)));exact fP rfl (ar rfl)
theorem Uk (sy:SY) (ce fu:η) (l:List TT) (h0:l.length<=4) (h:l.length≠4):m6 (sy,ce,fu,l)=ah:=by
 unfold m6 aX bL bz bB bF aY;rcases l with _|⟨a,_|⟨b,_|⟨c,_|⟨d,_|⟨e,l⟩⟩⟩⟩⟩;all_goals first|(simp at h;done)|(exfalso;simp only[b_]at h0;omega)|simp[fV,kz,oZ,sd,bcT,bcF]
theorem aa8 {E:Nat} {L:List ET} (sy:SY) (ce fu:η) (a b c d:TT) (h:SV E L (sy,ce,fu,[a,b,c,d])) (hce:ce.length<=1000) (hfu:fu.length<=1000):mZ (sy,ce,fu,[a,b,c,d])=af ((sy.2.1,sy.1,sy.2.2.1,sy.2.2.2).1,(sy.2.1,sy.1,sy.2.2.1,sy.2.2.2).2.1,(sy.2.1,sy.1,sy.2.2.1,sy.2.2.2).2.2.1,(sy.2.1,sy.1,sy.2.2.1,sy.2.2.2).2.2.2,(([]:η)++ce),(([]:η)++fu),((((a.1,a.2.2.2),a.2.1,a.2.2.1).1.1,((a.1,a.2.2.2),a.2.1,a.2.2.1).2.1,((a.1,a.2.2.2),a.2.1,a.2.2.1).2.2,((a.1,a.2.2.2),a.2.1,a.2.2.1).1.2),((b.1,b.2.2.2),b.2.1,b.2.2.1).1.1,((b.1,b.2.2.2),b.2.1,b.2.2.1).1.2,(((c.1,c.2.2.2),c.2.1,c.2.2.1).1.1,((c.1,c.2.2.2),c.2.1,c.2.2.1).2.1,((c.1,c.2.2.2),c.2.1,c.2.2.1).2.2,((c.1,c.2.2.2),c.2.1,c.2.2.1).1.2),((d.1,d.2.2.2),d.2.1,d.2.2.1).1.1,((d.1,d.2.2.2),d.2.1,d.2.2.1).2.1,((d.1,d.2.2.2),d.2.1,d.2.2.1).2.2,((d.1,d.2.2.2),d.2.1,d.2.2.1).1.2),((b.1,b.2.2.2),b.2.1,b.2.2.1).2):=by
 have I:=h.sb.n1;have J:TH (FQ L 0) E a:=h.t 0 (by simp);have hb:TH (FQ L 1) E b:=h.t 1 (by simp);have hc:TH (FQ L 2) E c:=h.t 2 (by simp);have hd:TH (FQ L 3) E d:=h.t 3 (by simp);refine cI ?_;unfold mZ aX bL bz bB bF aY;refine aU (qY sy h.sb) ?_;refine bh (by simp;omega) (by omega) (bh (by simp;omega) (by omega) ?_);refine fI rfl (bg rfl (aS (aU (dc a E I J) ?_)));refine fI rfl (bg rfl (aS (aU (dc b E I hb) ?_)));refine fI rfl (bg rfl (aS (aU (dc c E I hc) ?_)));refine fI rfl (bg rfl (aS (aU (dc d E I hd) ?_)));exact fP rfl (ar rfl)
theorem Uj (sy:SY) (ce fu:η) (l:List TT) (h0:l.length<=4) (h:l.length≠4):mZ (sy,ce,fu,l)=ah:=by
 unfold mZ aX bL bz bB bF aY;rcases l with _|⟨a,_|⟨b,_|⟨c,_|⟨d,_|⟨e,l⟩⟩⟩⟩⟩;all_goals first|(simp at h;done)|(exfalso;simp only[b_]at h0;omega)|simp[fV,kz,oZ,sd,bcT,bcF]
theorem aa7 {E:Nat} {L:List ET} (sy:SY) (ce fu:η) (a b c d:TT) (h:SV E L (sy,ce,fu,[a,b,c,d])) (hce:ce.length<=1000) (hfu:fu.length<=1000):mY (sy,ce,fu,[a,b,c,d])=af ((sy.2.1,sy.1,sy.2.2.1,sy.2.2.2).1,(sy.2.1,sy.1,sy.2.2.1,sy.2.2.2).2.1,(sy.2.1,sy.1,sy.2.2.1,sy.2.2.2).2.2.1,(sy.2.1,sy.1,sy.2.2.1,sy.2.2.2).2.2.2,(([]:η)++ce),(([]:η)++fu),((((a.1,a.2.2.2),a.2.1,a.2.2.1).1.1,((a.1,a.2.2.2),a.2.1,a.2.2.1).2.1,((a.1,a.2.2.2),a.2.1,a.2.2.1).2.2,((a.1,a.2.2.2),a.2.1,a.2.2.1).1.2),(((b.1,b.2.2.2),b.2.1,b.2.2.1).1.1,((b.1,b.2.2.2),b.2.1,b.2.2.1).2.1,((b.1,b.2.2.2),b.2.1,b.2.2.1).2.2,((b.1,b.2.2.2),b.2.1,b.2.2.1).1.2),((c.1,c.2.2.2),c.2.1,c.2.2.1).1.1,((c.1,c.2.2.2),c.2.1,c.2.2.1).1.2,((d.1,d.2.2.2),d.2.1,d.2.2.1).1.1,((d.1,d.2.2.2),d.2.1,d.2.2.1).2.1,((d.1,d.2.2.2),d.2.1,d.2.2.1).2.2,((d.1,d.2.2.2),d.2.1,d.2.2.1).1.2),((c.1,c.2.2.2),c.2.1,c.2.2.1).2):=by
 have I:=h.sb.n1;have J:TH (FQ L 0) E a:=h.t 0 (by simp);have hb:TH (FQ L 1) E b:=h.t 1 (by simp);have hc:TH (FQ L 2) E c:=h.t 2 (by simp);have hd:TH (FQ L 3) E d:=h.t 3 (by simp);refine cI ?_;unfold mY aX bL bz bB bF aY;refine aU (qY sy h.sb) ?_;refine bh (by simp;omega) (by omega) (bh (by simp;omega) (by omega) ?_);refine fI rfl (bg rfl (aS (aU (dc a E I J) ?_)));refine fI rfl (bg rfl (aS (aU (dc b E I hb) ?_)));refine fI rfl (bg rfl (aS (aU (dc c E I hc) ?_)));refine fI rfl (bg rfl (aS (aU (dc d E I hd) ?_)));exact fP rfl (ar rfl)
theorem Ui (sy:SY) (ce fu:η) (l:List TT) (h0:l.length<=4) (h:l.length≠4):mY (sy,ce,fu,l)=ah:=by
 unfold mY aX bL bz bB bF aY;rcases l with _|⟨a,_|⟨b,_|⟨c,_|⟨d,_|⟨e,l⟩⟩⟩⟩⟩;all_goals first|(simp at h;done)|(exfalso;simp only[b_]at h0;omega)|simp[fV,kz,oZ,sd,bcT,bcF]
theorem aa6 {E:Nat} {L:List ET} (sy:SY) (ce fu:η) (a b c d:TT) (h:SV E L (sy,ce,fu,[a,b,c,d])) (hce:ce.length<=1000) (hfu:fu.length<=1000):mX (sy,ce,fu,[a,b,c,d])=af ((sy.2.1,sy.1,sy.2.2.1,sy.2.2.2).1,(sy.2.1,sy.1,sy.2.2.1,sy.2.2.2).2.1,(sy.2.1,sy.1,sy.2.2.1,sy.2.2.2).2.2.1,(sy.2.1,sy.1,sy.2.2.1,sy.2.2.2).2.2.2,(([]:η)++ce),(([]:η)++fu),((((a.1,a.2.2.2),a.2.1,a.2.2.1).1.1,((a.1,a.2.2.2),a.2.1,a.2.2.1).2.1,((a.1,a.2.2.2),a.2.1,a.2.2.1).2.2,((a.1,a.2.2.2),a.2.1,a.2.2.1).1.2),(((b.1,b.2.2.2),b.2.1,b.2.2.1).1.1,((b.1,b.2.2.2),b.2.1,b.2.2.1).2.1,((b.1,b.2.2.2),b.2.1,b.2.2.1).2.2,((b.1,b.2.2.2),b.2.1,b.2.2.1).1.2),(((c.1,c.2.2.2),c.2.1,c.2.2.1).1.1,((c.1,c.2.2.2),c.2.1,c.2.2.1).2.1,((c.1,c.2.2.2),c.2.1,c.2.2.1).2.2,((c.1,c.2.2.2),c.2.1,c.2.2.1).1.2),((d.1,d.2.2.2),d.2.1,d.2.2.1).1),((d.1,d.2.2.2),d.2.1,d.2.2.1).2):=by
 have I:=h.sb.n1;have J:TH (FQ L 0) E a:=h.t 0 (by simp);have hb:TH (FQ L 1) E b:=h.t 1 (by simp);have hc:TH (FQ L 2) E c:=h.t 2 (by simp);have hd:TH (FQ L 3) E d:=h.t 3 (by simp);refine cI ?_;unfold mX aX bL bz bB bF aY;refine aU (qY sy h.sb) ?_;refine bh (by simp;omega) (by omega) (bh (by simp;omega) (by omega) ?_);refine fI rfl (bg rfl (aS (aU (dc a E I J) ?_)));refine fI rfl (bg rfl (aS (aU (dc b E I hb) ?_)));refine fI rfl (bg rfl (aS (aU (dc c E I hc) ?_)));refine fI rfl (bg rfl (aS (aU (dc d E I hd) ?_)));exact fP rfl (ar rfl)
theorem Uh (sy:SY) (ce fu:η) (l:List TT) (h0:l.length<=4) (h:l.length≠4):mX (sy,ce,fu,l)=ah:=by
 unfold mX aX bL bz bB bF aY;rcases l with _|⟨a,_|⟨b,_|⟨c,_|⟨d,_|⟨e,l⟩⟩⟩⟩⟩;all_goals first|(simp at h;done)|(exfalso;simp only[b_]at h0;omega)|simp[fV,kz,oZ,sd,bcT,bcF]
theorem kdx (k:Int):k=1\/k=16\/k=2\/k=3\/k=23\/k=4\/k=22\/k=5\/((k=1)=False/\(k=16)=False/\(k=2)=False/\(k=3)=False/\(k=23)=False/\(k=4)=False/\(k=22)=False/\(k=5)=False):=by
 by_cases h:k=1\/k=16\/k=2\/k=3\/k=23\/k=4\/k=22\/k=5
 .omega
 .repeat (first|exact⟨eq_false (by omega),eq_false (by omega),eq_false (by omega),eq_false (by omega),eq_false (by omega),eq_false (by omega),eq_false (by omega),eq_false (by omega)⟩|refine Or.inr ?_)
def KR {Z:Type} (n:Nat) (I:CT) (L:List ET) (i:Nat) (u:Int) (l:List TT) (z:Z) (k:Int->(CT×SY×(ν)×Int×(υ)×ET×(ν)×η×η×Z×η×List η)->Option (ST×ET×Bool)):Prop:=
 ∀(F:Int->Prop) (p:Int) (sy:SY) (kd o v si:Int) (ds fs ce fu R:η) (T:List η) (ev:Int),
  (kd≠16->kd≠2->Ok (nj (aJ (T:=wA) I.2 (i:Int),(p,R,T,bk .i64 (ev+1)))) λy=>TH F (n+1) y.1/\(y.1.2.1.length=0\/y.1.2.2.2=bk .i64 (ev+1)))->
  (kd=16\/kd=2->TH F (n+1) (p,R,T,bk .i64 (ev+1)))->
  (∀t',TH F (n+1) t'->(t'.2.1.length=0\/t'.2.2.2=bk .i64 (ev+1)/\(kd=16->t'.1=p))->SQ n I L ((sy,ce,fu,l.set i t'),((i:Int),kd,o,v,si,ds,fs),ai))->(i:Int)<(I.2.length:Int)->
  ∀J,Ok (k p (I,sy,((i:Int),u),0,(0,0,0,0,0),((i:Int),kd,o,v,si,ds,fs),(J,ev),ce,fu,z,R,T)) (SQ n I L)
theorem BK {Z:Type} (N i:Nat) {M:SY×η×η×List TT->Option (Int×(List (Int×η))×θ×(List (Int×Int×Bool))×η×η×Z×η×List η)} {pc ev:Z->Int} {k:Int->(CT×SY×(ν)×Int×(υ)×ET×(ν)×η×η×Z×η×List η)->Option (ST×ET×Bool)} {n:Nat} (hn:n+1<=100000) (I:CT) (L:List ET) (s:ST) (t u:Int) (hc:CB I) (hs:SV n L s) (hI:LN I L s)
 (h0:∀sy ce fu (l:List TT),l.length<=4->l.length≠N->M (sy,ce,fu,l)=ah)
 (h1:∀sy ce fu (l:List TT),SV n L (sy,ce,fu,l)->ce.length<=1000->fu.length<=1000->l.length=N->i<N/\∃y,M (sy,ce,fu,l)=af y/\y.2.2.2.2.1=ce/\y.2.2.2.2.2.1=fu/\y.2.2.2.2.2.2.2.1=(aJ (T:=vg) l (i:Int)).2.1/\y.2.2.2.2.2.2.2.2=(aJ (T:=vg) l (i:Int)).2.2.1/\pc y.2.2.2.2.2.2.1=(aJ (T:=vg) l (i:Int)).1/\ev y.2.2.2.2.2.2.1=(aJ (T:=vg) l (i:Int)).2.2.2/\KR n I L i u l y.2.2.2.2.2.2.1 k):
 QM (SG (i:Int) M pc ev k (I,s,t,u)) (SQ n I L)/\(s.2.2.2.length=N->t=(i:Int)->Ok (SG (i:Int) M pc ev k (I,s,t,u)) (SQ n I L)):=by
 by_cases hz:s.2.2.2.length=N/\t=(i:Int)
 .obtain⟨U,rfl⟩:=hz;suffices h:Ok (SG (i:Int) M pc ev k (I,s,(i:Int),u)) (SQ n I L) from ⟨.inr h,λ_ _=>h⟩
  unfold SG xv Eu Prod.p12 aX bf bp ch dA jt vq xz Prod.q10 LD Prod.q13 bL dw kK Oi ck bd bF kl aF;refine II hn hc hs hI (λo=>Ok o (SQ n I L)) (λy h=>ar h) _ λe v sy hp hm he hr ha hq=>?_
  obtain⟨sy0,ce,fu,l⟩:=s;obtain⟨e1,kd,o,e4,site,ds,fs⟩:=e;have het:=hp.et;dsimp only at U he hr ha hq het;subst het;have vl:=hp.fs.vc.vl;have hce:=hp.fs.ce;have hfu:=hp.fs.fu;dsimp only at hce hfu;obtain⟨hiN,⟨q1,q2,q3,q4,ce',fu',z,R0,T0⟩,hcp,g1,g2,g3,g4,hpc,hve,hk⟩:=h1 sy0 ce fu l hs (by have:=vl.c;omega) (by have:=vl.f;omega) U;dsimp only at g1 g2 g3 g4 hpc hve hk;rw[g1,g2,g3,g4]at hcp;obtain⟨_,_,nmce,_,_,_,nmfu,_,_,_⟩:=id he.nm;have t1:(i:Int)<(I.2.length:Int):=hp.t1;have htf:TF (aJ (T:=wA) I.2 (i:Int)) (aJ (T:=vg) l (i:Int)):=hp.fs.t i (by omega);have hA:=hp.a;have Y:=hp.b;dsimp only at hA Y;have hvt:=hp.fs.vc.t _ (bJ (T:=wA) (xs:=I.2) (j:=(i:Int)) (by omega) t1);have hci:=hc.ins _ (bJ (T:=wA) (xs:=I.2) (j:=(i:Int)) (by omega) t1);have hth:TH (FQ L (i:Int)) n (aJ (T:=vg) l (i:Int)):=hs.t i (by dsimp only;omega);have done:=ahf hn hs hI hp hm he hr ha;have htg:=hm.tg;have hrun:=hr.r;dsimp only at done htg;have hgv:kd=3\/kd=23->FQ (L++[((i:Int),kd,o,e4,site,ds,fs)]) (i:Int) (aJ (T:=vg) l (i:Int)).2.2.2:=λh3=>by
   have h2:=hrun (by omega) (by omega);have hn0:¬(fl L (i:Int)).length=0:=λh=>(htg.nw h).elim (λg=>cY (h2.symm.trans g) (by decide)) λg=>cY (h2.symm.trans g) (by decide)
   refine ⟨by rw[htg.ev];omega,Lz.last (e:=((i:Int),kd,o,e4,site,ds,fs)) ?_ htg.ev⟩;unfold tN;rcases h3 with h|h
   .rw[aQ h];rfl
   .simp[h]
  have vaA:¬kd=3->¬kd=23->¬kd=5->VA I.1 sy0 ce fu (i:Int) kd o v:=λa b c=>⟨λh=>(a h).elim,λh=>(b h).elim,λh=>(c h).elim,λ_ _ _ _ _=>by rw[TN hq]⟩
  have apA:(rn I.1 sy0 (i:Int) kd o v).1=sy:=by rw[TN hq]
  have apB:¬kd=18->∀v',(rn I.1 sy0 (i:Int) kd o v').1=sy:=λh v'=>by rw[Yk _ _ _ _ _ _ u h,<-hq]
  have keep:∀x∈(aJ (T:=vg) l (i:Int)).2.2.1,TL (FQ (L++[((i:Int),kd,o,e4,site,ds,fs)]) (i:Int)) (n+1) x:=λx hx=>(hth.l x hx).mono (by omega) λy J=>⟨J.1,J.2.app _⟩
  clear g3 g4 hm hI hrun htg;revert done hgv keep;generalize FQ (L++[((i:Int),kd,o,e4,site,ds,fs)]) (i:Int)=F;generalize aJ (T:=vg) l (i:Int)=th at hcp hpc hve htf hA Y hth ⊢;intro done hgv keep;refine aU hcp ?_;dsimp only;rw[hpc,hve];refine fI (aQ rfl) ?_;refine aR (by omega) t1 (aS (aR htf.p0 htf.p1 (aS ?_)));have htz:th.2.2.1.length=th.2.1.length:=by have:=htf.r;have:=htf.t;omega
  have fin:∀(p:Int) (R:η) (T:List η),R.length=th.2.1.length->T.length=th.2.2.1.length->(∀x∈T,TL F (n+1) x)->Ok (nj (aJ (T:=wA) I.2 (i:Int),(p,R,T,bk .i64 (th.2.2.2+1)))) λy=>TH F (n+1) y.1/\(y.1.2.1.length=0\/y.1.2.2.2=bk .i64 (th.2.2.2+1)):=λp R T h1 h2 h3=>by
   have a1:=hth.e0;have a2:=hth.e1;have a3:=hth.r;have a4:=hth.t;rw[ic (n:=th.2.2.2+1) (by omega) (by omega)];exact Z3 (n+1) hn _ hci hvt _ ⟨by dsimp only;omega,by dsimp only;omega,h3,by dsimp only;omega,by dsimp only;omega⟩
  have mark:kd=3\/kd=23->∀j:Int,∀x∈cw th.2.2.1 j [th.2.2.2],TL F (n+1) x:=λh3 j x hx=>by
   rcases CV hx with h|h
   .exact keep x h
   .rw[h];exact⟨⟨λy J=>(by cases J),trivial⟩,λy J=>by rw[aL]at J;have:=hth.e0;have:=hth.e1;rw[J];exact⟨by omega,by omega⟩,λy J=>by rw[aL]at J;rw[J];exact hgv h3⟩
  have nopark:TH F (n+1) (th.1,th.2.1,th.2.2.1,bk .i64 (th.2.2.2+1)):=by
   have a1:=hth.e0;have a2:=hth.e1;rw[ic (n:=th.2.2.2+1) (by omega) (by omega)];exact⟨hth.r,hth.t,keep,by dsimp only;omega,by dsimp only;omega⟩
  clear hp hs hc h0 h1 hcp g1 g2 hr ha hq he;generalize (aJ (T:=BT) (aJ (T:=wA) I.2 (i:Int)).2 th.1)=ins at hA Y ⊢;rcases kdx kd with rfl|rfl|rfl|rfl|rfl|rfl|rfl|rfl|⟨k1,k2,k3,k4,k5,k6,k7,k8⟩
  case inr.inr.inr.inr.inr.inr.inr.inr=>
   simp only[k1,k2,k3,k4,k5,k6,k7,k8,aV,bn,tC];refine hk F _ _ _ _ _ _ _ _ _ _ _ _ _ (λ_ _=>fin _ _ _ rfl rfl keep) (λh=>by rw[k2,k3]at h;exact (h.elim id id).elim) (λt' h g=>?_) t1 _;exact done v ce fu t' apA (vaA (of_eq_false k4) (of_eq_false k5) (of_eq_false k8)) (ay (of_eq_false k6)).symm (ay (of_eq_false k7)).symm h (g.imp id λh=>⟨h.1,λh2=>(of_eq_false k2 h2).elim⟩)
  all_goals simp only[aV,bn,tC]
  .refine hk F _ _ _ _ _ _ _ _ _ _ _ _ _ (λ_ _=>fin _ _ _ rfl rfl keep) (λh=>by omega) (λt' h g=>?_) t1 _;exact done v ce fu t' apA (vaA (by decide) (by decide) (by decide)) rfl rfl h (g.imp id λh=>⟨h.1,λh2=>(by cases h2)⟩)
  .refine hk F _ _ _ _ _ _ _ _ _ _ _ _ _ (λh _=>(h rfl).elim) (λ_=>nopark) (λt' h g=>?_) t1 _;exact done v ce fu t' apA (vaA (by decide) (by decide) (by decide)) rfl rfl h g
  .refine hk F _ _ _ _ _ _ _ _ _ _ _ _ _ (λ_ h=>(h rfl).elim) (λ_=>nopark) (λt' h g=>?_) t1 _;exact done v ce fu t' apA (vaA (by decide) (by decide) (by decide)) rfl rfl h (g.imp id λh=>⟨h.1,λh2=>(by cases h2)⟩)
  .obtain⟨o0,o1⟩:=nmce (.inl rfl);rw[<- hce]at o1;obtain⟨a0,a1⟩:=hA (.inl rfl);have a2:ins.2.1<(th.2.2.1.length:Int):=by rw[htz];exact a1
   refine gC (aR o0 o1 (aR o0 o1 (ar ?_)));simp only[aV,bn,tC];refine gC (aR a0 a1 (aR a0 a1 (aR a0 a2 (aR a0 a2 (ar ?_)))));refine hk F _ _ _ _ _ _ _ _ _ _ _ _ _ (λ_ _=>fin _ _ _ (bT ..) (bT ..) (mark (.inl rfl) _)) (λh=>by omega) (λt' h g=>?_) t1 _;exact done _ ce fu t' (apB (by decide) _) ⟨λ_=>rfl,λh=>(by cases h),λh=>(by cases h),λh=>(h rfl).elim⟩ rfl rfl h (g.imp id λh=>⟨h.1,λh2=>(by cases h2)⟩)
  .obtain⟨o0,o1⟩:=nmfu (.inr rfl);rw[<- hfu]at o1;obtain⟨a0,a1⟩:=hA (.inr (.inl rfl));have a2:ins.2.1<(th.2.2.1.length:Int):=by rw[htz];exact a1
   refine gC (aR o0 o1 (aR o0 o1 (ar ?_)));simp only[aV,bn,tC];refine gC (aR a0 a1 (aR a0 a1 (aR a0 a2 (aR a0 a2 (ar ?_)))));refine hk F _ _ _ _ _ _ _ _ _ _ _ _ _ (λ_ _=>fin _ _ _ (bT ..) (bT ..) (mark (.inr rfl) _)) (λh=>by omega) (λt' h g=>?_) t1 _;exact done _ ce fu t' (apB (by decide) _) ⟨λh=>(by cases h),λ_=>rfl,λh=>(by cases h),λ_ h=>(h rfl).elim⟩ rfl rfl h (g.imp id λh=>⟨h.1,λh2=>(by cases h2)⟩)
  .obtain⟨o0,o1⟩:=nmce (.inr rfl);rw[<- hce]at o1;obtain⟨a0,a1⟩:=Y (.inl rfl);refine gC (aR a0 a1 (aR a0 a1 (aR o0 o1 (aR o0 o1 (ar ?_)))));simp only[aV,bn,tC];refine hk F _ _ _ _ _ _ _ _ _ _ _ _ _ (λ_ _=>fin _ _ _ rfl rfl keep) (λh=>by omega) (λt' h g=>?_) t1 _;exact done _ _ fu t' (apB (by decide) _) ⟨λh=>(by cases h),λh=>(by cases h),λh=>(by cases h),λ_ _ _ h=>(h rfl).elim⟩ rfl rfl h (g.imp id λh=>⟨h.1,λh2=>(by cases h2)⟩)
  .obtain⟨o0,o1⟩:=nmfu (.inl rfl);rw[<- hfu]at o1;obtain⟨a0,a1⟩:=Y (.inr rfl);refine gC (aR a0 a1 (aR a0 a1 (aR o0 o1 (aR o0 o1 (ar ?_)))));simp only[aV,bn,tC];refine hk F _ _ _ _ _ _ _ _ _ _ _ _ _ (λ_ _=>fin _ _ _ rfl rfl keep) (λh=>by omega) (λt' h g=>?_) t1 _;exact done _ ce _ t' (apB (by decide) _) ⟨λh=>(by cases h),λh=>(by cases h),λh=>(by cases h),λ_ _ _ _ h=>(h rfl).elim⟩ rfl rfl h (g.imp id λh=>⟨h.1,λh2=>(by cases h2)⟩)
  .obtain⟨a0,a1⟩:=hA (.inr (.inr rfl));refine gC (aR a0 a1 (aR a0 a1 (aK (λ_=>ar ?_) λ_=>ar ?_)));all_goals
    simp only[aV,bn,tC];refine hk F _ _ _ _ _ _ _ _ _ _ _ _ _ (λ_ _=>fin _ _ _ rfl rfl keep) (λh=>by omega) (λt' h g=>?_) t1 _;exact done _ ce fu t' (apB (by decide) _) ⟨λh=>(by cases h),λh=>(by cases h),λ_=>(by decide),λ_ _ h=>(h rfl).elim⟩ rfl rfl h (g.imp id λh=>⟨h.1,λh2=>(by cases h2)⟩)
 .refine ⟨?_,λh1 h2=>(hz ⟨h1,h2⟩).elim⟩;unfold SG xv Eu Prod.p12 aX bf bp ch dA jt vq xz Prod.q10 LD Prod.q13 bL dw kK Oi ck bd bF kl aF;refine II hn hc hs hI (λo=>QM o (SQ n I L)) (λy h=>.inr (ar h)) _ λe v sy hp _ _ _ _ _=>.inl ?_
  obtain⟨sy0,ce,fu,l⟩:=s;have vl:=hp.fs.vc.vl;by_cases hl:l.length=N
  .have ht:¬t=(i:Int):=λh=>hz ⟨hl,h⟩
   dsimp only;cases M (sy0,ce,fu,l) with
   |none=>rfl
   |some y=>rw[XC,bN ht];rfl
  .show obind (M (sy0,ce,fu,l)) _=ah;rw[h0 sy0 ce fu l (by have h1:l.length=I.2.length:=hp.fs.th;have:=hp.fs.vc.tl;have:=vl.t;omega) hl];rfl
theorem BL {Z W V:Type} {n:Nat} {U:CT} {L:List ET} {i:Nat} {u:Int} {l:List TT} {z:Z} {t1:Z->η->List η->W} {J:W->V} {I:V->TT->List TT} (Y:∀R T t',I (J (t1 z R T)) t'=l.set i t'):KR n U L i u l z (KG (i:Int) t1 J I):=by
 intro F p sy kd o v si ds fs ce fu R T ev fin park done ht pc;unfold KG xv aX bf bp ch dA jt vq xz Prod.q10 LD nM bd iR bF aF cF;dsimp only;have done:∀t',TH F (n+1) t'->(t'.2.1.length=0\/t'.2.2.2=bk .i64 (ev+1)/\(kd=16->t'.1=p))->SQ n U L ((sy,ce,fu,I (J (t1 z R T)) t'),((i:Int),kd,o,v,si,ds,fs),ai):=λt' h g=>by rw[Y];exact done t' h g
 by_cases h1:kd=16
 .subst h1;exact gC (gC (fP rfl (ar (fP rfl (ar (fI (aQ rfl) (ar (done _ (park (.inl rfl)) (.inr ⟨rfl,λ_=>rfl⟩)))))))))
 by_cases h2:kd=2
 .subst h2;exact gC (gC (fI rfl (ar (fP rfl (ar (fI (aQ rfl) (ar (done _ (park (.inr rfl)) (.inr ⟨rfl,λh=>(by cases h)⟩)))))))))
 rw[bN h1,bN h2];exact gC (gC (fI rfl (ar (fI rfl (aR (dT i) ht (aS (ax (fin h1 h2) λy M=>ar (fI (aQ rfl) (ar (done _ M.1 (M.2.imp id λh=>⟨h,λh2=>(h1 h2).elim⟩)))))))))))
theorem ZU {n:Nat} (hn:n+1<=100000) (I:CT) (L:List ET) (s:ST) (t u:Int) (hc:CB I) (hs:SV n L s) (J:LN I L s):QM (mW (I,s,t,u)) (SQ n I L)/\(s.2.2.2.length=4->t=0->Ok (mW (I,s,t,u)) (SQ n I L)):=by
 refine BK 4 0 hn I L s t u hc hs J Uk λsy ce fu l hs hce hfu hl=>⟨by decide,?_⟩
 obtain⟨a,b,c,d,rfl⟩:∃a b c d,l=[a,b,c,d]:=by
  rcases l with _|⟨a,_|⟨b,_|⟨c,_|⟨d,_|⟨e,l⟩⟩⟩⟩⟩;all_goals first|exact⟨_,_,_,_,rfl⟩|(simp at hl;done)|(exfalso;simp only[b_]at hl;omega)
 refine ⟨_,aa9 sy ce fu a b c d hs hce hfu,rfl,rfl,rfl,rfl,rfl,rfl,BL λR T t'=>rfl⟩
theorem ZT {n:Nat} (hn:n+1<=100000) (I:CT) (L:List ET) (s:ST) (t u:Int) (hc:CB I) (hs:SV n L s) (J:LN I L s):QM (mV (I,s,t,u)) (SQ n I L)/\(s.2.2.2.length=4->t=1->Ok (mV (I,s,t,u)) (SQ n I L)):=by
 refine BK 4 1 hn I L s t u hc hs J Uj λsy ce fu l hs hce hfu hl=>⟨by decide,?_⟩
 obtain⟨a,b,c,d,rfl⟩:∃a b c d,l=[a,b,c,d]:=by
  rcases l with _|⟨a,_|⟨b,_|⟨c,_|⟨d,_|⟨e,l⟩⟩⟩⟩⟩;all_goals first|exact⟨_,_,_,_,rfl⟩|(simp at hl;done)|(exfalso;simp only[b_]at hl;omega)
 refine ⟨_,aa8 sy ce fu a b c d hs hce hfu,rfl,rfl,rfl,rfl,rfl,rfl,BL λR T t'=>rfl⟩
theorem ZS {n:Nat} (hn:n+1<=100000) (I:CT) (L:List ET) (s:ST) (t u:Int) (hc:CB I) (hs:SV n L s) (J:LN I L s):QM (lz (I,s,t,u)) (SQ n I L)/\(s.2.2.2.length=4->t=2->Ok (lz (I,s,t,u)) (SQ n I L)):=by
 refine BK 4 2 hn I L s t u hc hs J Ui λsy ce fu l hs hce hfu hl=>⟨by decide,?_⟩
 obtain⟨a,b,c,d,rfl⟩:∃a b c d,l=[a,b,c,d]:=by
  rcases l with _|⟨a,_|⟨b,_|⟨c,_|⟨d,_|⟨e,l⟩⟩⟩⟩⟩;all_goals first|exact⟨_,_,_,_,rfl⟩|(simp at hl;done)|(exfalso;simp only[b_]at hl;omega)
 refine ⟨_,aa7 sy ce fu a b c d hs hce hfu,rfl,rfl,rfl,rfl,rfl,rfl,BL λR T t'=>rfl⟩
theorem ZR {n:Nat} (hn:n+1<=100000) (I:CT) (L:List ET) (s:ST) (t u:Int) (hc:CB I) (hs:SV n L s) (J:LN I L s):QM (km (I,s,t,u)) (SQ n I L)/\(s.2.2.2.length=4->t=3->Ok (km (I,s,t,u)) (SQ n I L)):=by
 refine BK 4 3 hn I L s t u hc hs J Uh λsy ce fu l hs hce hfu hl=>⟨by decide,?_⟩
 obtain⟨a,b,c,d,rfl⟩:∃a b c d,l=[a,b,c,d]:=by
  rcases l with _|⟨a,_|⟨b,_|⟨c,_|⟨d,_|⟨e,l⟩⟩⟩⟩⟩;all_goals first|exact⟨_,_,_,_,rfl⟩|(simp at hl;done)|(exfalso;simp only[b_]at hl;omega)
 refine ⟨_,aa6 sy ce fu a b c d hs hce hfu,rfl,rfl,rfl,rfl,rfl,rfl,BL λR T t'=>rfl⟩
theorem ZX {n:Nat} (hn:n+1<=100000) (I:CT) (L:List ET) (s:ST) (t u:Int) (hc:CB I) (hs:SV n L s) (J:LN I L s):QM (jz (I,s,t,u)) (SQ n I L)/\(s.2.2.2.length=3->t=0->Ok (jz (I,s,t,u)) (SQ n I L)):=by
 refine BK 3 0 hn I L s t u hc hs J Un λsy ce fu l hs hce hfu hl=>⟨by decide,?_⟩
 obtain⟨a,b,c,rfl⟩:∃a b c,l=[a,b,c]:=by
  rcases l with _|⟨a,_|⟨b,_|⟨c,_|⟨d,_|⟨e,l⟩⟩⟩⟩⟩;all_goals first|exact⟨_,_,_,rfl⟩|(simp at hl;done)|(exfalso;simp only[b_]at hl;omega)
 refine ⟨_,aac sy ce fu a b c hs hce hfu,rfl,rfl,rfl,rfl,rfl,rfl,BL λR T t'=>rfl⟩
theorem ZW {n:Nat} (hn:n+1<=100000) (I:CT) (L:List ET) (s:ST) (t u:Int) (hc:CB I) (hs:SV n L s) (J:LN I L s):QM (iI (I,s,t,u)) (SQ n I L)/\(s.2.2.2.length=3->t=1->Ok (iI (I,s,t,u)) (SQ n I L)):=by
 refine BK 3 1 hn I L s t u hc hs J Um λsy ce fu l hs hce hfu hl=>⟨by decide,?_⟩
 obtain⟨a,b,c,rfl⟩:∃a b c,l=[a,b,c]:=by
  rcases l with _|⟨a,_|⟨b,_|⟨c,_|⟨d,_|⟨e,l⟩⟩⟩⟩⟩;all_goals first|exact⟨_,_,_,rfl⟩|(simp at hl;done)|(exfalso;simp only[b_]at hl;omega)
 refine ⟨_,aab sy ce fu a b c hs hce hfu,rfl,rfl,rfl,rfl,rfl,rfl,BL λR T t'=>rfl⟩
theorem ZV {n:Nat} (hn:n+1<=100000) (I:CT) (L:List ET) (s:ST) (t u:Int) (hc:CB I) (hs:SV n L s) (J:LN I L s):QM (hX (I,s,t,u)) (SQ n I L)/\(s.2.2.2.length=3->t=2->Ok (hX (I,s,t,u)) (SQ n I L)):=by
 refine BK 3 2 hn I L s t u hc hs J Ul λsy ce fu l hs hce hfu hl=>⟨by decide,?_⟩
 obtain⟨a,b,c,rfl⟩:∃a b c,l=[a,b,c]:=by
  rcases l with _|⟨a,_|⟨b,_|⟨c,_|⟨d,_|⟨e,l⟩⟩⟩⟩⟩;all_goals first|exact⟨_,_,_,rfl⟩|(simp at hl;done)|(exfalso;simp only[b_]at hl;omega)
 refine ⟨_,aaa sy ce fu a b c hs hce hfu,rfl,rfl,rfl,rfl,rfl,rfl,BL λR T t'=>rfl⟩
theorem ZZ {n:Nat} (hn:n+1<=100000) (I:CT) (L:List ET) (s:ST) (t u:Int) (hc:CB I) (hs:SV n L s) (J:LN I L s):QM (gE (I,s,t,u)) (SQ n I L)/\(s.2.2.2.length=2->t=0->Ok (gE (I,s,t,u)) (SQ n I L)):=by
 refine BK 2 0 hn I L s t u hc hs J Up λsy ce fu l hs hce hfu hl=>⟨by decide,?_⟩
 obtain⟨a,b,rfl⟩:∃a b,l=[a,b]:=by
  rcases l with _|⟨a,_|⟨b,_|⟨c,_|⟨d,_|⟨e,l⟩⟩⟩⟩⟩;all_goals first|exact⟨_,_,rfl⟩|(simp at hl;done)|(exfalso;simp only[b_]at hl;omega)
 refine ⟨_,aae sy ce fu a b hs hce hfu,rfl,rfl,rfl,rfl,rfl,rfl,BL λR T t'=>rfl⟩
theorem ZY {n:Nat} (hn:n+1<=100000) (I:CT) (L:List ET) (s:ST) (t u:Int) (hc:CB I) (hs:SV n L s) (J:LN I L s):QM (gf (I,s,t,u)) (SQ n I L)/\(s.2.2.2.length=2->t=1->Ok (gf (I,s,t,u)) (SQ n I L)):=by
 refine BK 2 1 hn I L s t u hc hs J Uo λsy ce fu l hs hce hfu hl=>⟨by decide,?_⟩
 obtain⟨a,b,rfl⟩:∃a b,l=[a,b]:=by
  rcases l with _|⟨a,_|⟨b,_|⟨c,_|⟨d,_|⟨e,l⟩⟩⟩⟩⟩;all_goals first|exact⟨_,_,rfl⟩|(simp at hl;done)|(exfalso;simp only[b_]at hl;omega)
 refine ⟨_,aad sy ce fu a b hs hce hfu,rfl,rfl,rfl,rfl,rfl,rfl,BL λR T t'=>rfl⟩
theorem Z0 {n:Nat} (hn:n+1<=100000) (I:CT) (L:List ET) (s:ST) (t u:Int) (hc:CB I) (hs:SV n L s) (J:LN I L s):QM (gg (I,s,t,u)) (SQ n I L)/\(s.2.2.2.length=1->t=0->Ok (gg (I,s,t,u)) (SQ n I L)):=by
 refine BK 1 0 hn I L s t u hc hs J Uq λsy ce fu l hs hce hfu hl=>⟨by decide,?_⟩
 obtain⟨a,rfl⟩:∃a,l=[a]:=by
  rcases l with _|⟨a,_|⟨b,_|⟨c,_|⟨d,_|⟨e,l⟩⟩⟩⟩⟩;all_goals first|exact⟨_,rfl⟩|(simp at hl;done)|(exfalso;simp only[b_]at hl;omega)
 refine ⟨_,aaf sy ce fu a hs hce hfu,rfl,rfl,rfl,rfl,rfl,rfl,BL λR T t'=>rfl⟩
theorem Z1 {n:Nat} (hn:n+1<=100000) (c:CT) (L:List ET) (s:ST) (t u:Int) (hc:CB c) (hs:SV n L s) (Z:LN c L s):Ok (Aw (c,s,t,u)) (SQ n c L):=by
 unfold Aw;have I:=ZU hn c L s t u hc hs Z;have J:=ZT hn c L s t u hc hs Z;have M:=ZS hn c L s t u hc hs Z;have U:=ZR hn c L s t u hc hs Z;have Y:=ZX hn c L s t u hc hs Z;have a31:=ZW hn c L s t u hc hs Z;have a32:=ZV hn c L s t u hc hs Z;have a20:=ZZ hn c L s t u hc hs Z;have a21:=ZY hn c L s t u hc hs Z;have a10:=Z0 hn c L s t u hc hs Z;by_cases hz:s.2.2.2.length<=4/\0<=t/\t<(s.2.2.2.length:Int)
 .obtain⟨h1,h2,h3⟩:=hz;have:(s.2.2.2.length=4/\t=0)\/(s.2.2.2.length=4/\t=1)\/(s.2.2.2.length=4/\t=2)\/(s.2.2.2.length=4/\t=3)\/(s.2.2.2.length=3/\t=0)\/(s.2.2.2.length=3/\t=1)\/(s.2.2.2.length=3/\t=2)\/(s.2.2.2.length=2/\t=0)\/(s.2.2.2.length=2/\t=1)\/(s.2.2.2.length=1/\t=0):=by omega
  rcases this with h|h|h|h|h|h|h|h|h|h
  .exact (I.2 h.1 h.2).orL
  .exact I.1.orR (J.2 h.1 h.2).orL
  .exact I.1.orR (J.1.orR (M.2 h.1 h.2).orL)
  .exact I.1.orR (J.1.orR (M.1.orR (U.2 h.1 h.2).orL))
  .exact I.1.orR (J.1.orR (M.1.orR (U.1.orR (Y.2 h.1 h.2).orL)))
  .exact I.1.orR (J.1.orR (M.1.orR (U.1.orR (Y.1.orR (a31.2 h.1 h.2).orL))))
  .exact I.1.orR (J.1.orR (M.1.orR (U.1.orR (Y.1.orR (a31.1.orR (a32.2 h.1 h.2).orL)))))
  .exact I.1.orR (J.1.orR (M.1.orR (U.1.orR (Y.1.orR (a31.1.orR (a32.1.orR (a20.2 h.1 h.2).orL))))))
  .exact I.1.orR (J.1.orR (M.1.orR (U.1.orR (Y.1.orR (a31.1.orR (a32.1.orR (a20.1.orR (a21.2 h.1 h.2).orL)))))))
  .exact I.1.orR (J.1.orR (M.1.orR (U.1.orR (Y.1.orR (a31.1.orR (a32.1.orR (a20.1.orR (a21.1.orR (a10.2 h.1 h.2)))))))))
 .refine Ok.orL ?_;unfold mW aX bf dw;refine II hn hc hs Z (λo=>Ok o (SQ n c L)) (λy h=>ar h) _ λe v sy hp _ _ _ _ _=>(hz ?_).elim
  have h1:s.2.2.2.length=c.2.length:=hp.fs.th;have h2:c.2.length=c.1.2.2.2.2.1.length:=hp.fs.vc.tl;have h3:c.1.2.2.2.2.1.length<=4:=hp.fs.vc.vl.t;have h4:0<=t:=hp.t0;have h5:t<(c.2.length:Int):=hp.t1;exact⟨by omega,h4,by omega⟩
theorem agb (c:CT) (s:ST) (l:List ν) (hc:CB c) (hs:SV 0 [] s) (hI:LN c [] s) (hl:l.length<=9223372036854775806):Ok (wK (c,s,l)) λy=>y.1.length<=400/\(∀e∈y.1,EvF c.1 e/\EvS e)/\∃sy ce fu,Acw c.1 y.1 sy ce fu:=by
 unfold wK aX bf dw bz bB bF aY cK aF cF;refine qr (λx=>((l.length:Int)-x.1).toNat) (λx=>0<=x.1/\x.2.2.1=c/\SV x.2.1.length x.2.1 x.2.2.2.1/\LN c x.2.1 x.2.2.2.1/\x.2.1.length<=400/\∀e∈x.2.1,EvF c.1 e/\EvS e) ?_ ⟨eB _,rfl,hs,hI,by simp,λe he=>(by cases he)⟩;rintro⟨(i:Int),es,c',s',z⟩ ⟨U,e1,e2,eI,e3,I⟩;dsimp only at U e1 e2 eI e3 I;subst e1;refine aZ (λx=>x.2=(es,c',s',z)/\(x.1=ai->i<(l.length:Int)/\es.length<400)) ?_ ?_
 .refine bI (λg=>ar ⟨rfl,λh=>⟨g,?_⟩⟩) λ_=>ar ⟨rfl,λh=>(by cases h)⟩
  dsimp only at h;rw[tX]at h;dsimp only[au]at h;omega
 rintro⟨b,x⟩ ⟨Z,Y⟩;dsimp only at Z Y;subst Z;refine aP (λh=>?_) λ_=>ar ⟨e3,I,_,_,_,eI.ac⟩
 obtain⟨g1,g2⟩:=Y h;refine aZ (λx=>x.2.1=c'/\SV x.1.length x.1 x.2.2.1/\LN c' x.1 x.2.2.1/\x.1.length<=400/\∀e∈x.1,EvF c'.1 e/\EvS e) ?_ ?_
 .refine aR U g1 (aS ?_);refine ax (Z1 (n:=es.length) (by omega) c' es s' _ _ hc e2 eI) λy hy=>?_
  refine aP (λh=>?_) λ_=>ar ⟨rfl,e2,eI,e3,I⟩
  obtain⟨h1,hJ,h2,h3⟩:=hy h;refine bh (by simp;omega) (by omega) (ar ⟨rfl,?_,hJ,by simp;omega,λe he=>?_⟩)
  .dsimp only;rw[bx,dS];exact h1
  .rcases bV.1 he with he|he
   .exact I e he
   .rw[aL]at he;subst he;exact⟨h2,h3⟩
 rintro⟨es',c2,s2,z2⟩ ⟨k1,k2,kI,M,J⟩;dsimp only at k1 k2 kI M J;subst k1;refine ar ?_;dsimp only;rw[ic (n:=i+1) (by omega) (by omega)];exact⟨⟨by omega,rfl,k2,kI,M,J⟩,by omega⟩
theorem CB.vc {c:CT} (hc:CB c):VC c:=by
 obtain⟨b,h1,h2⟩:=T3 c hc.th hc.ins;rw[hc.ok]at h1;cases h1;exact h2 rfl
theorem al2 (c:CT) (l:List ν) (hc:CB c) (hl:l.length<=9223372036854775806):Ok (zA (c,l)) λy=>TR y.1:=by
 unfold zA;refine aU hc.ok (em (λh=>(by cases h)) λ_=>?_);have hv:=hc.vc;refine ax (WP c hc.ok hv) λs hs=>?_
 refine ax (agb c s l hc hs.1 hs.2 hl) λy I=>ar ?_
 exact⟨hv.vl.wb,hv.vl,λe he=>(I.2.1 e he).1,by have:=I.1;dsimp only;omega,λe he=>(I.2.1 e he).2,hc.wx,I.2.2⟩
theorem W2 (l:η) (hl:l.length<=1000000):Ok (oY l) λy=>y.length=l.length:=by
 unfold oY bz bB bF aY cK aF cF;refine ca l.length (λi x=>x.1=(i:Int)/\x.2.length=i) ?_ ?_ ⟨rfl,rfl⟩
 .rintro i ⟨a,b⟩ hi ⟨e1,e2⟩;dsimp only at e1 e2;subst e1;refine du ?_;refine cg (aS (cg (aS (bh (by simp;omega) (by omega) (ar ?_)))));dsimp only;exact⟨gO (by omega),by simp;omega⟩
 .rintro⟨a,b⟩ ⟨e1,e2⟩;dsimp only at e1 e2;subst e1;exact dv (ar e2)
theorem fx (e:Xp):d_ (Xp.op e,Xp.n e,Xp.name e,Xp.l e)=e:=by cases e;rfl
theorem zk (s:Sx):nY (Sx.op s,Sx.line s,Sx.name s,Sx.arg s,Sx.index s,Sx.expr s,Sx.body s,Sx.els s)=s:=by cases s;rfl
abbrev NV:List ζ:=[[97],[98],[120],[121],[118]]
def GE:Nat->Xp->Prop
 |0,_=>False
 |d+1,e=>(e.op=3->e.name=[113])/\(e.op≠1->e.op≠2->1<=e.l.length)/\e.l.length<=2/\(∀x∈e.l,GE d x)/\(e.op=2->e.name∈NV)/\(e.op≠1->e.op≠2->e.op≠3->2<=e.l.length/\6<=e.op/\e.op<=18)
theorem GE.mono:∀{d:Nat} {e:Xp},GE d e->GE (d+1) e
 |0,_,h=>h.elim
 |_+1,_,h=>⟨h.1,h.2.1,h.2.2.1,λx I=>(h.2.2.2.1 x I).mono,h.2.2.2.2⟩
theorem GE.le {d k:Nat} {e:Xp} (h:GE d e) (hk:d<=k):GE k e:=by
 induction hk with
 |refl=>exact h
 |step _ I=>exact I.mono
theorem OQ (n:Int):rK n=af (.mk 1 n [] []):=rfl
theorem Ig (s:ζ):pG s=af (.mk 2 0 s []):=rfl
theorem FM (o:Int) (a b:Xp):nX (o,a,b)=af (.mk o 0 [] [a,b]):=by
 cases a;cases b;rfl
theorem ul (s:ζ) (e:Xp):jx (s,e)=af (.mk 1 0 s [] [] e [] []):=by
 cases e;rfl
abbrev MK:Type:=Int×Int×Bool×Bool×Bool×Bool
abbrev Qo:Type:=η×Int
abbrev HD:Type:=Bool×List ζ
theorem GE.num (n:Int) (d:Nat):GE (d+1) (.mk 1 n [] []):=⟨λh=>(by cases h),λh=>(h rfl).elim,by simp[Xp.l],λx I=>(by cases I),λh=>(by cases h),λh=>(h rfl).elim⟩
theorem GE.nm {s:ζ} (hs:s∈NV) (d:Nat):GE (d+1) (.mk 2 0 s []):=⟨λh=>(by cases h),λ_ h=>(h rfl).elim,by simp[Xp.l],λx I=>(by cases I),λ_=>hs,λ_ h=>(h rfl).elim⟩
theorem GE.bin {o:Int} {a b:Xp} {d:Nat} (J:6<=o/\o<=18) (M:GE d a) (hb:GE d b):GE (d+1) (.mk o 0 [] [a,b]):=
 ⟨λh=>(by have h:o=3:=h;omega),λ_ _=>by simp[Xp.l],by simp[Xp.l],λx I=>by
   simp only[Xp.l,bm,cD,gh]at I;rcases I with rfl|rfl
   .exact M
   .exact hb,λh=>(by have h:o=2:=h;omega),λ_ _ _=>⟨by simp[Xp.l],J⟩⟩
theorem GE.ix {a:Xp} {d:Nat} (J:GE d a):GE (d+1) (.mk 3 0 [113] [a]):=
 ⟨λ_=>rfl,λ_ _=>by simp[Xp.l],by simp[Xp.l],λx I=>by
   simp only[Xp.l,bm,cD,gh]at I;rw[I];exact J,λh=>(by cases h),λ_ _ h=>(h rfl).elim⟩
theorem DA:∀(n d:Nat),d<n->d<=10->∀(m:MK) (t:Qo) (h:HD),TP t->Ok (iu n ((d:Int),m,t,h)) λy=>GE (d+1) y.1/\y.2.1=m/\vo t y.2.2.1/\y.2.2.2=h
 |0,d,hd,_,_,_,_,_=>by omega
 |n+1,d,hd,h10,m,t,h,ht=>by
  rw[za];unfold oh aX bf bL dw cR bd bz bB kl aY aF;refine ax (gp 10 t ht) λy I=>?_
  obtain⟨k,t1⟩:=y;obtain⟨s1,k0,k1,_⟩:=I;have k1:=k1 (by decide);dsimp only at s1 k0 k1;refine aZ (λx=>x.2=(m,t1,h,(0,0,[]),[[97],[98],[120],[121],[118],[120],[121]])/\(x.1=aj->2<=k/\(d=0->k<7))) ?_ ?_
  .refine bI (λ_=>ar ⟨rfl,λh=>(by cases h)⟩) λg=>aK (λg2=>ar ⟨rfl,λg3=>⟨g,λ_=>?_⟩⟩) λg2=>ar ⟨rfl,λ_=>⟨g,λh=>(g2 (by dsimp only;omega)).elim⟩⟩
   dsimp only at g3;rw[me]at g3;exact g3
  rintro⟨b,x⟩ ⟨e,hb⟩;dsimp only at e hb;subst e;refine aP (λ_=>?_) λg=>?_
  .refine ax (gp 4 t1 s1.p) λy I=>?_
   refine aU (OQ _) (ar ?_);exact⟨GE.num _ _,rfl,s1.trans I.1,rfl⟩
  obtain⟨q0,q1⟩:=hb g;refine bI (λg=>?_) λg=>?_
  .refine ax (gp _ t1 s1.p) λy I=>?_
   obtain⟨u1,M,J,_⟩:=I;have J:=J (show (1:Int)<=7 by decide);refine aR M J (aR M J (aS ?_));refine aU (Ig _) (ar ?_);have hnv:∀z∈([[97],[98],[120],[121],[118],[120],[121]]:List ζ),z∈NV:=by decide
   exact⟨GE.nm (hnv _ (bJ (T:=.str) M J)) _,rfl,s1.trans u1,rfl⟩
  dsimp only at g;have hd0:d≠0:=λh=>by have:=q1 h;omega
  obtain⟨d,rfl⟩:∃k,d=k+1:=⟨d-1,by omega⟩
  refine aK (λg=>?_) λg=>?_
  .refine ax (DA n 0 (by omega) (by omega) m t1 h s1.p) λy I=>?_
   obtain⟨e,m',t',h'⟩:=y;obtain⟨v1,Z,U,Y⟩:=I;dsimp only at v1 Z U Y;subst Z;subst Y;refine bg (by simp) (ar ?_);dsimp only;rw[fx];exact⟨(GE.ix (v1.le (by omega):GE (d+1) e)),rfl,s1.trans U,rfl⟩
  .refine ax (gp _ t1 s1.p) λy I=>?_
   obtain⟨k2,t2⟩:=y;obtain⟨u1,M,J,_⟩:=I;have J:=J (by decide);dsimp only at u1 M J;refine aR M J (aR M J (aS ?_));have ho:(6:Int)<=aJ (T:=.int .i64) [6,7,8,11,13,17] k2/\aJ (T:=.int .i64) [6,7,8,11,13,17] k2<=(18:Int):=by
    have h1:=bJ (T:=.int .i64) (xs:=([6,7,8,11,13,17]:η)) M J;have:∀z:Int,z∈([6,7,8,11,13,17]:η)->6<=z/\z<=18:=by decide
    exact this _ h1
   have ew:bk .i64 (((d+1:Nat):Int)-1)=(d:Int):=by rw[ic (by omega) (by omega)];omega
   dsimp only;rw[ew];refine ax (DA n d (by omega) (by omega) m t2 h u1.p) λy I=>?_
   obtain⟨e,m',t',h'⟩:=y;obtain⟨v1,Z,U,Y⟩:=I;dsimp only at v1 Z U Y;subst Z;subst Y;refine bg (by simp) ?_;refine ax (DA n d (by omega) (by omega) m' t' h' U.p) λy I=>?_
   obtain⟨e2,m2,t2',h2⟩:=y;obtain⟨w1,w2,w3,w4⟩:=I;dsimp only at w1 w2 w3 w4;subst w2;subst w4;refine bg (by simp) ?_;refine aU (FM _ _ _) (ar ?_);dsimp only;rw[fx];exact⟨GE.bin ho v1 w1,rfl,s1.trans (u1.trans (U.trans w3)),rfl⟩
theorem abx (d:Nat) (hd:d<=10) (m:MK) (t:Qo) (h:HD) (ht:TP t):Ok (fo ((d:Int),m,t,h)) λy=>GE (d+1) y.1/\y.2.1=m/\vo t y.2.2.1/\y.2.2.2=h:=DA fuel d (by rw[jW];omega) hd m t h ht
end
end Go.Proofs.YtgijlolllojpaaaGreatDoor.AI
