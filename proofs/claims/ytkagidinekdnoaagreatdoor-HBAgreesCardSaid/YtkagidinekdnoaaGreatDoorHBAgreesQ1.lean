/-
  Texts of the proof, part 2 of 6: what is used to prove the statement. No condition.
-/
import Derived.Test.YtkagidinekdnoaaGreatDoorHBAgreesQ0
namespace Go.Proofs.YtkagidinekdnoaaGreatDoor.AI
open Go.RowKit
set_option maxRecDepth 100000
set_option maxHeartbeats 4000000
set_option linter.unusedVariables false
set_option linter.unusedSimpArgs false
open _root_.Bool renaming true→ajp,false→ajq,and_eq_true→aj,not_false→aV,not_true→aY,and_self→jM
open _root_.Classical renaming byContradiction→t8
open _root_.Int renaming ofNat_eq_natCast→ai,ofNat→aJ,toNat→aL,reduceEq→aO,reduceNeg→bd,le_refl→dX,toNat_natCast→iW
open _root_.List renaming length→af,getElem?_eq_getElem→ar,getD_eq_getElem?_getD→au,replicate→ay,mem_singleton→aF,getElem?_map→aU,mem_cons→bc,length_append→bg,length_take→bm,getElem?_append_left→bA,getElem?_eq_none→bB,mem_append→bE,length_cons→bH,getElem?_append_right→bJ,length_map→bV,not_mem_nil→bY,map_append→ct,take_length→cz,mem_cons_of_mem→cA,ext_getElem→cV,take→db,mem_cons_self→dg,length_replicate→dK,getElem?_of_mem→dW,foldl_append→eD,take_of_length_le→eT,range→eU,cons_append→fg,length_singleton→fw,mem_of_mem_take→ir,length_nil→je,append_nil→kF,mem_range→ml,getElem_range→mm,take_succ_eq_append_getElem→nI,length_range→nJ,map_congr_left→oO,length_take_le→oP,getElem_map→pD,getElem?_replicate→pE,length_set→qW,contains_iff_mem→rq,getElem?_set→rG,getElem_set→tB,getElem_mem→tC,take_succ_cons→uw,drop_succ_cons→ux,eq_of_mem_replicate→vz,take_append_drop→zL,replicate_succ'→CF,foldl_cons→DV
open _root_.Nat renaming beq→av,zero_add→bz,le_refl→bF,lt_or_ge→bI,le_trans→cM,blt→fd,le_succ_of_le→gF,zero_le→j9,add_assoc→qX,beq_refl→tu,not_lt_zero→vC,lt_succ_self→AG
open _root_.Option renaming some→ajn,none→ajo,map_some→bO,getD_some→tm
open _root_.Prod.mk renaming injEq→aw
open _root_.Sum renaming inr→bM,inl→nG
noncomputable section
abbrev Kd0:Ty:=(.st (.pr uu (.pr uu (.pr uu (.pr uu (.pr uu (.pr uu (.pr (.sl aH) (.pr uu (.sl aH))))))))))
abbrev Kd1:Ty:=(.st (.pr .bool .bool))
abbrev ZP:=((List (List Int))×(List (List Int))×(List (List Int))×(List (List Int))×(List (List Int))×(List (List Int))×(List Int)×(List (List Int))×List Int)
abbrev Yd1:=((List Int)×(List (List Int))×(List (List Int))×(List (List Int))×(List (List Int))×(List (List Int))×(List (List Int))×(List (List Int))×(List Int)×List Int)
abbrev Yd2:=(Int×fG×(List Bool)×List cQ)
abbrev Yd3:=(Int×fY×fH×(List eh)×bP×bP×List (Int×Int×Int))
abbrev Yd4:=(dv×Int×Int×Int×Int×Int×(List Int)×List Int)
abbrev Yd5:=(List (Int×Int))
abbrev Yd6:=(Int×(List Bool)×List cQ)
def KI {α R:Type} [DecidableEq α] (a b:α) (r:Option R):Option R:=if a=b then r else ajo
theorem NZ {α R:Type} [DecidableEq α] (a b:α) (r:Option R):KI a b r=same a b r:=by unfold KI same;by_cases h:a=b<;>simp[h]
theorem NY {α R:Type} [DecidableEq α] {a b:α} (h:a=b) (r:Option R):KI a b r=r:=by unfold KI;rw[if_pos h]
def ia (x:(List Int)×Int):Option (Int):=
 (jn (α:=Bool) (bk x.2 0 (ax ajp) (ax (cD (aP x.1) x.2))) λI=>(bcase I (ajn 0) (vA x.2 x.1 (ajn (aD (T:=aH) x.1 x.2)))))
def tP (it:xg) (x:(List Int)×List Int):Option (List Int):=
 (bn (cD 0 (jv (aP x.1) (aP x.2))&&cD (jv (aP x.1) (aP x.2)) (jv (aP x.1) (aP x.2))&&aT (aL (jv (aP x.1) (aP x.2))) 8) (it (Int×List Int) _ (λI=>(bk I.1 (aJ (af (ay (aL (jv (aP x.1) (aP x.2))) (0:Int)))) (obind (ia (x.1,I.1)) λM=>(obind (ia (x.2,I.1)) λJ=>(ck (eS I.1 (af I.2)) (cu ((ca I.1),(cw I.2 I.1 (jv M J))))))) (ax I.2))) (0,(ay (aL (jv (aP x.1) (aP x.2))) (0:Int)))))
def xq (x:(List Int)×List Int):Option (List Int):=tP @iter x
def kl (x:(List Int)×List Int):Option (List Int):=tP @fk x
def Bm (x:(List Int)×Int):Option (Int):=
 (jn (α:=Bool) (bk x.2 0 (ax ajp) (ax (cD (aP x.1) x.2))) λI=>(bcase I (ajn 0) (vA x.2 x.1 (ajn (aD (T:=aH) x.1 x.2)))))
def Md (x:List Int):Option (List Int):=
 (bcase (av (af x) 0) (DH (ajn ([]:List Int)) (bn (aT (af ([]:List Int)+af x) 8) (ajn (([]:List Int)++x)))) (bn (aT (af ([]:List Int)+af x) 8) (ajn (([]:List Int)++x))))
def Aj (x:List Int):Option (List Int):=chk (aT (af x) 8) λ_=>ajn x
def vV (it:xg) (x:List (List Int)):Option (List (List Int)):=
 (bn (cD 0 (aP x)&&cD (aP x) (aP x)&&aT (aL (aP x)) 24) (it (Int×List (List Int)) _ (λI=>(bk I.1 (aP x) (vA I.1 x (obind (Aj (aD (T:=(.sl aH)) x I.1)) λJ=>(ck (eS I.1 (af I.2)) (cu ((ca I.1),(cw I.2 I.1 J)))))) (ax I.2))) (0,(ay (aL (aP x)) ([]:List Int)))))
def Ab (x:List (List Int)):Option (List (List Int)):=vV @iter x
def gz (x:List (List Int)):Option (List (List Int)):=vV @fk x
def G1 (x:List Int):Option (List Int):=
 (bcase (av (af x) 0) (DH (ajn ([]:List Int)) (bn (aT (af ([]:List Int)+af x) 8) (ajn (([]:List Int)++x)))) (bn (aT (af ([]:List Int)+af x) 8) (ajn (([]:List Int)++x))))
def nO (x:List Int):Option (List Int):=chk (aT (af x) 8) λ_=>ajn x
def sG (x:(List (List Int))×(List (List Int))×(List (List Int))×(List (List Int))×(List (List Int))×(List (List Int))×(List Int)×(List (List Int))×List Int):Option ((List Int)×(List (List Int))×(List (List Int))×(List (List Int))×(List (List Int))×(List (List Int))×(List (List Int))×(List (List Int))×List Int):=
 (obind (gz x.1) λy1=>(obind (gz x.2.1) λy2=>(obind (gz x.p2) λy3=>(obind (gz x.p3) λZ=>(obind (gz x.p4) λY=>(obind (gz x.p5) λU=>(obind (nO x.p6) λM=>(obind (gz x.p7) λJ=>(obind (nO x.q8) λI=>(ajn (M,y1,y2,y3,Z,Y,U,J,I)))))))))))
def rX (x:Int×List (List Int)):Option ((List Int)×List (List Int)):=
 (jn (α:=Bool×List (List Int)) (bk x.1 0 (ax (ajp,x.2)) (ax ((cD (aP x.2) x.1),x.2))) λI=>(bcase I.1 (ajn (([]:List Int),I.2)) (ck (eS x.1 (af I.2)) (ajn ((aD (T:=(.sl aH)) I.2 x.1),I.2)))))
def sH (x:gk×(List Int)×dv×(List (List Int))×(List (List Int))×(List (List Int))×(List (List Int))×(List (List Int))×(List (List Int))×(List (List Int))×List Int):Option ((List (List Int))×gk×(List Int)×dv×(List (List Int))×(List (List Int))×(List (List Int))×(List (List Int))×(List (List Int))×(List (List Int))×(List (List Int))×List Int):=
 (aX x.1.2.1 1 (ck (eS x.1.1 (af x.p4)) (ajn ([(aD (T:=(.sl aH)) x.p4 x.1.1)],(x.1.1,x.1.2.1,x.1.p2,x.1.p3,x.1.p4,x.1.p5,x.1.q6),x.2.1,(x.p2.1,x.p2.2.1,x.p2.p2,x.p2.p3,x.p2.p4,x.p2.q5),x.p3,x.p4,x.p5,x.p6,x.p7,x.p8,x.p9,x.q10))) (aX x.1.2.1 21 (ck (eS x.1.p2 (af x.p3)) (ajn ([(aD (T:=(.sl aH)) x.p3 x.1.p2)],(x.1.1,x.1.2.1,x.1.p2,x.1.p3,x.1.p4,x.1.p5,x.1.q6),x.2.1,(x.p2.1,x.p2.2.1,x.p2.p2,x.p2.p3,x.p2.p4,x.p2.q5),x.p3,x.p4,x.p5,x.p6,x.p7,x.p8,x.p9,x.q10))) (jn (α:=Bool×gk×(List Int)×dv×(List (List Int))×(List (List Int))×(List (List Int))×(List (List Int))×(List (List Int))×(List (List Int))×(List (List Int))×List Int) (aX x.1.2.1 6 (ax ((decide ((x.1.2.1:Int)=6)),(x.1.1,x.1.2.1,x.1.p2,x.1.p3,x.1.p4,x.1.p5,x.1.q6),x.2.1,(x.p2.1,x.p2.2.1,x.p2.p2,x.p2.p3,x.p2.p4,x.p2.q5),x.p3,x.p4,x.p5,x.p6,x.p7,x.p8,x.p9,x.q10)) (ax ((decide ((x.1.2.1:Int)=10)),(x.1.1,x.1.2.1,x.1.p2,x.1.p3,x.1.p4,x.1.p5,x.1.q6),x.2.1,(x.p2.1,x.p2.2.1,x.p2.p2,x.p2.p3,x.p2.p4,x.p2.q5),x.p3,x.p4,x.p5,x.p6,x.p7,x.p8,x.p9,x.q10))) λI=>(bcase I.1 (ck (eS I.2.1.p2 (af I.p6)) (ck (eS I.2.1.p2 (af I.p7)) (ajn ([(aD (T:=(.sl aH)) I.p6 I.2.1.p2),(aD (T:=(.sl aH)) I.p7 I.2.1.p2)],(I.2.1.1,I.2.1.2.1,I.2.1.p2,I.2.1.p3,I.2.1.p4,I.2.1.p5,I.2.1.q6),I.p2,(I.p3.1,I.p3.2.1,I.p3.p2,I.p3.p3,I.p3.p4,I.p3.q5),I.p4,I.p5,I.p6,I.p7,I.p8,I.p9,I.p10,I.q11)))) (aX x.1.2.1 8 (ck (eS I.2.1.p2 (af I.p6)) (ajn ([(aD (T:=(.sl aH)) I.p6 I.2.1.p2)],(I.2.1.1,I.2.1.2.1,I.2.1.p2,I.2.1.p3,I.2.1.p4,I.2.1.p5,I.2.1.q6),I.p2,(I.p3.1,I.p3.2.1,I.p3.p2,I.p3.p3,I.p3.p4,I.p3.q5),I.p4,I.p5,I.p6,I.p7,I.p8,I.p9,I.p10,I.q11))) (aX x.1.2.1 17 (vA I.2.1.p2 I.p3.p2 (obind (rX ((aD (T:=kC) I.p3.p2 I.2.1.p2).2,I.p6)) λM=>(bn (av (af I.p6) (af M.2)&&ajp) (obind (rX ((aD (T:=kC) I.p3.p2 I.2.1.p2).2,I.p7)) λJ=>(bn (av (af I.p7) (af J.2)&&ajp) (ck (eS I.2.1.1 (af I.p10)) (ajn ([M.1,J.1,(aD (T:=(.sl aH)) I.p10 I.2.1.1)],(I.2.1.1,I.2.1.2.1,I.2.1.p2,I.2.1.p3,I.2.1.p4,I.2.1.p5,I.2.1.q6),I.p2,(I.p3.1,I.p3.2.1,I.p3.p2,I.p3.p3,I.p3.p4,I.p3.q5),I.p4,I.p5,M.2,J.2,I.p8,I.p9,I.p10,I.q11)))))))) (aX x.1.2.1 3 (ck (eS I.2.1.p2 (af I.p8)) (ajn ([(aD (T:=(.sl aH)) I.p8 I.2.1.p2)],(I.2.1.1,I.2.1.2.1,I.2.1.p2,I.2.1.p3,I.2.1.p4,I.2.1.p5,I.2.1.q6),I.p2,(I.p3.1,I.p3.2.1,I.p3.p2,I.p3.p3,I.p3.p4,I.p3.q5),I.p4,I.p5,I.p6,I.p7,I.p8,I.p9,I.p10,I.q11))) (aX x.1.2.1 23 (ck (eS I.2.1.p2 (af I.p9)) (ajn ([(aD (T:=(.sl aH)) I.p9 I.2.1.p2)],(I.2.1.1,I.2.1.2.1,I.2.1.p2,I.2.1.p3,I.2.1.p4,I.2.1.p5,I.2.1.q6),I.p2,(I.p3.1,I.p3.2.1,I.p3.p2,I.p3.p3,I.p3.p4,I.p3.q5),I.p4,I.p5,I.p6,I.p7,I.p8,I.p9,I.p10,I.q11))) (aX x.1.2.1 12 (ajn ([I.p2],(I.2.1.1,I.2.1.2.1,I.2.1.p2,I.2.1.p3,I.2.1.p4,I.2.1.p5,I.2.1.q6),I.p2,(I.p3.1,I.p3.2.1,I.p3.p2,I.p3.p3,I.p3.p4,I.p3.q5),I.p4,I.p5,I.p6,I.p7,I.p8,I.p9,I.p10,I.q11)) (ajn (([]:List (List Int)),(I.2.1.1,I.2.1.2.1,I.2.1.p2,I.2.1.p3,I.2.1.p4,I.2.1.p5,I.2.1.q6),I.p2,(I.p3.1,I.p3.2.1,I.p3.p2,I.p3.p3,I.p3.p4,I.p3.q5),I.p4,I.p5,I.p6,I.p7,I.p8,I.p9,I.p10,I.q11)))))))))))
def yB (it:xg) (x:fY×fH×(List eh)×bP×bP×List (Int×Int×Int)):Option ZP:=
 (ck (cD 0 (aP x.p4)&&cD (aP x.p4) (aP x.p4)&&aT (aL (aP x.p4)) 24) (ck (cD 0 (aP x.2.1)&&cD (aP x.2.1) (aP x.2.1)&&aT (aL (aP x.2.1)) 24) (bn (cD 0 (aP x.1)&&cD (aP x.1) (aP x.1)&&aT (aL (aP x.1)) 24) (bn (cD 0 (aP x.p3)&&cD (aP x.p3) (aP x.p3)&&aT (aL (aP x.p3)) 24) (bn (cD 0 (aP x.p4)&&cD (aP x.p4) (aP x.p4)&&aT (aL (aP x.p4)) 24) (bn (cD 0 (aP x.p4)&&cD (aP x.p4) (aP x.p4)&&aT (aL (aP x.p4)) 8) (it (Int×(List (List Int))×(List (List Int))×(List (List Int))×(List (List Int))×(List (List Int))×(List (List Int))×(List (List Int))×List Int) _ (λI=>(bk I.1 (aJ (af (ay (aL (aP x.p4)) (0:Int)))) (ck (eS I.1 (af I.q8)) (cu ((ca I.1),I.2.1,I.p2,I.p3,I.p4,I.p5,I.p6,I.p7,(cw I.q8 I.1 (-1))))) (ax (I.2.1,I.p2,I.p3,I.p4,I.p5,I.p6,([]:List Int),I.p7,I.q8)))) (0,(ay (aL (aP x.p4)) ([]:List Int)),(ay (aL (aP x.p4)) ([]:List Int)),(ay (aL (aP x.2.1)) ([]:List Int)),(ay (aL (aP x.2.1)) ([]:List Int)),(ay (aL (aP x.1)) ([]:List Int)),(ay (aL (aP x.p3)) ([]:List Int)),(ay (aL (aP x.p4)) ([]:List Int)),(ay (aL (aP x.p4)) (0:Int))))))))))
def CX (x:fY×fH×(List eh)×bP×bP×List (Int×Int×Int)):Option ZP:=yB @iter x
def mF (x:fY×fH×(List eh)×bP×bP×List (Int×Int×Int)):Option ZP:=yB @fk x
def qN (x:(List Int)×Int):Option (List Int):=
 (jn (α:=Bool) (jf 0 x.2 (ax (eX x.2 4)) (ax ajq)) λM=>(jn (α:=Int) (bcase M (ax (jv (aP x.1) (ca x.2))) (ax (aP x.1))) λI=>(bn (cD 0 I&&cD I I&&aT (aL I) 8) (jn (α:=List Int) (jn (α:=Bool×List Int) (bcase M (ck (eS x.2 (af (Re (ay (aL I) (0:Int)) x.1))) (ax ((eX (aD (T:=aH) (Re (ay (aL I) (0:Int)) x.1) x.2) 9223372036854775807),(Re (ay (aL I) (0:Int)) x.1)))) (ax (ajq,(Re (ay (aL I) (0:Int)) x.1)))) λJ=>(bcase J.1 (ck (eS x.2 (af J.2)) (ck (eS x.2 (af J.2)) (ax (cw J.2 x.2 (be .i64 ((aD (T:=aH) J.2 x.2)+1)))))) (ax J.2))) λU=>(ajn U)))))
def uN (x:List Int):Option ((List Int)×List Int):=
 (bn (aT (af ([]:List Int)+af x) 8) (ajn ((([]:List Int)++x),x)))
def tH (x:List Int):Option (List Int):=obind (uN x) λy=>KI y.2 x (ajn y.1)
def F4 (it:xg) (x:(List Int)×List Int):Option ((List Int)×List Int):=
 (bn (cD 0 (jv (aP x.1) (aP x.2))&&cD (jv (aP x.1) (aP x.2)) (jv (aP x.1) (aP x.2))&&aT (aL (jv (aP x.1) (aP x.2))) 8) (it (Int×(List Int)×List Int) _ (λI=>(bk I.1 (aJ (af (ay (aL (jv (aP x.1) (aP x.2))) (0:Int)))) (obind (ia (x.1,I.1)) λM=>(obind (ia (I.2.1,I.1)) λJ=>(ck (eS I.1 (af I.2.2)) (cu ((ca I.1),I.2.1,(cw I.2.2 I.1 (jv M J))))))) (ax (I.2.2,I.2.1)))) (0,x.2,(ay (aL (jv (aP x.1) (aP x.2))) (0:Int)))))
def L9 (x:(List Int)×List Int):Option ((List Int)×List Int):=F4 @iter x
def rL (x:(List Int)×List Int):Option ((List Int)×List Int):=F4 @fk x
def Ai (x:(List Int)×List Int):Option (List Int):=obind (rL x) λy=>KI y.2 x.2 (ajn y.1)
def ku (x:Int×(List (List Int))×List Int):Option ((List (List Int))×List Int):=
 (jn (α:=Bool×(List (List Int))×List Int) (jf 0 x.1 (ax ((eX x.1 (aP x.2.1)),x.2.1,x.2.2)) (ax (ajq,x.2.1,x.2.2))) λI=>(bcase I.1 (ck (eS x.1 (af I.2.1)) (obind (Ai ((aD (T:=(.sl aH)) I.2.1 x.1),I.2.2)) λJ=>(ck (eS x.1 (af I.2.1)) (ajn ((cw I.2.1 x.1 J),I.2.2))))) (ajn (I.2.1,I.2.2))))
def uK (x:Int×(List Int)×(List (List Int))×(List (List Int))×(List (List Int))×(List (List Int))×(List (List Int))×(List (List Int))×(List (List Int))×(List Int)×List Int):Option Yd1:=
 (obind (tH x.q10) λI=>(ck (eS x.1 (af x.p8)) (ck (eS x.1 (af x.p9)) (ajn (x.2.1,x.p2,x.p3,x.p4,x.p5,x.p6,x.p7,(cw x.p8 x.1 I),(cw x.p9 x.1 (-1)),x.q10)))))
def yA (it:xg) (x:Yd4×(List Int)×(List (List Int))×(List (List Int))×(List (List Int))×(List (List Int))×(List (List Int))×(List (List Int))×(List (List Int))×(List Int)×List Int):Option Yd1:=
 (obind (tH x.q10) λy1=>(ck (eS x.1.2.1 (af x.p2)) (jn (α:=(List Int)×(List (List Int))×(List (List Int))×(List (List Int))×(List (List Int))×(List (List Int))×(List (List Int))×(List (List Int))×(List Int)×List Int) (aX x.1.p2 20 (obind (tH x.q10) λy3=>(ck (eS x.1.p3 (af x.p3)) (ax (x.2.1,(cw x.p2 x.1.2.1 y1),(cw x.p3 x.1.p3 y3),x.p4,x.p5,x.p6,x.p7,x.p8,x.p9,x.q10)))) (jn (α:=Bool×(List Int)×(List (List Int))×(List (List Int))×(List (List Int))×(List (List Int))×(List (List Int))×(List (List Int))×(List (List Int))×(List Int)×(List Int)×dv×Int×Int×Int×Int×Int×(List Int)×List Int) (aX x.1.p2 7 (ax ((decide ((x.1.p2:Int)=7)),x.2.1,(cw x.p2 x.1.2.1 y1),x.p3,x.p4,x.p5,x.p6,x.p7,x.p8,x.p9,x.q10,(x.1.1.1,x.1.1.2.1,x.1.1.p2,x.1.1.p3,x.1.1.p4,x.1.1.q5),x.1.2.1,x.1.p2,x.1.p3,x.1.p4,x.1.p5,x.1.p6,x.1.q7)) (ax ((decide ((x.1.p2:Int)=11)),x.2.1,(cw x.p2 x.1.2.1 y1),x.p3,x.p4,x.p5,x.p6,x.p7,x.p8,x.p9,x.q10,(x.1.1.1,x.1.1.2.1,x.1.1.p2,x.1.1.p3,x.1.1.p4,x.1.1.q5),x.1.2.1,x.1.p2,x.1.p3,x.1.p4,x.1.p5,x.1.p6,x.1.q7))) λI=>(bcase I.1 (obind (ku (I.p14,I.p4,I.p10)) λy5=>(bn (av (af I.p10) (af y5.2)&&(av (af I.p4) (af y5.1)&&ajp)) (ax (I.2.1,I.p2,I.p3,y5.1,I.p5,I.p6,I.p7,I.p8,I.p9,y5.2)))) (aX x.1.p2 9 (obind (ku (I.p14,I.p5,I.p10)) λy6=>(bn (av (af I.p10) (af y6.2)&&(av (af I.p5) (af y6.1)&&ajp)) (ax (I.2.1,I.p2,I.p3,I.p4,y6.1,I.p6,I.p7,I.p8,I.p9,y6.2)))) (aX x.1.p2 16 (ck (eS I.p12 (af I.p9)) (vA I.p14 I.p11.p2 (obind (ku ((aD (T:=kC) I.p11.p2 I.p14).2,I.p4,I.p10)) λy7=>(bn (av (af I.p10) (af y7.2)&&(av (af I.p4) (af y7.1)&&ajp)) (ax (I.2.1,I.p2,I.p3,y7.1,I.p5,I.p6,I.p7,I.p8,(cw I.p9 I.p12 I.p14),y7.2)))))) (aX x.1.p2 4 (vA I.p14 I.p11.1 (bcase (((((aD (T:=jI) I.p11.1 I.p14).2).2).2).1) (obind (ku (I.p14,I.p6,I.p10)) λy8=>(bn (av (af I.p10) (af y8.2)&&(av (af I.p6) (af y8.1)&&ajp)) (ax (I.2.1,I.p2,I.p3,I.p4,I.p5,y8.1,I.p7,I.p8,I.p9,y8.2)))) (ax (I.2.1,I.p2,I.p3,I.p4,I.p5,I.p6,I.p7,I.p8,I.p9,I.p10)))) (aX x.1.p2 22 (obind (ku (I.p14,I.p7,I.p10)) λy9=>(bn (av (af I.p10) (af y9.2)&&(av (af I.p7) (af y9.1)&&ajp)) (ax (I.2.1,I.p2,I.p3,I.p4,I.p5,I.p6,y9.1,I.p8,I.p9,y9.2)))) (aX x.1.p2 13 (obind (Ai (I.2.1,I.p10)) λy10=>(ax (y10,I.p2,I.p3,I.p4,I.p5,I.p6,I.p7,I.p8,I.p9,I.p10))) (aX x.1.p2 18 (jn (α:=Bool×(List Int)×(List (List Int))×(List (List Int))×(List (List Int))×(List (List Int))×(List (List Int))×(List (List Int))×(List (List Int))×(List Int)×(List Int)×Int×Int×Int×Int×Int×(List Int)×List Int) (jf 0 I.p15 (ax ((eX I.p15 (aP I.p8)),I.2.1,I.p2,I.p3,I.p4,I.p5,I.p6,I.p7,I.p8,I.p9,I.p10,I.p12,I.p13,I.p14,I.p15,I.p16,I.p17,I.q18)) (ax (ajq,I.2.1,I.p2,I.p3,I.p4,I.p5,I.p6,I.p7,I.p8,I.p9,I.p10,I.p12,I.p13,I.p14,I.p15,I.p16,I.p17,I.q18))) λM=>(bcase M.1 (obind (uK (M.p14,M.2.1,M.p2,M.p3,M.p4,M.p5,M.p6,M.p7,M.p8,M.p9,M.p10)) λY=>(bn (av (af M.p10) (af Y.q9)&&(av (af M.p9) (af Y.p8)&&(av (af M.p8) (af Y.p7)&&(av (af M.p7) (af Y.p6)&&(av (af M.p6) (af Y.p5)&&(av (af M.p5) (af Y.p4)&&(av (af M.p4) (af Y.p3)&&(av (af M.p3) (af Y.p2)&&(av (af M.p2) (af Y.2.1)&&ajp))))))))) (ax (Y.1,Y.2.1,Y.p2,Y.p3,Y.p4,Y.p5,Y.p6,Y.p7,Y.p8,Y.q9)))) (ax (M.2.1,M.p2,M.p3,M.p4,M.p5,M.p6,M.p7,M.p8,M.p9,M.p10)))) (aX x.1.p2 19 (it (Int×(List Int)×(List (List Int))×(List (List Int))×(List (List Int))×(List (List Int))×(List (List Int))×(List (List Int))×(List (List Int))×(List Int)×(List Int)×Int×Int×Int×Int×Int×(List Int)×List Int) _ (λJ=>(bk J.1 (aP I.p9) (jn (α:=(List Int)×(List (List Int))×(List (List Int))×(List (List Int))×(List (List Int))×(List (List Int))×(List (List Int))×(List (List Int))×(List Int)×(List Int)×Int×Int×Int×Int×Int×(List Int)×List Int) (ck (eS J.1 (af J.p9)) (aX (aD (T:=aH) J.p9 J.1) J.p13 (obind (uK (J.1,J.2.1,J.p2,J.p3,J.p4,J.p5,J.p6,J.p7,J.p8,J.p9,J.p10)) λU=>(bn (av (af J.p10) (af U.q9)&&(av (af J.p9) (af U.p8)&&(av (af J.p8) (af U.p7)&&(av (af J.p7) (af U.p6)&&(av (af J.p6) (af U.p5)&&(av (af J.p5) (af U.p4)&&(av (af J.p4) (af U.p3)&&(av (af J.p3) (af U.p2)&&(av (af J.p2) (af U.2.1)&&ajp))))))))) (ax (U.1,U.2.1,U.p2,U.p3,U.p4,U.p5,U.p6,U.p7,U.p8,U.q9,J.p11,J.p12,J.p13,J.p14,J.p15,J.p16,J.q17)))) (ax (J.2.1,J.p2,J.p3,J.p4,J.p5,J.p6,J.p7,J.p8,J.p9,J.p10,J.p11,J.p12,J.p13,J.p14,J.p15,J.p16,J.q17)))) λZ=>(cu ((ca J.1),Z.1,Z.2.1,Z.p2,Z.p3,Z.p4,Z.p5,Z.p6,Z.p7,Z.p8,Z.p9,Z.p10,Z.p11,Z.p12,Z.p13,Z.p14,Z.p15,Z.q16))) (ax (bM (J.2.1,J.p2,J.p3,J.p4,J.p5,J.p6,J.p7,J.p8,J.p9,J.p10))))) (0,I.2.1,I.p2,I.p3,I.p4,I.p5,I.p6,I.p7,I.p8,I.p9,I.p10,I.p12,I.p13,I.p14,I.p15,I.p16,I.p17,I.q18)) (ax (I.2.1,I.p2,I.p3,I.p4,I.p5,I.p6,I.p7,I.p8,I.p9,I.p10)))))))))))) λx2=>(ajn (x2.1,x2.2.1,x2.p2,x2.p3,x2.p4,x2.p5,x2.p6,x2.p7,x2.p8,x2.q9)))))
def CW (x:Yd4×(List Int)×(List (List Int))×(List (List Int))×(List (List Int))×(List (List Int))×(List (List Int))×(List (List Int))×(List (List Int))×(List Int)×List Int):Option Yd1:=yA @iter x
def qc (x:Yd4×(List Int)×(List (List Int))×(List (List Int))×(List (List Int))×(List (List Int))×(List (List Int))×(List (List Int))×(List (List Int))×(List Int)×List Int):Option Yd1:=yA @fk x
def BI (it:xg) (x:dv×ZP×Int×Int×Int×Int×Int×(List Int)×List Int):Option (ZP×List Int):=
 (obind (sG (x.2.1.1,x.2.1.2.1,x.2.1.p2,x.2.1.p3,x.2.1.p4,x.2.1.p5,x.2.1.p6,x.2.1.p7,x.2.1.q8)) λU=>(ck (eS x.p2 (af U.2.1)) (obind (sH ((x.p2,x.p3,x.p4,x.p5,x.p6,x.p7,x.q8),U.1,(x.1.1,x.1.2.1,x.1.p2,x.1.p3,x.1.p4,x.1.q5),U.2.1,U.p2,U.p3,U.p4,U.p5,U.p6,U.p7,U.q8)) λJ=>(bn (av (af U.q8) (af J.q11)&&(av (af U.p7) (af J.p10)&&(av (af U.p6) (af J.p9)&&(av (af U.p5) (af J.p8)&&(av (af U.p4) (af J.p7)&&(av (af U.p3) (af J.p6)&&(av (af U.p2) (af J.p5)&&(av (af U.2.1) (af J.p4)&&ajp)))))))) (it (Int×dv×gk×(List Int)×(List Int)×(List (List Int))×(List (List Int))×(List (List Int))×(List (List Int))×(List (List Int))×(List (List Int))×(List (List Int))×List Int) _ (λI=>(bk I.1 (aP J.1) (vA I.1 J.1 (obind (kl (I.p4,(aD (T:=(.sl aH)) J.1 I.1))) λZ=>(cu ((ca I.1),(I.2.1.1,I.2.1.2.1,I.2.1.p2,I.2.1.p3,I.2.1.p4,I.2.1.q5),(I.p2.1,I.p2.2.1,I.p2.p2,I.p2.p3,I.p2.p4,I.p2.p5,I.p2.q6),I.p3,Z,I.p5,I.p6,I.p7,I.p8,I.p9,I.p10,I.p11,I.q12)))) (obind (obind (qN (I.p4,I.p2.1)) λY=>(obind (qc (((I.2.1.1,I.2.1.2.1,I.2.1.p2,I.2.1.p3,I.2.1.p4,I.2.1.q5),I.p2.1,I.p2.2.1,I.p2.p2,I.p2.p3,I.p2.p4,I.p2.p5,I.p2.q6),I.p3,I.p5,I.p6,I.p7,I.p8,I.p9,I.p10,I.p11,I.q12,Y)) λM=>(bn (av (af Y) (af M.q9)&&(av (af I.q12) (af M.p8)&&(av (af I.p11) (af M.p7)&&(av (af I.p10) (af M.p6)&&(av (af I.p9) (af M.p5)&&(av (af I.p8) (af M.p4)&&(av (af I.p7) (af M.p3)&&(av (af I.p6) (af M.p2)&&(av (af I.p5) (af M.2.1)&&ajp))))))))) (ajn ((M.2.1,M.p2,M.p3,M.p4,M.p5,M.p6,M.1,M.p7,M.p8),M.q9))))) λr=>ajn (bM r)))) (0,(J.p3.1,J.p3.2.1,J.p3.p2,J.p3.p3,J.p3.p4,J.p3.q5),(J.2.1.1,J.2.1.2.1,J.2.1.p2,J.2.1.p3,J.2.1.p4,J.2.1.p5,J.2.1.q6),J.p2,(aD (T:=(.sl aH)) U.2.1 x.p2),J.p4,J.p5,J.p6,J.p7,J.p8,J.p9,J.p10,J.q11))))))
def GU (x:dv×ZP×Int×Int×Int×Int×Int×(List Int)×List Int):Option (ZP×List Int):=BI @iter x
def pf (x:dv×ZP×Int×Int×Int×Int×Int×(List Int)×List Int):Option (ZP×List Int):=BI @fk x
def BH (it:xg) (x:(List Int)×List Int):Option (Bool):=
 (it (Int) _ (λI=>(bk I (jv (aP x.1) (aP x.2)) (obind (Bm (x.1,I)) λM=>(obind (Bm (x.2,I)) λJ=>(bk J M (ax ajq) (cu (ca I))))) (ax ajp))) 0)
def GR (x:(List Int)×List Int):Option (Bool):=BH @iter x
def qI (x:(List Int)×List Int):Option (Bool):=BH @fk x
def pR (x:(List Int)×List Int):Option (Bool):=
 (jn (α:=Bool) (obind (qI (x.1,x.2)) λJ=>(bcase J (obind (qI (x.2,x.1)) λI=>(ax I)) (ax ajq))) λM=>(ajn M))
def qh (it:xg) (x:List UInt8):Option (Bool):=
 (lt (aD (T:=(.st (.pr .str (.pr .str (.pr .str (.pr .str (.pr .str (.pr .str (.pr .str (.pr .str (.pr .str (.pr .str (.pr .str (.pr .str (.pr .str (.pr .str (.pr .str (.pr .str (.pr .str (.pr .str (.pr .str (.pr .str (.pr .str .str))))))))))))))))))))))) ([kwV]) 0) λI=>(it (Int) _ (λJ=>(bk J 22 (bn (cD 0 J&&eX J 22) (lt (aD (T:=.str) [I.1,I.2.1,I.p2,I.p3,I.p4,I.p5,I.p6,I.p7,I.p8,I.p9,I.p10,I.p11,I.p12,I.p13,I.p14,I.p15,I.p16,I.p17,I.p18,I.p19,I.p20,I.q21] J) λM=>(bcase (decide ((x:List UInt8)=M)) (ax ajp) (cu (ca J))))) (ax ajq))) 0))
def pQ (x:List UInt8):Option (Bool):=qh @iter x
def jW (x:List UInt8):Option (Bool):=qh @fk x
def uj (it:xg) (x:List UInt8):Option (Bool):=
 (jn (α:=Bool) (bk (aP x) 1 (ax ajp) (bk 12 (aP x) (ax ajp) (obind (jW x) λU=>(ax U)))) λZ=>(bcase Z (ajn ajq) (it (List (eh×Unit)) _ (λI=>(bcase (fd (Mg I) (af (Nx I))) (bn (eX (yI (Nx I) (aJ (Mg I))) 128) (jn (α:=List (eh×Unit)) (jn (α:=Bool×List (eh×Unit)) (jf 97 (yI (Nx I) (aJ (Mg I))) (jf (yI (Nx I) (aJ (Mg I))) 122 (ax (ajp,[(((Nx I),(aJ ((Mg I)+1))),())])) (jf 65 (yI (Nx I) (aJ (Mg I))) (ax ((cD (yI (Nx I) (aJ (Mg I))) 90),[(((Nx I),(aJ ((Mg I)+1))),())])) (ax (ajq,[(((Nx I),(aJ ((Mg I)+1))),())])))) (jf 65 (yI (Nx I) (aJ (Mg I))) (ax ((cD (yI (Nx I) (aJ (Mg I))) 90),[(((Nx I),(aJ ((Mg I)+1))),())])) (ax (ajq,[(((Nx I),(aJ ((Mg I)+1))),())])))) λJ=>(bcase J.1 (ax J.2) (jn (α:=Bool×List (eh×Unit)) (bk 0 (aJ (Mg I)) (aX (yI (Nx I) (aJ (Mg I))) 95 (ax (ajp,J.2)) (jf 48 (yI (Nx I) (aJ (Mg I))) (ax ((cD (yI (Nx I) (aJ (Mg I))) 57),J.2)) (ax (ajq,J.2)))) (ax (ajq,J.2))) λM=>(bcase M.1 (ax M.2) (cu (bM ajq)))))) λY=>(cu Y))) (ax ajp))) ([((x,0),())]))))
def uc (x:List UInt8):Option (Bool):=uj @iter x
def nu (x:List UInt8):Option (Bool):=uj @fk x
def v7 (it:xg) (x:(List Int)×Int):Option (Int):=
 (it (Int) _ (λI=>(bk I (aP x.1) (bw aH x.1 I λJ=>(aX x.2 J (ax I) (cu (ca I)))) (ax (-1)))) 0)
def Ad (x:(List Int)×Int):Option (Int):=v7 @iter x
def qd (x:(List Int)×Int):Option (Int):=v7 @fk x
def jE (x:(List Int)×Int):Option (Bool):=
 (obind (qd x) λI=>(ajn (cD 0 I)))
def uh (x:(List Int)×Int×Int):Option (Bool):=
 (obind (ia (x.1,x.2.2)) λI=>(ajn (cD x.2.1 I)))
def vQ (x:Int×Int×Int×Int×Int×(List Int)×List Int):Option (Bool):=
 (jn (α:=Bool) (aX x.2.1 3 (ax ajp) (ax (decide ((x.2.1:Int)=4)))) λI=>(ajn I))
def vP (x:(dv×List gk)×Int×Int):Option (Bool):=
 (bw ip x.1.2 x.2.1 λM=>(bw ip x.1.2 x.2.2 λJ=>(jn (α:=Bool×(dv×List gk)×gk×Int×Int×Int×Int×Int×(List Int)×List Int) (aX M.1 J.1 (ax (ajp,x.1,M,J)) (ax ((!decide ((M.p2:Int)=J.p2)),x.1,M,J))) λI=>(bcase I.1 (ajn ajq) (jn (α:=Bool×gk×Int×Int×Int×Int×Int×(List Int)×List Int) (obind (vQ I.p2) λy5=>(bcase (!y5) (ax (ajp,I.2.2)) (obind (vQ I.q3) λZ=>(bcase (!Z) (ax (ajp,I.2.2)) (bw jI I.2.1.1.1 I.p2.p2 λY=>(ax (Y.2.2.2.1,I.2.2))))))) λU=>(bcase U.1 (ajn ajq) (jn (α:=Bool) (aX U.2.1.2.1 4 (ax ajp) (ax (decide ((U.p3:Int)=4)))) λx8=>(ajn x8))))))))
def Ar (it:xg) (x:List gk):Option Yd5:=
 (bn (cD 0 (aP x)&&cD (aP x) (aP x)&&aT (aL (aP x)) 16) (it (Int×Yd5×List (Int×Int)) _ (λI=>(bk I.1 (aP x) (bw ip x I.1 λJ=>(ck (eS I.1 (af I.2.2)) (cu ((ca I.1),(Ma (K:=aH) (V:=aH) J.1 (be .i64 ((GW (K:=aH) (V:=aH) J.1 I.2.1 0)+1)) I.2.1),(cw I.2.2 I.1 ((GW (K:=aH) (V:=aH) J.1 (Ma (K:=aH) (V:=aH) J.1 (be .i64 ((GW (K:=aH) (V:=aH) J.1 I.2.1 0)+1)) I.2.1) 0),J.1)))))) (ax I.2.2))) (0,([]:List (Int×Int)),(ay (aL (aP x)) ((0,0):Int×Int)))))
def Aa (x:List gk):Option Yd5:=Ar @iter x
def sF (x:List gk):Option Yd5:=Ar @fk x
def qZ (x:Int×Int):Option (Bool):=
 (jn (α:=Bool) (jf 0 x.1 (ax (eX x.1 x.2)) (ax ajq)) λI=>(ajn I))
def rc (x:dv×Int×Bool):Option (Bool):=
 (jn (α:=Bool) (obind (qZ (x.2.1,(aP x.1.2.1))) λJ=>(bcase J (bw pI x.1.2.1 x.2.1 λI=>(ax ((I.2==x.2.2) !=ajq))) (ax ajq))) λM=>(ajn M))
def m7 (it:xg) (x:List QD):Option (bP×Bool):=
 (it (Int×List (List UInt8)) _ (λM=>(bk M.1 (aP x) (jn (α:=Int×List (List UInt8)) (bw jI x M.1 λI=>(bn (aT (af M.2+af ([I.1])) 16) (aX I.p2 0 (ik I.2.1 0 (cu (bM (([]:List (List UInt8)),ajq))) (ax ((ca M.1),(M.2++([I.1]))))) (jn (α:=Bool×bP×(List UInt8)×Int×Int×Bool×Int) (bk I.p2 1 (ax (ajp,(M.2++([I.1])),I)) (bk 4 I.p2 (ax (ajp,(M.2++([I.1])),I)) (bcase I.p3 (ax (ajp,(M.2++([I.1])),I)) (ax ((eX (be .i64 ((aP x)-M.1)) I.p2),(M.2++([I.1])),I))))) λY=>(bcase Y.1 (cu (bM (([]:List (List UInt8)),ajq))) (it (Int×bP×(List UInt8)×Int×Int×Bool×Int) _ (λJ=>(bk J.1 Y.p4 (bw jI x (be .i64 (M.1+J.1)) λU=>(bcase (Nz (.pr .str (.pr aH (.pr aH (.pr .bool (.pr aH .un))))) (U.1,U.2.1,U.p2,U.p3,U.q4,()) (J.p2,J.1,J.p4,J.p5,J.q6,()) !=ajp) (ax (nG (bM (([]:List (List UInt8)),ajq)))) (cu ((ca J.1),J.2.1,J.p2,J.1,J.q4)))) (ax (bM ((be .i64 (M.1+J.p4)),J.2.1))))) (0,Y.2))))))) λZ=>(cu Z)) (ax (M.2,ajp)))) (0,([]:List (List UInt8))))
def mX (x:List QD):Option (bP×Bool):=m7 @iter x
def gd (x:List QD):Option (bP×Bool):=m7 @fk x
def m6 (it:xg) (x:dv×List (List UInt8)):Option (Bool):=
 (bn (aT (af (x.2:List (List UInt8))) 16) (it (Int×dv×List (List UInt8)) _ (λJ=>(bk J.1 (aP x.1.2.1) (bw pI x.1.2.1 J.1 λz2=>(bn (aT (af J.2.2+af ([z2.1])) 16) (cu ((ca J.1),J.2.1,(J.2.2++([z2.1])))))) (obind (it (Int×dv×List (List UInt8)) _ (λI=>(bk I.1 (aP J.2.1.p2) (bw kC J.2.1.p2 I.1 λZ=>(bn (aT (af I.2.2+af ([Z.1])) 16) (cu ((ca I.1),I.2.1,(I.2.2++([Z.1])))))) (obind (bn (aT (af I.2.2+af I.2.1.p3) 16) (bn (aT (af (I.2.2++I.2.1.p3)+af I.2.1.p4) 16) (it (Int×fH×List (List UInt8)) _ (λM=>(bk M.1 (aJ (af ((I.2.2++I.2.1.p3)++I.2.1.p4))) (kf (.str) M.2.2 M.1 λU=>(jn (α:=Bool×fH×List (List UInt8)) (obind (nu U) λy8=>(bcase (!y8) (ax (ajp,M.2)) (ax ((GW (K:=.str) (V:=.bool) U M.2.1 ajq),M.2)))) λY=>(bcase Y.1 (ax ajq) (cu ((ca M.1),(Ma (K:=.str) (V:=.bool) U ajp Y.2.1),Y.2.2))))) (ax ajp))) (0,([]:List ((List UInt8)×Bool)),((I.2.2++I.2.1.p3)++I.2.1.p4))))) λr=>ajn (bM r)))) (0,J.2)) λr=>ajn (bM r)))) (0,x)))
def mW (x:dv×List (List UInt8)):Option (Bool):=m6 @iter x
def c8 (x:dv×List (List UInt8)):Option (Bool):=m6 @fk x
def jO (it:xg) (x:fY×fH×(List eh)×bP×bP×List (Int×Int×Int)):Option (Bool):=
 (it ((Int×Int×Int)×fY×fH×(List eh)×bP×bP×List (Int×Int×Int)) _ (λI=>(bk I.1.2.2 (aP x.q5) (bw ne x.q5 I.1.2.2 λU=>(jn (α:=Bool×dv×Int×Int×Int) (bk U.1 I.1.1 (ax (ajp,I.2,U)) (ax ((cD (aP I.p5) U.1),I.2,U))) λM=>(bcase M.1 (ax ajq) (jn (α:=(Int×Int)×dv×Int×Int×Int) (bk I.1.1 M.p2 (ax ((M.p2,0),M.2)) (ax ((I.1.1,I.1.2.1),M.2))) λJ=>(ik J.p3 J.1.2 (ax ajq) (cu ((J.1.1,(ca J.1.2),(ca I.1.2.2)),J.2.1))))))) (ax ajp))) ((0,0,0),x))
def mV (x:fY×fH×(List eh)×bP×bP×List (Int×Int×Int)):Option (Bool):=jO @iter x
def eR (x:fY×fH×(List eh)×bP×bP×List (Int×Int×Int)):Option (Bool):=jO @fk x
def jP (it:xg) (x:fY×fH×(List eh)×bP×bP×List (Int×Int×Int)):Option (Bool):=
 (jn (α:=Bool×fY×fH×(List eh)×bP×bP×List (Int×Int×Int)) (bk 12 (aP x.1) (ax (ajp,x)) (bk 4 (aP x.2.1) (ax (ajp,x)) (bk 2 (aP x.p2) (ax (ajp,x)) (bk 2 (aP x.p3) (ax (ajp,x)) (ax ((eX 60 (aP x.q5)),x)))))) λM=>(bcase M.1 (ajn ajq) (jn (α:=Bool×fY×fH×(List eh)×bP×bP×List (Int×Int×Int)) (bk (aP M.p5) 1 (ax (ajp,M.2)) (ax ((eX 4 (aP M.p5)),M.2))) λJ=>(bcase J.1 (ajn ajq) (obind (gd J.2.1) λY=>(jn (α:=Bool×fY×fH×(List eh)×bP×bP×List (Int×Int×Int)) (bcase (!Y.2) (ax (ajp,J.2)) (obind (c8 (J.2,Y.1)) λy5=>(ax ((!y5),J.2)))) λU=>(bcase U.1 (ajn ajq) (it Yd3 _ (λI=>(bk I.1 (aP U.p3) (bw kC U.p3 I.1 λZ=>(obind (rc (I.2,Z.2,ajq)) λy8=>(bcase (!y8) (ax ajq) (cu ((ca I.1),I.2))))) (obind (obind (eR I.2) λy9=>(ajn y9)) λr=>ajn (bM r)))) (0,U.2)))))))))
def mY (x:fY×fH×(List eh)×bP×bP×List (Int×Int×Int)):Option (Bool):=jP @iter x
def c9 (x:fY×fH×(List eh)×bP×bP×List (Int×Int×Int)):Option (Bool):=jP @fk x
def uk (it:xg) (x:fY×fH×(List eh)×bP×bP×List (Int×Int×Int)):Option nU:=
 (bn (cD 0 (aP x.2.1)&&cD (aP x.2.1) (aP x.2.1)&&aT (aL (aP x.2.1)) 32) (bn (cD 0 (aP x.p3)&&cD (aP x.p3) (aP x.p3)&&aT (aL (aP x.p3)) 1) (bn (cD 0 (aP x.p4)&&cD (aP x.p4) (aP x.p4)&&aT (aL (aP x.p4)) 24) (it (Int×Int×Int×fG×(List Bool)×List cQ) _ (λI=>(bk I.1 (aJ (af (ay (aL (aP x.2.1)) ((0,[]):Int×List Int)))) (ck (eS I.1 (af I.p3)) (cu ((ca I.1),I.2.1,I.p2,(cw I.p3 I.1 ((-1),(aD (T:=dt) I.p3 I.1).2)),I.q4))) (obind (jn (α:=Int×Int×fG×(List Bool)×List cQ) (bk 0 (aP I.q5) (ck (eS 0 (af I.q5)) (ax (I.2.1,I.p2,I.p3,I.p4,(cw I.q5 0 (1,(aD (T:=gm) I.q5 0).2))))) (ax I.2)) λJ=>(ajn (J.p2,J.2.1,J.q3))) λr=>ajn (bM r)))) (0,0,(-1),(ay (aL (aP x.2.1)) ((0,[]):Int×List Int)),(ay (aL (aP x.p3)) (ajq:Bool)),(ay (aL (aP x.p4)) ((0,(0,ajq)):Int×Int×Bool)))))))
def ue (x:fY×fH×(List eh)×bP×bP×List (Int×Int×Int)):Option nU:=uk @iter x
def nz (x:fY×fH×(List eh)×bP×bP×List (Int×Int×Int)):Option nU:=uk @fk x
def pi (it:xg) (x:fY×fH×(List eh)×bP×bP×List (Int×Int×Int)):Option dH:=
 (obind (nz x) λM=>(bn (cD 0 0&&cD 0 (aP x.1)&&aT (aL (aP x.1)) 8) (bn (cD 0 (aP x.p3)&&cD (aP x.p3) (aP x.p3)&&aT (aL (aP x.p3)) 8) (bn (cD 0 (aP x.p4)&&cD (aP x.p4) (aP x.p4)&&aT (aL (aP x.p4)) 8) (it (Int×Int×nU×(List Int)×(List Int)×List Int) _ (λI=>(bk I.1 (aP x.1) (bw jI x.1 I.1 λJ=>(bn (aT (af I.p3+af ([J.q4])) 8) (cu ((ca I.1),I.2.1,I.p2,(I.p3++([J.q4])),I.q4)))) (ax I.2.2))) (0,0,M,(ay (aL 0) (0:Int)),(ay (aL (aP x.p3)) (0:Int)),(ay (aL (aP x.p4)) (0:Int))))))))
def oW (x:fY×fH×(List eh)×bP×bP×List (Int×Int×Int)):Option dH:=pi @iter x
def cJ (x:fY×fH×(List eh)×bP×bP×List (Int×Int×Int)):Option dH:=pi @fk x
def jx (it:xg) (x:(List Bool)×Int×Int×Int×Int×Int×(List Int)×List Int):Option (Bool):=
 (it (Int) _ (λI=>(bk I 2 (bn (cD 0 I&&eX I 2) (lt (aD (T:=(.sl aH)) [x.p6,x.q7] I) λU=>(it (Int) _ (λM=>(bk M (aP U) (bw aH U M λJ=>(jn (α:=Bool) (bk J 0 (ax ajp) (jf (aP x.1) J (ax ajp) (bw (.bool) x.1 J λY=>(ax (!Y))))) λZ=>(bcase Z (ax (bM ajq)) (cu (ca M))))) (ax (nG (ca I))))) 0))) (ax ajp))) 0)
def lH (x:(List Bool)×Int×Int×Int×Int×Int×(List Int)×List Int):Option (Bool):=jx @iter x
def bQ (x:(List Bool)×Int×Int×Int×Int×Int×(List Int)×List Int):Option (Bool):=jx @fk x
def dV (x:Int×Int):Option (Bool):=
 (jn (α:=Bool) (jf 0 x.1 (ax (eX x.1 x.2)) (ax ajq)) λI=>(ajn I))
def kL (x:dv×Int×Int):Option (Bool):=
 (jn (α:=Bool×fY×fH×(List eh)×bP×bP×List (Int×Int×Int)) (aX x.2.1 1 (ax ((decide ((x.2.1:Int)=1)),x.1)) (aX x.2.1 2 (ax ((decide ((x.2.1:Int)=2)),x.1)) (aX x.2.1 5 (ax ((decide ((x.2.1:Int)=5)),x.1)) (aX x.2.1 12 (ax ((decide ((x.2.1:Int)=12)),x.1)) (aX x.2.1 13 (ax ((decide ((x.2.1:Int)=13)),x.1)) (aX x.2.1 14 (ax ((decide ((x.2.1:Int)=14)),x.1)) (ax ((decide ((x.2.1:Int)=15)),x.1)))))))) λx1=>(bcase x1.1 (ajn (decide ((x.2.2:Int)=(-1)))) (jn (α:=Bool×fY×fH×(List eh)×bP×bP×List (Int×Int×Int)) (aX x.2.1 3 (ax ((decide ((x.2.1:Int)=3)),x1.2)) (ax ((decide ((x.2.1:Int)=4)),x1.2))) λZ=>(bcase Z.1 (obind (dV (x.2.2,(aP Z.2.1))) λy3=>(ajn y3)) (jn (α:=Bool×fY×fH×(List eh)×bP×bP×List (Int×Int×Int)) (aX x.2.1 6 (ax ((decide ((x.2.1:Int)=6)),Z.2)) (ax ((decide ((x.2.1:Int)=7)),Z.2))) λU=>(bcase U.1 (jn (α:=Bool) (obind (dV (x.2.2,(aP U.p2))) λy6=>(bcase y6 (bw pI U.p2 x.2.2 λz7=>(ax (!z7.2))) (ax ajq))) λx5=>(ajn x5)) (jn (α:=Bool×fY×fH×(List eh)×bP×bP×List (Int×Int×Int)) (aX x.2.1 8 (ax ((decide ((x.2.1:Int)=8)),U.2)) (aX x.2.1 9 (ax ((decide ((x.2.1:Int)=9)),U.2)) (aX x.2.1 10 (ax ((decide ((x.2.1:Int)=10)),U.2)) (ax ((decide ((x.2.1:Int)=11)),U.2))))) λM=>(bcase M.1 (jn (α:=Bool) (obind (dV (x.2.2,(aP M.p2))) λy10=>(bcase y10 (bw pI M.p2 x.2.2 λz11=>(ax z11.2)) (ax ajq))) λx9=>(ajn x9)) (jn (α:=Bool×fY×fH×(List eh)×bP×bP×List (Int×Int×Int)) (aX x.2.1 16 (ax ((decide ((x.2.1:Int)=16)),M.2)) (aX x.2.1 17 (ax ((decide ((x.2.1:Int)=17)),M.2)) (aX x.2.1 18 (ax ((decide ((x.2.1:Int)=18)),M.2)) (ax ((decide ((x.2.1:Int)=19)),M.2))))) λJ=>(bcase J.1 (obind (dV (x.2.2,(aP J.p3))) λy13=>(ajn y13)) (jn (α:=Bool×fY×fH×(List eh)×bP×bP×List (Int×Int×Int)) (aX x.2.1 20 (ax ((decide ((x.2.1:Int)=20)),J.2)) (ax ((decide ((x.2.1:Int)=21)),J.2))) λI=>(bcase I.1 (obind (dV (x.2.2,(aP I.p5))) λy15=>(ajn y15)) (jn (α:=Bool×fY×fH×(List eh)×bP×bP×List (Int×Int×Int)) (aX x.2.1 22 (ax ((decide ((x.2.1:Int)=22)),I.2)) (ax ((decide ((x.2.1:Int)=23)),I.2))) λY=>(bcase Y.1 (obind (dV (x.2.2,(aP Y.p4))) λy17=>(ajn y17)) (ajn ajq)))))))))))))))
def rO (it:xg) (x:dv×fG×Int×(List Bool)×List cQ):Option (Bool):=
 (jn (α:=Bool×fY×fH×(List eh)×bP×bP×List (Int×Int×Int)) (ik (aP x.2.1) (aP x.1.2.1) (ax (ajp,x.1)) (ik (aP x.p3) (aP x.1.p3) (ax (ajp,x.1)) (ax ((!decide (((aP x.q4):Int)=(aP x.1.p4))),x.1)))) λJ=>(bcase J.1 (ajn ajq) (it Yd3 _ (λI=>(bk I.1 (aP J.p3) (bw kC J.p3 I.1 λM=>(obind (dV (M.2,(aP I.p2))) λU=>(bcase (!U) (ax ajq) (cu ((ca I.1),I.2))))) (ax ajp))) (0,J.2))))
def vL (x:dv×fG×Int×(List Bool)×List cQ):Option (Bool):=rO @iter x
def ju (x:dv×fG×Int×(List Bool)×List cQ):Option (Bool):=rO @fk x
def ny (x:dv×nU×Int×Int×Int):Option (Bool):=
 (aX x.p3 6 (bw dt x.2.1.1 x.q4 λz1=>(ajn (decide ((z1.1:Int)=(-1))))) (aX x.p3 10 (jn (α:=Bool) (bw dt x.2.1.1 x.q4 λz3=>(aX z3.1 (-1) (bw dt x.2.1.1 x.q4 λz4=>(ax (decide (((aP z4.2):Int)=0)))) (ax ajq))) λx2=>(ajn x2)) (aX x.p3 8 (jn (α:=Bool) (bw dt x.2.1.1 x.q4 λz6=>(aX z6.1 (-1) (bw dt x.2.1.1 x.q4 λz7=>(obind (jE (z7.2,x.p2)) λy8=>(ax (!y8)))) (ax ajq))) λx5=>(ajn x5)) (jn (α:=Bool×dv×fG×Int×(List Bool)×List cQ) (aX x.p3 7 (ax ((decide ((x.p3:Int)=7)),x.1,x.2.1)) (ax ((decide ((x.p3:Int)=11)),x.1,x.2.1))) λJ=>(bcase J.1 (bw dt J.p2 x.q4 λz10=>(ajn (decide ((z10.1:Int)=x.p2)))) (aX x.p3 9 (bw dt J.p2 x.q4 λz11=>(obind (jE (z11.2,x.p2)) λy12=>(ajn y12))) (aX x.p3 12 (ajn (decide ((J.p3:Int)=(-1)))) (aX x.p3 13 (ajn (decide ((J.p3:Int)=x.p2))) (aX x.p3 14 (bw gm J.q5 x.p2 λz13=>(ajn (!z13.2.2))) (aX x.p3 15 (bw gm J.q5 x.p2 λz14=>(ajn z14.2.2)) (jn (α:=Bool×dv×fG×Int×(List Bool)×List cQ) (aX x.p3 16 (ax ((decide ((x.p3:Int)=16)),J.2)) (aX x.p3 18 (ax ((decide ((x.p3:Int)=18)),J.2)) (ax ((decide ((x.p3:Int)=19)),J.2)))) λI=>(bcase I.1 (bw kC I.2.1.p2 x.q4 λz16=>(bw dt I.p2 z16.2 λz17=>(ajn (decide ((z17.1:Int)=x.p2))))) (aX x.p3 20 (jn (α:=Bool) (ik x.q4 x.p2 (bw gm I.q5 x.q4 λZ=>(ax (decide ((Z.1:Int)=0)))) (ax ajq)) λx18=>(ajn x18)) (aX x.p3 21 (jn (α:=Bool) (ik x.q4 x.p2 (bw gm I.q5 x.q4 λY=>(ax (decide ((Y.1:Int)=5)))) (ax ajq)) λx20=>(ajn x20)) (aX x.p3 22 (bw (.bool) I.p4 x.q4 λU=>(ajn (!U))) (aX x.p3 23 (bw (.bool) I.p4 x.q4 λM=>(ajn M)) (ajn ajp)))))))))))))))))
def ii (x:dv×nU×Int×Int×Int):Option (Bool):=
 (jn (α:=Bool×dv×fG×Int×(List Bool)×List cQ) (obind (ju (x.1,x.2.1)) λy2=>(bcase (!y2) (ax (ajp,x.1,x.2.1)) (obind (dV (x.p2,(aP x.1.p4))) λy3=>(bcase (!y3) (ax (ajp,x.1,x.2.1)) (obind (kL (x.1,x.q3)) λZ=>(ax ((!Z),x.1,x.2.1))))))) λI=>(bcase I.1 (ajn ajq) (bw gm I.q5 x.p2 λJ=>(aX x.p3 1 (ajn (decide ((J.1:Int)=1))) (aX x.p3 17 (jn (α:=Bool) (aX J.1 4 (aX J.2.1 x.q4 (bw kC I.2.1.p2 x.q4 λY=>(bw dt I.p2 Y.2 λU=>(ax (decide ((U.1:Int)=(-1)))))) (ax ajq)) (ax ajq)) λx6=>(ajn x6)) (jn (α:=Bool) (aX J.1 2 (obind (ny (I.2.1,I.2.2,x.2.2)) λM=>(ax M)) (ax ajq)) λx9=>(ajn x9)))))))
def jV (x:dv×nU×(List Int)×(List Int)×List Int):Option (Bool):=
 (jn (α:=Bool) (obind (ju (x.1,x.2.1)) λI=>(bcase I (aX (aP x.p2) (aP x.1.1) (aX (aP x.p3) (aP x.1.p3) (ax (decide (((aP x.q4):Int)=(aP x.1.p4)))) (ax ajq)) (ax ajq)) (ax ajq))) λJ=>(ajn J))
def iI (x:dv×Int×Int×Int×Int×Int×(List Int)×List Int):Option (Bool):=
 (jn (α:=Bool×dv×Int×Int×Int×Int×Int×(List Int)×List Int) (aX x.p2 1 (ax (ajp,x)) (ax ((decide ((x.p2:Int)=2)),x))) λI=>(bcase I.1 (ajn (decide ((I.p6:Int)=(-1)))) (jn (α:=Bool) (jf 0 I.p6 (bk I.p6 (aP I.2.1.q5) (bw ne I.2.1.q5 I.p6 λJ=>(ax (decide ((J.1:Int)=I.p2)))) (ax ajq)) (ax ajq)) λM=>(ajn M))))
def iw (it:xg) (x:dv×dH×Int×Int×Int×Int×Int×(List Int)×List Int):Option (Bool):=
 (jn (α:=Bool×dH×Int×Int×Int×Int×Int×(List Int)×List Int) (aX x.p3 3 (bw jI x.1.1 x.p4 λz2=>(ax ((!decide ((z2.2.2.1:Int)=0)),x.2))) (aX x.p3 4 (bw jI x.1.1 x.p4 λz3=>(ax ((!decide ((z3.2.2.1:Int)=0)),x.2))) (ax (ajq,x.2)))) λI=>(jn (α:=dH×gk×Bool×Bool) (aX I.p3 5 (aX I.p3 4 (ax (I.2.1,I.2.2,ajp,ajp)) (ax (I.2.1,I.2.2,ajp,(decide ((I.p3:Int)=22))))) (aX I.p3 4 (ax (I.2.1,I.2.2,I.1,ajp)) (ax (I.2.1,I.2.2,I.1,(decide ((I.p3:Int)=22)))))) λx4=>(it (Int×dH×gk×Bool×Bool) _ (λJ=>(bk J.1 2 (bn (cD 0 J.1&&eX J.1 2) (lt (aD (T:=(.sl aH)) [x4.2.1.p5,x4.2.1.q6] J.1) λZ=>(jn (α:=Bool×dH×gk×Bool×Bool) (bk 0 (aP Z) (bn (cD 0 J.1&&eX J.1 2) (bn (eS J.1 2) (lt (aD (T:=.bool) [J.p3,J.q4] J.1) λz8=>(ax ((!z8),J.2))))) (ax (ajq,J.2))) λx7=>(bcase x7.1 (ax ajq) (it ((Int×Int)×dH×gk×Bool×Bool) _ (λM=>(bk M.1.2 (aP Z) (bw aH Z M.1.2 λU=>(jn (α:=Bool×dH×gk×Bool×Bool) (jf U M.1.1 (ax (ajp,M.2)) (bw aH M.2.1.q3 M.p2.1 λz12=>(ax ((cD z12 U),M.2)))) λY=>(bcase Y.1 (ax (bM ajq)) (cu ((U,(ca M.1.2)),Y.2))))) (ax (nG ((ca J.1),M.2))))) ((0,0),x7.2)))))) (ax ajp))) (0,x4))))
def ko (x:dv×dH×Int×Int×Int×Int×Int×(List Int)×List Int):Option (Bool):=iw @iter x
def dS (x:dv×dH×Int×Int×Int×Int×Int×(List Int)×List Int):Option (Bool):=iw @fk x
def kx (it:xg) (x:dH×Int×Int×Int×Int×Int×(List Int)×List Int):Option (Bool):=
 (aX x.p2 3 (bw aH x.1.2.1 x.p3 λz1=>(ajn (decide ((x.p4:Int)=z1)))) (aX x.p2 23 (bw aH x.1.p2 x.p3 λz2=>(ajn (decide ((x.p4:Int)=z2)))) (aX x.p2 5 (jn (α:=Bool) (aX x.p4 0 (ax ajp) (ax (decide ((x.p4:Int)=1)))) λx3=>(ajn x3)) (jn (α:=Bool×dH×Int×Int×Int×Int×Int×(List Int)×List Int) (aX x.p2 4 (ax ((decide ((x.p2:Int)=4)),x)) (ax ((decide ((x.p2:Int)=22)),x))) λM=>(bcase M.1 (ajn ajp) (aX x.p2 18 (it ((Int×Bool×Int)×Int×Int×Int×Int×Int×(List Int)×List Int) _ (λJ=>(bk J.1.2.2 (aP M.2.1.1.q3) (jn (α:=(Int×Bool)×Int×Int×Int×Int×Int×(List Int)×List Int) (bw gm M.2.1.1.q3 J.1.2.2 λz7=>(jn (α:=Bool×Int×Int×Int×Int×Int×(List Int)×List Int) (aX z7.1 3 (ax ((decide ((z7.2.1:Int)=J.p3)),J.2)) (ax (ajq,J.2))) λZ=>(bcase Z.1 (bcase J.1.2.1 (ax (((ca J.1.1),ajp),Z.2)) (ax (((ca J.1.1),(decide ((Z.p4:Int)=J.1.2.2))),Z.2))) (ax ((J.1.1,J.1.2.1),Z.2))))) λx6=>(cu ((x6.1.1,x6.1.2,(ca J.1.2.2)),x6.2))) (obind (jn (α:=Bool) (bcase J.1.2.1 (ax ajp) (aX J.1.1 0 (ax (decide ((J.p4:Int)=(-1)))) (ax ajq))) λx9=>(ajn x9)) λr=>ajn (bM r)))) ((0,ajq,0),M.2.2)) (aX x.p2 19 (it ((Int×Int)×Int×Int×Int×Int×Int×(List Int)×List Int) _ (λI=>(bk I.1.2 (aP M.2.1.1.q3) (jn (α:=Int×Int×Int×Int×Int×Int×(List Int)×List Int) (bw gm M.2.1.1.q3 I.1.2 λY=>(jn (α:=Bool×Int×Int×Int×Int×Int×(List Int)×List Int) (aX Y.1 3 (ax ((decide ((Y.2.1:Int)=I.p3)),I.2)) (ax (ajq,I.2))) λU=>(bcase U.1 (ax ((ca I.1.1),U.2)) (ax (I.1.1,U.2))))) λx11=>(cu ((x11.1,(ca I.1.2)),x11.2))) (ax (decide ((I.p4:Int)=I.1.1))))) ((0,0),M.2.2)) (ajn (decide ((M.p5:Int)=0))))))))))
def nW (x:dH×Int×Int×Int×Int×Int×(List Int)×List Int):Option (Bool):=kx @iter x
def fo (x:dH×Int×Int×Int×Int×Int×(List Int)×List Int):Option (Bool):=kx @fk x
def k9 (x:cQ×Int):Option (Bool):=
 (jn (α:=Bool) (aX x.1.1 3 (ax (decide ((x.1.2.1:Int)=x.2))) (ax ajq)) λI=>(ajn I))
def G3 (x:List Bool):Option (List Bool):=
 (bcase (av (af x) 0) (DH (ajn ([]:List Bool)) (bn (aT (af ([]:List Bool)+af x) 1) (ajn (([]:List Bool)++x)))) (bn (aT (af ([]:List Bool)+af x) 1) (ajn (([]:List Bool)++x))))
def Mc (x:List Bool):Option (List Bool):=chk (aT (af x) 1) λ_=>ajn x
def C3 (x:List Bool):Option (List Bool):=
 (bcase (av (af x) 0) (DH (ajn ([]:List Bool)) (bn (aT (af ([]:List Bool)+af x) 1) (ajn (([]:List Bool)++x)))) (bn (aT (af ([]:List Bool)+af x) 1) (ajn (([]:List Bool)++x))))
def G2 (x:List Bool):Option (List Bool):=chk (aT (af x) 1) λ_=>ajn x
def G0 (x:List cQ):Option (List cQ):=
 (bcase (av (af x) 0) (DH (ajn ([]:List cQ)) (bn (aT (af ([]:List cQ)+af x) 24) (ajn (([]:List cQ)++x)))) (bn (aT (af ([]:List cQ)+af x) 24) (ajn (([]:List cQ)++x))))
def Mb (x:List cQ):Option (List cQ):=chk (aT (af x) 24) λ_=>ajn x
def C1 (x:List cQ):Option (List cQ):=
 (bcase (av (af x) 0) (DH (ajn ([]:List cQ)) (bn (aT (af ([]:List cQ)+af x) 24) (ajn (([]:List cQ)++x)))) (bn (aT (af ([]:List cQ)+af x) 24) (ajn (([]:List cQ)++x))))
def GZ (x:List cQ):Option (List cQ):=chk (aT (af x) 24) λ_=>ajn x
def C2 (x:List Int):Option (List Int):=
 (bcase (av (af x) 0) (DH (ajn ([]:List Int)) (bn (aT (af ([]:List Int)+af x) 8) (ajn (([]:List Int)++x)))) (bn (aT (af ([]:List Int)+af x) 8) (ajn (([]:List Int)++x))))
def xu (x:List Int):Option (List Int):=chk (aT (af x) 8) λ_=>ajn x
def qA (it:xg) (x:fG×Int×(List Bool)×List cQ):Option Yd2:=
 (bn (cD 0 (aP x.1)&&cD (aP x.1) (aP x.1)&&aT (aL (aP x.1)) 32) (it (Int×nU×Int×List (Int×List Int)) _ (λI=>(bk I.1 (aP x.1) (bw dt x.1 I.1 λJ=>(obind (Aj J.2) λY=>(ck (eS I.1 (af I.q3)) (cu ((ca I.1),I.2.1,I.p2,(cw I.q3 I.1 (J.1,Y))))))) (obind (obind (G2 I.2.1.p2) λU=>(obind (GZ I.2.1.q3) λM=>(ajn (I.2.1.2.1,I.q3,U,M)))) λr=>ajn (bM r)))) (0,x,0,(ay (aL (aP x.1)) ((0,[]):Int×List Int)))))
def ud (x:fG×Int×(List Bool)×List cQ):Option Yd2:=qA @iter x
def jD (x:fG×Int×(List Bool)×List cQ):Option Yd2:=qA @fk x
def pm (it:xg) (x:(Int×Int×Int)×fG×(List Bool)×List cQ):Option Yd2:=
 (it ((Int×Int)×fG×(List Bool)×(List cQ)×Int) _ (λI=>(bk I.1.2 (aP x.q3) (jn (α:=Int×fG×(List Bool)×(List cQ)×Int) (kf gm I.p3 I.1.2 λU=>(jn (α:=Bool×fG×(List Bool)×(List cQ)×Int) (obind (k9 (U,x.1.2.1)) λY=>(bcase Y (bk I.1.1 0 (ax (ajp,I.2)) (ax ((decide ((I.1.2:Int)=x.1.2.2)),I.2))) (ax (ajq,I.2)))) λJ=>(bcase J.1 (ax (I.1.2,J.2)) (ax (I.1.1,J.2))))) λM=>(cu ((M.1,(ca I.1.2)),M.2))) (obind (jn (α:=fG×(List Bool)×List cQ) (jf 0 I.1.1 (ck (eS I.1.1 (af I.p3)) (ax (I.2.1,I.p2,(cw I.p3 I.1.1 (4,(aD (T:=gm) I.p3 I.1.1).2))))) (ax (I.2.1,I.p2,I.p3))) λZ=>(ajn (I.1.1,Z))) λr=>ajn (bM r)))) (((-1),0),x.2.1,x.p2,x.q3,x.1.1))
def sk (x:(Int×Int×Int)×fG×(List Bool)×List cQ):Option Yd2:=pm @iter x
def iN (x:(Int×Int×Int)×fG×(List Bool)×List cQ):Option Yd2:=pm @fk x
def lq (it:xg) (x:(Int×Int)×fG×(List Bool)×List cQ):Option Yd2:=
 (it ((Int×Int)×fG×(List Bool)×(List cQ)×Int) _ (λI=>(bk I.1.2 (aP x.q3) (jn (α:=Int×fG×(List Bool)×(List cQ)×Int) (kf gm I.p3 I.1.2 λM=>(obind (k9 (M,x.1.2)) λU=>(bcase U (ck (eS I.1.2 (af I.p3)) (ax ((ca I.1.1),I.2.1,I.p2,(cw I.p3 I.1.2 (4,(aD (T:=gm) I.p3 I.1.2).2)),I.q4))) (ax (I.1.1,I.2))))) λJ=>(cu ((J.1,(ca I.1.2)),J.2))) (ax (I.1.1,I.2.1,I.p2,I.p3)))) ((0,0),x.2.1,x.p2,x.q3,x.1.1))
def oX (x:(Int×Int)×fG×(List Bool)×List cQ):Option Yd2:=lq @iter x
def fU (x:(Int×Int)×fG×(List Bool)×List cQ):Option Yd2:=lq @fk x
def pg (x:Int):Option (Bool):=
 (ajn (!decide ((x:Int)=x)))
def ug (x:Int×Int):Option (Bool):=
 (jn (α:=Bool) (obind (pg x.1) λJ=>(bcase J (obind (pg x.2) λI=>(bcase (!I) (ax ajp) (ax (eX x.1 x.2)))) (ax (eX x.1 x.2)))) λM=>(ajn M))
def qa (x:Int):Option (Int):=
 (jf 4294967296 x ajo (jf 65536 x ajo (jf 256 x ajo (vA (be .u8 x) ([0,1,2,2,3,3,3,3,4,4,4,4,4,4,4,4,5,5,5,5,5,5,5,5,5,5,5,5,5,5,5,5,6,6,6,6,6,6,6,6,6,6,6,6,6,6,6,6,6,6,6,6,6,6,6,6,6,6,6,6,6,6,6,6,7,7,7,7,7,7,7,7,7,7,7,7,7,7,7,7,7,7,7,7,7,7,7,7,7,7,7,7,7,7,7,7,7,7,7,7,7,7,7,7,7,7,7,7,7,7,7,7,7,7,7,7,7,7,7,7,7,7,7,7,7,7,7,7,8,8,8,8,8,8,8,8,8,8,8,8,8,8,8,8,8,8,8,8,8,8,8,8,8,8,8,8,8,8,8,8,8,8,8,8,8,8,8,8,8,8,8,8,8,8,8,8,8,8,8,8,8,8,8,8,8,8,8,8,8,8,8,8,8,8,8,8,8,8,8,8,8,8,8,8,8,8,8,8,8,8,8,8,8,8,8,8,8,8,8,8,8,8,8,8,8,8,8,8,8,8,8,8,8,8,8,8,8,8,8,8,8,8,8,8,8,8,8,8,8,8,8,8,8,8,8,8]) (ajn (be .i64 (0+(be .i64 (yI ([0,1,2,2,3,3,3,3,4,4,4,4,4,4,4,4,5,5,5,5,5,5,5,5,5,5,5,5,5,5,5,5,6,6,6,6,6,6,6,6,6,6,6,6,6,6,6,6,6,6,6,6,6,6,6,6,6,6,6,6,6,6,6,6,7,7,7,7,7,7,7,7,7,7,7,7,7,7,7,7,7,7,7,7,7,7,7,7,7,7,7,7,7,7,7,7,7,7,7,7,7,7,7,7,7,7,7,7,7,7,7,7,7,7,7,7,7,7,7,7,7,7,7,7,7,7,7,7,8,8,8,8,8,8,8,8,8,8,8,8,8,8,8,8,8,8,8,8,8,8,8,8,8,8,8,8,8,8,8,8,8,8,8,8,8,8,8,8,8,8,8,8,8,8,8,8,8,8,8,8,8,8,8,8,8,8,8,8,8,8,8,8,8,8,8,8,8,8,8,8,8,8,8,8,8,8,8,8,8,8,8,8,8,8,8,8,8,8,8,8,8,8,8,8,8,8,8,8,8,8,8,8,8,8,8,8,8,8,8,8,8,8,8,8,8,8,8,8,8,8,8,8,8,8,8,8]) (be .u8 x))))))))))
def sD (x:Int):Option (Int):=
 (obind (qa x) λI=>(ajn I))
def jh (it:xg) (x:(Int×Int)×List Int):Option (List Int):=
 (it (Int×List Int) _ (λM=>(bk M.1 x.1.2 (it (Int×List Int) _ (λI=>(jn (α:=Bool×List Int) (bk x.1.1 I.1 (kf aH I.2 I.1 λz4=>(kf aH I.2 (be .i64 (I.1-1)) λZ=>(obind (ug (z4,Z)) λy6=>(ax (y6,I.2))))) (ax (ajq,I.2))) λJ=>(bcase J.1 (kf aH J.2 (be .i64 (I.1-1)) λU=>(kf aH J.2 I.1 λY=>(ck (eS I.1 (af J.2)) (ck (eS (be .i64 (I.1-1)) (af (cw J.2 I.1 U))) (cu ((be .i64 (I.1-1)),(cw (cw J.2 I.1 U) (be .i64 (I.1-1)) Y))))))) (ax (nG ((ca M.1),J.2)))))) M) (ax M.2))) ((ca x.1.1),x.2))
def jg (x:(Int×Int)×List Int):Option (List Int):=jh @iter x
def eO (x:(Int×Int)×List Int):Option (List Int):=jh @fk x
def mZ (it:xg) (x:(Int×Int×Int)×List Int):Option (List Int):=
 (it ((Int×Int×Int×Bool×Bool)×List Int) _ (λI=>(jf (be .i64 (I.1.2.1-I.1.1)) 12 (obind (eO ((I.1.1,I.1.2.1),I.2)) λJ=>(bn (av (af I.2) (af J)&&ajp) (ax J))) (aX I.1.p2 0 ajo (bcase (!I.1.p3) ajo ajo)))) ((x.1.1,x.1.2.1,x.1.2.2,ajp,ajp),x.2))
def mU (x:(Int×Int×Int)×List Int):Option (List Int):=mZ @iter x
def im (x:(Int×Int×Int)×List Int):Option (List Int):=mZ @fk x
def uM (x:List Int):Option (List Int):=
 (obind (sD (be .u64 (aP x))) λJ=>(obind (im ((0,(aP x),J),x)) λI=>(bn (av (af x) (af I)&&ajp) (ajn I))))
def v8 (it:xg) (x:List Int):Option (List Int):=
 (bk (aP x) 2 (ajn x) (it (Int×List Int) _ (λI=>(bk I.1 (aP I.2) (kf aH I.2 I.1 λM=>(kf aH I.2 (be .i64 (I.1-1)) λJ=>(aX M J (bn (cD 0 I.1&&eX I.1 (af I.2)) ajo) (cu ((ca I.1),I.2))))) (ax I.2))) (1,x)))
def vM (x:List Int):Option (List Int):=v8 @iter x
def kw (x:List Int):Option (List Int):=v8 @fk x
def nN (x:Int×Int):Option (Bool×Int):=
 (ajn ((decide ((x.1:Int)=x.2)),x.2))
def sS (it:xg) (x:(List Int)×Int):Option (Int×(List Int)×Int):=
 (it (Int×(List Int)×Int) _ (λI=>(bk I.1 (aP x.1) (kf aH I.2.1 I.1 λM=>(obind (nN (M,I.2.2)) λJ=>(bcase J.1 (ax (I.1,I.2.1,J.2)) (cu ((ca I.1),I.2.1,J.2))))) (ax ((-1),I.2)))) (0,x))
def sq (x:(List Int)×Int):Option (Int×(List Int)×Int):=sS @iter x
def mc (x:(List Int)×Int):Option (Int×(List Int)×Int):=sS @fk x
def ri (it:xg) (x:(List Int)×Int):Option (Int×List Int):=
 (obind (mc x) λJ=>(bn (av (af x.1) (af J.2.1)&&ajp) (aX J.1 (-1) ajo (it ((Int×Int)×(List Int)×Int) _ (λI=>(bk I.1.2 (aP I.2.1) (jn (α:=Int×(List Int)×Int) (kf aH I.2.1 I.1.2 λU=>(obind (nN (U,I.2.2)) λM=>(bcase (!M.1) (ck (eS I.1.1 (af I.2.1)) (ax ((ca I.1.1),(cw I.2.1 I.1.1 U),M.2))) (ax (I.1.1,I.2.1,M.2))))) λY=>(cu ((Y.1,(ca I.1.2)),Y.2))) (obind (ck (cD 0 I.1.1&&eX I.1.1 (af I.2.1)) (bn (cD 0 I.1.1&&eX I.1.1 (af (db (aL I.1.1) I.2.1++ay (af I.2.1-aL I.1.1) (0:Int)))) (ajn (I.2.2,(db (aL I.1.1) (db (aL I.1.1) I.2.1++ay (af I.2.1-aL I.1.1) (0:Int))))))) λr=>ajn (bM r)))) ((J.1,(ca J.1)),J.2)))))
def qY (x:(List Int)×Int):Option (Int×List Int):=ri @iter x
def ij (x:(List Int)×Int):Option (Int×List Int):=ri @fk x
def fV (x:dv×nU×Int×Int×Int×Int):Option (nU×Int×Bool):=
 (obind (ii (x.1,x.2.1,x.p2,x.p3,x.p4)) λy1=>(bcase (!y1) (ajn ((([]:List (Int×List Int)),0,([]:List Bool),([]:List cQ)),0,ajq)) (obind (jD x.2.1) λJ=>(jn (α:=Int×Int×Int×fG×(List Bool)×List cQ) (aX x.p3 1 (ck (eS x.p2 (af J.q3)) (ax (0,J.1,0,J.2.1,J.p2,(cw J.q3 x.p2 (2,(aD (T:=gm) J.q3 x.p2).2))))) (aX x.p3 2 (ck (eS x.p2 (af J.q3)) (ax (0,J.1,0,J.2.1,J.p2,(cw J.q3 x.p2 (5,(aD (T:=gm) J.q3 x.p2).2))))) (jn (α:=Bool×dv×Int×Int×Int×fG×(List Bool)×List cQ) (aX x.p3 6 (ax ((decide ((x.p3:Int)=6)),x.1,J.1,x.p2,0,J.2)) (ax ((decide ((x.p3:Int)=10)),x.1,J.1,x.p2,0,J.2))) λY=>(bcase Y.1 (ck (eS x.p4 (af Y.p5)) (ax (0,Y.p2,Y.p4,(cw Y.p5 x.p4 (Y.p3,(aD (T:=dt) Y.p5 x.p4).2)),Y.q6))) (jn (α:=Bool×dv×Int×Int×Int×fG×(List Bool)×List cQ) (aX x.p3 7 (ax ((decide ((x.p3:Int)=7)),Y.2)) (ax ((decide ((x.p3:Int)=11)),Y.2))) λI=>(bcase I.1 (ck (eS x.p4 (af I.p5)) (ax (0,I.p2,I.p4,(cw I.p5 x.p4 ((-1),(aD (T:=dt) I.p5 x.p4).2)),I.q6))) (aX x.p3 8 (kf dt I.p5 x.p4 λz6=>ajo) (aX x.p3 9 (kf dt I.p5 x.p4 λz7=>ajo) (aX x.p3 12 (ax (0,I.q3)) (aX x.p3 13 (ax (0,(-1),I.q4)) (aX x.p3 14 (ck (eS I.p3 (af I.q7)) (ax (0,I.p2,I.p4,I.p5,I.p6,(cw I.q7 I.p3 ((aD (T:=gm) I.q7 I.p3).1,((aD (T:=gm) I.q7 I.p3).2).1,ajp))))) (aX x.p3 15 (ck (eS I.p3 (af I.q7)) (ax (0,I.p2,I.p4,I.p5,I.p6,(cw I.q7 I.p3 ((aD (T:=gm) I.q7 I.p3).1,((aD (T:=gm) I.q7 I.p3).2).1,ajq))))) (aX x.p3 16 (bw kC I.2.1.p2 x.p4 λz8=>(ck (eS z8.2 (af I.p5)) (ck (eS I.p3 (af I.q7)) (ck (eS I.p3 (af (cw I.q7 I.p3 (3,(aD (T:=gm) I.q7 I.p3).2)))) (ax (0,I.p2,I.p4,(cw I.p5 z8.2 ((-1),(aD (T:=dt) I.p5 z8.2).2)),I.p6,(cw (cw I.q7 I.p3 (3,(aD (T:=gm) I.q7 I.p3).2)) I.p3 ((aD (T:=gm) (cw I.q7 I.p3 (3,(aD (T:=gm) I.q7 I.p3).2)) I.p3).1,x.p4,((aD (T:=gm) (cw I.q7 I.p3 (3,(aD (T:=gm) I.q7 I.p3).2)) I.p3).2).2)))))))) (aX x.p3 17 (bw kC I.2.1.p2 x.p4 λz9=>(ck (eS z9.2 (af I.p5)) (ck (eS I.p3 (af I.q7)) (ck (eS I.p3 (af (cw I.q7 I.p3 (2,(aD (T:=gm) I.q7 I.p3).2)))) (ax (0,I.p2,I.p4,(cw I.p5 z9.2 (I.p3,(aD (T:=dt) I.p5 z9.2).2)),I.p6,(cw (cw I.q7 I.p3 (2,(aD (T:=gm) I.q7 I.p3).2)) I.p3 ((aD (T:=gm) (cw I.q7 I.p3 (2,(aD (T:=gm) I.q7 I.p3).2)) I.p3).1,0,((aD (T:=gm) (cw I.q7 I.p3 (2,(aD (T:=gm) I.q7 I.p3).2)) I.p3).2).2)))))))) (aX x.p3 18 (obind (iN ((I.p2,x.q4),I.q5)) λU=>(bn (av (af I.q7) (af U.q3)&&(av (af I.p6) (af U.p2)&&(av (af I.p5) (af U.2.1)&&ajp))) (ax (U.1,I.p2,I.p4,U.2)))) (aX x.p3 19 (obind (fU ((I.p2,x.p4),I.q5)) λM=>(bn (av (af I.q7) (af M.q3)&&(av (af I.p6) (af M.p2)&&(av (af I.p5) (af M.2.1)&&ajp))) (ax (M.1,I.p2,I.p4,M.2)))) (aX x.p3 20 (ck (eS x.p4 (af I.q7)) (ax (0,I.p2,I.p4,I.p5,I.p6,(cw I.q7 x.p4 (1,(aD (T:=gm) I.q7 x.p4).2))))) (aX x.p3 22 (ck (eS x.p4 (af I.p6)) (ax (0,I.p2,I.p4,I.p5,(cw I.p6 x.p4 ajp),I.q7))) (ax (0,I.p2,I.q4)))))))))))))))))))) λZ=>(ajn ((Z.p3,Z.2.1,Z.q4),Z.1,ajp))))))
def ma (x:fG×Int×(List Bool)×List cQ):Option (Yd6×(Int×Int×Int)×(List Int)×(List Int)×List Int):=
 (bn (cD 0 (aP x.1)&&cD (aP x.1) (aP x.1)&&aT (aL (aP x.1)) 32&&decide (((aP x.1):Int)=3)) (jn (α:=nU×Int×(Int×Int×Int)×(List Int)×(List Int)×List Int) (bk 0 (aP x.1) (bw dt x.1 0 λI=>(obind (nO I.2) λU=>(bk 1 (aP x.1) (bw dt x.1 1 λM=>(obind (nO M.2) λy5=>(bk 2 (aP x.1) (bw dt x.1 2 λz6=>(obind (nO z6.2) λy7=>(bk 3 (aP x.1) (bw dt x.1 3 λz8=>(obind (nO z8.2) λy9=>ajo)) (ax (x,0,(I.1,M.1,z6.1),U,y5,y7))))) (ax (x,0,(I.1,M.1,0),U,y5,([]:List Int)))))) (ax (x,0,(I.1,0,0),U,([]:List Int),([]:List Int)))))) (ax (x,0,(0,0,0),([]:List Int),([]:List Int),([]:List Int)))) λJ=>(obind (Mc J.1.p2) λZ=>(obind (Mb J.1.q3) λY=>(ajn ((J.1.2.1,Z,Y),J.2.2))))))
def jZ (x:dv×nU×Int×Int×Int×Int):Option (nU×Int×Bool):=
 (obind (ii (x.1,x.2.1,x.p2,x.p3,x.p4)) λy1=>(bcase (!y1) (ajn ((([]:List (Int×List Int)),0,([]:List Bool),([]:List cQ)),0,ajq)) (obind (ma x.2.1) λM=>(jn (α:=Int×Yd6×Int×((Int×List Int)×(Int×List Int)×Int)×Bool×List Int) (aX x.p3 1 (vA x.p2 M.1.2.2 ajo) (aX x.p3 2 (vA x.p2 M.1.2.2 ajo) (jn (α:=Bool×dv×Yd6×Int×Int×(Int×Int×Int)×(List Int)×(List Int)×List Int) (aX x.p3 6 (ax ((decide ((x.p3:Int)=6)),x.1,M.1,x.p2,0,M.2)) (ax ((decide ((x.p3:Int)=10)),x.1,M.1,x.p2,0,M.2))) λJ=>(bcase J.1 ajo (jn (α:=Bool×dv×Yd6×Int×Int×(Int×(List Int)×Int×(List Int)×Int)×List Int) (aX x.p3 7 (ax ((decide ((x.p3:Int)=7)),J.2.1,J.p2,J.p3,J.p4,(J.p5.1,J.p6,J.p5.2.1,J.p7,J.p5.2.2),J.q8)) (ax ((decide ((x.p3:Int)=11)),J.2.1,J.p2,J.p3,J.p4,(J.p5.1,J.p6,J.p5.2.1,J.p7,J.p5.2.2),J.q8))) λI=>(bcase I.1 ajo (aX x.p3 8 (aX x.p4 0 ajo (aX x.p4 1 ajo (aX x.p4 2 (bn (aT (af I.q6+af ([I.p3])) 8) (obind (uM (I.q6++([I.p3]))) λY=>(bn (av (af (I.q6++([I.p3]))) (af Y)&&ajp) (obind (kw Y) λZ=>(bn (av (af Y) (af Z)&&ajp) (ax (0,I.p2,I.p4,((I.p5.1,I.p5.2.1),(I.p5.p2,I.p5.p3),I.p5.q4),ajp,Z))))))) ajo))) (aX x.p3 9 (aX x.p4 0 ajo (aX x.p4 1 ajo (aX x.p4 2 (obind (ij (I.q6,I.p3)) λy8=>(bn (av (af I.q6) (af I.q6)&&ajp) (ax (0,I.p2,I.p4,((I.p5.1,I.p5.2.1),(I.p5.p2,I.p5.p3),I.p5.q4),ajq,y8.2)))) ajo))) (aX x.p3 12 (ax (0,(I.p3,I.p2.2),I.p4,((I.p5.1,I.p5.2.1),(I.p5.p2,I.p5.p3),I.p5.q4),ajp,I.q6)) (aX x.p3 13 (ax (0,((-1),I.p2.2),I.p4,((I.p5.1,I.p5.2.1),(I.p5.p2,I.p5.p3),I.p5.q4),ajp,I.q6)) (aX x.p3 14 (vA I.p3 I.p2.2.2 ajo) (aX x.p3 15 (vA I.p3 I.p2.2.2 ajo) (aX x.p3 16 ajo (aX x.p3 17 ajo (aX x.p3 18 ajo (aX x.p3 19 ajo (aX x.p3 20 (vA x.p4 I.p2.2.2 ajo) (aX x.p3 22 (vA x.p4 I.p2.2.1 ajo) (ax (0,I.p2,I.p4,((I.p5.1,I.p5.2.1),(I.p5.p2,I.p5.p3),I.p5.q4),ajp,I.q6)))))))))))))))))))) λU=>(ajn (([U.p3.1,U.p3.2.1,(U.p3.2.2,U.q5)],U.2.1),U.1,ajp))))))
def qw (x:dv×nU×Int×Int×Int×Int):Option (nU×Int×Bool):=orE (fV x) (jZ x)
def eK (x:dv×dH×Int×Int×Int×Int×Int×(List Int)×List Int):Option (dH×Bool):=
 (jn (α:=Bool×dv×dH×gk×Int) (obind (jV (x.1,x.2.1)) λy2=>(bcase (!y2) (ax (ajp,x.1,x.2.1,x.2.2,0)) (bk x.p2 0 (ax (ajp,x.1,x.2.1,x.2.2,0)) (jf (aP x.1.p4) x.p2 (ax (ajp,x.1,x.2.1,x.2.2,0)) (bk x.p3 1 (ax (ajp,x.1,x.2.1,x.2.2,0)) (ax ((eX 23 x.p3),x.1,x.2.1,x.2.2,0))))))) λM=>(bcase M.1 (ajn (((([]:List (Int×List Int)),0,([]:List Bool),([]:List cQ)),([]:List Int),([]:List Int),([]:List Int)),ajq)) (jn (α:=Bool×dv×dH×gk×Int) (obind (ii (M.2.1,M.p2.1,M.p3.1,M.p3.2.1,M.p3.p2)) λy4=>(bcase (!y4) (ax (ajp,M.2)) (obind (iI (M.2.1,M.p3)) λy5=>(bcase (!y5) (ax (ajp,M.2)) (obind (dS (M.2.1,M.p2,M.p3)) λy6=>(bcase (!y6) (ax (ajp,M.2)) (obind (fo (M.p2,M.p3)) λy7=>(ax ((!y7),M.2))))))))) λx3=>(bcase x3.1 (ajn (((([]:List (Int×List Int)),0,([]:List Bool),([]:List cQ)),([]:List Int),([]:List Int),([]:List Int)),ajq)) (jn (α:=Int×dv×dH×gk×Int) (aX x3.p3.2.1 18 (ax (x3.p3.p3,x3.2)) (ax ((-1),x3.2))) λI=>(obind (qw (I.2.1,I.p2.1,I.p3.1,I.p3.2.1,I.p3.p2,I.1)) λy9=>(bcase (!y9.2.2) (ajn (((([]:List (Int×List Int)),0,([]:List Bool),([]:List cQ)),([]:List Int),([]:List Int),([]:List Int)),ajq)) (obind (xu I.p2.2.1) λY=>(obind (xu I.p2.p2) λU=>(obind (nO I.p2.q3) λZ=>(jn (α:=gk×Int×nU×(List Int)×(List Int)×List Int) (aX I.p3.2.1 4 (ck (eS I.p3.p2 (af Y)) (ax (I.p3,I.q4,y9.1,(cw Y I.p3.p2 I.p3.p3),U,Z))) (aX I.p3.2.1 22 (ck (eS I.p3.p2 (af U)) (ax (I.p3,I.q4,y9.1,Y,(cw U I.p3.p2 I.p3.p3),Z))) (ax (I.p3,I.q4,y9.1,Y,U,Z)))) λJ=>(kf aH J.q5 J.1.1 λz14=>(ck (eS J.1.1 (af J.q5)) (ajn ((J.p2,J.p3,J.p4,(cw J.q5 J.1.1 (ca z14))),ajp)))))))))))))))
def ky (it:xg) (x:dv×List gk):Option (Int×Int):=
 (bk 400 (aP x.2) (ajn (0,2)) (obind (c9 x.1) λy1=>(bcase (!y1) (ajn (0,1)) (obind (cJ x.1) λy2=>(bn (cD 0 (aP x.1.p4)&&cD (aP x.1.p4) (aP x.1.p4)&&aT (aL (aP x.1.p4)) 24&&decide (((aP x.1.p4):Int)=1)) (it (Int×(dv×List gk)×dH×List Bool) _ (λJ=>(bk J.1 (aP x.2) (bw ip x.2 J.1 λM=>(obind (eK (J.2.1.1,J.p2,M)) λU=>(jn (α:=Bool×(dv×List gk)×dH×gk×dH×List Bool) (aX M.1 0 (bcase (!U.2) (ax (ajp,J.2.1,J.p2,(0,M.2),U.1,J.q3)) (obind (bQ (J.q3,0,M.2)) λZ=>(ax ((!Z),J.2.1,J.p2,(0,M.2),U.1,J.q3)))) ajo) λI=>(bcase I.1 (ax (J.1,12)) (jn (α:=(dv×List gk)×dH×dH×List Bool) (aX I.p3.1 0 (aX I.p3.2.1 3 (bn (aT (af I.q5+af ([ajp])) 1) (ax (I.2.1,I.p2,I.p4,(I.q5++([ajp]))))) (bn (aT (af I.q5+af ([(decide ((I.p3.2.1:Int)=23))])) 1) (ax (I.2.1,I.p2,I.p4,(I.q5++([(decide ((I.p3.2.1:Int)=23))])))))) ajo) λY=>(cu ((ca J.1),Y.1,Y.2.2))))))) (ax (0,0)))) (0,x,y2,([]:List Bool))))))))
def oa (x:dv×List gk):Option (Int×Int):=ky @iter x
def dy (x:dv×List gk):Option (Int×Int):=ky @fk x
def iS (it:xg) (x:dv×List gk):Option (Int×Int):=
 (bk 400 (aP x.2) (ajn (0,2)) (obind (c9 x.1) λy1=>(bcase (!y1) (ajn (0,1)) (obind (cJ x.1) λy2=>(bn (cD 0 (aP x.1.p4)&&cD (aP x.1.p4) (aP x.1.p4)&&aT (aL (aP x.1.p4)) 24&&decide (((aP x.1.p4):Int)=2)) (it (Int×(dv×List gk)×dH×(List Bool)×List Bool) _ (λJ=>(bk J.1 (aP x.2) (bw ip x.2 J.1 λM=>(obind (eK (J.2.1.1,J.p2,M)) λU=>(jn (α:=Bool×(dv×List gk)×dH×gk×dH×(List Bool)×List Bool) (aX M.1 0 (bcase (!U.2) (ax (ajp,J.2.1,J.p2,(0,M.2),U.1,J.q3)) (obind (bQ (J.p3,0,M.2)) λy7=>(ax ((!y7),J.2.1,J.p2,(0,M.2),U.1,J.q3)))) (aX M.1 1 (bcase (!U.2) (ax (ajp,J.2.1,J.p2,(1,M.2),U.1,J.q3)) (obind (bQ (J.q4,1,M.2)) λZ=>(ax ((!Z),J.2.1,J.p2,(1,M.2),U.1,J.q3)))) ajo)) λI=>(bcase I.1 (ax (J.1,12)) (jn (α:=(dv×List gk)×dH×dH×(List Bool)×List Bool) (aX I.p3.1 0 (aX I.p3.2.1 3 (bn (aT (af I.p5+af ([ajp])) 1) (ax (I.2.1,I.p2,I.p4,(I.p5++([ajp])),I.q6))) (bn (aT (af I.p5+af ([(decide ((I.p3.2.1:Int)=23))])) 1) (ax (I.2.1,I.p2,I.p4,(I.p5++([(decide ((I.p3.2.1:Int)=23))])),I.q6)))) (aX I.p3.1 1 (aX I.p3.2.1 3 (bn (aT (af I.q6+af ([ajp])) 1) (ax (I.2.1,I.p2,I.p4,I.p5,(I.q6++([ajp]))))) (bn (aT (af I.q6+af ([(decide ((I.p3.2.1:Int)=23))])) 1) (ax (I.2.1,I.p2,I.p4,I.p5,(I.q6++([(decide ((I.p3.2.1:Int)=23))])))))) ajo)) λY=>(cu ((ca J.1),Y.1,Y.2.2))))))) (ax (0,0)))) (0,x,y2,([]:List Bool),([]:List Bool))))))))
def nZ (x:dv×List gk):Option (Int×Int):=iS @iter x
def cK (x:dv×List gk):Option (Int×Int):=iS @fk x
def iR (it:xg) (x:dv×List gk):Option (Int×Int):=
 (bk 400 (aP x.2) (ajn (0,2)) (obind (c9 x.1) λy1=>(bcase (!y1) (ajn (0,1)) (obind (cJ x.1) λy2=>(bn (cD 0 (aP x.1.p4)&&cD (aP x.1.p4) (aP x.1.p4)&&aT (aL (aP x.1.p4)) 24&&decide (((aP x.1.p4):Int)=3)) (it (Int×(dv×List gk)×dH×(List Bool)×(List Bool)×List Bool) _ (λJ=>(bk J.1 (aP x.2) (bw ip x.2 J.1 λM=>(obind (eK (J.2.1.1,J.p2,M)) λU=>(jn (α:=Bool×(dv×List gk)×dH×gk×dH×(List Bool)×(List Bool)×List Bool) (aX M.1 0 (bcase (!U.2) (ax (ajp,J.2.1,J.p2,(0,M.2),U.1,J.q3)) (obind (bQ (J.p3,0,M.2)) λy7=>(ax ((!y7),J.2.1,J.p2,(0,M.2),U.1,J.q3)))) (aX M.1 1 (bcase (!U.2) (ax (ajp,J.2.1,J.p2,(1,M.2),U.1,J.q3)) (obind (bQ (J.p4,1,M.2)) λy8=>(ax ((!y8),J.2.1,J.p2,(1,M.2),U.1,J.q3)))) (aX M.1 2 (bcase (!U.2) (ax (ajp,J.2.1,J.p2,(2,M.2),U.1,J.q3)) (obind (bQ (J.q5,2,M.2)) λZ=>(ax ((!Z),J.2.1,J.p2,(2,M.2),U.1,J.q3)))) ajo))) λI=>(bcase I.1 (ax (J.1,12)) (jn (α:=(dv×List gk)×dH×dH×(List Bool)×(List Bool)×List Bool) (aX I.p3.1 0 (aX I.p3.2.1 3 (bn (aT (af I.p5+af ([ajp])) 1) (ax (I.2.1,I.p2,I.p4,(I.p5++([ajp])),I.q6))) (bn (aT (af I.p5+af ([(decide ((I.p3.2.1:Int)=23))])) 1) (ax (I.2.1,I.p2,I.p4,(I.p5++([(decide ((I.p3.2.1:Int)=23))])),I.q6)))) (aX I.p3.1 1 (aX I.p3.2.1 3 (bn (aT (af I.p6+af ([ajp])) 1) (ax (I.2.1,I.p2,I.p4,I.p5,(I.p6++([ajp])),I.q7))) (bn (aT (af I.p6+af ([(decide ((I.p3.2.1:Int)=23))])) 1) (ax (I.2.1,I.p2,I.p4,I.p5,(I.p6++([(decide ((I.p3.2.1:Int)=23))])),I.q7)))) (aX I.p3.1 2 (aX I.p3.2.1 3 (bn (aT (af I.q7+af ([ajp])) 1) (ax (I.2.1,I.p2,I.p4,I.p5,I.p6,(I.q7++([ajp]))))) (bn (aT (af I.q7+af ([(decide ((I.p3.2.1:Int)=23))])) 1) (ax (I.2.1,I.p2,I.p4,I.p5,I.p6,(I.q7++([(decide ((I.p3.2.1:Int)=23))])))))) ajo))) λY=>(cu ((ca J.1),Y.1,Y.2.2))))))) (ax (0,0)))) (0,x,y2,([]:List Bool),([]:List Bool),([]:List Bool))))))))
def nY (x:dv×List gk):Option (Int×Int):=iR @iter x
def c6 (x:dv×List gk):Option (Int×Int):=iR @fk x
def iQ (it:xg) (x:dv×List gk):Option (Int×Int):=
 (bk 400 (aP x.2) (ajn (0,2)) (obind (c9 x.1) λy1=>(bcase (!y1) (ajn (0,1)) (obind (cJ x.1) λy2=>(bn (cD 0 (aP x.1.p4)&&cD (aP x.1.p4) (aP x.1.p4)&&aT (aL (aP x.1.p4)) 24&&decide (((aP x.1.p4):Int)=4)) (it (Int×(dv×List gk)×dH×(List Bool)×(List Bool)×(List Bool)×List Bool) _ (λJ=>(bk J.1 (aP x.2) (bw ip x.2 J.1 λM=>(obind (eK (J.2.1.1,J.p2,M)) λU=>(jn (α:=Bool×(dv×List gk)×dH×gk×dH×(List Bool)×(List Bool)×(List Bool)×List Bool) (aX M.1 0 (bcase (!U.2) (ax (ajp,J.2.1,J.p2,(0,M.2),U.1,J.q3)) (obind (bQ (J.p3,0,M.2)) λy7=>(ax ((!y7),J.2.1,J.p2,(0,M.2),U.1,J.q3)))) (aX M.1 1 (bcase (!U.2) (ax (ajp,J.2.1,J.p2,(1,M.2),U.1,J.q3)) (obind (bQ (J.p4,1,M.2)) λy8=>(ax ((!y8),J.2.1,J.p2,(1,M.2),U.1,J.q3)))) (aX M.1 2 (bcase (!U.2) (ax (ajp,J.2.1,J.p2,(2,M.2),U.1,J.q3)) (obind (bQ (J.p5,2,M.2)) λy9=>(ax ((!y9),J.2.1,J.p2,(2,M.2),U.1,J.q3)))) (aX M.1 3 (bcase (!U.2) (ax (ajp,J.2.1,J.p2,(3,M.2),U.1,J.q3)) (obind (bQ (J.q6,3,M.2)) λZ=>(ax ((!Z),J.2.1,J.p2,(3,M.2),U.1,J.q3)))) ajo)))) λI=>(bcase I.1 (ax (J.1,12)) (jn (α:=(dv×List gk)×dH×dH×(List Bool)×(List Bool)×(List Bool)×List Bool) (aX I.p3.1 0 (aX I.p3.2.1 3 (bn (aT (af I.p5+af ([ajp])) 1) (ax (I.2.1,I.p2,I.p4,(I.p5++([ajp])),I.q6))) (bn (aT (af I.p5+af ([(decide ((I.p3.2.1:Int)=23))])) 1) (ax (I.2.1,I.p2,I.p4,(I.p5++([(decide ((I.p3.2.1:Int)=23))])),I.q6)))) (aX I.p3.1 1 (aX I.p3.2.1 3 (bn (aT (af I.p6+af ([ajp])) 1) (ax (I.2.1,I.p2,I.p4,I.p5,(I.p6++([ajp])),I.q7))) (bn (aT (af I.p6+af ([(decide ((I.p3.2.1:Int)=23))])) 1) (ax (I.2.1,I.p2,I.p4,I.p5,(I.p6++([(decide ((I.p3.2.1:Int)=23))])),I.q7)))) (aX I.p3.1 2 (aX I.p3.2.1 3 (bn (aT (af I.p7+af ([ajp])) 1) (ax (I.2.1,I.p2,I.p4,I.p5,I.p6,(I.p7++([ajp])),I.q8))) (bn (aT (af I.p7+af ([(decide ((I.p3.2.1:Int)=23))])) 1) (ax (I.2.1,I.p2,I.p4,I.p5,I.p6,(I.p7++([(decide ((I.p3.2.1:Int)=23))])),I.q8)))) (aX I.p3.1 3 (aX I.p3.2.1 3 (bn (aT (af I.q8+af ([ajp])) 1) (ax (I.2.1,I.p2,I.p4,I.p5,I.p6,I.p7,(I.q8++([ajp]))))) (bn (aT (af I.q8+af ([(decide ((I.p3.2.1:Int)=23))])) 1) (ax (I.2.1,I.p2,I.p4,I.p5,I.p6,I.p7,(I.q8++([(decide ((I.p3.2.1:Int)=23))])))))) ajo)))) λY=>(cu ((ca J.1),Y.1,Y.2.2))))))) (ax (0,0)))) (0,x,y2,([]:List Bool),([]:List Bool),([]:List Bool),([]:List Bool))))))))
def nX (x:dv×List gk):Option (Int×Int):=iQ @iter x
def dx (x:dv×List gk):Option (Int×Int):=iQ @fk x
def lj (x:dv×List gk):Option (Int×Int):=orE (dx x) (orE (c6 x) (orE (cK x) (dy x)))
def vW (it:xg) (x:dv×List gk):Option ((List (List Int))×Int):=
 (obind (lj x) λY=>(ik Y.2 0 (ajn (([]:List (List Int)),12)) (obind (mF x.1) λU=>(bn (cD 0 (aP x.2)&&cD (aP x.2) (aP x.2)&&aT (aL (aP x.2)) 24) (it (Int×(dv×List gk)×ZP×List (List Int)) _ (λI=>(bk I.1 (aP x.2) (bw ip x.2 I.1 λM=>(obind (pf (I.2.1.1,I.p2,M)) λJ=>(ck (eS I.1 (af I.q3)) (cu ((ca I.1),I.2.1,J.1,(cw I.q3 I.1 J.2)))))) (ax (I.q3,0)))) (0,x,U,(ay (aL (aP x.2)) ([]:List Int))))))))
def Ac (x:dv×List gk):Option ((List (List Int))×Int):=vW @iter x
def mb (x:dv×List gk):Option ((List (List Int))×Int):=vW @fk x
def Dk (it:xg) (x:dv×List gk):Option (Yd5×Int):=
 (obind (mb x) λY=>(ik Y.2 0 (ajn (([]:List (Int×Int)),Y.2)) (obind (sF x.2) λy2=>(it (Int×(dv×List gk)×List (Int×Int)) _ (λJ=>(bk J.1 (aP x.2) (it (Int×(dv×List gk)×List (Int×Int)) _ (λI=>(bk I.1 J.1 (jn (α:=(dv×List gk)×List (Int×Int)) (jn (α:=Bool×(dv×List gk)×List (Int×Int)) (obind (vP (I.2.1,I.1,J.1)) λy7=>(bcase y7 (bw (.sl aH) Y.1 J.1 λz8=>(bw gV y2 I.1 λZ=>(obind (uh (z8,Z)) λU=>(ax ((!U),I.2))))) (ax (ajq,I.2)))) λM=>(bcase M.1 (bn (aT (af M.2.2+af ([(I.1,J.1)])) 16) (ax (M.2.1,(M.2.2++([(I.1,J.1)]))))) (ax M.2))) λx5=>(cu ((ca I.1),x5))) (ax (nG ((ca J.1),I.2))))) (0,J.2)) (ax (J.2.2,0)))) (0,x,([]:List (Int×Int)))))))
def CY (x:dv×List gk):Option (Yd5×Int):=Dk @iter x
def rY (x:dv×List gk):Option (Yd5×Int):=Dk @fk x
def MD (it:xg) (x:Unit):Option dv:=
 (it Yd3 _ (λJ=>(bk J.1 (aJ (af ([[109,97,105,110],[116,49],[116,50],[116,51]]))) (it Yd3 _ (λI=>(bk I.1 6 (bn (aT (af I.q6+af ([(J.1,I.1,(be .i64 ((be .i64 ((be .i64 (10*J.1))+I.1))+1)))])) 24) (cu ((ca I.1),I.2.1,I.p2,I.p3,I.p4,I.p5,(I.q6++([(J.1,I.1,(be .i64 ((be .i64 ((be .i64 (10*J.1))+I.1))+1)))]))))) (ax (nG ((ca J.1),I.2))))) (0,J.2)) (ax J.2))) (0,[([120],0,0,ajq,0),([121],0,0,ajq,1),([118],0,0,ajp,0),([113],0,2,ajq,0),([113],1,2,ajq,0)],[([109],ajq),([110],ajq),([114],ajp)],[([99],0)],[[102]],[[109,97,105,110],[116,49],[116,50],[116,51]],([]:List (Int×Int×Int))))
def L8 (x:Unit):Option dv:=MD @iter x
def Bp (x:Unit):Option dv:=MD @fk x
def vO (x:Bool):Option (dv×List gk):=
 (obind (Bp ()) λI=>(jn (α:=dv×List gk) (bcase x (kf ip ([(0,1,(-1),0,(-1),([]:List Int),([]:List Int)),(0,20,1,0,0,([]:List Int),([]:List Int)),(1,1,(-1),0,(-1),([]:List Int),([]:List Int)),(0,6,0,0,0,([]:List Int),([]:List Int)),(0,4,0,1,0,([]:List Int),([]:List Int)),(0,7,0,0,0,([]:List Int),([]:List Int)),(1,6,0,0,6,([]:List Int),([]:List Int)),(1,4,0,2,6,([]:List Int),([]:List Int))]) 0 λz3=>(kf ip ([(0,1,(-1),0,(-1),([]:List Int),([]:List Int)),(0,20,1,0,0,([]:List Int),([]:List Int)),(1,1,(-1),0,(-1),([]:List Int),([]:List Int)),(0,6,0,0,0,([]:List Int),([]:List Int)),(0,4,0,1,0,([]:List Int),([]:List Int)),(0,7,0,0,0,([]:List Int),([]:List Int)),(1,6,0,0,6,([]:List Int),([]:List Int)),(1,4,0,2,6,([]:List Int),([]:List Int))]) 1 λZ=>(kf ip ([(0,1,(-1),0,(-1),([]:List Int),([]:List Int)),(0,20,1,0,0,([]:List Int),([]:List Int)),(1,1,(-1),0,(-1),([]:List Int),([]:List Int)),(0,6,0,0,0,([]:List Int),([]:List Int)),(0,4,0,1,0,([]:List Int),([]:List Int)),(0,7,0,0,0,([]:List Int),([]:List Int)),(1,6,0,0,6,([]:List Int),([]:List Int)),(1,4,0,2,6,([]:List Int),([]:List Int))]) 2 λY=>(kf ip ([(0,1,(-1),0,(-1),([]:List Int),([]:List Int)),(0,20,1,0,0,([]:List Int),([]:List Int)),(1,1,(-1),0,(-1),([]:List Int),([]:List Int)),(0,6,0,0,0,([]:List Int),([]:List Int)),(0,4,0,1,0,([]:List Int),([]:List Int)),(0,7,0,0,0,([]:List Int),([]:List Int)),(1,6,0,0,6,([]:List Int),([]:List Int)),(1,4,0,2,6,([]:List Int),([]:List Int))]) 6 λU=>(kf ip ([(0,1,(-1),0,(-1),([]:List Int),([]:List Int)),(0,20,1,0,0,([]:List Int),([]:List Int)),(1,1,(-1),0,(-1),([]:List Int),([]:List Int)),(0,6,0,0,0,([]:List Int),([]:List Int)),(0,4,0,1,0,([]:List Int),([]:List Int)),(0,7,0,0,0,([]:List Int),([]:List Int)),(1,6,0,0,6,([]:List Int),([]:List Int)),(1,4,0,2,6,([]:List Int),([]:List Int))]) 4 λM=>(kf ip ([(0,1,(-1),0,(-1),([]:List Int),([]:List Int)),(0,20,1,0,0,([]:List Int),([]:List Int)),(1,1,(-1),0,(-1),([]:List Int),([]:List Int)),(0,6,0,0,0,([]:List Int),([]:List Int)),(0,4,0,1,0,([]:List Int),([]:List Int)),(0,7,0,0,0,([]:List Int),([]:List Int)),(1,6,0,0,6,([]:List Int),([]:List Int)),(1,4,0,2,6,([]:List Int),([]:List Int))]) 7 λJ=>(ax (I,[z3,Z,Y,U,M,J])))))))) (ax (I,[(0,1,(-1),0,(-1),([]:List Int),([]:List Int)),(0,20,1,0,0,([]:List Int),([]:List Int)),(1,1,(-1),0,(-1),([]:List Int),([]:List Int)),(0,6,0,0,0,([]:List Int),([]:List Int)),(0,4,0,1,0,([]:List Int),([]:List Int)),(0,7,0,0,0,([]:List Int),([]:List Int)),(1,6,0,0,6,([]:List Int),([]:List Int)),(1,4,0,2,6,([]:List Int),([]:List Int))]))) λx2=>(ajn x2)))
def pe (x:Unit):Option (Bool):=
 (obind (vO ajq) λY=>(obind (rY Y) λM=>(obind (vO ajp) λU=>(obind (rY U) λI=>(jn (α:=Bool) (aX M.2 0 (aX I.2 0 (aX (aP M.1) 0 (aX (aP I.1) 1 (bw gV I.1 0 λJ=>(ax (Nz (.pr aH (.pr aH .un)) (J.1,J.2,()) (4,5,()) !=ajq))) (ax ajq)) (ax ajq)) (ax ajq)) (ax ajq)) λZ=>(ajn Z))))))
def kM (x:(List Int)×(List Int)×List Int):Option (Bool):=
 (obind (jY (x,40)) λM=>(obind (mb M) λU=>(jn (α:=Bool×dv×List gk) (ik U.2 0 (ax (ajp,M)) (ax ((!decide (((aP U.1):Int)=(aP M.2))),M))) λJ=>(bcase J.1 (ajn ajq) (obind (mF J.2.1) λy4=>(iter (σ:=Int×(dv×List gk)×(List (List Int))×(List (List Int))×(List (List Int))×(List (List Int))×(List (List Int))×(List (List Int))×(List Int)×(List (List Int))×List Int) (λI=>(bk I.1 (aP J.2.2) (bw ip J.2.2 I.1 λz6=>(obind (pf (I.2.1.1,I.2.2,z6)) λZ=>(bw (.sl aH) U.1 I.1 λz8=>(obind (pR (Z.2,z8)) λy9=>(bcase (!y9) (ax ajq) (cu ((ca I.1),I.2.1,Z.1))))))) (obind (obind (pe ()) λY=>(ajn Y)) λr=>ajn (bM r)))) (0,J.2,y4)))))))
def um:Nat:=1000000000
def jl (a b:List Int):List Int:=(eU (max a.length b.length)).map λi=>jv (a.getD i 0) (b.getD i 0)
theorem yw (a b:List Int):(jl a b).length=max a.length b.length:=by simp[jl]
theorem C7 (a b:List Int) (i:Nat):(jl a b).getD i 0=jv (a.getD i 0) (b.getD i 0):=by
 unfold jl;simp only[au,aU];by_cases h:i<max a.length b.length
 ·rw[List.getElem?_range h];rfl
 ·rw[bB (by simp only[nJ];omega),bB (l:=a) (by omega),bB (l:=b) (by omega)];rfl
theorem DR (c:List Int) (i:Nat):ia (c,(i:Int))=ajn (c.getD i 0):=by
 unfold ia bk vA aP ax;simp only[];rw[uR (by omega)];simp only[dc,kN];by_cases h:i<c.length
 ·rw[Yo (by simp;omega)];simp only[dc];rw[cg (cH h),sQ];rfl
 ·rw[pK (by simp;omega)];simp only[cS];rw[au,bB (by omega)];rfl
theorem agx:Bm=ia:=rfl
theorem ac9 (a b:List Int) (U:a.length<=um) (hb:b.length<=um):kl (a,b)=ajn (jl a b):=by
 unfold um at U hb;unfold kl tP ck bk bn aP cu ax ca;have hm:max a.length b.length<=1000000000:=by omega
 rw[cg (by simp only[sI];rw[pK (by omega),pK (by omega),vG (by simp;omega) (by simp;omega)];rfl)];simp only[sI,iW,dK];have:=uP (σ:=Int×List Int) (R:=List Int) (max a.length b.length) (by omega) (λi=>((i:Int),(eU (max a.length b.length)).map λk=>if k<i then jv (a.getD k 0) (b.getD k 0) else 0)) (f:=(λI=>(bcase (eX I.1 (aJ (max a.length b.length))) (obind (ia (a,I.1)) λM=>(obind (ia (b,I.1)) λJ=>(chk (eS I.1 (af I.2)) λ_=>(chk (eS I.1 (af I.2)) λ_=>(ajn (nG ((be .i64 (I.1+1)),(cw I.2 I.1 (jv M J))))))))) (ajn (bM I.2))))) (r:=jl a b) ?_ ?_
 ·refine Eq.trans ?_ this;congr 1;simp only[Int.natCast_zero,vC,if_false,aw,true_and];apply cV<;>simp
 ·intro i hi;simp only[];rw[tL (by simp;omega),cS,DR,DR,cI,cI,cg (cH (by simpa using hi)),cg (cH (by simpa using hi)),oz hi (by omega),fx];congr 3;apply cV
  ·simp
  ·intro k h1 Y;simp only[bV,nJ] at Y;simp only[tB,pD,mm];by_cases e:i=k
   ·subst e;simp
   ·by_cases h:k<i
    ·rw[if_neg e,if_pos h,if_pos (by omega)]
    ·rw[if_neg e,if_neg h,if_neg (by omega)]
 ·simp only[];rw[uR (by simp),dc];congr 2;unfold jl;apply oO;intro k hk;rw[if_pos (ml.1 hk)]
theorem W7 (a b:List Int) (U:a.length<=um) (hb:b.length<=um):rL (a,b)=ajn (jl a b,b):=by
 unfold um at U hb;unfold rL F4 ck bk bn aP cu ax ca;have hm:max a.length b.length<=1000000000:=by omega
 rw[cg (by simp only[sI];rw[pK (by omega),pK (by omega),vG (by simp;omega) (by simp;omega)];rfl)];simp only[sI,iW,dK];have:=uP (σ:=Int×List Int×List Int) (R:=List Int×List Int) (max a.length b.length) (by omega) (λi=>((i:Int),b,(eU (max a.length b.length)).map λk=>if k<i then jv (a.getD k 0) (b.getD k 0) else 0)) (f:=(λI=>(bcase (eX I.1 (aJ (max a.length b.length))) (obind (ia (a,I.1)) λM=>(obind (ia (I.2.1,I.1)) λJ=>(chk (eS I.1 (af I.2.2)) λ_=>(chk (eS I.1 (af I.2.2)) λ_=>(ajn (nG ((be .i64 (I.1+1)),I.2.1,(cw I.2.2 I.1 (jv M J))))))))) (ajn (bM (I.2.2,I.2.1)))))) (r:=(jl a b,b)) ?_ ?_
 ·refine Eq.trans ?_ this;congr 1;simp only[Int.natCast_zero,vC,if_false,aw,true_and];apply cV<;>simp
 ·intro i hi;simp only[];rw[tL (by simp;omega),cS,DR,DR,cI,cI,cg (cH (by simpa using hi)),cg (cH (by simpa using hi)),oz hi (by omega),fx];congr 4;apply cV
  ·simp
  ·intro k h1 Y;simp only[bV,nJ] at Y;simp only[tB,pD,mm];by_cases e:i=k
   ·subst e;simp
   ·by_cases h:k<i
    ·rw[if_neg e,if_pos h,if_pos (by omega)]
    ·rw[if_neg e,if_neg h,if_neg (by omega)]
 ·simp only[];rw[uR (by simp),dc];congr 3;unfold jl;apply oO;intro k hk;rw[if_pos (ml.1 hk)]
theorem QR (a b:List Int) (I:a.length<=um) (hb:b.length<=um):Ai (a,b)=ajn (jl a b):=by
 unfold Ai;rw[W7 a b I hb,cI];exact NY rfl _
def tk (c:List Int) (t:Nat):List Int:=(c++ay (t+1-c.length) 0).set t (c.getD t 0+1)
theorem KA (c:List Int) (t:Nat):(tk c t).length=max c.length (t+1):=by simp[tk];omega
theorem ah1 (c:List Int) (n i:Nat):(c++ay n 0).getD i 0=c.getD i 0:=by
 simp only[au];by_cases h:i<c.length
 ·rw[bA h]
 ·rw[bJ (by omega),bB (l:=c) (by omega),pE];split<;>rfl
theorem Gk (c:List Int) (t i:Nat):(tk c t).getD i 0=if i=t then c.getD t 0+1 else c.getD i 0:=by
 unfold tk;rw[au,rG];by_cases h:t=i
 ·subst h;rw[if_pos rfl,if_pos (by simp;omega),if_pos rfl];rfl
 ·rw[if_neg h,if_neg (λe=>h e.symm),<-au,ah1]
theorem YP (c:List Int) (n:Nat) (h:c.length<=n):Re (ay n 0) c=c++ay (n-c.length) 0:=by
 unfold Re;rw[dK,eT h,List.drop_replicate]
theorem abm (c:List Int) (t:Nat) (hc:c.length<=um) (ht:t<4) (h0:0<=c.getD t 0) (h1:c.getD t 0<9223372036854775807):qN (c,(t:Int))=ajn (tk c t):=by
 unfold um at hc;unfold qN ck jf bn aP ax ca;simp only[];rw[pK (by omega),cS,kN,tL (by omega)];simp only[cS,kN];have e1:jv (aJ c.length) (be .i64 ((t:Int)+1))=((max c.length (t+1):Nat):Int):=by
  rw[oz ht (by omega)];exact sI _ _
 rw[e1];rw[cg (by rw[pK (by omega),pK (by omega),vG (by simp;omega) (by simp;omega)];rfl)];rw[iW];have e2:Re (ay (max c.length (t+1)) (0:Int)) c=c++ay (t+1-c.length) 0:=by
  rw[YP c _ (by omega)];rw[show max c.length (t+1)-c.length=t+1-c.length from by omega]
 rw[e2];have hl:t<(c++ay (t+1-c.length) (0:Int)).length:=by simp;omega
 rw[cg (cH hl),cg (cH hl),kN];have e3:aD (T:=.int .i64) (c++ay (t+1-c.length) (0:Int)) (t:Int)=c.getD t 0:=by
  rw[sQ];exact ah1 c _ t
 simp only[];rw[e3,tL h1,cS,cg (cH hl),cg (cH hl),cg (cH hl),cg (cH hl),kN,ach (by omega) (by omega),fx];rfl
theorem Q9 (c:List Int) (hc:c.length<=um):Aj c=ajn c:=by
 unfold um at hc;unfold Aj;rw[cg (vG (by omega) (by omega))]
theorem LI (c:List Int) (hc:c.length<=um):tH c=ajn c:=by
 unfold um at hc;unfold tH uN bn;rw[cg (vG (by simp;omega) (by simp;omega)),cI];exact NY rfl _
theorem LJ (c:List Int) (hc:c.length<=um):nO c=ajn c:=Q9 c hc
def GL (l:List (List Int)):Prop:=l.length<=um/\∀ c∈l,c.length<=um
abbrev HTp:Type:=List (List Int)×List (List Int)×List (List Int)×List (List Int)×List (List Int)×List (List Int)×List Int×List (List Int)×List Int
def GH (h:HTp):Prop:=GL h.1/\GL h.2.1/\GL h.2.2.1/\GL h.2.2.2.1/\GL h.2.2.2.2.1/\GL h.2.2.2.2.2.1/\h.2.2.2.2.2.2.1.length<=um/\GL h.2.2.2.2.2.2.2.1/\h.2.2.2.2.2.2.2.2.length<=um
theorem HE {l:List (List Int)} {i:Nat} (h:i<l.length):l.getD i []∈l:=by
 rw[au,ar h];exact tC h
theorem GL.at {l:List (List Int)} (h:GL l) (i:Nat):(l.getD i []).length<=um:=by
 by_cases hi:i<l.length
 ·exact h.2 _ (HE hi)
 ·rw[au,bB (by omega)];simp
theorem Wk (g:List Int->Option (List Int)) (l:List (List Int)) (hl:l.length<=um) (hg:∀ c∈l,g c=ajn c):
 fk (σ:=Int×List (List Int)) (λI=>(bcase (eX I.1 (aJ (af l))) (chk (eS I.1 (af l)) λ_=>(obind (g (aD (T:=(.sl (.int .i64))) l I.1)) λM=>(chk (eS I.1 (af I.2)) λ_=>(chk (eS I.1 (af I.2)) λ_=>(ajn (nG ((be .i64 (I.1+1)),(cw I.2 I.1 M)))))))) (ajn (bM I.2)))) (0,(ay (aL (aJ (af l))) ([]:List Int)))=ajn l:=by
 unfold um at hl;have:=uP (σ:=Int×List (List Int)) (R:=List (List Int)) l.length (by omega) (λi=>((i:Int),(eU l.length).map λk=>if k<i then l.getD k [] else [])) (f:=(λI=>(bcase (eX I.1 (aJ (af l))) (chk (eS I.1 (af l)) λ_=>(obind (g (aD (T:=(.sl (.int .i64))) l I.1)) λM=>(chk (eS I.1 (af I.2)) λ_=>(chk (eS I.1 (af I.2)) λ_=>(ajn (nG ((be .i64 (I.1+1)),(cw I.2 I.1 M)))))))) (ajn (bM I.2))))) (r:=l) ?_ ?_
 ·refine Eq.trans ?_ this;congr 1;simp only[Int.natCast_zero,vC,if_false,aw,true_and,ai,iW];apply cV<;>simp
 ·intro i hi;simp only[];rw[tL (by simp;omega),cS,cg (cH hi),sQ,show (l.getD i (Ty.zero (.sl (.int .i64))))=l.getD i [] from rfl,hg _ (HE hi),cI,cg (cH (by simpa using hi)),cg (cH (by simpa using hi)),oz hi (by omega),fx];congr 3;apply cV
  ·simp
  ·intro k h1 J;simp only[bV,nJ] at J;simp only[tB,pD,mm];by_cases e:i=k
   ·subst e;simp
   ·by_cases h:k<i
    ·rw[if_neg e,if_pos h,if_pos (by omega)]
    ·rw[if_neg e,if_neg h,if_neg (by omega)]
 ·simp only[];rw[uR (by simp),dc];congr 2;apply cV
  ·simp
  ·intro k h1 J;simp only[pD,mm];rw[if_pos J,au,ar J];rfl
theorem ql (l:List (List Int)) (h:GL l):gz l=ajn l:=by
 have hl:=h.1;unfold um at hl;unfold gz vV ck bk vA bn aP cu ax ca;rw[cg (by rw[pK (by simp),pK (by omega),vG (by simp;omega) (by simp;omega)];rfl)];exact Wk Aj l h.1 λc hc=>Q9 c (h.2 c hc)
theorem Wl (h:HTp) (g:GH h):sG h=ajn (h.2.2.2.2.2.2.1,h.1,h.2.1,h.2.2.1,h.2.2.2.1,h.2.2.2.2.1,h.2.2.2.2.2.1,h.2.2.2.2.2.2.2.1,h.2.2.2.2.2.2.2.2):=by
 obtain⟨g1,g2,g3,Z,Y,U,M,J,I⟩:=g;unfold sG Prod.p2 Prod.p3 Prod.p4 Prod.p5 Prod.p6 Prod.p7 Prod.q8;rw[ql _ g1,cI,ql _ g2,cI,ql _ g3,cI,ql _ Z,cI,ql _ Y,cI,ql _ U,cI,LJ _ M,cI,ql _ J,cI,LJ _ I,cI]
theorem Zp (a b:List Int) (I:a.length<=um) (hb:b.length<=um) (h:∀ i,a.getD i 0<=b.getD i 0):qI (a,b)=ajn ajp:=by
 unfold um at I hb;unfold qI BH bk aP cu ax ca;refine uP (σ:=Int) (max a.length b.length) (by omega) (λi=>(i:Int)) (λi hi=>?_) ?_
 ·simp only[sI];rw[tL (by omega),cS,agx,DR,DR,cI,cI,uR (h i),dc,oz hi (by omega)]
 ·simp only[sI];rw[uR (by omega),dc]
theorem abq (a b:List Int) (I:a.length<=um) (hb:b.length<=um) (h:∀ i,a.getD i 0=b.getD i 0):pR (a,b)=ajn ajp:=by
 unfold pR ax;rw[Zp a b I hb λi=>Int.le_of_eq (h i),cI,cS,Zp b a hb I λi=>Int.le_of_eq (h i).symm,cI,kN]
theorem WP (a:List Int) (h:a.length<=um):pR (a,a)=ajn ajp:=abq a a h h λ_=>rfl
abbrev E6:Type:=List (List UInt8×Int×Int×Bool×Int)×List (List UInt8×Bool)×List (List UInt8×Int)×List (List UInt8)×List (List UInt8)×List (Int×Int×Int)
def h0 (w:E6):HTp:=(ay w.2.2.2.2.1.length [],ay w.2.2.2.2.1.length [],ay w.2.1.length [],ay w.2.1.length [],ay w.1.length [],ay w.2.2.2.1.length [],[],ay w.2.2.2.2.1.length [],ay w.2.2.2.2.1.length (-1))
theorem Zl (w:E6) (h1:w.1.length<=um) (J:w.2.1.length<=um) (U:w.2.2.2.1.length<=um) (M:w.2.2.2.2.1.length<=um):mF w=ajn (h0 w):=by
 unfold um at h1 J U M;have c:∀ n b:Nat,n<=1000000000->b<=24->(cD 0 (aJ n)&&cD (aJ n) (aJ n)&&aT (aL (aJ n)) b)=ajp:=λn b hn hb=>by
  have:n*b<=n*24:=Nat.mul_le_mul_left n hb;rw[pK (by simp),pK (by omega),vG (by simp;omega) (by simp;omega)];rfl
 unfold mF yB Prod.p2 Prod.p3 Prod.p4 Prod.p5 Prod.p6 Prod.p7 Prod.q8 ck bk bn aP cu ax ca;rw[cg (c _ 24 M (by omega)),cg (c _ 24 M (by omega)),cg (c _ 24 J (by omega)),cg (c _ 24 J (by omega)),cg (c _ 24 h1 (by omega)),cg (c _ 24 U (by omega)),cg (c _ 24 M (by omega)),cg (c _ 8 M (by omega))];simp only[ai,iW,dK];have:=uP (σ:=Int×(List (List Int))×(List (List Int))×(List (List Int))×(List (List Int))×(List (List Int))×(List (List Int))×(List (List Int))×List Int) (R:=HTp) w.2.2.2.2.1.length (by omega) (λi=>((i:Int),ay w.2.2.2.2.1.length [],ay w.2.2.2.2.1.length [],ay w.2.1.length [],ay w.2.1.length [],ay w.1.length [],ay w.2.2.2.1.length [],ay w.2.2.2.2.1.length [],(eU w.2.2.2.2.1.length).map λk=>if k<i then -1 else 0)) (f:=(λI=>(bcase (eX I.1 (w.2.2.2.2.1.length:Int)) (chk (eS I.1 (af I.2.2.2.2.2.2.2.2)) λ_=>(chk (eS I.1 (af I.2.2.2.2.2.2.2.2)) λ_=>(ajn (nG ((be .i64 (I.1+1)),I.2.1,I.2.2.1,I.2.2.2.1,I.2.2.2.2.1,I.2.2.2.2.2.1,I.2.2.2.2.2.2.1,I.2.2.2.2.2.2.2.1,(cw I.2.2.2.2.2.2.2.2 I.1 (-1))))))) (ajn (bM (I.2.1,I.2.2.1,I.2.2.2.1,I.2.2.2.2.1,I.2.2.2.2.2.1,I.2.2.2.2.2.2.1,([]:List Int),I.2.2.2.2.2.2.2.1,I.2.2.2.2.2.2.2.2)))))) (r:=h0 w) ?_ ?_
 ·refine Eq.trans ?_ this;congr 1;simp only[Int.natCast_zero,vC,if_false,aw,true_and];apply cV<;>simp
 ·intro i hi;simp only[];rw[tL (by omega),cS,cg (cH (by simpa using hi)),cg (cH (by simpa using hi)),oz hi (by omega),fx];congr 3;simp only[aw,true_and];apply cV
  ·simp
  ·intro k h1 J;simp only[bV,nJ] at J;simp only[tB,pD,mm];by_cases e:i=k
   ·subst e;simp
   ·by_cases h:k<i
    ·rw[if_neg e,if_pos h,if_pos (by omega)]
    ·rw[if_neg e,if_neg h,if_neg (by omega)]
 ·simp only[];rw[uR (by omega),dc];unfold h0;congr 3;simp only[aw,true_and];apply cV
  ·simp
  ·intro k h1 J;simp only[dK] at J;simp only[pD,mm,List.getElem_replicate];rw[if_pos J]
theorem xy (x y:Int):jv x y=max x y:=by
 unfold jv;by_cases h:x<y
 ·rw[tL h,if_pos rfl];omega
 ·rw[uR (by omega)];simp;omega
theorem Vv {a b:List Int} (hl:a.length=b.length) (h:∀ i,a.getD i 0=b.getD i 0):a=b:=by
 apply cV hl;intro i h1 I;have:=h i;simpa[au,ar h1,ar I] using this
def En (n:Int) (c:List Int):Prop:=c.length<=4/\∀ i,0<=c.getD i 0/\c.getD i 0<=n
theorem En.nil {n:Int} (h:0<=n):En n []:=⟨by simp,λi=>by simp;exact h⟩
theorem En.mono {n m:Int} {c:List Int} (h:En n c) (hm:n<=m):En m c:=⟨h.1,λi=>⟨(h.2 i).1,Int.le_trans (h.2 i).2 hm⟩⟩
theorem En.jl {n:Int} {a b:List Int} (I:En n a) (hb:En n b):En n (jl a b):=⟨by rw[yw];have:=I.1;have:=hb.1;omega,λi=>by
 rw[C7];obtain⟨h1,U⟩:=I.2 i;obtain⟨M,J⟩:=hb.2 i;unfold jv;split<;>exact⟨by assumption,by assumption⟩⟩
theorem En.tk {n:Int} {c:List Int} {t:Nat} (h:En n c) (ht:t<4):En (n+1) (tk c t):=⟨by rw[KA];have:=h.1;omega,λi=>by
 rw[Gk];obtain⟨h1,M⟩:=h.2 i;obtain⟨J,I⟩:=h.2 t;split<;>omega⟩
def zJ (n:Int) (l:List (List Int)):Prop:=∀ i,En n (l.getD i [])
theorem zJ.mono {n m:Int} {l:List (List Int)} (h:zJ n l) (hm:n<=m):zJ m l:=λi=>(h i).mono hm
theorem zJ.set {n:Int} {l:List (List Int)} (h:zJ n l) {c:List Int} (hc:En n c) (j:Nat):zJ n (l.set j c):=λi=>by
 rw[au,rG];by_cases e:j=i
 ·subst e;rw[if_pos rfl];split
  ·exact hc
  ·have:=h j;simp only[au] at this;rename_i hj;rw[bB (by omega)] at this;exact this
 ·rw[if_neg e,<-au];exact h i
theorem zJ.repl {n:Int} (h:0<=n) (k:Nat):zJ n (ay k []):=λi=>by
 rw[au,pE];split<;>exact En.nil h
structure HS where
 T:List (List Int)
 S:List (List Int)
 L:List (List Int)
 R:List (List Int)
 C:List (List Int)
 F:List (List Int)
 X:List Int
 N:List (List Int)
 W:List Int
def HS.t (h:HS):HTp:=(h.T,h.S,h.L,h.R,h.C,h.F,h.X,h.N,h.W)
structure EV where
 th:Nat
 k:Nat
 ob:Nat
 va:Int
abbrev WTc:=List (List UInt8×Int)
def ZM (I:WTc) (o:Nat):Nat:=((I.getD o ([],0)).2).toNat
def Xy (I:List (List UInt8×Int×Int×Bool×Int)) (o:Nat):Bool:=(I.getD o ([],0,0,ajq,0)).2.2.2.1
def zP (w:E6) (h:HS) (e:EV):List (List Int):=
 if e.k=1 then [h.S.getD e.th []]
 else if e.k=21 then [h.T.getD e.ob []]
 else if e.k=6\/e.k=10 then [h.L.getD e.ob [],h.R.getD e.ob []]
 else if e.k=8 then [h.L.getD e.ob []]
 else if e.k=17 then [h.L.getD (ZM w.2.2.1 e.ob) [],h.R.getD (ZM w.2.2.1 e.ob) [],h.N.getD e.th []]
 else if e.k=3 then [h.C.getD e.ob []]
 else if e.k=23 then [h.F.getD e.ob []]
 else if e.k=12 then [h.X]
 else []
def Cp (w:E6) (h:HS) (e:EV):List Int:=tk ((zP w h e).foldl jl (h.T.getD e.th [])) e.th
def jat (l:List (List Int)) (i:Nat) (c:List Int):List (List Int):=l.set i (jl (l.getD i []) c)
def AQ (p:Nat->Bool) (c:List Int) (h:HS):HS:={h with N:=h.N.mapIdx λu x=>if p u then c else x,W:=h.W.mapIdx λu x=>if p u then -1 else x}
def uW (w:E6) (h:HS) (e:EV) (c:List Int):HS:=
 let h:={h with T:=h.T.set e.th c}
 if e.k=20 then {h with S:=h.S.set e.ob c}
 else if e.k=7\/e.k=11 then {h with L:=jat h.L e.ob c}
 else if e.k=9 then {h with R:=jat h.R e.ob c}
 else if e.k=16 then {h with L:=jat h.L (ZM w.2.2.1 e.ob) c,W:=h.W.set e.th e.ob}
 else if e.k=4 then (if Xy w.1 e.ob then {h with C:=jat h.C e.ob c} else h)
 else if e.k=22 then {h with F:=jat h.F e.ob c}
 else if e.k=13 then {h with X:=jl h.X c}
 else if e.k=18 then (if 0<=e.va/\e.va<h.N.length then {h with N:=h.N.set e.va.toNat c,W:=h.W.set e.va.toNat (-1)} else h)
 else if e.k=19 then AQ (λu=>decide (h.W.getD u 0=(e.ob:Int))) c h
 else h
def KE (w:E6) (h:HS) (e:EV):HS×List Int:=(uW w h e (Cp w h e),Cp w h e)
structure EOK (w:E6) (h:HS) (e:EV):Prop where
 th4:e.th<4
 th:e.th<h.T.length
 k1:1<=e.k
 k2:e.k<=23
 sp:e.k=20\/e.k=21->e.ob<h.T.length
 lk:6<=e.k/\e.k<=11->e.ob<h.L.length
 cd:e.k=16\/e.k=17->e.ob<w.2.2.1.length/\0<=(w.2.2.1.getD e.ob ([],0)).2/\ZM w.2.2.1 e.ob<h.L.length
 ce:e.k=3\/e.k=4->e.ob<h.C.length/\e.ob<w.1.length
 fu:e.k=22\/e.k=23->e.ob<h.F.length
structure W9 (n:Int) (h:HS):Prop where
 n0:0<=n
 n1:n<=1000000
 T:zJ n h.T
 S:zJ n h.S
 L:zJ n h.L
 R:zJ n h.R
 C:zJ n h.C
 F:zJ n h.F
 X:En n h.X
 N:zJ n h.N
 lT:h.T.length<=1000
 lS:h.S.length=h.T.length
 lN:h.N.length=h.T.length
 lW:h.W.length=h.T.length
 lL:h.L.length<=1000
 lR:h.R.length=h.L.length
 lC:h.C.length<=1000
 lF:h.F.length<=1000
theorem En.lb {n:Int} {c:List Int} (h:En n c):c.length<=um:=by have:=h.1;unfold um;omega
theorem zJ.GL {n:Int} {l:List (List Int)} (h:zJ n l) (hl:l.length<=1000):GL l:=⟨by unfold um;omega,λc hc=>by
 obtain⟨i,hi⟩:=dW hc;have:=(h i).lb
 rwa [au,hi] at this⟩
theorem W9.GH {n:Int} {h:HS} (o:W9 n h):GH h.t:=
 ⟨o.T.GL o.lT,o.S.GL (by rw[o.lS];exact o.lT),o.L.GL o.lL,o.R.GL (by rw[o.lR];exact o.lL),o.C.GL o.lC,o.F.GL o.lF,o.X.lb,o.N.GL (by rw[o.lN];exact o.lT),by show h.W.length<=um;have:=o.lT;rw[o.lW];unfold um;omega⟩
theorem En.join {n:Int} {a b:List Int} (I:En n a) (hb:En n b):kl (a,b)=ajn (AI.jl a b):=ac9 a b I.lb hb.lb
theorem Rn {n:Int} {w:E6} {h:HS} (o:W9 n h) (e:EV):∀ c∈zP w h e,En n c:=by
 intro c hc;unfold zP at hc;repeat' (split at hc)
 all_goals simp only[bc,bY,or_false] at hc
 ·subst hc;exact o.S _
 ·subst hc;exact o.T _
 ·rcases hc with rfl|rfl
  ·exact o.L _
  ·exact o.R _
 ·subst hc;exact o.L _
 ·rcases hc with rfl|rfl|rfl
  ·exact o.L _
  ·exact o.R _
  ·exact o.N _
 ·subst hc;exact o.C _
 ·subst hc;exact o.F _
 ·subst hc;exact o.X
theorem BL {n:Int}:∀ (l:List (List Int)) (c:List Int),En n c->(∀ x∈l,En n x)->En n (l.foldl jl c)
 |[],_,hc,_=>hc
 |x::r,c,hc,h=>BL r _ (hc.jl (h x (dg ..))) λy I=>h y (cA _ I)
theorem Tg {n:Int} {w:E6} {h:HS} (o:W9 n h) {e:EV} (he:e.th<4):En (n+1) (Cp w h e):=(BL _ _ (o.T _) (Rn o e)).tk he
theorem zJ.jat {n:Int} {l:List (List Int)} {c:List Int} (h:zJ n l) (hc:En n c) (i:Nat):zJ n (jat l i c):=h.set ((h i).jl hc) i
theorem zJ.mapIdx {n:Int} {l:List (List Int)} {c:List Int} (h:zJ n l) (hc:En n c) (p:Nat->Bool):zJ n (l.mapIdx λu x=>if p u then c else x):=λi=>by
 rw[au,List.getElem?_mapIdx];have:=h i;rw[au] at this;cases I:l[i]? with
 |none=>rw[I] at this;exact this
 |some x=>
  rw[I] at this;simp only[bO,tm];split
  ·exact hc
  ·exact this
theorem XI {n:Int} {w:E6} {h:HS} (o:W9 n h) (hn:n+1<=1000000) {e:EV} (he:e.th<4):W9 (n+1) (KE w h e).1:=by
 have hc:=Tg (w:=w) o he;have m:n<=n+1:=by omega
 have oT:zJ (n+1) (h.T.set e.th (Cp w h e)):=(o.T.mono m).set hc _;have b:W9 (n+1) {h with T:=h.T.set e.th (Cp w h e)}:=⟨by have:=o.n0;omega,hn,oT,o.S.mono m,o.L.mono m,o.R.mono m,o.C.mono m,o.F.mono m,o.X.mono m,o.N.mono m,by simpa using o.lT,by simpa using o.lS,by simpa using o.lN,by simpa using o.lW,o.lL,o.lR,o.lC,o.lF⟩
 unfold KE uW;simp only[];repeat' split
 ·exact {b with S:=(o.S.mono m).set hc _,lS:=by simpa using b.lS}
 ·exact {b with L:=(o.L.mono m).jat hc _,lL:=by simpa[jat] using b.lL,lR:=by simpa[jat] using b.lR}
 ·exact {b with R:=(o.R.mono m).jat hc _,lR:=by simpa[jat] using b.lR}
 ·exact {b with L:=(o.L.mono m).jat hc _,lL:=by simpa[jat] using b.lL,lR:=by simpa[jat] using b.lR,lW:=by simpa using b.lW}
 ·exact {b with C:=(o.C.mono m).jat hc _,lC:=by simpa[jat] using b.lC}
 ·exact b
 ·exact {b with F:=(o.F.mono m).jat hc _,lF:=by simpa[jat] using b.lF}
 ·exact {b with X:=(o.X.mono m).jl hc}
 ·exact {b with N:=(o.N.mono m).set hc _,lN:=by simpa using b.lN,lW:=by simpa using b.lW}
 ·exact b
 ·exact {b with N:=(o.N.mono m).mapIdx hc _,lN:=by simpa[AQ] using b.lN,lW:=by simpa[AQ] using b.lW}
 ·exact b
theorem Y5 {a b:Nat} (h:a=b):av a b=ajp:=by subst h;exact tu a
theorem Pk (l:List (List Int)) (i:Nat) (h:i<l.length):rX ((i:Int),l)=ajn (l.getD i [],l):=by
 unfold rX ck bk aP ax;simp only[];rw[uR (by omega)];simp only[dc,kN];rw[Yo (by simp;omega)];simp only[dc];rw[cg (cH h),cg (cH h),qi]
theorem r7 {n:Int} (l:List (List Int)) (i:Nat) (c:List Int) (h:i<l.length) (hl:zJ n l) (hc:En n c):ku ((i:Int),l,c)=ajn (jat l i c,c):=by
 unfold ku ck jf aP ax;simp only[];rw[pK (by omega)];simp only[cS,kN];rw[tL (by simp;omega)];simp only[cS];rw[cg (cH h),cg (cH h),qi,QR _ _ (hl i).lb hc.lb,cI,cg (cH h),cg (cH h),fx];rfl
theorem qf (l:List (List Int)) (i:Nat) (c:List Int):(jat l i c).length=l.length:=by simp[jat]
theorem T4 {n:Int} (h:HS) (u:Nat) (c:List Int) (h1:u<h.N.length) (I:u<h.W.length) (hc:En n c):uK ((u:Int),h.X,h.T,h.S,h.L,h.R,h.C,h.F,h.N,h.W,c)=ajn (h.X,h.T,h.S,h.L,h.R,h.C,h.F,h.N.set u c,h.W.set u (-1),c):=by
 unfold uK Prod.p2 Prod.p3 Prod.p4 Prod.p5 Prod.p6 Prod.p7 Prod.p8 Prod.p9 Prod.q10 ck;simp only[];rw[LI c hc.lb,cI,cg (cH h1),cg (cH h1),cg (cH I),cg (cH I),fx,fx]
theorem UC (I:WTc) (i:Nat):aD (T:=.st (.pr .str (.int .i64))) I (i:Int)=I.getD i ([],0):=sQ (T:=.st (.pr .str (.int .i64))) I i
theorem aal (I:List (List UInt8×Int×Int×Bool×Int)) (i:Nat):aD (T:=.st (.pr .str (.pr (.int .i64) (.pr (.int .i64) (.pr .bool (.int .i64)))))) I (i:Int)=I.getD i ([],0,0,ajq,0):=sQ (T:=.st (.pr .str (.pr (.int .i64) (.pr (.int .i64) (.pr .bool (.int .i64)))))) I i
abbrev ETp:Type:=Int×Int×Int×Int×Int×List Int×List Int
structure EvT (e:EV) (x:ETp):Prop where
 th:x.1=(e.th:Int)
 k:x.2.1=(e.k:Int)
 ob:e.k∈[3,4,6,7,8,9,10,11,16,17,18,19,20,21,22,23]->x.2.2.1=(e.ob:Int)
 va:x.2.2.2.1=e.va
theorem Uu {k:Nat} {z:Int} (I:z=(k:Int)) (h1:1<=k) (J:k<=23):(k=1/\z=1)\/(k=2/\z=2)\/(k=3/\z=3)\/(k=4/\z=4)\/(k=5/\z=5)\/(k=6/\z=6)\/(k=7/\z=7)\/(k=8/\z=8)\/(k=9/\z=9)\/(k=10/\z=10)\/(k=11/\z=11)\/(k=12/\z=12)\/(k=13/\z=13)\/(k=14/\z=14)\/(k=15/\z=15)\/(k=16/\z=16)\/(k=17/\z=17)\/(k=18/\z=18)\/(k=19/\z=19)\/(k=20/\z=20)\/(k=21/\z=21)\/(k=22/\z=22)\/(k=23/\z=23):=by
 have h:k=1\/k=2\/k=3\/k=4\/k=5\/k=6\/k=7\/k=8\/k=9\/k=10\/k=11\/k=12\/k=13\/k=14\/k=15\/k=16\/k=17\/k=18\/k=19\/k=20\/k=21\/k=22\/k=23:=by omega
 subst I;rcases h with rfl|rfl|rfl|rfl|rfl|rfl|rfl|rfl|rfl|rfl|rfl|rfl|rfl|rfl|rfl|rfl|rfl|rfl|rfl|rfl|rfl|rfl|rfl<;>simp
theorem Tx (a:Nat):(av a a&&ajp)=ajp:=by rw[Y5 rfl];rfl
theorem Zk {n:Int} {w:E6} {h:HS} (o:W9 n h) {e:EV} (ok:EOK w h e) {x:ETp} (hx:EvT e x):sH (x,h.X,w,h.T,h.S,h.L,h.R,h.C,h.F,h.N,h.W)=ajn (zP w h e,x,h.X,w,h.T,h.S,h.L,h.R,h.C,h.F,h.N,h.W):=by
 obtain⟨x1,x2,M,x4,x5,x6,x7⟩:=x;obtain⟨w1,w2,U,w4,w5,w6⟩:=w;obtain⟨th,k,ob,va⟩:=e;obtain⟨q1,Y,q3,q4⟩:=hx;simp only at q1 Y q3 q4;subst q1 q4;have t1:=ok.th;simp only at t1;have fS:eS (th:Int) h.S.length=ajp:=cH (by rw[o.lS];exact t1);have fN:eS (th:Int) h.N.length=ajp:=cH (by rw[o.lN];exact t1);have fT:k=21->eS (ob:Int) h.T.length=ajp/\M=(ob:Int):=λe=>by
  subst e;have:=ok.sp (.inr rfl);exact⟨cH this,q3 (by decide)⟩
 have fL:(k=6\/k=10\/k=8)->eS (ob:Int) h.L.length=ajp/\eS (ob:Int) h.R.length=ajp/\M=(ob:Int):=λe=>by
  have h1:ob<h.L.length:=ok.lk (by rcases e with rfl|rfl|rfl<;>(simp only[];omega));exact⟨cH h1,cH (by rw[o.lR];exact h1),q3 (by rcases e with rfl|rfl|rfl<;>decide)⟩
 have fC:k=3->eS (ob:Int) h.C.length=ajp/\M=(ob:Int):=λe=>by
  subst e;have:=(ok.ce (.inl rfl)).1;exact⟨cH this,q3 (by decide)⟩
 have fF:k=23->eS (ob:Int) h.F.length=ajp/\M=(ob:Int):=λe=>by
  subst e;have:=ok.fu (.inr rfl);exact⟨cH this,q3 (by decide)⟩
 unfold sH zP Prod.p10 Prod.p2 Prod.p3 Prod.p4 Prod.p5 Prod.p6 Prod.p7 Prod.p8 Prod.p9 Prod.q10 Prod.q11 Prod.q5 Prod.q6 ck aX vA bn ax;rcases Uu Y ok.k1 ok.k2 with ⟨e,e'⟩|⟨e,e'⟩|⟨e,e'⟩|⟨e,e'⟩|⟨e,e'⟩|⟨e,e'⟩|⟨e,e'⟩|⟨e,e'⟩|⟨e,e'⟩|⟨e,e'⟩|⟨e,e'⟩|⟨e,e'⟩|⟨e,e'⟩|⟨e,e'⟩|⟨e,e'⟩|⟨e,e'⟩|⟨e,e'⟩|⟨e,e'⟩|⟨e,e'⟩|⟨e,e'⟩|⟨e,e'⟩|⟨e,e'⟩|⟨e,e'⟩<;>clear Y<;>subst e<;>subst e'
 case inr.inr.inr.inr.inr.inr.inr.inr.inr.inr.inr.inr.inr.inr.inr.inr.inl=>
  have q3:=q3 (by decide);subst q3;obtain⟨d1,d2,Z⟩:=ok.cd (.inr rfl);simp only at d1 d2 Z;have d4:ZM U ob<h.R.length:=by rw[o.lR];exact Z
  have e1:(U.getD ob ([],0)).2=((ZM U ob:Nat):Int):=by unfold ZM;omega
  simp only[aO,decide_false,decide_true,cS,dc,kN,cg,cH d1,UC,e1,Pk _ _ Z,Pk _ _ d4,cI,Tx,fN,qi];rfl
 case inr.inr.inl=>
  obtain⟨I,rfl⟩:=fC rfl;simp only[aO,decide_false,decide_true,cS,dc,kN,cg,I,qi];rfl
 case inr.inr.inr.inr.inr.inr.inr.inr.inr.inr.inr.inr.inr.inr.inr.inr.inr.inr.inr.inr.inr.inr=>
  obtain⟨I,rfl⟩:=fF rfl;simp only[aO,decide_false,decide_true,cS,dc,kN,cg,I,qi];rfl
 case inr.inr.inr.inr.inr.inr.inr.inr.inr.inr.inr.inr.inr.inr.inr.inr.inr.inr.inr.inr.inl=>
  obtain⟨I,rfl⟩:=fT rfl;simp only[aO,decide_false,decide_true,cS,dc,kN,cg,I,qi];rfl
 case inl=>
  simp only[aO,decide_false,decide_true,cS,dc,kN,cg,fS,qi];rfl
 case inr.inr.inr.inr.inr.inl=>
  obtain⟨I,J,rfl⟩:=fL (by decide);simp only[aO,decide_false,decide_true,cS,dc,kN,cg,I,J,qi];rfl
 case inr.inr.inr.inr.inr.inr.inr.inr.inr.inl=>
  obtain⟨I,J,rfl⟩:=fL (by decide);simp only[aO,decide_false,decide_true,cS,dc,kN,cg,I,J,qi];rfl
 case inr.inr.inr.inr.inr.inr.inr.inl=>
  obtain⟨I,J,rfl⟩:=fL (by decide);simp only[aO,decide_false,decide_true,cS,dc,kN,cg,I,J,qi];rfl
 all_goals
  simp only[aO,decide_false,decide_true,cS,dc,kN];rfl
theorem KY {σ R:Type} {f:σ->Option (σ⊕R)} {x0:σ} {r:R} (n:Nat) (hn:n<18446744073709551616) (st:Nat->σ) (I:x0=st 0) (h0:∀ i,i<n->f (st i)=ajn (.inl (st (i+1)))) (h1:f (st n)=ajn (.inr r)):fk f x0=ajn r:=by
 subst I;exact uP n hn st h0 h1
def Jp {α:Type} (p:Nat->Bool) (c:α) (u:Nat) (l:List α):List α:=l.mapIdx λk x=>if decide (k<u)&&p k then c else x
theorem Xv {α:Type} (p:Nat->Bool) (c:α) (l:List α):Jp p c 0 l=l:=by
 unfold Jp;apply cV
 ·simp
 ·intro i h1 I;simp
theorem Gh {α:Type} (p:Nat->Bool) (c:α) (u:Nat) (l:List α):(Jp p c u l).length=l.length:=by simp[Jp]
theorem NG {α:Type} (p:Nat->Bool) (c:α) (u:Nat) (l:List α) (h:l.length<=u):Jp p c u l=l.mapIdx λk x=>if p k then c else x:=by
 unfold Jp;apply cV
 ·simp
 ·intro i h1 I;simp only[List.length_mapIdx] at h1;simp only[List.getElem_mapIdx];rw[show decide (i<u)=ajp from decide_eq_true (by omega)];rfl
theorem T2 {α:Type} (p:Nat->Bool) (c:α) (u:Nat) (l:List α) (hp:p u=ajp):(Jp p c u l).set u c=Jp p c (u+1) l:=by
 unfold Jp;apply cV
 ·simp
 ·intro i h1 I;simp only[tB,List.getElem_mapIdx];by_cases e:u=i
  ·subst e;simp[hp]
  ·rw[if_neg e];by_cases h:i<u
   ·rw[decide_eq_true h,decide_eq_true (show i<u+1 by omega)]
   ·rw[decide_eq_false h,decide_eq_false (show ¬i<u+1 by omega)]
theorem NF {α:Type} (p:Nat->Bool) (c:α) (u:Nat) (l:List α) (hp:p u=ajq):Jp p c u l=Jp p c (u+1) l:=by
 unfold Jp;apply cV
 ·simp
 ·intro i h1 I;simp only[List.getElem_mapIdx];by_cases e:u=i
  ·subst e;simp[hp]
  ·by_cases h:i<u
   ·rw[decide_eq_true h,decide_eq_true (show i<u+1 by omega)]
   ·rw[decide_eq_false h,decide_eq_false (show ¬i<u+1 by omega)]
theorem adp (p:Nat->Bool) (c:Int) (u:Nat) (l:List Int):(Jp p c u l).getD u 0=l.getD u 0:=by
 unfold Jp;rw[au,List.getElem?_mapIdx,au];cases l[u]? with
 |none=>rfl
 |some x=>simp
def HS.e (h:HS) (c:List Int):List Int×List (List Int)×List (List Int)×List (List Int)×List (List Int)×List (List Int)×List (List Int)×List (List Int)×List Int×List Int:=(h.X,h.T,h.S,h.L,h.R,h.C,h.F,h.N,h.W,c)
theorem YJ {n:Int} {w:E6} {h:HS} (o:W9 n h) (hn:n+1<=1000000) {e:EV} (ok:EOK w h e) {x:ETp} (hx:EvT e x) {c:List Int} (hc:En (n+1) c):qc ((w,x),h.e c)=ajn ((uW w h e c).e c):=by
 obtain⟨x1,x2,x3,I,x5,x6,x7⟩:=x;obtain⟨M,w2,U,w4,w5,w6⟩:=w;obtain⟨th,k,ob,va⟩:=e;obtain⟨q1,q2,q3,q4⟩:=hx;simp only at q1 q2 q3 q4;subst q1 q4;have t1:=ok.th;simp only at t1;have m:n<=n+1:=by omega
 have fT:eS (th:Int) h.T.length=ajp:=cH t1;have fW:eS (th:Int) h.W.length=ajp:=cH (by rw[o.lW];exact t1);have J:=LI c hc.lb;unfold qc yA HS.e Prod.p10 Prod.p11 Prod.p12 Prod.p13 Prod.p14 Prod.p15 Prod.p16 Prod.p17 Prod.p2 Prod.p3 Prod.p4 Prod.p5 Prod.p6 Prod.p7 Prod.p8 Prod.p9 Prod.q10 Prod.q16 Prod.q17 Prod.q18 Prod.q5 Prod.q7 Prod.q9 ck aX bk jf vA bn aP cu ax ca;rcases Uu q2 ok.k1 ok.k2 with ⟨e,e'⟩|⟨e,e'⟩|⟨e,e'⟩|⟨e,e'⟩|⟨e,e'⟩|⟨e,e'⟩|⟨e,e'⟩|⟨e,e'⟩|⟨e,e'⟩|⟨e,e'⟩|⟨e,e'⟩|⟨e,e'⟩|⟨e,e'⟩|⟨e,e'⟩|⟨e,e'⟩|⟨e,e'⟩|⟨e,e'⟩|⟨e,e'⟩|⟨e,e'⟩|⟨e,e'⟩|⟨e,e'⟩|⟨e,e'⟩|⟨e,e'⟩<;>clear q2<;>subst e<;>subst e'
 case inr.inr.inr.inr.inr.inr.inr.inr.inr.inr.inr.inr.inr.inr.inr.inr.inr.inr.inr.inl=>
  obtain rfl:=q3 (by decide);have f:eS (ob:Int) h.S.length=ajp:=cH (by rw[o.lS];exact ok.sp (.inl rfl));simp only[aO,decide_false,decide_true,cS,dc,kN,cI,cg,J,fT,f,fx];rfl
 case inr.inr.inr.inr.inr.inr.inl=>
  obtain rfl:=q3 (by decide);have f:ob<h.L.length:=ok.lk (by simp only[];omega);simp only[aO,decide_false,decide_true,cS,dc,kN,cI,cg,J,fT,fx,r7 _ _ _ f (o.L.mono m) hc,qf,Tx];rfl
 case inr.inr.inr.inr.inr.inr.inr.inr.inr.inr.inl=>
  obtain rfl:=q3 (by decide);have f:ob<h.L.length:=ok.lk (by simp only[];omega);simp only[aO,decide_false,decide_true,cS,dc,kN,cI,cg,J,fT,fx,r7 _ _ _ f (o.L.mono m) hc,qf,Tx];rfl
 case inr.inr.inr.inr.inr.inr.inr.inr.inl=>
  obtain rfl:=q3 (by decide);have f:ob<h.R.length:=by rw[o.lR];exact ok.lk (by simp only[];omega)
  simp only[aO,decide_false,decide_true,cS,dc,kN,cI,cg,J,fT,fx,r7 _ _ _ f (o.R.mono m) hc,qf,Tx];rfl
 case inr.inr.inr.inr.inr.inr.inr.inr.inr.inr.inr.inr.inr.inr.inr.inl=>
  obtain rfl:=q3 (by decide);obtain⟨Z,d2,d3⟩:=ok.cd (.inl rfl);simp only at Z d2 d3;have e1:(U.getD ob ([],0)).2=((ZM U ob:Nat):Int):=by unfold ZM;omega
  simp only[aO,decide_false,decide_true,cS,dc,kN,cI,cg,J,fT,fW,fx,cH Z,UC,e1,r7 _ _ _ d3 (o.L.mono m) hc,qf,Tx];rfl
 case inr.inr.inr.inl=>
  obtain rfl:=q3 (by decide);obtain⟨Z,d2⟩:=ok.ce (.inr rfl);simp only at Z d2;simp only[aO,decide_false,decide_true,cS,dc,kN,cI,cg,J,fT,fx,cH d2,aal];cases hv:(M.getD ob ([],0,0,ajq,0)).2.2.2.1 with
  |true=>
   simp only[cS,cI,cg,r7 _ _ _ Z (o.C.mono m) hc,qf,Tx,kN];have Y:uW (M,w2,U,w4,w5,w6) h ⟨th,4,ob,I⟩ c=if Xy M ob then {h with T:=h.T.set th c,C:=jat h.C ob c} else {h with T:=h.T.set th c}:=rfl
   rw[Y,show Xy M ob=ajp from hv];rfl
  |false=>
   simp only[dc,kN];have Y:uW (M,w2,U,w4,w5,w6) h ⟨th,4,ob,I⟩ c=if Xy M ob then {h with T:=h.T.set th c,C:=jat h.C ob c} else {h with T:=h.T.set th c}:=rfl
   rw[Y,show Xy M ob=ajq from hv];rfl
 case inr.inr.inr.inr.inr.inr.inr.inr.inr.inr.inr.inr.inr.inr.inr.inr.inr.inr.inr.inr.inr.inl=>
  obtain rfl:=q3 (by decide);have f:ob<h.F.length:=ok.fu (.inl rfl);simp only[aO,decide_false,decide_true,cS,dc,kN,cI,cg,J,fT,fx,r7 _ _ _ f (o.F.mono m) hc,qf,Tx];rfl
 case inr.inr.inr.inr.inr.inr.inr.inr.inr.inr.inr.inr.inl=>
  simp only[aO,decide_false,decide_true,cS,dc,kN,cI,cg,J,fT,fx,QR _ _ (o.X.mono m).lb hc.lb];rfl
 case inr.inr.inr.inr.inr.inr.inr.inr.inr.inr.inr.inr.inr.inr.inr.inr.inr.inl=>
  simp only[aO,decide_false,decide_true,cS,dc,kN,cI,cg,J,fT,fx];have Y:uW (M,w2,U,w4,w5,w6) h ⟨th,18,ob,I⟩ c=if 0<=I/\I<h.N.length then {h with T:=h.T.set th c,N:=h.N.set I.toNat c,W:=h.W.set I.toNat (-1)} else {h with T:=h.T.set th c}:=rfl
  rw[Y];by_cases h0:0<=I
  ·by_cases h1:I<h.N.length
   ·rw[pK h0];simp only[cS,kN];rw[tL (show I<aJ h.N.length from h1)];obtain⟨v,rfl⟩:∃ v:Nat,I=(v:Int):=⟨I.toNat,by omega⟩
    have v1:v<h.N.length:=by omega
    have v2:v<h.W.length:=by rw[o.lW,<-o.lN];exact v1
    have:=T4 {h with T:=h.T.set th c} v c v1 v2 hc;simp only[] at this;simp only[cS,this,cI,qW,cg,Y5 rfl,jM,kN];rw[if_pos ⟨h0,h1⟩];rfl
   ·rw[pK h0];simp only[cS,kN];rw[uR (show aJ h.N.length<=I from Int.not_lt.1 h1)];simp only[dc,kN];rw[if_neg (λq=>h1 q.2)]
  ·rw[Yo (by omega)];simp only[dc,kN];rw[if_neg (λq=>h0 q.1)]
 case inr.inr.inr.inr.inr.inr.inr.inr.inr.inr.inr.inr.inr.inr.inr.inr.inr.inr.inl=>
  obtain rfl:=q3 (by decide);simp only[aO,decide_false,decide_true,cS,dc,kN,cI,cg,J,fT,fx];rw[KY (r:=bM (h.X,h.T.set th c,h.S,h.L,h.R,h.C,h.F,Jp (λu=>decide (h.W.getD u 0=(ob:Int))) c h.W.length h.N,Jp (λu=>decide (h.W.getD u 0=(ob:Int))) (-1) h.W.length h.W,c)) h.W.length (by have:=o.lW;have:=o.lT;omega)
   (λi=>((i:Int),h.X,h.T.set th c,h.S,h.L,h.R,h.C,h.F,Jp (λu=>decide (h.W.getD u 0=(ob:Int))) c i h.N,Jp (λu=>decide (h.W.getD u 0=(ob:Int))) (-1) i h.W,c,(th:Int),(19:Int),(ob:Int),I,x5,x6,x7)) ?_ ?_ ?_]
  ·simp only[kN];rw[NG _ _ _ h.W (bF _),NG _ _ _ h.N (by rw[o.lN,o.lW];exact bF _)];rfl
  ·simp only[Xv];rfl
  ·intro i hi;simp only[];have hN:i<(Jp (λu=>decide (h.W.getD u 0=(ob:Int))) c i h.N).length:=by rw[Gh,o.lN,<-o.lW];exact hi
   have hW:i<(Jp (λu=>decide (h.W.getD u 0=(ob:Int))) (-1) i h.W).length:=by rw[Gh];exact hi
   rw[tL (by simp;omega),cS,cg (cH hW),cg (cH hW),ae5,adp];have ws:=oz hi (show h.W.length<=1099511627776 by have:=o.lW;have:=o.lT;omega);by_cases hp:h.W.getD i 0=(ob:Int)
   ·rw[decide_eq_true hp,cS];have:=T4 {h with T:=h.T.set th c,N:=Jp (λu=>decide (h.W.getD u 0=(ob:Int))) c i h.N,W:=Jp (λu=>decide (h.W.getD u 0=(ob:Int))) (-1) i h.W} i c hN hW hc;simp only[] at this;rw[this,cI,cg (by simp only[qW,Y5 rfl,jM]),kN,ws,T2 _ _ _ _ (decide_eq_true hp),T2 _ _ _ _ (decide_eq_true hp)]
   ·rw[decide_eq_false hp,dc,kN,ws,<-NF _ _ _ _ (decide_eq_false hp),<-NF _ _ _ _ (decide_eq_false hp)]
  ·simp only[];rw[uR (by simp),dc]
 all_goals
  simp only[aO,decide_false,decide_true,cS,dc,kN,cI,cg,J,fT,fx];rfl
theorem Sm (l:List (List Int)) (c:List Int) (i:Nat) (hi:i<l.length):(l.take (i+1)).foldl jl c=jl ((l.take i).foldl jl c) (l.getD i []):=by
 rw[List.take_add_one,eD,ar hi,au,ar hi];rfl
theorem NQ (w:E6) (h:HS) (e:EV):(zP w h e).length<=3:=by
 unfold zP;repeat' split
 all_goals simp
theorem aee {n:Int} {w:E6} {h:HS} (o:W9 n h) (e:EV) (i:Nat):0<=((zP w h e).foldl jl (h.T.getD e.th [])).getD i 0/\((zP w h e).foldl jl (h.T.getD e.th [])).getD i 0<9223372036854775807:=by
 have:=(BL _ _ (o.T e.th) (Rn (w:=w) o e)).2 i;have:=o.n1;omega
theorem Eh (w:E6) (h:HS) (e:EV) (c:List Int):(uW w h e c).T.length=h.T.length/\(uW w h e c).S.length=h.S.length/\(uW w h e c).L.length=h.L.length/\(uW w h e c).R.length=h.R.length/\(uW w h e c).C.length=h.C.length/\(uW w h e c).F.length=h.F.length/\(uW w h e c).N.length=h.N.length/\(uW w h e c).W.length=h.W.length:=by
 unfold uW;simp only[];repeat' split
 all_goals simp[jat,AQ]
theorem abp {n:Int} {w:E6} {h:HS} (o:W9 n h) (hn:n+1<=1000000) {e:EV} (ok:EOK w h e) {x:ETp} (hx:EvT e x):pf (w,h.t,x)=ajn ((KE w h e).1.t,(KE w h e).2):=by
 have s2:=Zk o ok hx;have hce:En (n+1) (Cp w h e):=Tg o ok.th4;have en:=YJ o hn ok hx hce;have cp:=Wl h.t o.GH;have sl:=NQ w h e;have sE:=Rn (w:=w) o e;have hlen:=Eh w h e (Cp w h e);obtain⟨x1,x2,x3,x4,x5,x6,x7⟩:=x;obtain⟨Z,Y,U,M,J,I⟩:=w;have t1:=hx.th;simp only at t1;subst t1;unfold HS.t at cp;simp only[] at cp;have fT:eS (e.th:Int) h.T.length=ajp:=cH ok.th;unfold pf BI HS.t Prod.p10 Prod.p11 Prod.p2 Prod.p3 Prod.p4 Prod.p5 Prod.p6 Prod.p7 Prod.p8 Prod.p9 Prod.q11 Prod.q12 Prod.q5 Prod.q6 Prod.q8 Prod.q9 ck bk vA bn aP cu ca;simp only[];rw[cp,cI];simp only[];rw[cg fT,cg fT,s2,cI];simp only[];rw[cg (by simp only[Y5 rfl,jM])];refine KY (zP (Z,Y,U,M,J,I) h e).length (by omega) (λi=>((i:Int),(Z,Y,U,M,J,I),((e.th:Int),x2,x3,x4,x5,x6,x7),h.X,((zP (Z,Y,U,M,J,I) h e).take i).foldl jl (h.T.getD e.th []),h.T,h.S,h.L,h.R,h.C,h.F,h.N,h.W)) ?_ ?_ ?_
 ·simp only[qi,List.take_zero,List.foldl_nil];rfl
 ·intro i hi;simp only[];rw[tL (by simp;omega),cS,cg (cH hi),qi,(BL _ _ (o.T e.th) (λy hy=>sE y (ir hy))).join (sE _ (HE hi)),cI,oz hi (by omega),Sm _ _ _ hi]
 ·simp only[];rw[uR (by simp),dc,eT (bF _)];have hl:=aee (w:=(Z,Y,U,M,J,I)) o e e.th;rw[abm _ e.th (BL _ _ (o.T e.th) sE).lb ok.th4 hl.1 hl.2,cI];unfold HS.e at en;unfold Cp at en hlen;rw[en,cI];simp only[];rw[cg (by rw[hlen.1,hlen.2.1,hlen.2.2.1,hlen.2.2.2.1,hlen.2.2.2.2.1,hlen.2.2.2.2.2.1,hlen.2.2.2.2.2.2.1,hlen.2.2.2.2.2.2.2];simp only[Y5 rfl,jM])];rfl
abbrev uy:Ty:=(.st (.pr (.int .i64) (.sl (.st (.pr (.int .i64) (.pr (.int .i64) (.pr (.int .i64) (.pr (.int .i64) (.pr (.int .i64) (.int .i64))))))))))
abbrev zN:Ty:=(.st (.pr (.int .i64) (.pr (.int .i64) (.pr (.int .i64) (.pr (.int .i64) (.pr (.int .i64) (.int .i64)))))))
abbrev s7:Ty:=(.st (.pr (.int .i64) (.pr (.sl (.int .i64)) (.pr (.sl (.sl (.int .i64))) (.int .i64)))))
abbrev xi:Ty:=(.st (.pr .str (.pr (.int .i64) (.pr (.sl .str) (.sl .sm)))))
abbrev tDc:Ty:=(.st (.pr (.int .i64) (.pr (.int .i64) (.pr .str (.pr (.int .i64) (.pr (.int .i64) .str))))))
abbrev tE:Ty:=(.st (.pr (.int .i64) (.pr (.int .i64) (.pr (.int .i64) (.pr (.int .i64) (.pr (.int .i64) (.pr (.sl (.int .i64)) (.sl (.int .i64)))))))))
abbrev Rl:Ty:=(.st (.pr .str .bool))
abbrev NI:Ty:=(.st (.pr .str (.pr (.int .i64) (.pr (.int .i64) (.pr .bool (.int .i64))))))
abbrev wB:Ty:=(.st (.pr (.int .i64) (.pr (.int .i64) (.int .i64))))
abbrev Rc:Ty:=(.st (.pr .str (.int .i64)))
abbrev yH:Ty:=(.st (.pr (.int .i64) (.sl (.int .i64))))
abbrev ja:Ty:=(.st (.pr (.int .i64) (.pr (.int .i64) .bool)))
def Ok {R:Type} (o:Option R) (Q:R->Prop):Prop:=∃ y,o=ajn y/\Q y
theorem Ok.mono {R:Type} {o:Option R} {Q Q':R->Prop} (h:Ok o Q) (hq:∀ y,Q y->Q' y):Ok o Q':=by obtain⟨y,h1,I⟩:=h;exact⟨y,h1,hq y I⟩
theorem ah {R:Type} {y:R} {Q:R->Prop} (h:Q y):Ok (ajn y) Q:=⟨y,rfl,h⟩
theorem ah3 {R:Type} {o:Option R} {y:R} {Q:R->Prop} (e:o=ajn y) (h:Q y):Ok o Q:=⟨y,e,h⟩
theorem aW {R:Type} {b:Bool} {k:Option R} {Q:R->Prop} (h:b=ajp) (hk:Ok k Q):Ok (chk b λ_=>k) Q:=by subst h;exact hk
theorem aK {R:Type} {b:Bool} {t f:Option R} {Q:R->Prop} (ht:b=ajp->Ok t Q) (hf:b=ajq->Ok f Q):Ok (bcase b t f) Q:=by
 cases b with
 |true=>exact ht rfl
 |false=>exact hf rfl
theorem eC {R:Type} {b:Bool} {t f:Option R} {Q:R->Prop} (h:b=ajp) (ht:Ok t Q):Ok (bcase b t f) Q:=by subst h;exact ht
theorem eM {R:Type} {b:Bool} {t f:Option R} {Q:R->Prop} (h:b=ajq) (hf:Ok f Q):Ok (bcase b t f) Q:=by subst h;exact hf
theorem al {α R:Type} {o:Option α} {k:α->Option R} {P:α->Prop} {Q:R->Prop} (h:Ok o P) (hk:∀ x,P x->Ok (k x) Q):Ok (obind o k) Q:=by
 obtain⟨x,rfl,I⟩:=h;exact hk x I
theorem aN {α R:Type} {o:Option α} {k:α->Option R} {x:α} {Q:R->Prop} (h:o=ajn x) (hk:Ok (k x) Q):Ok (obind o k) Q:=by subst h;exact hk
theorem aM {α R:Type} {x:α} {k:α->Option R} {Q:R->Prop} (h:Ok (k x) Q):Ok (lt x k) Q:=h
theorem aQ {α R:Type} {o:Option (R⊕α)} {k:α->Option R} {Q:R->Prop} (P:α->Prop) (h:Ok o λr=>match r with|.inl r=>Q r|.inr x=>P x) (hk:∀ x,P x->Ok (k x) Q):Ok (jn o k) Q:=by
 obtain⟨r,rfl,hr⟩:=h;cases r with
 |inl r=>exact⟨r,rfl,hr⟩
 |inr x=>exact hk x hr
theorem fR {α R:Type} {o:Option (R⊕α)} {k:α->Option R} {Q:R->Prop} (h:Ok o λr=>match r with|.inl r=>Q r|.inr x=>Ok (k x) Q):Ok (jn o k) Q:=aQ (λx=>Ok (k x) Q) h λ_ h=>h
theorem Z8 {α R:Type} {a b:α} {r:Option R} {Q:R->Prop} (e:a=b) (h:Ok r Q):Ok (same a b r) Q:=by unfold same;rw[if_pos e];exact h
theorem oS {σ R:Type} {f:σ->Option (σ⊕R)} {Q:R->Prop} (μ:σ->Nat) (I:σ->Prop) (h:∀ x,I x->Ok (f x) λr=>match r with|.inl y=>I y/\μ y<μ x|.inr r=>Q r) {x:σ} (M:I x):Ok (iter f x) Q:=by
 have key:∀ n x,μ x<n->I x->∃ m r,iterN f m x=ajn r/\Q r:=by
  intro n;induction n with
  |zero=>intro x hm;omega
  |succ n U=>
   intro x hm M;obtain⟨r,h1,J⟩:=h x M;cases r with
   |inl y=>
    obtain⟨m,r,Z,Y⟩:=U y (by have:=J.2;omega) J.1;exact⟨m+1,r,by rw[iterN,h1];exact Z,Y⟩
   |inr r=>exact⟨1,r,by rw[iterN,h1],J⟩
 obtain⟨m,r,h1,J⟩:=key (μ x+1) x (AG _) M;exact⟨r,xw h1,J⟩
theorem bX {σ R:Type} {f:σ->Option (σ⊕R)} {Q:R->Prop} (n:Nat) (I:Nat->σ->Prop) (h0:∀ i x,i<n->I i x->Ok (f x) λr=>match r with|.inl y=>I (i+1) y|.inr r=>Q r) (h1:∀ x,I n x->Ok (f x) λr=>match r with|.inl _=>False|.inr r=>Q r) {x:σ} (U:I 0 x):Ok (iter f x) Q:=by
 have key:∀ m i x,i+m=n->I i x->∃ k r,iterN f k x=ajn r/\Q r:=by
  intro m;induction m with
  |zero=>
   intro i x hi U;have:i=n:=by omega
   subst this;obtain⟨r,M,J⟩:=h1 x U;cases r with
   |inl y=>exact J.elim
   |inr r=>exact⟨1,r,by rw[iterN,M],J⟩
  |succ m Y=>
   intro i x hi U;obtain⟨r,M,J⟩:=h0 i x (by omega) U;cases r with
   |inl y=>
    obtain⟨k,r,g3,Z⟩:=Y (i+1) y (by omega) J;exact⟨k+1,r,by rw[iterN,M];exact g3,Z⟩
   |inr r=>exact⟨1,r,by rw[iterN,M],J⟩
 obtain⟨m,r,M,J⟩:=key n 0 x (by omega) U;exact⟨r,xw M,J⟩
def itQ {σ R:Type} (f:σ->Option (σ⊕R)) (Q:R->Prop):σ⊕R->Prop
 |.inl y=>Ok (iter f y) Q
 |.inr r=>Q r
def jnQ {α R:Type} (k:α->Option R) (Q:R->Prop):R⊕α->Prop
 |.inl r=>Q r
 |.inr x=>Ok (k x) Q
theorem Z7 {σ R:Type} {f:σ->Option (σ⊕R)} {x:σ} {Q:R->Prop} (h:Ok (f x) (itQ f Q)):Ok (iter f x) Q:=by
 obtain⟨r,h1,J⟩:=h;cases r with
 |inr r=>exact⟨r,xw (n:=1) (by rw[iterN,h1]),J⟩
 |inl y=>
  obtain⟨z,I,M⟩:=J;unfold iter at I;split at I
  ·exact⟨z,xw (n:=_+1) (by rw[iterN,h1];exact I),M⟩
  ·cases I
theorem Uq {σ R:Type} {f:σ->Option (σ⊕R)} {y:σ} {Q:R->Prop} (h:Ok (iter f y) Q):Ok (ajn (.inl y)) (itQ f Q):=⟨_,rfl,h⟩
theorem Up {σ R:Type} {f:σ->Option (σ⊕R)} {r:R} {Q:R->Prop} (h:Ok (ajn r) Q):Ok (ajn (.inr r)) (itQ f Q):=by
 obtain⟨_,h1,I⟩:=h;cases h1;exact⟨_,rfl,I⟩
theorem Un {α R:Type} {o:Option (R⊕α)} {k:α->Option R} {Q:R->Prop} (h:Ok o (jnQ k Q)):Ok (jn o k) Q:=by
 obtain⟨r,rfl,hr⟩:=h;cases r with
 |inl r=>exact⟨r,rfl,hr⟩
 |inr x=>exact hr
theorem Uo {α R:Type} {r:R} {k:α->Option R} {Q:R->Prop} (h:Ok (ajn r) Q):Ok (ajn (.inl r)) (jnQ k Q):=by
 obtain⟨_,h1,I⟩:=h;cases h1;exact⟨_,rfl,I⟩
theorem Um {α R:Type} {x:α} {k:α->Option R} {Q:R->Prop} (h:Ok (k x) Q):Ok (ajn (.inr x)) (jnQ k Q):=⟨_,rfl,h⟩
def oQ {α R:Type} (k:α->Option R) (Q:R->Prop) (x:α):Prop:=Ok (k x) Q
theorem Of {α R:Type} {o:Option α} {k:α->Option R} {Q:R->Prop} (h:Ok o (oQ k Q)):Ok (obind o k) Q:=al h λ_ h=>h
theorem Oe {α R:Type} {x:α} {k:α->Option R} {Q:R->Prop} (h:Ok (k x) Q):Ok (ajn x) (oQ k Q):=⟨_,rfl,h⟩
theorem aac {j:Int} {n:Nat}:eS j n=ajp↔0<=j/\j<n:=by simp[eS,cD,eX]
theorem Mi {a b:Int}:cD a b=ajp↔a<=b:=by simp[cD]
theorem rN {a b:Int}:eX a b=ajp↔a<b:=by simp[eX]
theorem e9 {a b:Int}:eX a b=ajq↔b<=a:=by simp[eX]
theorem kP {a b:Int}:cD a b=ajq↔b<a:=by simp[cD]
theorem Vl {n b:Nat}:aT n b=ajp↔n<=1099511627776/\n*b<=1099511627776:=by simp[aT]
theorem co {R:Type} {o:Option R} {v:R} (h:Ok o (·=v)):o=ajn v:=by obtain⟨y,h1,I⟩:=h;rw[h1,I]
section steps
variable {R:Type} {k t f:Option R} {Q:R->Prop}
theorem aB {j:Int} {n:Nat} (h0:0<=j) (h1:j<n) (hk:Ok k Q):Ok (chk (eS j n) λ_=>k) Q:=aW (aac.2 ⟨h0,h1⟩) hk
theorem ba {n b:Nat} (h0:n<=1073741824) (h1:b<=1024) (hk:Ok k Q):Ok (chk (aT n b) λ_=>k) Q:=
 aW (Vl.2 ⟨by omega,cM (Nat.mul_le_mul h0 h1) (by omega)⟩) hk
theorem cY {a b:Bool} (h:Ok (chk a λ_=>chk b λ_=>k) Q):Ok (chk (a&&b) λ_=>k) Q:=by
 cases a with
 |true=>exact h
 |false=>obtain⟨y,h,_⟩:=h;cases h
theorem dY {a b:Int} (h:a<=b) (hk:Ok k Q):Ok (chk (cD a b) λ_=>k) Q:=aW (Mi.2 h) hk
theorem yp {a b:Int} (h:a<b) (hk:Ok k Q):Ok (chk (eX a b) λ_=>k) Q:=aW (rN.2 h) hk
theorem Ur {p:Prop} {i:Decidable p} (h:p) (hk:Ok k Q):Ok (chk (decide p) λ_=>k) Q:=aW (decide_eq_true h) hk
theorem xo {p:Prop} {i:Decidable p} (h:¬p) (hk:Ok k Q):Ok (chk (!decide p) λ_=>k) Q:=aW (by simp[h]) hk
theorem kn {a b:Nat} (h:a=b) (hk:Ok k Q):Ok (chk (av a b) λ_=>k) Q:=aW (by subst h;exact tu a) hk
theorem za (hk:Ok k Q):Ok (chk ajp λ_=>k) Q:=hk
theorem aI {a b:Int} (ht:a<b->Ok t Q) (hf:b<=a->Ok f Q):Ok (bcase (eX a b) t f) Q:=aK (λh=>ht (rN.1 h)) (λh=>hf (e9.1 h))
theorem eY {a b:Int} (ht:a<=b->Ok t Q) (hf:b<a->Ok f Q):Ok (bcase (cD a b) t f) Q:=aK (λh=>ht (Mi.1 h)) (λh=>hf (kP.1 h))
theorem aE {p:Prop} {i:Decidable p} (ht:p->Ok t Q) (hf:¬p->Ok f Q):Ok (bcase (decide p) t f) Q:=aK (λh=>ht (of_decide_eq_true h)) (λh=>hf (of_decide_eq_false h))
theorem bN {p:Prop} {i:Decidable p} (ht:¬p->Ok t Q) (hf:p->Ok f Q):Ok (bcase (!decide p) t f) Q:=aK (λh=>ht (by simpa using h)) (λh=>hf (by simpa using h))
theorem dB {b:Bool} (ht:b=ajq->Ok t Q) (hf:b=ajp->Ok f Q):Ok (bcase (!b) t f) Q:=aK (λh=>ht (by simpa using h)) (λh=>hf (by simpa using h))
theorem X0 (ht:Ok t Q):Ok (bcase ajp t f) Q:=ht
theorem eZ (hf:Ok f Q):Ok (bcase ajq t f) Q:=hf
end steps
structure IM (p q:Prop):Prop where
 h:p->q
inductive OS {R:Type}:Option R->(R->Prop)->Prop where
 |cand {a b:Bool} {k:Option R} {Q:R->Prop} (h:Ok (chk a λ_=>chk b λ_=>k) Q):OS (chk (a&&b) λ_=>k) Q
 |eS {j:Int} {n:Nat} {k:Option R} {Q:R->Prop} (h0:0<=j) (h1:j<n) (hk:Ok k Q):OS (chk (eS j n) λ_=>k) Q
 |room {n b:Nat} {k:Option R} {Q:R->Prop} (h0:n<=1073741824) (h1:b<=1024) (hk:Ok k Q):OS (chk (aT n b) λ_=>k) Q
 |cile {a b:Int} {k:Option R} {Q:R->Prop} (h:a<=b) (hk:Ok k Q):OS (chk (cD a b) λ_=>k) Q
 |cilt {a b:Int} {k:Option R} {Q:R->Prop} (h:a<b) (hk:Ok k Q):OS (chk (eX a b) λ_=>k) Q
 |cdec {p:Prop} {i:Decidable p} {k:Option R} {Q:R->Prop} (h:p) (hk:Ok k Q):OS (chk (decide p) λ_=>k) Q
 |cndec {p:Prop} {i:Decidable p} {k:Option R} {Q:R->Prop} (h:¬p) (hk:Ok k Q):OS (chk (!decide p) λ_=>k) Q
 |cbeq {a b:Nat} {k:Option R} {Q:R->Prop} (h:a=b) (hk:Ok k Q):OS (chk (av a b) λ_=>k) Q
 |cT {k:Option R} {Q:R->Prop} (hk:Ok k Q):OS (chk ajp λ_=>k) Q
 |lt {α:Type} {x:α} {k:α->Option R} {Q:R->Prop} (h:Ok (k x) Q):OS (lt x k) Q
 |b1 {t f:Option R} {Q:R->Prop} (h:Ok t Q):OS (bcase ajp t f) Q
 |b0 {t f:Option R} {Q:R->Prop} (h:Ok f Q):OS (bcase ajq t f) Q
 |eX {a b:Int} {t f:Option R} {Q:R->Prop} (ht:IM (a<b) (Ok t Q)) (hf:IM (b<=a) (Ok f Q)):OS (bcase (eX a b) t f) Q
 |cD {a b:Int} {t f:Option R} {Q:R->Prop} (ht:IM (a<=b) (Ok t Q)) (hf:IM (b<a) (Ok f Q)):OS (bcase (cD a b) t f) Q
 |dec {p:Prop} {i:Decidable p} {t f:Option R} {Q:R->Prop} (ht:IM p (Ok t Q)) (hf:IM (¬p) (Ok f Q)):OS (bcase (decide p) t f) Q
 |ndec {p:Prop} {i:Decidable p} {t f:Option R} {Q:R->Prop} (ht:IM (¬p) (Ok t Q)) (hf:IM p (Ok f Q)):OS (bcase (!decide p) t f) Q
 |not {b:Bool} {t f:Option R} {Q:R->Prop} (ht:IM (b=ajq) (Ok t Q)) (hf:IM (b=ajp) (Ok f Q)):OS (bcase (!b) t f) Q
 |bcase {b:Bool} {t f:Option R} {Q:R->Prop} (ht:IM (b=ajp) (Ok t Q)) (hf:IM (b=ajq) (Ok f Q)):OS (bcase b t f) Q
 |jc {α:Type} {o:Option (R⊕α)} {k:α->Option R} {Q:R->Prop} (h:Ok o λr=>match r with|.inl r=>Q r|.inr x=>Ok (k x) Q):OS (jn o k) Q
 |some {y:R} {Q:R->Prop} (h:Q y):OS (ajn y) Q
theorem OS.ok {R:Type} {o:Option R} {Q:R->Prop} (h:OS o Q):Ok o Q:=by
 cases h with
 |cand h=>exact cY h
 |eS a b h=>exact aB a b h
 |room a b h=>exact ba a b h
 |cile a h=>exact dY a h
 |cilt a h=>exact yp a h
 |cdec a h=>exact Ur a h
 |cndec a h=>exact xo a h
 |cbeq a h=>exact kn a h
 |cT h=>exact h
 |lt h=>exact h
 |b1 h=>exact h
 |b0 h=>exact h
 |eX a b=>exact aI a.h b.h
 |cD a b=>exact eY a.h b.h
 |dec a b=>exact aE a.h b.h
 |ndec a b=>exact bN a.h b.h
 |not a b=>exact dB a.h b.h
 |bcase a b=>exact aK a.h b.h
 |jc h=>
  obtain⟨r,e,h⟩:=h;exact fR ⟨r,e,by cases r<;>exact h⟩
 |some h=>exact ah h
theorem oN {R:Type} (t f:Option R):bcase ajp t f=t:=rfl
theorem oK {R:Type} (t f:Option R):bcase ajq t f=f:=rfl
theorem re {α R:Type} (x:α) (k:α->Option R):jn (ajn (.inr x)) k=k x:=rfl
theorem rz {α R:Type} (r:R) (k:α->Option R):jn (ajn (.inl r)) k=ajn r:=rfl
theorem nM {α R:Type} (x:α) (k:α->Option R):obind (ajn x) k=k x:=rfl
theorem ry {α R:Type} (x:α) (k:α->Option R):lt x k=k x:=rfl
theorem G8 {k:Int}:k=1\/k=2\/k=3\/k=4\/k=5\/k=6\/k=7\/k=8\/k=9\/k=10\/k=11\/k=12\/k=13\/k=14\/k=15\/k=16\/k=17\/k=18\/k=19\/k=20\/k=21\/k=22\/k=23\/((∀ j:Int,1<=j->j<=23->(k=j)=False)/\(k<1\/23<k)):=by
 by_cases h:1<=k/\k<=23
 ·omega
 ·have:(∀ j:Int,1<=j->j<=23->(k=j)=False)/\(k<1\/23<k):=⟨λj h1 I=>eq_false (by omega),by omega⟩
  repeat (first|exact this|refine Or.inr ?_)
theorem gK {n:Int} (h0: -9223372036854775808<=n) (h1:n<=9223372036854775807):be .i64 n=n:=by
 rw[FM];unfold Kx;simp[cD,h0,h1]
theorem go {i:Nat} (h:i<9223372036854775807):be .i64 ((i:Int)+1)=((i+1:Nat):Int):=by rw[gK (by omega) (by omega)];omega
theorem xC {T:Ty} (xs:List T.den) (i:Nat):aD xs (i:Int)=xs.getD i T.zero:=by unfold aD;simp
theorem MB (xs:List Int) (i:Nat):aD (T:=.int .i64) xs (i:Int)=xs.getD i 0:=xC (T:=.int .i64) xs i
theorem bx {T:Ty} {xs:List T.den} {j:Int} (h0:0<=j) (h1:j<xs.length):aD xs j∈xs:=by
 unfold aD;rw[au,ar (by omega)];exact tC _
theorem bG {α:Type} (xs:List α) (j:Int) (x:α):(cw xs j x).length=xs.length:=by unfold cw;simp
theorem AY {α:Type} {xs:List α} {j:Int} {x y:α} (h:y∈cw xs j x):y∈xs\/y=x:=List.mem_or_eq_of_mem_set h
abbrev WT:Type:=List (List UInt8×Int×Int×Bool×Int)×List (List UInt8×Bool)×List (List UInt8×Int)×List (List UInt8)×List (List UInt8)×List (Int×Int×Int)
abbrev SY:Type:=List (Int×List Int)×Int×List Bool×List (Int×Int×Bool)
theorem Yl (a b:Int):o8 (a,b)=ajn (decide (0<=a/\a<b)):=by
 refine co ?_;unfold o8 jf ax;with_reducible repeat' first|(refine OS.ok ?_;constructor)|refine IM.mk λ_=>?_
 ·by_cases h:a<b<;>simp[*,eX]
 ·simp;omega
theorem TY (l:List Int) (n:Int) (hl:l.length<=1000000):o9 (l,n)=ajn (l.contains n):=by
 refine co ?_;unfold o9 aX bk bw aP cu ax ca;refine bX l.length (λi x=>x=(i:Int)/\∀ k,k<i->l.getD k 0≠n) ?_ ?_ ⟨rfl,λk hk=>by omega⟩
 ·rintro i x hi ⟨rfl,I⟩;with_reducible repeat' first|(refine OS.ok ?_;constructor)|refine IM.mk λ_=>?_
  all_goals try simp only[ai,decide_eq_true_eq,true_or,or_true,true_implies,true_and,and_true] at*
  ·omega
  ·omega
  ·rename_i h;rw[MB] at h;show ajp=_
   symm
   rw[rq,<-h,au,ar hi];exact tC _
  ·rename_i h;rw[MB] at h;refine ⟨go (by omega),λk hk=>?_⟩;rcases bI k i with h1|h1
   ·exact I k h1
   ·rw[show k=i by omega];exact h
  ·omega
 ·rintro x ⟨rfl,I⟩;with_reducible repeat' first|(refine OS.ok ?_;constructor)|refine IM.mk λ_=>?_
  all_goals try simp only[ai,decide_eq_true_eq,true_or,or_true,true_implies,true_and,and_true] at*
  ·omega
  ·omega
  ·omega
  ·omega
  ·symm
   rw[Bool.eq_false_iff];intro hc;rw[rq] at hc;obtain⟨k,hk,he⟩:=List.getElem_of_mem hc;exact I k hk (by rw[au,ar hk];exact he)
theorem gB {T:Ty} {xs:List T.den} {p:T.den->Prop} (h:∀ k:Nat,k<af xs->p (aD xs (k:Int))):∀ c∈xs,p c:=λc hc=>by
 obtain⟨k,hk,he⟩:=List.getElem_of_mem hc;have:=h k hk;rw[xC,au,ar hk,tm,he] at this;exact this
theorem Nv (w:WT) (s:SY) (hw:w.2.2.1.length<=1000000):Ok (pV (w,s)) λb=>b=ajp->(∀ c∈w.2.2.1,0<=c.2/\c.2<w.2.1.length)/\s.1.length=w.2.1.length/\s.2.2.1.length=w.2.2.2.1.length/\s.2.2.2.length=w.2.2.2.2.1.length:=by
 unfold pV Prod.p2 Prod.p3 Prod.p4 Prod.q5 aX bk bw aP cu ax ca;refine bX w.2.2.1.length (λi x=>x.1=(i:Int)/\x.2=(w,s)/\∀ k:Nat,k<i->0<=(aD (T:=Rc) w.2.2.1 (k:Int)).2/\(aD (T:=Rc) w.2.2.1 (k:Int)).2<w.2.1.length) ?_ ?_ ⟨rfl,rfl,λk hk=>by omega⟩
 ·rintro i ⟨Y,U⟩ hi ⟨J,I,M⟩;dsimp only at J I;subst J;subst I;with_reducible repeat' first|(refine OS.ok ?_;constructor)|refine IM.mk λ_=>?_
  all_goals try simp only[ai,decide_eq_true_eq,true_or,or_true,true_implies,true_and,and_true] at*
  all_goals first|omega|skip
  ·intro h;cases h
  ·intro h;cases h
  ·refine ⟨go (by omega),λk hk=>?_⟩;rcases bI k i with h1|h1
   ·exact M k h1
   ·rename_i h2 Z;rw[show k=i by omega];exact⟨h2,Z⟩
 ·rintro⟨Y,U⟩ ⟨J,I,M⟩;dsimp only at J I;subst J;subst I;with_reducible repeat' first|(refine OS.ok ?_;constructor)|refine IM.mk λ_=>?_
  all_goals try simp only[ai,decide_eq_true_eq,true_or,or_true,true_implies,true_and,and_true] at*
  all_goals first|omega|skip
  refine al (P:=λb=>b=ajp->s.1.length=w.2.1.length/\s.2.2.1.length=w.2.2.2.1.length/\s.2.2.2.length=w.2.2.2.2.1.length) ?_ ?_
  ·with_reducible repeat' first|(refine OS.ok ?_;constructor)|refine IM.mk λ_=>?_
   all_goals try simp only[ai,decide_eq_true_eq,true_or,or_true,true_implies,true_and,and_true] at*
   ·intro h;omega
   ·intro h;cases h
   ·intro h;cases h
  ·intro b hb;with_reducible repeat' first|(refine OS.ok ?_;constructor)|refine IM.mk λ_=>?_
   exact λh=>⟨gB (T:=Rc) M,hb h⟩
structure NM (w:WT) (k o:Int):Prop where
 k1:1<=k
 k2:k<=23
 ce:k=3\/k=4->0<=o/\o<w.1.length
 lk:6<=k/\k<=11->0<=o/\o<w.2.1.length
 cd:16<=k/\k<=19->0<=o/\o<w.2.2.1.length
 th:k=20\/k=21->0<=o/\o<w.2.2.2.2.1.length
 fu:k=22\/k=23->0<=o/\o<w.2.2.2.1.length
 no:k=1\/k=2\/k=5\/(12<=k/\k<=15)->o= -1
 mu:k=6\/k=7->(aD (T:=Rl) w.2.1 o).2=ajq
 rw:8<=k/\k<=11->(aD (T:=Rl) w.2.1 o).2=ajp
theorem X6 (w:WT) (k o:Int):Ok (sx (w,k,o)) λb=>b=ajp->NM w k o:=by
 unfold sx Prod.p2 Prod.p3 Prod.p4 Prod.p5 aX bw aP ax;rcases @G8 k with rfl|rfl|rfl|rfl|rfl|rfl|rfl|rfl|rfl|rfl|rfl|rfl|rfl|rfl|rfl|rfl|rfl|rfl|rfl|rfl|rfl|rfl|rfl|⟨hk,I⟩
 case inr.inr.inr.inr.inr.inr.inr.inr.inr.inr.inr.inr.inr.inr.inr.inr.inr.inr.inr.inr.inr.inr.inr=>
  simp only[hk 1 (by decide) (by decide),hk 2 (by decide) (by decide),hk 3 (by decide) (by decide),hk 4 (by decide) (by decide),hk 5 (by decide) (by decide),hk 6 (by decide) (by decide),hk 7 (by decide) (by decide),hk 8 (by decide) (by decide),hk 9 (by decide) (by decide),hk 10 (by decide) (by decide),hk 11 (by decide) (by decide),hk 12 (by decide) (by decide),hk 13 (by decide) (by decide),hk 14 (by decide) (by decide),hk 15 (by decide) (by decide),hk 16 (by decide) (by decide),hk 17 (by decide) (by decide),hk 18 (by decide) (by decide),hk 19 (by decide) (by decide),hk 20 (by decide) (by decide),hk 21 (by decide) (by decide),hk 22 (by decide) (by decide),hk 23 (by decide) (by decide),aO,bd,decide_true,decide_false,oN,oK,re,rz,nM,ry,aY,aV];exact ah λh=>by cases h
 all_goals simp only[aO,bd,decide_true,decide_false,oN,oK,re,rz,nM,ry,aY,aV,Yl]
 all_goals with_reducible repeat' first|(refine OS.ok ?_;constructor)|refine IM.mk λ_=>?_
 all_goals try simp only[ai,decide_eq_true_eq,true_or,or_true,true_implies,true_and,and_true] at*
 all_goals first|omega|(intro h;cases h;done)|(intro h;constructor<;>first|omega|(intro J;first|omega|(simpa using h)))
structure SB (n:Nat) (s:SY):Prop where
 n1:n<=100000
 lk:s.1.length<=1000
 rd:∀ l∈s.1,l.2.length<=n
 dn:s.2.2.1.length<=1000
 th:s.2.2.2.length<=1000
structure EN (w:WT) (s:SY) (t k o:Int):Prop where
 nm:NM w k o
 t0:0<=t
 t1:t<w.2.2.2.2.1.length
 cd:∀ c∈w.2.2.1,0<=c.2/\c.2<w.2.1.length
 e1:s.1.length=w.2.1.length
 e2:s.2.2.1.length=w.2.2.2.1.length
 e3:s.2.2.2.length=w.2.2.2.2.1.length
structure Vb (w:WT) (s:SY) (t k o:Int):Prop where
 b:k=1->(aD (T:=ja) s.2.2.2 t).1=1
 wk:k=17->(aD (T:=ja) s.2.2.2 t).1=4/\(aD (T:=ja) s.2.2.2 t).2.1=o/\(aD (T:=yH) s.1 (aD (T:=Rc) w.2.2.1 o).2).1= -1
 r:k≠1->k≠17->(aD (T:=ja) s.2.2.2 t).1=2
 aq:k=6\/k=8\/k=10->(aD (T:=yH) s.1 o).1= -1
 wr:k=10->(aD (T:=yH) s.1 o).2.length=0
 ra:k=8->(aD (T:=yH) s.1 o).2.contains t=ajq
 rl:k=7\/k=11->(aD (T:=yH) s.1 o).1=t
 rr:k=9->(aD (T:=yH) s.1 o).2.contains t=ajp
 xb:k=12->s.2.1= -1
 xe:k=13->s.2.1=t
 ab:k=14->(aD (T:=ja) s.2.2.2 t).2.2=ajq
 ae:k=15->(aD (T:=ja) s.2.2.2 t).2.2=ajp
 nt:k=16\/k=18\/k=19->(aD (T:=yH) s.1 (aD (T:=Rc) w.2.2.1 o).2).1=t
 sp:k=20->¬o=t/\(aD (T:=ja) s.2.2.2 o).1=0
 jo:k=21->¬o=t/\(aD (T:=ja) s.2.2.2 o).1=5
 se:k=22->aD (T:=.bool) s.2.2.1 o=ajq
 ge:k=23->aD (T:=.bool) s.2.2.1 o=ajp
theorem Jk {n:Nat} (w:WT) (s:SY) (hs:SB n s) (hw:w.2.2.1.length<=1000) (t k o:Int):Ok (js (w,s,t,k,o)) λb=>b=ajp->EN w s t k o/\Vb w s t k o:=by
 unfold js Prod.p2 Prod.p3 Prod.p4 Prod.q3 Prod.q4 Prod.q5 aX ik bw aP ax;refine aQ (λx=>x.2=(w,s)/\(x.1=ajq->EN w s t k o)) ?_ ?_
 ·refine al (Nv w s (by omega)) λb hb=>?_
  with_reducible repeat' first|(refine OS.ok ?_;constructor)|refine IM.mk λ_=>?_
  ·exact⟨rfl,λh=>by cases h⟩
  ·simp only[Yl,nM];with_reducible repeat' first|(refine OS.ok ?_;constructor)|refine IM.mk λ_=>?_
   ·exact⟨rfl,λh=>by cases h⟩
   ·refine al (X6 w k o) λc hc=>?_
    with_reducible repeat' first|(refine OS.ok ?_;constructor)|refine IM.mk λ_=>?_
    all_goals try simp only[ai,decide_eq_true_eq,true_or,or_true,true_implies,true_and,and_true] at*
    rename_i h1 h2;obtain⟨f1,f2,Z,Y⟩:=hb h1;exact λh=>⟨hc (by simpa using h),by omega,by omega,f1,f2,Z,Y⟩
 ·rintro⟨x1,x2⟩ ⟨I,J⟩;dsimp only at I J;subst I;refine aK (λh=>ah λh=>by cases h) (λh=>?_);have he:=J h;obtain⟨nm,t0,t1,cd,e1,e2,e3⟩:=id he;obtain⟨_,_,ce,lk,cn,th,fu⟩:=nm;have hm:16<=k/\k<=19->0<=(aD (T:=Rc) w.2.2.1 o).2/\(aD (T:=Rc) w.2.2.1 o).2<w.2.1.length:=λh=>cd _ (bx (cn h).1 (cn h).2)
  have U:6<=k/\k<=11->o9 ((aD (T:=yH) s.1 o).2,t)=ajn ((aD (T:=yH) s.1 o).2.contains t):=λh=>TY _ _ (by
   have:=hs.rd _ (bx (T:=yH) (lk h).1 (by have:=(lk h).2;omega));have:=hs.n1;omega)
  rcases @G8 k with rfl|rfl|rfl|rfl|rfl|rfl|rfl|rfl|rfl|rfl|rfl|rfl|rfl|rfl|rfl|rfl|rfl|rfl|rfl|rfl|rfl|rfl|rfl|⟨hk,M⟩
  case inr.inr.inr.inr.inr.inr.inr.inr.inr.inr.inr.inr.inr.inr.inr.inr.inr.inr.inr.inr.inr.inr.inr=>omega
  all_goals simp only[aO,bd,decide_true,decide_false,oN,oK,re,rz,nM,ry,aY,aV]
  all_goals with_reducible repeat' first|(refine OS.ok ?_;constructor)|refine IM.mk λ_=>?_
  all_goals try simp only[U (by omega),nM]
  all_goals with_reducible repeat' first|(refine OS.ok ?_;constructor)|refine IM.mk λ_=>?_
  all_goals try simp only[ai,decide_eq_true_eq,true_or,or_true,true_implies,true_and,and_true] at*
  all_goals first|omega|(intro h;cases h;done)|exact (hm ⟨by decide,by decide⟩).1|(rw [e1];exact (hm ⟨by decide,by decide⟩).2)|(intro h;refine ⟨he,?_⟩;constructor<;>first|omega|(intros;first|omega|assumption|(simpa using h)|exact⟨by assumption,by first|assumption|exact⟨by assumption,by assumption⟩⟩))|(refine ⟨he,?_⟩;constructor<;>first|omega|(intros;first|omega|assumption))
def kJ:List Int->Int->List Int
 |[],n=>[n]
 |x::r,n=>if x<n then x::kJ r n else if x=n then x::r else n::x::r
theorem CR (n:Int):∀ (i:Nat) (l:List Int),i<=l.length->(∀ k,k<i->l.getD k 0<n)->kJ l n=l.take i++kJ (l.drop i) n
 |0,l,_,_=>by simp
 |i+1,[],h,_=>by simp at h
 |i+1,x::r,h,hk=>by
  have h0:=hk 0 (by omega);simp at h0;have:=CR n i r (by simpa using h) (λk I=>by have:=hk (k+1) (by omega);simpa using this);rw[kJ,if_pos h0,this,uw,ux,fg]
theorem DY (n:Int):∀ l:List Int,(kJ l n).length<=l.length+1
 |[]=>by simp[kJ]
 |x::r=>by
  have:=DY n r;rw[kJ];split
  ·simp;omega
  ·split<;>simp
theorem Gw {n y:Int}:∀ {l:List Int},y∈kJ l n↔y=n\/y∈l
 |[]=>by simp[kJ]
 |x::r=>by
  have:=Gw (n:=n) (y:=y) (l:=r);rw[kJ];split
  ·simp[this];constructor
   ·rintro (h|h|h)<;>simp[h]
   ·rintro (h|h|h)<;>simp[h]
  ·split
   ·rename_i h;subst h;simp
   ·simp
def FH:List Int->Prop
 |[]=>True
 |x::r=>(∀ y∈r,x<y)/\FH r
theorem Ob {n:Int}:∀ {l:List Int},FH l->FH (kJ l n)
 |[],_=>by simp[kJ,FH]
 |x::r,h=>by
  rw[kJ];split
  ·rename_i J;refine ⟨λy I=>?_,Ob h.2⟩;rcases Gw.1 I with rfl|I
   ·exact J
   ·exact h.1 y I
  ·split
   ·exact h
   ·rename_i h1 M;refine ⟨λy I=>?_,h⟩;rcases bc.1 I with rfl|I
    ·omega
    ·have:=h.1 y I;omega
theorem Zo (l:List Int) (n:Int) (hl:l.length<=1000000):uJ (l,n)=ajn (kJ l n):=by
 refine co ?_;unfold uJ bk bn bw aP cu ax ca;have fin:∀ i:Nat,i<=l.length->(∀ k,k<i->l.getD k 0<n)->(i<l.length->¬l.getD i 0<n/\l.getD i 0≠n)->l.take i++[n]++l.drop i=kJ l n:=λi hi hk hn=>by
  rw[CR n i l hi hk];cases hd:l.drop i with
  |nil=>simp[kJ]
  |cons y r=>
   have hlt:i<l.length:=by
    rcases bI i l.length with h|h
    ·exact h
    ·rw[List.drop_eq_nil_of_le h] at hd;cases hd
   have J:l.getD i 0=y:=by
    rw[au,<-List.head?_drop,hd];rfl
   obtain⟨h1,M⟩:=hn hlt;rw[J] at h1 M;rw[kJ,if_neg h1,if_neg M];simp
 refine bX l.length (λi x=>x=(i:Int)/\∀ k,k<i->l.getD k 0<n) ?_ ?_ ⟨rfl,λk hk=>by omega⟩
 ·rintro i x hi ⟨rfl,I⟩;by_cases hlt:l.getD i 0<n
  ·with_reducible repeat' first|(refine OS.ok ?_;constructor)|refine IM.mk λ_=>?_
   all_goals try simp only[ai,decide_eq_true_eq,true_or,or_true,true_implies,true_and,and_true] at*
   all_goals first|omega|skip
   ·refine ⟨go (by omega),λk hk=>?_⟩;rcases bI k i with h1|h1
    ·exact I k h1
    ·rw[show k=i by omega];exact hlt
   ·rename_i h;exact absurd hlt (Int.not_lt.2 h)
  ·have key:l.getD i 0=n->kJ l n=l:=λhe=>by
    rw[CR n i l (by omega) I];cases hd:l.drop i with
    |nil=>have:=congrArg af hd;simp at this;omega
    |cons y r=>
     have J:l.getD i 0=y:=by rw[au,<-List.head?_drop,hd];rfl
     rw[J] at he;rw[kJ,if_neg (by omega),if_pos he,<-hd,zL]
   with_reducible repeat' first|(refine OS.ok ?_;constructor)|refine IM.mk λ_=>?_
   all_goals try simp only[ai,decide_eq_true_eq,true_or,or_true,true_implies,true_and,and_true] at*
   all_goals first|omega|skip
   ·rename_i h;exact absurd h hlt
   ·refine al (P:=λr=>r=kJ l n) ?_ λr hr=>ah hr
    with_reducible repeat' first|(refine OS.ok ?_;constructor)|refine IM.mk λ_=>?_
    all_goals try simp only[ai,decide_eq_true_eq,true_or,or_true,true_implies,true_and,and_true] at*
    all_goals first|omega|skip
    ·rename_i h;exact (key h).symm
    ·simp;omega
    ·simp;omega
    ·simp;omega
    ·rename_i h;simpa using fin i (by omega) I (λ_=>⟨hlt,h⟩)
 ·rintro x ⟨rfl,I⟩;with_reducible repeat' first|(refine OS.ok ?_;constructor)|refine IM.mk λ_=>?_
  all_goals try simp only[ai,decide_eq_true_eq,true_or,or_true,true_implies,true_and,and_true] at*
  all_goals first|omega|skip
  refine al (P:=λr=>r=kJ l n) ?_ λr hr=>ah hr
  with_reducible repeat' first|(refine OS.ok ?_;constructor)|refine IM.mk λ_=>?_
  all_goals try simp only[ai,decide_eq_true_eq,true_or,or_true,true_implies,true_and,and_true] at*
  all_goals first|omega|skip
  ·simp;omega
  ·simp;omega
  ·simp;omega
  ·simpa using fin l.length (by omega) I (λh=>by omega)
def vE (a b:List Int):List Int:=b.foldl kJ (a.foldl kJ [])
theorem uT:∀ (b acc:List Int),(b.foldl kJ acc).length<=acc.length+b.length
 |[],acc=>by simp
 |x::r,acc=>by
  have:=uT r (kJ acc x);have:=DY x acc;rw[DV,bH];omega
theorem HK:∀ {b acc:List Int},FH acc->FH (b.foldl kJ acc)
 |[],_,h=>h
 |x::r,acc,h=>by rw[DV];exact HK (Ob h)
theorem HJ {y:Int}:∀ {b acc:List Int},y∈b.foldl kJ acc↔y∈acc\/y∈b
 |[],acc=>by simp
 |x::r,acc=>by
  rw[DV,HJ,Gw];simp;constructor
  ·rintro ((h|h)|h)<;>simp[h]
  ·rintro (h|h|h)<;>simp[h]
theorem NH (a b:List Int):FH (vE a b):=HK (HK trivial)
theorem Gj {a b:List Int} {y:Int}:y∈vE a b↔y∈a\/y∈b:=by unfold vE;rw[HJ,HJ];simp
theorem XA (a b:List Int):(vE a b).length<=a.length+b.length:=by
 have:=uT b (a.foldl kJ []);have:=uT a [];unfold vE;simp at *;omega
theorem K5 {b acc:List Int} {i:Nat} (hi:i<b.length):(b.take (i+1)).foldl kJ acc=kJ ((b.take i).foldl kJ acc) (b.getD i 0):=by
 rw[nI hi,eD,au,ar hi];rfl
theorem QJ (a b:List Int) (U:a.length<=400000) (hb:b.length<=400000):pW (a,b)=ajn (vE a b):=by
 refine co ?_;unfold pW bk bw aP cu ax ca;refine bX a.length (λi x=>x.2=(i:Int)/\x.1=(a.take i).foldl kJ []) ?_ ?_ ⟨rfl,rfl⟩
 ·rintro i ⟨M,J⟩ hi ⟨h1,I⟩;dsimp only at h1 I;subst h1;subst I;have hl:((a.take i).foldl kJ []).length<=1000000:=by have:=uT (a.take i) [];have:=oP i a;simp at *;omega
  with_reducible repeat' first|(refine OS.ok ?_;constructor)|refine IM.mk λ_=>?_
  all_goals try simp only[ai,decide_eq_true_eq,true_or,or_true,true_implies,true_and,and_true] at*
  all_goals first|omega|skip
  refine aN (Zo _ _ hl) (ah ?_);dsimp only;refine ⟨go (by omega),?_⟩;rw[MB,K5 hi]
 ·rintro⟨M,J⟩ ⟨h1,I⟩;dsimp only at h1 I;subst h1;subst I;rw[cz];have hla:=uT a [];with_reducible repeat' first|(refine OS.ok ?_;constructor)|refine IM.mk λ_=>?_
  all_goals try simp only[ai,decide_eq_true_eq,true_or,or_true,true_implies,true_and,and_true] at*
  all_goals first|omega|skip
  refine al (P:=λr=>r=vE a b) ?_ λr hr=>ah hr
  refine bX b.length (λi x=>x.2=(i:Int)/\x.1=(b.take i).foldl kJ (a.foldl kJ [])) ?_ ?_ ⟨rfl,rfl⟩
  ·rintro i ⟨M,J⟩ hi ⟨h1,I⟩;dsimp only at h1 I;subst h1;subst I;have hl:((b.take i).foldl kJ (a.foldl kJ [])).length<=1000000:=by have:=uT (b.take i) (a.foldl kJ []);have:=oP i b;simp at *;omega
   with_reducible repeat' first|(refine OS.ok ?_;constructor)|refine IM.mk λ_=>?_
   all_goals try simp only[ai,decide_eq_true_eq,true_or,or_true,true_implies,true_and,and_true] at*
   all_goals first|omega|skip
   refine aN (Zo _ _ hl) (ah ?_);dsimp only;refine ⟨go (by omega),?_⟩;rw[MB,K5 hi]
  ·rintro⟨M,J⟩ ⟨h1,I⟩;dsimp only at h1 I;subst h1;subst I;rw[cz];with_reducible repeat' first|(refine OS.ok ?_;constructor)|refine IM.mk λ_=>?_
   all_goals try simp only[ai,decide_eq_true_eq,true_or,or_true,true_implies,true_and,and_true] at*
   all_goals first|omega|rfl
def Jv (c:Int) (x:Int×Int×Bool):Bool:=decide (x.1=3)&&decide (x.2.1=c)
def wl (th:List (Int×Int×Bool)) (c:Int):Nat->List Int
 |0=>[]
 |i+1=>if Jv c (aD (T:=ja) th (i:Int)) then wl th c i++[(i:Int)] else wl th c i
theorem ub (th:List (Int×Int×Bool)) (c:Int):∀ i,(wl th c i).length<=i
 |0=>bF _
 |i+1=>by have:=ub th c i;rw[wl];split<;>simp<;>omega
theorem ua {th:List (Int×Int×Bool)} {c u:Int}:∀ {i:Nat},u∈wl th c i↔0<=u/\u<i/\Jv c (aD (T:=ja) th u)=ajp
 |0=>by simp[wl];omega
 |i+1=>by
  have I:= @ua th c u i;rw[wl];by_cases hu:u=(i:Int)
  ·subst hu;split
   ·rename_i h;simp[h];omega
   ·rename_i h;rw[I];simp[h]
  ·split
   ·rw[bE,I,aF];constructor
    ·rintro (h|h)
     ·exact⟨h.1,by omega,h.2.2⟩
     ·exact absurd h hu
    ·intro h;exact .inl ⟨h.1,by omega,h.2.2⟩
   ·rw[I];constructor
    ·intro h;exact⟨h.1,by omega,h.2.2⟩
    ·intro h;exact⟨h.1,by omega,h.2.2⟩
theorem ags {th:List (Int×Int×Bool)} {c:Int} {i:Nat} (h1:(aD (T:=ja) th (i:Int)).1=3) (I:(aD (T:=ja) th (i:Int)).2.1=c):wl th c (i+1)=wl th c i++[(i:Int)]:=by
 rw[wl,if_pos];unfold Jv;rw[h1,I];simp
theorem acj {th:List (Int×Int×Bool)} {c:Int} {i:Nat} (h1:¬(aD (T:=ja) th (i:Int)).1=3):wl th c (i+1)=wl th c i:=by
 rw[wl,if_neg];unfold Jv;rw[decide_eq_false h1];simp
theorem aci {th:List (Int×Int×Bool)} {c:Int} {i:Nat} (h1:¬(aD (T:=ja) th (i:Int)).2.1=c):wl th c (i+1)=wl th c i:=by
 rw[wl,if_neg];unfold Jv;rw[decide_eq_false h1];simp
theorem TI (s:SY) (c:Int) (hs:s.2.2.2.length<=1000):mz (s,c)=ajn (wl s.2.2.2 c s.2.2.2.length):=by
 refine co ?_;unfold mz Prod.q3 aX bk bn bw aP cu ax ca;refine bX s.2.2.2.length (λi x=>x=((i:Int),s,wl s.2.2.2 c i)) ?_ ?_ rfl
 ·rintro i x hi rfl;have hl:=ub s.2.2.2 c i;with_reducible repeat' first|(refine OS.ok ?_;constructor)|refine IM.mk λ_=>?_
  all_goals try simp only[ai,decide_eq_true_eq,true_or,or_true,true_implies,true_and,and_true] at*
  all_goals first|omega|skip
  all_goals first|(simp;omega)|skip
  ·rename_i h1 I;rw[ags h1 I,go (by omega)]
  ·rename_i h1 I;rw[aci I,go (by omega)]
  ·rename_i h1;rw[acj h1,go (by omega)]
 ·rintro x rfl;with_reducible repeat' first|(refine OS.ok ?_;constructor)|refine IM.mk λ_=>?_
  all_goals try simp only[ai,decide_eq_true_eq,true_or,or_true,true_implies,true_and,and_true] at*
  all_goals first|omega|rfl
def wo (l:List Int) (n:Int):List Int:=l.filter λx=> !decide (x=n)
theorem Rf (l:List Int) (n:Int) (hl:l.length<=1000000):o7 (l,n)=ajn (wo l n):=by
 refine co ?_;unfold o7 bk ik bn bw aP cu ax ca;refine bX l.length (λi x=>x=((i:Int),wo (l.take i) n)) ?_ ?_ rfl
 ·rintro i x hi rfl;have hq:(wo (l.take i) n).length<=i:=cM (List.length_filter_le ..) (oP ..);have ht:wo (l.take (i+1)) n=if aD (T:=.int .i64) l (i:Int)=n then wo (l.take i) n else wo (l.take i) n++[aD (T:=.int .i64) l (i:Int)]:=by
   unfold wo;rw[nI hi,List.filter_append,MB,au,ar hi];by_cases h:l[i]=n<;>simp[h]
  with_reducible repeat' first|(refine OS.ok ?_;constructor)|refine IM.mk λ_=>?_
  all_goals try simp only[ai,decide_eq_true_eq,true_or,or_true,true_implies,true_and,and_true] at*
  all_goals first|omega|skip
  ·simp;omega
  ·rename_i h;rw[ht,if_neg h,go (by omega)]
  ·rename_i h;rw[ht,if_pos h,go (by omega)]
 ·rintro x rfl;with_reducible repeat' first|(refine OS.ok ?_;constructor)|refine IM.mk λ_=>?_
  all_goals try simp only[ai,decide_eq_true_eq,true_or,or_true,true_implies,true_and,and_true] at*
  all_goals first|omega|(rw [cz])
theorem mQ {T:Ty} {xs:List T.den} {i:Nat} (hi:i<af xs):db (i+1) xs=db i xs++[aD xs (i:Int)]:=by
 rw[nI hi,xC,au,ar hi];rfl
theorem pB {n:Nat} (s:SY) (hs:SB n s):gx s=ajn (s.2.1,s.1,s.2.2.1,s.2.2.2):=by
 refine co ?_;obtain⟨s1,s2,J,I⟩:=s;have hn:=hs.n1;have Y:=hs.lk;have U:=hs.dn;have M:=hs.th;dsimp only at Y U M;unfold gx Prod.p2 Prod.p3 Prod.p4 Prod.q3 Prod.q5 bk bn bw aP cu ax ca;with_reducible repeat' first|(refine OS.ok ?_;constructor)|refine IM.mk λ_=>?_
 all_goals try simp only[ai,decide_eq_true_eq,true_or,or_true,true_implies,true_and,and_true] at*
 ·simp;omega
 ·omega
 ·simp;omega
 ·omega
 refine bX s1.length (λi x=>x=((i:Int),(s1,s2,J,I),0,s2,s1.take i,J,I)) ?_ ?_ ?_
 ·rintro i x hi rfl;have hg:=hs.rd _ (bx (T:=yH) (xs:=s1) (j:=(i:Int)) (by omega) (by omega));with_reducible repeat' first|(refine OS.ok ?_;constructor)|refine IM.mk λ_=>?_
  all_goals try simp only[ai,decide_eq_true_eq,true_or,or_true,true_implies,true_and,and_true] at*
  all_goals first|omega|skip
  ·simp;omega
  ·simp;omega
  ·rw[go (by omega),mQ (T:=yH) hi];rfl
 ·rintro x rfl;with_reducible repeat' first|(refine OS.ok ?_;constructor)|refine IM.mk λ_=>?_
  all_goals try simp only[ai,decide_eq_true_eq,true_or,or_true,true_implies,true_and,and_true] at*
  all_goals first|omega|skip
  simp
 ·simp
theorem E5 (s:SY) (c:Int) (hs:s.2.2.2.length<=1000):iJ ((s.2.1,c),s.1,s.2.2.1,s.2.2.2)=ajn (wl s.2.2.2 c s.2.2.2.length):=by
 refine co ?_;unfold iJ;refine al (P:=λy=>y=(wl s.2.2.2 c s.2.2.2.length,s.1,s.2.2.1,s.2.2.2)) ?_ λy J=>by subst J;exact Z8 rfl (ah rfl)
 unfold kV Prod.p2 Prod.p3 Prod.p4 Prod.q3 Prod.q5 aX bk bn kf aP cu ax ca;refine bX s.2.2.2.length (λi x=>x=((i:Int),s.1,s.2.2.1,s.2.2.2,s.2.1,wl s.2.2.2 c i)) ?_ ?_ rfl
 ·rintro i x hi rfl;have hl:=ub s.2.2.2 c i;with_reducible repeat' first|(refine OS.ok ?_;constructor)|refine IM.mk λ_=>?_
  all_goals try simp only[ai,decide_eq_true_eq,true_or,or_true,true_implies,true_and,and_true] at*
  all_goals first|omega|skip
  all_goals first|(simp;omega)|skip
  ·rename_i h1 I;rw[ags h1 I,go (by omega)]
  ·rename_i h1 I;rw[aci I,go (by omega)]
  ·rename_i h1;rw[acj h1,go (by omega)]
 ·rintro x rfl;with_reducible repeat' first|(refine OS.ok ?_;constructor)|refine IM.mk λ_=>?_
  all_goals try simp only[ai,decide_eq_true_eq,true_or,or_true,true_implies,true_and,and_true] at*
  all_goals first|omega|rfl
structure AP (n:Nat) (s y:SY):Prop where
 a1:y.1.length=s.1.length
 a2:y.2.2.1.length=s.2.2.1.length
 a3:y.2.2.2.length=s.2.2.2.length
 rd:∀ l∈y.1,l.2.length<=n+1
theorem AP.toSB {n:Nat} {s y:SY} (h:AP n s y) (hs:SB n s) (hn:n+1<=100000):SB (n+1) y:=
 ⟨hn,by rw[h.a1];exact hs.lk,h.rd,by rw[h.a2];exact hs.dn,by rw[h.a3];exact hs.th⟩
theorem AP.same {n:Nat} {s:SY} (hs:SB n s) (x:Int) (d:List Bool) (t:List (Int×Int×Bool)) (hd:d.length=s.2.2.1.length) (ht:t.length=s.2.2.2.length):AP n s (s.1,x,d,t):=
 ⟨rfl,hd,ht,λl hl=>gF (hs.rd l hl)⟩
theorem AP.set {n:Nat} {s:SY} (hs:SB n s) (j a:Int) (r:List Int) (hr:r.length<=n+1) (x:Int) (d:List Bool) (t:List (Int×Int×Bool)) (hd:d.length=s.2.2.1.length) (ht:t.length=s.2.2.2.length):AP n s (cw s.1 j (a,r),x,d,t):=
 ⟨bG _ _ _,hd,ht,λl hl=>by
   rcases AY hl with h|rfl
   ·exact gF (hs.rd l h)
   ·exact hr⟩
def AH (th:List (Int×Int×Bool)) (t st:Int):List (Int×Int×Bool):=cw th t (st,(aD (T:=ja) th t).2)
def owP (lk:List (Int×List Int)) (o t:Int):List (Int×List Int):=cw lk o (t,(aD (T:=yH) lk o).2)
def rdP (lk:List (Int×List Int)) (o:Int) (l:List Int):List (Int×List Int):=cw lk o ((aD (T:=yH) lk o).1,l)
def cdP (th:List (Int×Int×Bool)) (t c:Int):List (Int×Int×Bool):=cw th t ((aD (T:=ja) th t).1,c,(aD (T:=ja) th t).2.2)
def atP (th:List (Int×Int×Bool)) (t:Int) (b:Bool):List (Int×Int×Bool):=cw th t ((aD (T:=ja) th t).1,(aD (T:=ja) th t).2.1,b)
def Fd (th:List (Int×Int×Bool)) (l:List Int):List (Int×Int×Bool):=l.foldl (λx u=>AH x u 4) th
def AA (l:List Int) (u:Int):Int:=if l.length=0 then -1 else if l.contains u then u else aD (T:=.int .i64) l 0
def muP (w:WT) (o:Int):Int:=(aD (T:=Rc) w.2.2.1 o).2
def uo (w:WT) (s:SY) (t k o u:Int):SY×Int:=
 if k=1 then ((s.1,s.2.1,s.2.2.1,AH s.2.2.2 t 2),0)
 else if k=2 then ((s.1,s.2.1,s.2.2.1,AH s.2.2.2 t 5),0)
 else if k=6\/k=10 then ((owP s.1 o t,s.2),0)
 else if k=7\/k=11 then ((owP s.1 o (-1),s.2),0)
 else if k=8 then ((rdP s.1 o (vE (aD (T:=yH) s.1 o).2 [t]),s.2),0)
 else if k=9 then ((rdP s.1 o (wo (aD (T:=yH) s.1 o).2 t),s.2),0)
 else if k=12 then ((s.1,t,s.2.2),0)
 else if k=13 then ((s.1,-1,s.2.2),0)
 else if k=14 then ((s.1,s.2.1,s.2.2.1,atP s.2.2.2 t ajp),0)
 else if k=15 then ((s.1,s.2.1,s.2.2.1,atP s.2.2.2 t ajq),0)
 else if k=16 then ((owP s.1 (muP w o) (-1),s.2.1,s.2.2.1,cdP (AH s.2.2.2 t 3) t o),0)
 else if k=17 then ((owP s.1 (muP w o) t,s.2.1,s.2.2.1,cdP (AH s.2.2.2 t 2) t 0),0)
 else if k=18 then (if (wl s.2.2.2 o s.2.2.2.length).length=0 then (s,-1) else ((s.1,s.2.1,s.2.2.1,AH s.2.2.2 (AA (wl s.2.2.2 o s.2.2.2.length) u) 4),AA (wl s.2.2.2 o s.2.2.2.length) u))
 else if k=19 then ((s.1,s.2.1,s.2.2.1,Fd s.2.2.2 (wl s.2.2.2 o s.2.2.2.length)),((wl s.2.2.2 o s.2.2.2.length).length:Int))
 else if k=20 then ((s.1,s.2.1,s.2.2.1,AH s.2.2.2 o 1),0)
 else if k=22 then ((s.1,s.2.1,cw s.2.2.1 o ajp,s.2.2.2),0)
 else (s,0)
theorem FW (l:List Int):∀ th,(Fd th l).length=th.length:=by
 induction l with
 |nil=>intro th;rfl
 |cons x r I=>intro th;unfold Fd;rw[DV];exact (I _).trans (bG ..)
theorem X7 {th:List (Int×Int×Bool)} {l:List Int} {i:Nat} (hi:i<l.length):Fd th (l.take (i+1))=AH (Fd th (l.take i)) (aD (T:=.int .i64) l (i:Int)) 4:=by
 unfold Fd;rw[nI hi,eD,MB,au,ar hi];rfl
theorem Ra {n:Nat} (w:WT) (s:SY) (hs:SB n s) (Y:w.2.2.1.length<=1000) (t k o u:Int):Ok (od (w,s,t,k,o,u)) λy=>(y.2.2=ajp->EN w s t k o/\Vb w s t k o/\AP n s y.1/\(y.1,y.2.1)=uo w s t k o u)/\(y.2.2=ajq->y.1=([],0,[],[]))/\(js (w,s,t,k,o)=ajn ajp->y.2.2=ajp):=by
 unfold od Prod.p2 Prod.p3 Prod.p4 Prod.p5 Prod.q3 Prod.q4 Prod.q5 Prod.q6 ck aX bk bw kf aP cu ax ca;obtain⟨b,J,hb⟩:=Jk w s hs Y t k o;refine aN J ?_;refine dB (λh=>ah ⟨λh=>(by cases h),λ_=>rfl,λM=>(by rw[J,h] at M;cases M)⟩) (λh=>?_);obtain⟨he,hry⟩:=hb h;refine aN (pB s hs) ?_;suffices hmain:Ok _ _ from aQ (λx=>AP n s (x.2.2.2.1,x.2.1,x.2.2.2.2)/\((x.2.2.2.1,x.2.1,x.2.2.2.2),x.1)=uo w s t k o u) hmain λx U=>ah ⟨λ_=>⟨he,hry,U⟩,λh=>(by cases h),λ_=>rfl⟩
 obtain⟨nm,t0,t1,cd,e1,e2,e3⟩:=id he;obtain⟨_,_,ce,lk,cn,th,fu⟩:=nm;have hn:=hs.n1;have hlk:=hs.lk;have hm:16<=k/\k<=19->0<=(aD (T:=Rc) w.2.2.1 o).2/\(aD (T:=Rc) w.2.2.1 o).2<w.2.1.length:=λh=>cd _ (bx (cn h).1 (cn h).2)
 have hr:∀ j:Int,0<=j->j<s.1.length->(aD (T:=yH) s.1 j).2.length<=n:=λj h0 h1=>hs.rd _ (bx (T:=yH) h0 h1)
 rcases @G8 k with rfl|rfl|rfl|rfl|rfl|rfl|rfl|rfl|rfl|rfl|rfl|rfl|rfl|rfl|rfl|rfl|rfl|rfl|rfl|rfl|rfl|rfl|rfl|⟨hk,Z⟩
 case inr.inr.inr.inr.inr.inr.inr.inr.inr.inr.inr.inr.inr.inr.inr.inr.inr.inr.inr.inr.inr.inr.inr=>omega
 all_goals simp only[aO,bd,decide_true,decide_false,oN,oK,re,rz,nM,ry,aY,aV]
 all_goals with_reducible repeat' first|(refine OS.ok ?_;constructor)|refine IM.mk λ_=>?_
 all_goals try simp only[ai,decide_eq_true_eq,true_or,or_true,true_implies,true_and,and_true] at*
 all_goals try rw[bG]
 all_goals first|omega|exact (hm ⟨by decide,by decide⟩).1|exact e1▸(hm ⟨by decide,by decide⟩).2|exact⟨AP.same hs _ _ _ rfl rfl,rfl⟩|exact⟨AP.same hs _ _ _ rfl (bG _ _ _),rfl⟩|exact⟨AP.same hs _ _ _ (bG _ _ _) rfl,rfl⟩|skip
 all_goals try exact⟨AP.set hs _ _ _ (gF (hr o (by omega) (by omega))) _ _ _ rfl rfl,rfl⟩
 ·have:=hr o (by omega) (by omega);refine aN (QJ _ _ (cM this (by have:=hs.n1;omega)) (by simp)) ?_;with_reducible repeat' first|(refine OS.ok ?_;constructor)|refine IM.mk λ_=>?_
  all_goals try simp only[ai,decide_eq_true_eq,true_or,or_true,true_implies,true_and,and_true] at*
  all_goals first|omega|skip
  exact⟨AP.set hs _ _ _ (by have:=XA (aD (T:=yH) s.1 o).2 [t];simp at this;omega) _ _ _ rfl rfl,rfl⟩
 ·have:=hr o (by omega) (by omega);have hl:(wo (aD (T:=yH) s.1 o).2 t).length<=(aD (T:=yH) s.1 o).2.length:=List.length_filter_le ..;refine aN (Rf _ _ (by omega)) ?_;with_reducible repeat' first|(refine OS.ok ?_;constructor)|refine IM.mk λ_=>?_
  all_goals try simp only[ai,decide_eq_true_eq,true_or,or_true,true_implies,true_and,and_true] at*
  all_goals first|omega|skip
  exact⟨AP.set hs _ _ _ (cM hl (by omega)) _ _ _ rfl rfl,rfl⟩
 ·exact⟨AP.set hs _ _ _ (gF (hr _ (hm ⟨by decide,by decide⟩).1 (by rw[e1];exact (hm ⟨by decide,by decide⟩).2))) _ _ _ rfl (by rw[bG,bG]),rfl⟩
 ·exact⟨AP.set hs _ _ _ (gF (hr _ (hm ⟨by decide,by decide⟩).1 (by rw[e1];exact (hm ⟨by decide,by decide⟩).2))) _ _ _ rfl (by rw[bG,bG]),rfl⟩
 ·refine aN (E5 s o hs.th) ?_;have hth:=hs.th;have hll:=ub s.2.2.2 o s.2.2.2.length;have hml:∀ u∈wl s.2.2.2 o s.2.2.2.length,0<=u/\u<s.2.2.2.length:=λu hu=>⟨(ua.1 hu).1,(ua.1 hu).2.1⟩
  have hap:uo w s t 18 o u=if (wl s.2.2.2 o s.2.2.2.length).length=0 then (s,-1) else ((s.1,s.2.1,s.2.2.1,AH s.2.2.2 (AA (wl s.2.2.2 o s.2.2.2.length) u) 4),AA (wl s.2.2.2 o s.2.2.2.length) u):=rfl
  unfold AA at hap;revert hll hml hap;generalize wl s.2.2.2 o s.2.2.2.length=l;intro hll hml hap;with_reducible repeat' first|(refine OS.ok ?_;constructor)|refine IM.mk λ_=>?_
  all_goals try simp only[ai,decide_eq_true_eq,true_or,or_true,true_implies,true_and,and_true] at*
  all_goals first|omega|skip
  ·have I:=hml _ (bx (T:=.int .i64) (xs:=l) (j:=0) (by omega) (by omega));rw[if_neg (by omega),if_neg (by omega)] at hap;simp only[TY l u (by omega),nM];refine aK (λhc=>?_) λhc=>?_
   ·have hu:=hml u (rq.1 hc);rw[hc,if_pos rfl] at hap;refine ah (aB hu.1 hu.2 (aB hu.1 hu.2 (ah ⟨AP.same hs _ _ _ rfl (bG ..),?_⟩)));rw[hap];rfl
   ·rw[hc,if_neg (by decide)] at hap;refine ah (aB I.1 I.2 (aB I.1 I.2 (ah ⟨AP.same hs _ _ _ rfl (bG ..),?_⟩)));rw[hap];rfl
  ·rw[if_pos (by omega)] at hap;exact⟨AP.same hs _ _ _ rfl rfl,hap.symm⟩
 ·refine aN (E5 s o hs.th) ?_;have hth:=hs.th;have hll:=ub s.2.2.2 o s.2.2.2.length;have hml:∀ u∈wl s.2.2.2 o s.2.2.2.length,0<=u/\u<s.2.2.2.length:=λu hu=>⟨(ua.1 hu).1,(ua.1 hu).2.1⟩
  have hap:uo w s t 19 o u=((s.1,s.2.1,s.2.2.1,Fd s.2.2.2 (wl s.2.2.2 o s.2.2.2.length)),((wl s.2.2.2 o s.2.2.2.length).length:Int)):=rfl;rw[hap];clear hap;generalize wl s.2.2.2 o s.2.2.2.length=l at hll hml ⊢;refine bX l.length (λi x=>x=((i:Int),s.2.1,0,s.1,s.2.2.1,Fd s.2.2.2 (l.take i))) ?_ ?_ rfl
  ·rintro i x hi rfl;have I:=hml _ (bx (T:=.int .i64) (xs:=l) (j:=(i:Int)) (by omega) (by omega));have hq:=FW (l.take i) s.2.2.2;with_reducible repeat' first|(refine OS.ok ?_;constructor)|refine IM.mk λ_=>?_
   all_goals try simp only[ai,decide_eq_true_eq,true_or,or_true,true_implies,true_and,and_true] at*
   all_goals first|omega|skip
   rw[go (by omega),X7 hi];rfl
  ·rintro x rfl;rw[cz];with_reducible repeat' first|(refine OS.ok ?_;constructor)|refine IM.mk λ_=>?_
   all_goals try simp only[ai,decide_eq_true_eq,true_or,or_true,true_implies,true_and,and_true] at*
   all_goals first|omega|skip
   exact AP.same hs _ _ _ rfl (FW ..)
abbrev SN:Type:=SY×List Int×List Int×List Int
abbrev ET:Type:=Int×Int×Int×Int×Int×List Int×List Int
theorem ah7 (a b:Int):Bn (a,b)=ajn (decide (0<=a/\a<b)):=Yl a b
structure NB (n:Nat) (s:SN):Prop where
 sb:SB n s.1
 c:s.2.1.length<=1000
 f:s.2.2.1.length<=1000
 k:s.2.2.2.length<=1000
structure SP (n:Nat) (s y:SN):Prop where
 ap:AP n s.1 y.1
 c:y.2.1.length=s.2.1.length
 f:y.2.2.1.length=s.2.2.1.length
 k:y.2.2.2.length=s.2.2.2.length
theorem SP.NB {n:Nat} {s y:SN} (h:SP n s y) (hs:NB n s) (hn:n+1<=100000):NB (n+1) y:=
 ⟨h.ap.toSB hs.sb hn,by rw[h.c];exact hs.c,by rw[h.f];exact hs.f,by rw[h.k];exact hs.k⟩
def Z0:SN:=(([],0,[],[]),[],[],[])
structure F16 (w:WT) (s:SN):Prop where
 c:s.2.1.length=w.1.length
 f:s.2.2.1.length=w.2.2.2.1.length
 k:s.2.2.2.length=w.2.2.2.2.1.length
theorem Xa (w:WT) (s:SN) (I:w.2.2.1.length<=1000):Ok (uE (w,s)) λb=>b=ajp->F16 w s:=by
 unfold uE Prod.p2 Prod.p3 Prod.p4 Prod.q4 aX aP ax;refine fR (al (Nv w s.1 (by omega)) λb hb=>?_);with_reducible repeat' first|(refine OS.ok ?_;constructor)|refine IM.mk λ_=>?_
 all_goals try simp only[ai,decide_eq_true_eq,true_or,or_true,true_implies,true_and,and_true] at*
 all_goals first|(intro h;constructor<;>omega)|(intro h;cases h;done)
theorem U0:∀ (l:List Int),(∀ k:Nat,k+1<l.length->l.getD k 0<l.getD (k+1) 0)->FH l
 |[],_=>trivial
 |[x],_=>⟨λy M=>(by cases M),trivial⟩
 |x::y::r,h=>by
  have J:=U0 (y::r) λk hk=>by have:=h (k+1) (by simpa using hk);simpa using this
  have h0:=h 0 (by simp);simp at h0;refine ⟨λz I=>?_,J⟩;rcases bc.1 I with rfl|I
  ·exact h0
  ·have:=J.1 z I;omega
structure AN (c:Int) (l:List Int):Prop where
 a:FH l
 m:∀ x:Int,x∈l->1<=x/\x<c
theorem GP (l:List Int) (c:Int) (hl:l.length<=1000000000):Ok (mw (l,c)) λb=>b=ajp->AN c l:=by
 unfold mw bk jf bw aP cu ax ca;refine bX l.length (λi x=>x=(i:Int)/\(∀ k:Nat,k<i->1<=aD (T:=.int .i64) l (k:Int)/\aD (T:=.int .i64) l (k:Int)<c)/\∀ k:Nat,k+1<i->l.getD k 0<l.getD (k+1) 0) ?_ ?_ ⟨rfl,λk hk=>by omega,λk hk=>by omega⟩
 ·rintro i x hi ⟨rfl,I,J⟩;have M:0<(i:Int)->be .i64 ((i:Int)-1)=((i-1:Nat):Int):=λh=>by rw[gK (by omega) (by omega)];omega
  have hq:(0<i->l.getD (i-1) 0<l.getD i 0)->1<=aD (T:=.int .i64) l (i:Int)/\aD (T:=.int .i64) l (i:Int)<c->be .i64 ((i:Int)+1)=((i+1:Nat):Int)/\(∀ k:Nat,k<i+1->1<=aD (T:=.int .i64) l (k:Int)/\aD (T:=.int .i64) l (k:Int)<c)/\∀ k:Nat,k+1<i+1->l.getD k 0<l.getD (k+1) 0:=λg1 Z=>by
   refine ⟨go (by omega),λk hk=>?_,λk hk=>?_⟩
   ·rcases bI k i with h1|h1
    ·exact I k h1
    ·rw[show k=i by omega];exact Z
   ·rcases bI (k+1) i with h1|h1
    ·exact J k h1
    ·have:=g1 (by omega);rw[show k=i-1 by omega,show i-1+1=i by omega];exact this
  with_reducible repeat' first|(refine OS.ok ?_;constructor)|refine IM.mk λ_=>?_
  all_goals try simp only[ai,decide_eq_true_eq,true_or,or_true,true_implies,true_and,and_true] at*
  all_goals first|omega|(intro h;cases h;done)|(rw [M (by omega)];omega)|skip
  ·rename_i h1 h2 Y U;rw[M Y,MB,MB] at U;exact hq (λ_=>U) ⟨by omega,by omega⟩
  ·exact hq (λh=>by omega) ⟨by omega,by omega⟩
 ·rintro x ⟨rfl,I,J⟩;with_reducible repeat' first|(refine OS.ok ?_;constructor)|refine IM.mk λ_=>?_
  all_goals try simp only[ai,decide_eq_true_eq,true_or,or_true,true_implies,true_and,and_true] at*
  all_goals first|omega|skip
  exact⟨U0 l λk hk=>J k hk,gB (T:=.int .i64) I⟩
structure VA (w:WT) (sy:SY) (ce fu:List Int) (t k o v:Int):Prop where
 ld:k=3->v=aD (T:=.int .i64) ce o
 gt:k=23->v=aD (T:=.int .i64) fu o
 br:k=5->v=0\/v=1
 el:¬k=3->¬k=23->¬k=5->¬k=4->¬k=22->v=(uo w sy t k o v).2
theorem ite2 {c:Prop} [Decidable c] {a b:SY×Int} (I:a.2=0) (hb:b.2=0):(if c then a else b).2=0:=by by_cases h:c<;>simp[h,I,hb]
theorem ad5 (w:WT) (sy:SY) (t k o u:Int) (h1:¬k=18) (I:¬k=19):(uo w sy t k o u).2=0:=by
 unfold uo;rw[if_neg h1,if_neg I];repeat (first|exact rfl|refine ite2 rfl ?_)
theorem U4 (w:WT) (sy:SY) (t k o u I:Int) (h1:¬k=18):uo w sy t k o u=uo w sy t k o I:=by
 unfold uo;rw[if_neg h1,if_neg h1]
theorem I1 (w:WT) (sy:SY) (t o u:Int):uo w sy t 18 o u=if (wl sy.2.2.2 o sy.2.2.2.length).length=0 then (sy,-1) else ((sy.1,sy.2.1,sy.2.2.1,AH sy.2.2.2 (AA (wl sy.2.2.2 o sy.2.2.2.length) u) 4),AA (wl sy.2.2.2 o sy.2.2.2.length) u):=rfl
theorem ael (w:WT) (sy:SY) (t o u:Int):(uo w sy t 19 o u).2=((wl sy.2.2.2 o sy.2.2.2.length).length:Int):=rfl
theorem Xz {n:Nat} (w:WT) (s:SN) (hs:NB n s) (hf:F16 w s) (e:ET) (he:EN w s.1 e.1 e.2.1 e.2.2.1):Ok (sr (s,e)) λb=>b=ajp->VA w s.1 s.2.1 s.2.2.1 e.1 e.2.1 e.2.2.1 e.2.2.2.1:=by
 obtain⟨t,k,o,v,si,de,fr⟩:=e;obtain⟨s1,s2,s3,s4⟩:=s;obtain⟨nm,t0,t1,cd,e1,e2,e3⟩:=he;obtain⟨_,_,ce,lk,cn,th,fu,_,_,_⟩:=nm;obtain⟨f1,f2,f3⟩:=hf;have hth:=hs.sb.th;dsimp only at*
 unfold sr Prod.p2 Prod.p3 Prod.p4 Prod.p5 Prod.q3 aX bk jf bw aP ax;have hW:=TI s1 o hth;have hWl:=ub s1.2.2.2 o s1.2.2.2.length;refine aE (λh=>?_) λn3=>?_
 ·have h:k=3:=h;obtain⟨c0,Z⟩:=ce (.inl h);exact aB c0 (by rw[f1];exact Z) (aM (ah λJ=>⟨λ_=>of_decide_eq_true J,λI=>by omega,λI=>by omega,λI=>(I h).elim⟩))
 refine aE (λh=>?_) λM=>?_
 ·have h:k=23:=h;obtain⟨c0,Z⟩:=fu (.inr h);exact aB c0 (by rw[f2];exact Z) (aM (ah λJ=>⟨λI=>by omega,λ_=>of_decide_eq_true J,λI=>by omega,λ_ I=>(I h).elim⟩))
 refine aE (λh=>?_) λn5=>?_
 ·have h:k=5:=h;exact fR (aE (λJ=>ah (ah λ_=>⟨λI=>by omega,λI=>by omega,λ_=>.inl J,λ_ _ I=>(I h).elim⟩)) λ_=>ah (ah λJ=>⟨λI=>by omega,λI=>by omega,λ_=>.inr (of_decide_eq_true J),λ_ _ I=>(I h).elim⟩))
 refine aQ (λx=>x.2=((s1,s2,s3,s4),t,k,o,v,si,de,fr)/\(x.1=ajp->k=4\/k=22)) (aE (λh=>ah ⟨rfl,λ_=>.inl h⟩) λ_=>ah ⟨rfl,λh=>.inr (of_decide_eq_true h)⟩) ?_;rintro⟨b,x⟩ ⟨e,hb⟩;dsimp only at e hb;subst e;refine aK (λh=>ah λ_=>⟨λI=>(n3 I).elim,λI=>(M I).elim,λI=>(n5 I).elim,λ_ _ _ h4 h5=>(hb h).elim (λh=>(h4 h).elim) λh=>(h5 h).elim⟩) λ_=>?_
 have fin:v=(uo w s1 t k o v).2->VA w s1 s2 s3 t k o v:=λh=>⟨λI=>(n3 I).elim,λI=>(M I).elim,λI=>(n5 I).elim,λ_ _ _ _ _=>h⟩
 refine aE (λh=>?_) λY=>?_
 ·have h:k=18:=h;subst h;rw[I1] at fin;refine aN hW ?_;revert fin hWl;generalize wl s1.2.2.2 o s1.2.2.2.length=l;intro hWl fin;refine aE (λh=>ah λJ=>fin ?_) λh=>?_
  ·dsimp only[ai] at h;rw[if_pos (by omega)];exact of_decide_eq_true J
  ·dsimp only[ai] at h;have hne:¬l.length=0:=by omega
   refine fR (eY (λ_=>aI (λ_=>?_) λ_=>ah (ah λh=>(by cases h))) λ_=>ah (ah λh=>(by cases h)));refine aN (TY _ _ (by omega)) (ah (ah λJ=>fin ?_));rw[if_neg hne];unfold AA;rw[if_neg hne,if_pos J]
 refine aE (λh=>?_) λU=>?_
 ·have h:k=19:=h;subst h;exact aN hW (ah λJ=>fin (of_decide_eq_true J))
 exact ah λJ=>fin (by rw[ad5 _ _ _ _ _ _ Y U];exact of_decide_eq_true J)
structure S16 (w:WT) (s:SN) (e:ET):Prop where
 rd:Vb w s.1 e.1 e.2.1 e.2.2.1
 s1:e.2.1=1\/e.2.1=2->e.2.2.2.2.1= -1
 s2:¬(e.2.1=1\/e.2.1=2)->0<=e.2.2.2.2.1/\e.2.2.2.2.1<w.2.2.2.2.2.length/\(aD (T:=wB) w.2.2.2.2.2 e.2.2.2.2.1).1=e.1
 de:0<e.2.2.2.2.2.1.length->e.2.1=5\/(e.2.1=3\/e.2.1=4)/\¬(aD (T:=NI) w.1 e.2.2.1).2.2.1=0
 fr:0<e.2.2.2.2.2.2.length->e.2.1=4\/e.2.1=22
 nd:AN (aD (T:=.int .i64) s.2.2.2 e.1) e.2.2.2.2.2.1
 nf:AN (aD (T:=.int .i64) s.2.2.2 e.1) e.2.2.2.2.2.2
 va:VA w s.1 s.2.1 s.2.2.1 e.1 e.2.1 e.2.2.1 e.2.2.2.1
def Ws (ce:List Int) (e:ET):List Int:=if e.2.1=4 then cw ce e.2.2.1 e.2.2.2.1 else ce
def Xr (fu:List Int) (e:ET):List Int:=if e.2.1=22 then cw fu e.2.2.1 e.2.2.2.1 else fu
def ZL (w:WT) (s:SN) (e:ET):SN:=((uo w s.1 e.1 e.2.1 e.2.2.1 e.2.2.2.1).1,Ws s.2.1 e,Xr s.2.2.1 e,cw s.2.2.2 e.1 (be .i64 (aD (T:=.int .i64) s.2.2.2 e.1+1)))
theorem DM {n:Nat} (w:WT) (s:SN) (hs:NB n s) (hw:w.2.2.1.length<=1000) (e:ET) (hd:e.2.2.2.2.2.1.length<=1000000000) (hf:e.2.2.2.2.2.2.length<=1000000000):Ok (pT (w,s,e)) λy=>(y.2=ajp->EN w s.1 e.1 e.2.1 e.2.2.1/\SP n s y.1/\S16 w s e/\y.1=ZL w s e)/\(y.2=ajq->y.1=Z0):=by
 have hz:∀ {Q:SN×Bool->Prop},Q (Z0,ajq)->Ok (ajn (Z0,ajq)) Q:=λh=>ah h
 have z0:((Z0,ajq).2=ajp->EN w s.1 e.1 e.2.1 e.2.2.1/\SP n s (Z0,ajq).1/\S16 w s e/\(Z0,ajq).1=ZL w s e)/\((Z0,ajq).2=ajq->(Z0,ajq).1=Z0):=⟨λh=>(by cases h),λ_=>rfl⟩
 unfold pT Prod.p2 Prod.p3 Prod.p4 Prod.p5 Prod.p6 Prod.q3 Prod.q4 Prod.q5 Prod.q6 Prod.q7 ck aX bk ik bn bw kf aP cu ax ca;refine aQ (λx=>x.2=(w,s,e,0)/\(x.1=ajq->F16 w s/\(EN w s.1 e.1 e.2.1 e.2.2.1/\Vb w s.1 e.1 e.2.1 e.2.2.1)/\js (w,s.1,e.1,e.2.1,e.2.2.1)=ajn ajp)) ?_ ?_
 ·refine al (Xa w s hw) λb hb=>?_
  with_reducible repeat' first|(refine OS.ok ?_;constructor)|refine IM.mk λ_=>?_
  ·exact⟨rfl,λh=>(by cases h)⟩
  simp only[ah7,nM];with_reducible repeat' first|(refine OS.ok ?_;constructor)|refine IM.mk λ_=>?_
  ·exact⟨rfl,λh=>(by cases h)⟩
  ·exact⟨rfl,λh=>(by cases h)⟩
  ·exact⟨rfl,λh=>(by cases h)⟩
  obtain⟨c,hc0,hc⟩:=Jk w s.1 hs.sb hw e.1 e.2.1 e.2.2.1;refine aN hc0 (ah ⟨rfl,λh=>?_⟩);have h:c=ajp:=by simpa using h
  exact⟨hb (by assumption),hc h,h▸hc0⟩
 rintro⟨J,U⟩ ⟨I,hx⟩;dsimp only at I hx;subst I;refine aK (λ_=>hz z0) λh1=>?_
 obtain⟨hF,⟨hE,hR⟩,hEn⟩:=hx h1;clear hx h1;refine aQ (λx=>x=(w,s,e,0)/\(e.2.1=1\/e.2.1=2->e.2.2.2.2.1= -1)/\(¬(e.2.1=1\/e.2.1=2)->0<=e.2.2.2.2.1/\e.2.2.2.2.1<w.2.2.2.2.2.length/\(aD (T:=wB) w.2.2.2.2.2 e.2.2.2.2.1).1=e.1)) ?_ ?_
 ·refine aQ (λx=>x.2=(w,s,e,0)/\(x.1=ajp->e.2.1=1\/e.2.1=2)/\(x.1=ajq->¬(e.2.1=1\/e.2.1=2))) ?_ ?_
  ·refine aE (λh=>ah ⟨rfl,λ_=>.inl h,λh=>(by cases h)⟩) λh=>ah ⟨rfl,λM=>.inr (of_decide_eq_true M),λM=>?_⟩
   have:=of_decide_eq_false M;exact λZ=>Z.elim h this
  rintro⟨J,U⟩ ⟨I,hy1,hy2⟩;dsimp only at I hy1 hy2;subst I;refine aK (λhk=>?_) λhk=>?_
  ·exact bN (λ_=>ah z0) λh=>ah ⟨rfl,λ_=>h,λZ=>(Z (hy1 hk)).elim⟩
  ·refine aQ (λx=>x.2=(w,s,e,0)/\(x.1=ajq->0<=e.2.2.2.2.1/\e.2.2.2.2.1<w.2.2.2.2.2.length/\(aD (T:=wB) w.2.2.2.2.2 e.2.2.2.2.1).1=e.1)) ?_ ?_
   ·simp only[ah7,nM];refine bN (λ_=>ah ⟨rfl,λh=>(by cases h)⟩) λh=>aB h.1 h.2 (aM (ah ⟨rfl,λM=>⟨h.1,h.2,?_⟩⟩))
    simpa using M
   rintro⟨J,U⟩ ⟨I,hz⟩;dsimp only at I hz;subst I;exact aK (λ_=>ah z0) λh=>ah ⟨rfl,λZ=>((hy2 hk) Z).elim,λ_=>hz h⟩
 rintro x ⟨rfl,hS1,hS2⟩;obtain⟨nm,t0,t1,cd,e1,e2,e3⟩:=id hE;obtain⟨_,_,ce,lk,cn,th,fu,_,_,_⟩:=nm;obtain⟨f1,f2,f3⟩:=id hF;refine aQ (λx=>x.2=(w,s,e,0)/\(x.1=ajp->e.2.1=3\/e.2.1=4)) ?_ ?_
 ·with_reducible repeat' first|(refine OS.ok ?_;constructor)|refine IM.mk λ_=>?_
  ·exact⟨rfl,λ_=>.inl (by assumption)⟩
  ·exact⟨rfl,λh=>.inr (of_decide_eq_true h)⟩
 rintro⟨J,U⟩ ⟨I,Y⟩;dsimp only at I Y;subst I;refine aQ (λx=>x.2=(w,s,e,0)/\(x.1=ajq->0<e.2.2.2.2.2.1.length->e.2.1=5\/(e.2.1=3\/e.2.1=4)/\¬(aD (T:=NI) w.1 e.2.2.1).2.2.1=0)) ?_ ?_
 ·refine aI (λ_=>bN (λ_=>aK (λh=>?_) λ_=>ah ⟨rfl,λh=>(by cases h)⟩) λh5=>ah ⟨rfl,λ_ _=>.inl h5⟩) λh=>ah ⟨rfl,λ_ M=>?_⟩
  ·refine aB (ce (Y h)).1 (ce (Y h)).2 (aM (ah ⟨rfl,λM _=>.inr ⟨Y h,?_⟩⟩));simpa using M
  ·dsimp only[ai] at h;omega
 rintro⟨J,U⟩ ⟨I,hDe⟩;dsimp only at I hDe;subst I;refine aK (λ_=>hz z0) λhde=>?_
 refine aQ (λx=>x.2=(w,s,e,0)/\(x.1=ajq->0<e.2.2.2.2.2.2.length->e.2.1=4\/e.2.1=22)) ?_ ?_
 ·refine aI (λ_=>bN (λ_=>ah ⟨rfl,λh _=>.inr (by simpa using h)⟩) λh4=>ah ⟨rfl,λ_ _=>.inl h4⟩) λh=>ah ⟨rfl,λ_ M=>?_⟩
  dsimp only[ai] at h;omega
 rintro⟨J,U⟩ ⟨I,hFr⟩;dsimp only at I hFr;subst I;refine aK (λ_=>hz z0) λhfr=>?_
 have hk:=hs.k;have hc:=hs.c;have hfu:=hs.f;refine aQ (λx=>x.2=(w,s,e,0)/\(x.1=ajq->AN (aD (T:=.int .i64) s.2.2.2 e.1) e.2.2.2.2.2.1/\AN (aD (T:=.int .i64) s.2.2.2 e.1) e.2.2.2.2.2.2/\VA w s.1 s.2.1 s.2.2.1 e.1 e.2.1 e.2.2.1 e.2.2.2.1)) ?_ ?_
 ·have hv:=Xz w s hs hF e hE;refine aB t0 (by rw[f3];exact t1) (aM (al (GP _ _ hd) λb hb=>?_));refine dB (λ_=>ah ⟨rfl,λh=>(by cases h)⟩) λb1=>?_
  refine aB t0 (by rw[f3];exact t1) (aM (al (GP _ _ hf) λb hb2=>?_));refine dB (λ_=>ah ⟨rfl,λh=>(by cases h)⟩) λb2=>?_
  exact al hv λb hb3=>ah ⟨rfl,λh=>⟨hb b1,hb2 b2,hb3 (by simpa using h)⟩⟩
 rintro⟨J,U⟩ ⟨I,hNum⟩;dsimp only at I hNum;subst I;refine aK (λ_=>hz z0) λhnu=>?_
 obtain⟨hN1,hN2,hVA⟩:=hNum hnu;have hS:S16 w s e:=⟨hR,hS1,hS2,hDe hde,hFr hfr,hN1,hN2,hVA⟩
 refine ba (by simp;omega) (by omega) (ba (by simp;omega) (by omega) (ba (by simp;omega) (by omega) ?_));refine aQ (λx=>x.2=(w,s,e,0,0,s.2.1,s.2.2.1,s.2.2.2)/\uo w s.1 e.1 e.2.1 e.2.2.1 x.1=uo w s.1 e.1 e.2.1 e.2.2.1 e.2.2.2.1) ?_ ?_
 ·exact aE (λ_=>ah ⟨rfl,rfl⟩) λh=>ah ⟨rfl,U4 _ _ _ _ _ _ _ h⟩
 rintro⟨J,U⟩ ⟨I,hxu⟩;dsimp only at I hxu;subst I;refine al (Ra w s.1 hs.sb hw e.1 e.2.1 e.2.2.1 J) λy hy=>?_
 obtain⟨_,_,hap,hyq⟩:=hy.1 (hy.2.2 hEn);rw[hxu] at hyq;refine aQ (λx=>x.1=e/\x.2.2.1=y.1/\x.2.2.2.1=Ws s.2.1 e/\x.2.2.2.2=(s.2.2.1,s.2.2.2)) ?_ ?_
 ·unfold Ws;refine aE (λh=>?_) λh=>ah ⟨rfl,rfl,(if_neg h).symm,rfl⟩
  have hc4:=ce (.inr h);with_reducible repeat' first|(refine OS.ok ?_;constructor)|refine IM.mk λ_=>?_
  all_goals try simp only[ai,decide_eq_true_eq,true_or,or_true,true_implies,true_and,and_true] at*
  all_goals first|omega|exact (if_pos h).symm
 rintro⟨J,U,x3,x4,x5,x6⟩ ⟨h1,M,Z,h4⟩;simp only[aw] at h1 M Z h4;obtain⟨rfl,rfl⟩:=h4;subst h1;subst M;subst Z;refine aQ (λx=>x.1=J/\x.2.2.1=y.1/\x.2.2.2.1=Ws s.2.1 J/\x.2.2.2.2.1=Xr s.2.2.1 J/\x.2.2.2.2.2=s.2.2.2) ?_ ?_
 ·unfold Xr;refine aE (λh=>?_) λh=>ah ⟨rfl,rfl,rfl,(if_neg h).symm,rfl⟩
  have hc4:=fu (.inl h);with_reducible repeat' first|(refine OS.ok ?_;constructor)|refine IM.mk λ_=>?_
  all_goals try simp only[ai,decide_eq_true_eq,true_or,or_true,true_implies,true_and,and_true] at*
  all_goals first|omega|exact (if_pos h).symm
 rintro⟨J,U,x3,x4,x5,x6⟩ ⟨h1,M,h4,h5,h6⟩;simp only at h1 M h4 h5 h6;subst h1;subst M;subst h4;subst h5;subst h6;have l1:(Ws s.2.1 J).length=s.2.1.length:=by unfold Ws;split<;>simp[bG]
 have l2:(Xr s.2.2.1 J).length=s.2.2.1.length:=by unfold Xr;split<;>simp[bG]
 with_reducible repeat' first|(refine OS.ok ?_;constructor)|refine IM.mk λ_=>?_
 all_goals try simp only[ai,decide_eq_true_eq,true_or,or_true,true_implies,true_and,and_true] at*
 all_goals first|omega|skip
 exact⟨⟨hE,⟨hap,l1,l2,by rw[bG]⟩,hS,by unfold ZL;rw[<- hyq]⟩,λh=>(by cases h)⟩
theorem QQ:Ok (jC ()) λl=>l.length=22:=by
 unfold jC;with_reducible repeat' first|(refine OS.ok ?_;constructor)|refine IM.mk λ_=>?_
 all_goals rfl
theorem Nu (s:List UInt8):Ok (iM s) λ_=>True:=by
 unfold iM bk bw aP cu ax ca;refine al QQ λl hl=>?_
 refine bX l.length (λi x=>x=(i:Int)) ?_ ?_ rfl
 ·rintro i x hi rfl;with_reducible repeat' first|(refine OS.ok ?_;constructor)|refine IM.mk λ_=>?_
  all_goals try simp only[ai,decide_eq_true_eq,true_or,or_true,true_implies,true_and,and_true] at*
  all_goals first|omega|exact go (by omega)
 ·rintro x rfl;with_reducible repeat' first|(refine OS.ok ?_;constructor)|refine IM.mk λ_=>?_
  all_goals try simp only[ai,decide_eq_true_eq,true_or,or_true,true_implies,true_and,and_true] at*
  all_goals omega
theorem LD (c:Int):Ok (kj c) λ_=>True:=by
 unfold kj jf ax;with_reducible repeat' first|(refine OS.ok ?_;constructor)|refine IM.mk λ_=>?_
 all_goals exact trivial
theorem Yj (c:Int):Ok (ol c) λ_=>True:=by
 unfold ol pZ jf ax;refine fR (al (LD c) λ_ _=>?_);with_reducible repeat' first|(refine OS.ok ?_;constructor)|refine IM.mk λ_=>?_
 all_goals try exact trivial
 refine al (P:=λ_=>True) ?_ λ_ _=>?_
 ·with_reducible repeat' first|(refine OS.ok ?_;constructor)|refine IM.mk λ_=>?_
  all_goals exact trivial
 ·with_reducible repeat' first|(refine OS.ok ?_;constructor)|refine IM.mk λ_=>?_
  all_goals exact trivial
theorem gD (s:List UInt8):Ok (ec s) λ_=>True:=by
 unfold ec bk vA aP cu ax ca;refine aQ (λb=>b=ajq->s.length<=12) ?_ ?_
 ·with_reducible repeat' first|(refine OS.ok ?_;constructor)|refine IM.mk λ_=>?_
  ·exact λh=>(by cases h)
  ·exact λh=>(by cases h)
  ·omega
  ·simp only[ai] at *;omega
  refine al (LD _) λ_ _=>?_
  with_reducible repeat' first|(refine OS.ok ?_;constructor)|refine IM.mk λ_=>?_
  ·exact λh=>(by cases h)
  refine al (Nu _) λ_ _=>ah λ_=>?_
  simp only[ai] at *;omega
 ·rintro b hb;refine aK (λ_=>ah trivial) λh=>?_
  have hb:=hb h;refine bX s.length (λi x=>x=(i:Int)) ?_ ?_ rfl
  ·rintro i x hi rfl;with_reducible repeat' first|(refine OS.ok ?_;constructor)|refine IM.mk λ_=>?_
   all_goals try simp only[ai,decide_eq_true_eq,true_or,or_true,true_implies,true_and,and_true] at*
   all_goals first|omega|skip
   refine al (Yj _) λ_ _=>?_
   with_reducible repeat' first|(refine OS.ok ?_;constructor)|refine IM.mk λ_=>?_
   ·exact trivial
   ·exact go (by omega)
  ·rintro x rfl;with_reducible repeat' first|(refine OS.ok ?_;constructor)|refine IM.mk λ_=>?_
   all_goals try simp only[ai,decide_eq_true_eq,true_or,or_true,true_implies,true_and,and_true] at*
   all_goals first|omega|exact trivial
theorem wY (l:List (List UInt8)) (s:List UInt8) (hl:l.length<=1000000000):Ok (hZ (l,s)) λr=> -1<=r/\r<l.length/\(0<=r->aD (T:=.str) l r=s)/\(r<0->s∉l):=by
 unfold hZ bk bw aP cu ax ca;refine bX l.length (λi x=>x=(i:Int)/\∀ k:Nat,k<i->aD (T:=.str) l (k:Int)≠s) ?_ ?_ ⟨rfl,λk hk=>by omega⟩
 ·rintro i x hi ⟨rfl,I⟩;with_reducible repeat' first|(refine OS.ok ?_;constructor)|refine IM.mk λ_=>?_
  all_goals try simp only[ai,decide_eq_true_eq,true_or,or_true,true_implies,true_and,and_true] at*
  all_goals first|omega|skip
  ·exact⟨by omega,by omega,λ_=>by assumption,λh=>by omega⟩
  ·refine ⟨go (by omega),λk hk=>?_⟩;rcases bI k i with h1|h1
   ·exact I k h1
   ·rw[show k=i by omega];assumption
 ·rintro x ⟨rfl,I⟩;with_reducible repeat' first|(refine OS.ok ?_;constructor)|refine IM.mk λ_=>?_
  all_goals try simp only[ai,decide_eq_true_eq,true_or,or_true,true_implies,true_and,and_true] at*
  all_goals first|omega|skip
  exact⟨by omega,by omega,λh=>by omega,λ_ h=>gB (T:=.str) (p:=λc=>c≠s) I s h rfl⟩
structure VL (w:WT):Prop where
 c:w.1.length<=12
 l:w.2.1.length<=4
 d:w.2.2.1.length<=2
 f:w.2.2.2.1.length<=2
 t0:1<=w.2.2.2.2.1.length
 t:w.2.2.2.2.1.length<=4
 s:w.2.2.2.2.2.length<=60
theorem X4 (w:WT) (h:VL w):Ok (oe w) λy=>y.1.length<=100:=by
 obtain⟨I,U,M,w4,Z,Y⟩:=w;obtain⟨h1,h2,h3,h4,_,h5,h6⟩:=h;dsimp only at*
 unfold oe Prod.p2 Prod.p3 Prod.p4 Prod.p5 Prod.q4 Prod.q7 aX bk ik bn bw aP cu ax ca;refine oS (λx=>((I.length:Int)-x.1).toNat) (λx=>x.2.1=(I,U,M,w4,Z,Y)/\0<=x.1/\x.1<=(I.length:Int)/\(x.2.2.length:Int)<=x.1) ?_ ⟨rfl,by simp,by simp,by simp⟩;rintro⟨x1,x2,x3⟩ ⟨e,g1,g2,g3⟩;dsimp only at e g1 g2 g3;subst e;refine aI (λg4=>?_) λg4=>?_
 ·dsimp only[ai] at g4;refine aQ (λx=>x.2.1=(I,U,M,w4,Z,Y)/\x1<x.1/\x.1<=(I.length:Int)/\(x.2.2.length:Int)<=x.1) ?_ ?_
  ·refine aB (by omega) (by omega) (aM (ba (by simp;omega) (by omega) ?_));refine aE (λ_=>?_) λ_=>?_
   ·with_reducible repeat' first|(refine OS.ok ?_;constructor)|refine IM.mk λ_=>?_
    ·exact j9 _
    ·rw[gK (by omega) (by omega)];exact⟨rfl,by dsimp only;omega,by dsimp only;omega,by simp;omega⟩
   ·generalize hz:aD _ x1=z;obtain⟨z1,(z2:Int),(J:Int),z4,z5⟩:=z;dsimp only;refine aQ (λx=>x.2=((I,U,M,w4,Z,Y),x3++[z1],z1,z2,J,z4,z5)/\(x.1=ajq->1<=J/\J<=4/\x1+J<=I.length)) ?_ ?_
    ·with_reducible repeat' first|(refine OS.ok ?_;constructor)|refine IM.mk λ_=>?_
     ·exact⟨rfl,λh=>(by cases h)⟩
     ·exact⟨rfl,λh=>(by cases h)⟩
     ·refine ⟨rfl,λh=>?_⟩;dsimp only[ai] at*
      rw[gK (by omega) (by omega),e9] at h;omega
    ·rintro⟨b,y⟩ ⟨e,hb⟩;dsimp only at e hb;subst e;refine aK (λ_=>ah (j9 _)) λh=>?_
     obtain⟨q1,q2,q3⟩:=hb h;refine oS (λx=>(J-x.1).toNat) (λx=>x.2=((I,U,M,w4,Z,Y),x3++[z1],z1,z2,J,z4,z5)/\0<=x.1/\x.1<=J) ?_ ⟨rfl,by simp,by dsimp only;omega⟩;rintro⟨k,y⟩ ⟨e,k0,k1⟩;dsimp only at e k0 k1;subst e;refine aI (λk2=>?_) λk2=>?_
     ·dsimp only at k2;have e1:be .i64 (x1+k)=x1+k:=gK (by omega) (by omega);refine aB (by dsimp only;rw[e1];omega) (by dsimp only;rw[e1];omega) (aM ?_);refine aQ (λx=>x.2=((I,U,M,w4,Z,Y),x3++[z1],z1,z2,J,z4,z5)) ?_ ?_
      ·with_reducible repeat' first|(refine OS.ok ?_;constructor)|refine IM.mk λ_=>?_
       all_goals rfl
      ·rintro⟨b,y⟩ e;dsimp only at e;subst e;refine aK (λ_=>ah (j9 _)) λ_=>ah ?_
       dsimp only;rw[gK (by omega) (by omega)];exact⟨⟨rfl,by omega,by omega⟩,by omega⟩
     ·dsimp only at k2;refine ah ?_;dsimp only;rw[gK (by omega) (by omega)];exact⟨rfl,by omega,by omega,by simp;omega⟩
  ·rintro⟨y1,y2,y3⟩ ⟨e,g5,g6,g7⟩;dsimp only at e g5 g6 g7;subst e;refine ah ⟨⟨rfl,by dsimp only;omega,g6,g7⟩,?_⟩;dsimp only;omega
 ·dsimp only[ai] at g4;refine al (P:=λy=>y.1.length<=100) ?_ λy hy=>ah hy
  refine bX U.length (λi x=>x.1=(i:Int)/\x.2.1=(I,U,M,w4,Z,Y)/\x.2.2.length<=12+i) ?_ ?_ ⟨rfl,rfl,by dsimp only;omega⟩
  ·rintro i ⟨a,b,c⟩ hi ⟨e1,e2,e3⟩;dsimp only at e1 e2 e3;subst e1;subst e2;with_reducible repeat' first|(refine OS.ok ?_;constructor)|refine IM.mk λ_=>?_
   all_goals try simp only[ai,decide_eq_true_eq,true_or,or_true,true_implies,true_and,and_true] at*
   all_goals first|omega|(simp;omega)|skip
   exact⟨go (by omega),by simp;omega⟩
  ·rintro⟨a,b,c⟩ ⟨e1,e2,e3⟩;dsimp only at e1 e2 e3;subst e1;subst e2;refine aI (λg4=>(by dsimp only[ai] at g4;omega)) λ_=>?_
   refine al (P:=λy=>y.1.length<=100) ?_ λy hy=>ah hy
   refine bX M.length (λi x=>x.1=(i:Int)/\x.2.1=(I,U,M,w4,Z,Y)/\x.2.2.length<=16+i) ?_ ?_ ⟨rfl,rfl,by dsimp only;omega⟩
   ·rintro i ⟨a,b,c⟩ hi ⟨e1,e2,e3⟩;dsimp only at e1 e2 e3;subst e1;subst e2;with_reducible repeat' first|(refine OS.ok ?_;constructor)|refine IM.mk λ_=>?_
    all_goals try simp only[ai,decide_eq_true_eq,true_or,or_true,true_implies,true_and,and_true] at*
    all_goals first|omega|(simp;omega)|skip
    exact⟨go (by omega),by simp;omega⟩
   ·rintro⟨a,b,c⟩ ⟨e1,e2,e3⟩;dsimp only at e1 e2 e3;subst e1;subst e2;refine aI (λg4=>(by dsimp only[ai] at g4;omega)) λ_=>?_
    refine al (P:=λy=>y.1.length<=100) ?_ λy hy=>ah hy
    with_reducible repeat' first|(refine OS.ok ?_;constructor)|refine IM.mk λ_=>?_
    all_goals try simp only[ai,decide_eq_true_eq,true_or,or_true,true_implies,true_and,and_true] at*
    all_goals first|omega|(simp;omega)
def Rd (T:Int) (o:Option (Int×Int)) (s:Int×Int×Int):Option (Int×Int):=
 match o with
 |none=>ajo
 |some (t,n)=>if s.1=t/\s.2.1=n then ajn (t,n+1) else if t<s.1/\s.1<T/\s.2.1=0 then ajn (s.1,1) else ajo
def Jr (T:Int) (l:List (Int×Int×Int)):Option (Int×Int):=l.foldl (Rd T) (ajn (0,0))
def Zn (w:WT):Prop:=Jr w.2.2.2.2.1.length w.2.2.2.2.2≠ajo
theorem Gp {T:Int} {l:List (Int×Int×Int)} {i:Nat} (hi:i<l.length):Jr T (l.take (i+1))=Rd T (Jr T (l.take i)) (aD (T:=wB) l (i:Int)):=by
 rw[mQ (T:=wB) hi];unfold Jr;rw[eD];rfl
theorem zG (w:WT):Ok (gh w) λb=>b=ajp->VL w/\Zn w:=by
 unfold gh Prod.p2 Prod.p3 Prod.p4 Prod.p5 Prod.q5 Prod.q6 aX bk jf ik bn bw aP cu ax ca;refine aQ (λx=>x.2=w/\(x.1=ajq->VL w)) ?_ ?_
 ·with_reducible repeat' first|(refine OS.ok ?_;constructor)|refine IM.mk λ_=>?_
  all_goals first|exact⟨rfl,λh=>(by cases h)⟩|skip
  dsimp only[ai] at*
  refine ⟨rfl,λh=>?_⟩;rw[e9] at h;constructor<;>omega
 rintro⟨b,x⟩ ⟨e,hb⟩;dsimp only at e hb;subst e;refine aK (λ_=>ah λh=>(by cases h)) λh=>?_
 have hv:=hb h;refine al (X4 _ hv) λy hy=>?_
 refine dB (λ_=>ah λh=>(by cases h)) λ_=>?_
 obtain⟨w1,w2,U,Z,J,I⟩:=x;have h6:=hv.s;have h3:=hv.d;dsimp only at h6 h3;refine bX y.1.length (λi x=>x.1=(i:Int)/\x.2=(w1,w2,U,Z,J,I)) ?_ ?_ ⟨rfl,rfl⟩
 ·rintro i ⟨a,b⟩ hi ⟨e1,e2⟩;dsimp only at e1 e2;subst e1;subst e2;refine aI (λY=>?_) λY=>(by dsimp only[ai] at Y;omega)
  refine aQ (λx=>x.2=(w1,w2,U,Z,J,I)) ?_ ?_
  ·refine aB (by dsimp only;omega) (by dsimp only;omega) (aM (al (gD _) λ_ _=>?_));refine dB (λ_=>ah rfl) λ_=>?_
   with_reducible repeat' first|(refine OS.ok ?_;constructor)|refine IM.mk λ_=>?_
   all_goals try simp only[ai,decide_eq_true_eq,true_or,or_true,true_implies,true_and,and_true] at*
   all_goals first|omega|skip
   refine al (wY _ _ (by simp;omega)) λ_ _=>ah rfl
  ·rintro⟨a,b⟩ e;dsimp only at e;subst e;with_reducible repeat' first|(refine OS.ok ?_;constructor)|refine IM.mk λ_=>?_
   ·exact λh=>(by cases h)
   ·dsimp only;exact⟨go (by omega),rfl⟩
 rintro⟨a,b⟩ ⟨e1,e2⟩;dsimp only at e1 e2;subst e1;subst e2;refine aI (λY=>(by dsimp only[ai] at Y;omega)) λ_=>?_
 refine al (P:=λb=>b=ajp->VL (w1,w2,U,Z,J,I)/\Zn (w1,w2,U,Z,J,I)) ?_ λy hy=>ah hy
 refine bX U.length (λi x=>x.1=(i:Int)/\x.2=(w1,w2,U,Z,J,I)) ?_ ?_ ⟨rfl,rfl⟩
 ·rintro i ⟨a,b⟩ hi ⟨e1,e2⟩;dsimp only at e1 e2;subst e1;subst e2;refine aI (λY=>?_) λY=>(by dsimp only[ai] at Y;omega)
  refine aB (by dsimp only;omega) (by dsimp only;omega) (aM ?_);refine aQ (λx=>x.2=(w1,w2,U,Z,J,I)) ?_ ?_
  ·with_reducible repeat' first|(refine OS.ok ?_;constructor)|refine IM.mk λ_=>?_
   all_goals try simp only[ai,decide_eq_true_eq,true_or,or_true,true_implies,true_and,and_true] at*
   all_goals first|omega|rfl
  ·rintro⟨a,b⟩ e;dsimp only at e;subst e;with_reducible repeat' first|(refine OS.ok ?_;constructor)|refine IM.mk λ_=>?_
   ·exact λh=>(by cases h)
   ·dsimp only;exact⟨go (by omega),rfl⟩
 rintro⟨a,b⟩ ⟨e1,e2⟩;dsimp only at e1 e2;subst e1;subst e2;refine aI (λY=>(by dsimp only[ai] at Y;omega)) λ_=>?_
 refine al (P:=λb=>b=ajp->VL (w1,w2,U,Z,J,I)/\Zn (w1,w2,U,Z,J,I)) ?_ λy hy=>ah hy
 refine bX I.length (λi x=>x.1=(i:Int)/\x.2=(w1,w2,U,Z,J,I)/\Jr J.length (I.take i)=ajn (if i=0 then (0,0) else ((aD (T:=wB) I ((i-1:Nat):Int)).1,(aD (T:=wB) I ((i-1:Nat):Int)).2.1+1))/\(¬i=0->(0:Int)<=(aD (T:=wB) I ((i-1:Nat):Int)).2.1/\(i:Int)>(aD (T:=wB) I ((i-1:Nat):Int)).2.1)) ?_ ?_ ⟨rfl,rfl,rfl,λh=>(h rfl).elim⟩
 ·rintro i ⟨a,b⟩ hi ⟨e1,e2,e3,hpb⟩;dsimp only at e1 e2;subst e1;subst e2;have hw:¬(i:Int)=0->be .i64 ((i:Int)-1)=((i-1:Nat):Int):=λh=>by rw[gK (by omega) (by omega)];omega
  have hnx:=Gp (T:=J.length) hi;rw[e3] at hnx;clear e3;refine aI (λY=>?_) λY=>(by dsimp only[ai] at Y;omega)
  refine aQ (λx=>x=(w1,w2,U,Z,J,I)/\Jr J.length (I.take (i+1))=ajn (((aD (T:=wB) I (i:Int)).1,(aD (T:=wB) I (i:Int)).2.1+1))/\(0:Int)<=(aD (T:=wB) I (i:Int)).2.1/\((i+1:Nat):Int)>(aD (T:=wB) I (i:Int)).2.1) ?_ ?_
  ·refine aB (by dsimp only;omega) (by dsimp only;omega) (aM ?_);rw[hnx];generalize hz:aD (T:=wB) I (i:Int)=z;obtain⟨(z1:Int),(z2:Int),(z3:Int)⟩:=z;dsimp only;refine aQ (λx=>x.2=((w1,w2,U,Z,J,I),z1,z2,z3)/\(x.1=ajq->0<=z1/\z1<J.length)) ?_ ?_
   ·refine aI (λ_=>ah ⟨rfl,λh=>(by cases h)⟩) λg=>ah ⟨rfl,λh=>⟨g,?_⟩⟩
    rw[kP] at h;exact h
   rintro⟨c,y⟩ ⟨e,hzr⟩;dsimp only at e hzr;subst e;refine aK (λ_=>ah λh=>(by cases h)) λhzb=>?_
   obtain⟨z0,zT⟩:=hzr hzb;refine aQ (λx=>x.2=((w1,w2,U,Z,J,I),z1,z2,z3)/\(x.1=ajp->i=0\/¬(aD (T:=wB) I ((i-1:Nat):Int)).1=z1)/\(x.1=ajq->¬(i:Int)=0/\(aD (T:=wB) I ((i-1:Nat):Int)).1=z1)) ?_ ?_
   ·refine aE (λh=>ah ⟨rfl,λ_=>.inl (by have h:((i:Nat):Int)=0:=h;omega),λh=>(by cases h)⟩) λh=>?_
    rw[hw h];refine aB (by omega) (by dsimp only;omega) (aM (ah ⟨rfl,λh2=>.inr (by simpa using h2),λh2=>⟨h,by simpa using h2⟩⟩))
   rintro⟨c,y⟩ ⟨e,hc1,hc⟩;dsimp only at e hc1 hc;subst e;refine aK (λhct=>?_) λhcf=>?_
   ·refine aQ (λx=>x.2=(w1,w2,U,Z,J,I)/\(x.1=ajq->z2=0/\(¬i=0->((aD (T:=wB) I ((i-1:Nat):Int)).1:Int)<z1))) ?_ ?_
    ·refine bN (λ_=>ah ⟨rfl,λh=>(by cases h)⟩) λhz2=>?_
     refine aI (λh=>?_) λM=>ah ⟨rfl,λ_=>⟨hz2,λh=>by have M:((i:Nat):Int)<=0:=M;omega⟩⟩
     have h:(0:Int)<((i:Nat):Int):=h;rw[hw (by omega)];refine aB (by omega) (by dsimp only;omega) (aM (ah ⟨rfl,λh2=>⟨hz2,λh3=>?_⟩⟩));rw[e9] at h2;have h4:=(hc1 hct).resolve_left h3;have h2:(aD (T:=wB) I ((i-1:Nat):Int)).1<=z1:=h2;exact Int.lt_iff_le_and_ne.2 ⟨h2,h4⟩
    rintro⟨c,y⟩ ⟨e,hy⟩;dsimp only at e hy;subst e;refine aK (λ_=>ah λh=>(by cases h)) λh=>ah ⟨rfl,?_⟩
    obtain⟨q1,q2⟩:=hy h;have q1:z2=0:=q1;subst q1;refine ⟨?_,dX 0,by show _>(0:Int);omega⟩;unfold Rd;by_cases M:i=0
    ·subst M;rw[if_pos rfl];dsimp only;by_cases hz1:z1=0
     ·subst hz1;rfl
     ·rw[if_neg (λh=>hz1 h.1),if_pos ⟨by omega,zT,rfl⟩];rfl
    ·have:=q2 M;rw[if_neg M];dsimp only;rw[if_neg (λh=>by omega),if_pos ⟨this,zT,rfl⟩];rfl
   ·obtain⟨M,hpr⟩:=hc hcf;rw[hw M];refine aB (by omega) (by dsimp only;omega) (aM ?_);refine bN (λ_=>ah λh=>(by cases h)) λh=>ah ⟨rfl,?_⟩
    obtain⟨b0,b1⟩:=hpb (by omega);have h:z2=be .i64 ((aD (T:=wB) I ((i-1:Nat):Int)).2.1+1):=h;rw[gK (by omega) (by omega)] at h;refine ⟨?_,by omega,by omega⟩;rw[if_neg (by omega)];unfold Rd;dsimp only;rw[if_pos ⟨hpr.symm,h⟩,hpr,h]
  ·rintro x ⟨rfl,hx,hx2⟩;refine ah ?_;dsimp only;refine ⟨go (by omega),rfl,?_,λ_=>hx2⟩;rw[if_neg (by omega)];exact hx
 ·rintro⟨a,b⟩ ⟨e1,e2,e3,_⟩;dsimp only at e1 e2;subst e1;subst e2;refine aI (λY=>(by dsimp only[ai] at Y;omega)) λ_=>?_
  rw[cz] at e3;exact ah λ_=>⟨hv,by unfold Zn;dsimp only;rw[e3];simp⟩
def rH (e:ET):Bool:=decide (e.2.1=3)||decide (e.2.1=23)
def fl (l:List ET) (t:Int):List Bool:=(l.filter λe=>decide (e.1=t)).map rH
def Ji (l:List ET) (t y:Int):Prop:=0<=y/\(fl l t).getD y.toNat ajq=ajp
theorem sT (l m:List ET) (t:Int):fl (l++m) t=fl l t++fl m t:=by unfold fl;rw[List.filter_append,ct]
theorem xG {e:ET} {t:Int} (h:e.1=t):fl [e] t=[rH e]:=by unfold fl;simp[h]
theorem uU {e:ET} {t:Int} (h:¬e.1=t):fl [e] t=[]:=by unfold fl;simp[h]
theorem Ji.app {l:List ET} {t y:Int} (h:Ji l t y) (m:List ET):Ji (l++m) t y:=by
 obtain⟨h0,h1⟩:=h;refine ⟨h0,?_⟩;rw[sT];rw[au] at h1 ⊢;rcases bI y.toNat (fl l t).length with g|g
 ·rw[bA g];exact h1
 ·rw[bB g] at h1;cases h1
theorem Ji.lt {l:List ET} {t y:Int} (h:Ji l t y):y<(fl l t).length:=by
 obtain⟨h0,h1⟩:=h;rcases bI y.toNat (fl l t).length with g|g
 ·omega
 ·rw[au,bB g] at h1;cases h1
theorem Ji.last {l:List ET} {e:ET} {y:Int} (h:rH e=ajp) (I:y=(fl l e.1).length):Ji (l++[e]) e.1 y:=by
 subst I;refine ⟨by omega,?_⟩;rw[sT,xG rfl,au,bJ (by simp),h];simp
theorem UF (l:List ET) (t:Int):(fl l t).length<=l.length:=by unfold fl;rw[bV];exact List.length_filter_le ..
structure SCx (w:WT) (l:List ET) (sy:SY) (ce fu:List Int) (e:ET):Prop where
 en:EN w sy e.1 e.2.1 e.2.2.1
 rd:Vb w sy e.1 e.2.1 e.2.2.1
 s1:e.2.1=1\/e.2.1=2->e.2.2.2.2.1= -1
 s2:¬(e.2.1=1\/e.2.1=2)->0<=e.2.2.2.2.1/\e.2.2.2.2.1<w.2.2.2.2.2.length/\(aD (T:=wB) w.2.2.2.2.2 e.2.2.2.2.1).1=e.1
 de:0<e.2.2.2.2.2.1.length->e.2.1=5\/(e.2.1=3\/e.2.1=4)/\¬(aD (T:=NI) w.1 e.2.2.1).2.2.1=0
 fr:0<e.2.2.2.2.2.2.length->e.2.1=4\/e.2.1=22
 nd:AN (fl l e.1).length e.2.2.2.2.2.1
 nf:AN (fl l e.1).length e.2.2.2.2.2.2
 rd1:∀ y∈e.2.2.2.2.2.1,Ji l e.1 y
 rd2:∀ y∈e.2.2.2.2.2.2,Ji l e.1 y
 va:VA w sy ce fu e.1 e.2.1 e.2.2.1 e.2.2.2.1
def XF:Nat->List (Int×Int×Bool)
 |0=>[]
 |n+1=>(1,0,ajq)::ay n (0,0,ajq)
def Nw (w:WT):SY:=(ay w.2.1.length (-1,[]),-1,ay w.2.2.2.1.length ajq,XF w.2.2.2.2.1.length)
def YX (w:WT):List Int:=w.1.map λc=>c.2.2.2.2
def ZN (w:WT):List Int:=ay w.2.2.2.1.length 0
inductive ZS (w:WT):List ET->SY->List Int->List Int->Prop
 |nil:ZS w [] (Nw w) (YX w) (ZN w)
 |snoc {l:List ET} {sy:SY} {ce fu:List Int} {e:ET} (h:ZS w l sy ce fu) (hs:SCx w l sy ce fu e):ZS w (l++[e]) (uo w sy e.1 e.2.1 e.2.2.1 e.2.2.2.1).1 (Ws ce e) (Xr fu e)
theorem XE (i:Nat):XF (i+2)=XF (i+1)++[(0,0,ajq)]:=by
 show (1,0,ajq)::ay (i+1) (0,0,ajq)=(1,0,ajq)::ay i (0,0,ajq)++[(0,0,ajq)]
 rw[CF,fg]
theorem LT:∀ n,(XF n).length=n
 |0=>rfl
 |n+1=>by simp[XF]
theorem I8 (w:WT) (h:VL w):pU w=ajn (Nw w):=by
 obtain⟨w1,I,Z,J,U,Y⟩:=w;obtain⟨h1,h2,h3,h4,_,h5,h6⟩:=h;dsimp only at*
 refine co ?_;unfold pU Prod.p2 Prod.p3 Prod.p4 Prod.p5 Prod.q4 Prod.q5 Prod.q6 aX bk bn aP cu ax ca;refine bX I.length (λi x=>x.1=(i:Int)/\x.2.1=(w1,I,Z,J,U,Y)/\x.2.2.2=(-1,ay i (-1,[]))) ?_ ?_ ⟨rfl,rfl,rfl⟩
 ·rintro i ⟨a,b,c,d,e⟩ hi ⟨e1,e2,e3⟩;simp only[aw] at e1 e2 e3;obtain⟨rfl,rfl⟩:=e3;subst e1;subst e2;with_reducible repeat' first|(refine OS.ok ?_;constructor)|refine IM.mk λ_=>?_
  all_goals try simp only[ai,decide_eq_true_eq,true_or,or_true,true_implies,true_and,and_true] at*
  all_goals first|omega|(simp;omega)|skip
  exact⟨go (by omega),by rw[CF]⟩
 rintro⟨a,b,c,d,e⟩ ⟨e1,e2,e3⟩;simp only[aw] at e1 e2 e3;obtain⟨rfl,rfl⟩:=e3;subst e1;subst e2;refine aI (λM=>(by dsimp only[ai] at M;omega)) λ_=>?_
 refine al (P:=λs=>s=Nw (w1,I,Z,J,U,Y)) ?_ λy hy=>ah hy
 refine bX J.length (λi x=>x.1=(i:Int)/\x.2.1=(w1,I,Z,J,U,Y)/\x.2.2.2=(-1,ay I.length (-1,[]),ay i ajq)) ?_ ?_ ⟨rfl,rfl,rfl⟩
 ·rintro i ⟨a,b,c,d,e',f⟩ hi ⟨e1,e2,e3⟩;simp only[aw] at e1 e2 e3;obtain⟨rfl,rfl,rfl⟩:=e3;subst e1;subst e2;with_reducible repeat' first|(refine OS.ok ?_;constructor)|refine IM.mk λ_=>?_
  all_goals try simp only[ai,decide_eq_true_eq,true_or,or_true,true_implies,true_and,and_true] at*
  all_goals first|omega|(simp;omega)|skip
  exact⟨go (by omega),by rw[CF]⟩
 rintro⟨a,b,c,d,e',f⟩ ⟨e1,e2,e3⟩;simp only[aw] at e1 e2 e3;obtain⟨rfl,rfl,rfl⟩:=e3;subst e1;subst e2;refine aI (λM=>(by dsimp only[ai] at M;omega)) λ_=>?_
 refine al (P:=λs=>s=Nw (w1,I,Z,J,U,Y)) ?_ λy hy=>ah hy
 refine bX U.length (λi x=>x.1=(i:Int)/\x.2.1=(w1,I,Z,J,U,Y)/\x.2.2.2=(-1,ay I.length (-1,[]),ay J.length ajq,XF i)) ?_ ?_ ⟨rfl,rfl,rfl⟩
 ·rintro i ⟨a,b,c,d,e'',f',g⟩ hi ⟨e1,e2,e3⟩;simp only[aw] at e1 e2 e3;obtain⟨rfl,rfl,rfl,rfl⟩:=e3;subst e1;subst e2;have hl:=LT i;refine aI (λ_=>?_) λM=>(by dsimp only[ai] at M;omega)
  refine fR (aE (λh0=>ah ?_) λh0=>ah ?_)
  ·have h0:((i:Nat):Int)=0:=h0;have h0:i=0:=by omega
   subst h0;exact ba (by simp[XF]) (by omega) (ah ⟨rfl,rfl,rfl⟩)
  ·have h0:¬((i:Nat):Int)=0:=h0;obtain⟨j,rfl⟩:∃ j,i=j+1:=⟨i-1,by omega⟩
   refine ba (by dsimp only;rw[hl];simp;omega) (by omega) (ah ⟨go (by omega),rfl,?_⟩);dsimp only;rw[XE]
 rintro⟨a,b,c,d,e'',f',g⟩ ⟨e1,e2,e3⟩;simp only[aw] at e1 e2 e3;obtain⟨rfl,rfl,rfl,rfl⟩:=e3;subst e1;subst e2;refine aI (λM=>(by dsimp only[ai] at M;omega)) λ_=>ah rfl
theorem Rr {w:WT} (h:VL w):SB 0 (Nw w):=by
 obtain⟨h1,Y,U,M,_,J,I⟩:=h;refine ⟨by omega,by simp[Nw];omega,λl hl=>?_,by simp[Nw];omega,by simp[Nw,LT];omega⟩;rw[vz hl];simp
theorem I7 (w:WT) (h:VL w):lI w=ajn (Nw w,YX w,ZN w,ay w.2.2.2.2.1.length 0):=by
 have hs:=I8 w h;have hd:(Nw w)=Nw w:=rfl;obtain⟨I,Z,Y,M,J,U⟩:=w;obtain⟨h1,h2,h3,h4,_,h5,h6⟩:=h;dsimp only at*
 refine co ?_;unfold lI Prod.p2 Prod.p3 Prod.p4 Prod.q3 Prod.q5 bk bn bw aP cu ax ca;refine aN hs ?_;with_reducible repeat' first|(refine OS.ok ?_;constructor)|refine IM.mk λ_=>?_
 all_goals try simp only[ai,decide_eq_true_eq,true_or,or_true,true_implies,true_and,and_true] at*
 all_goals first|omega|skip
 refine bX I.length (λi x=>x.1=(i:Int)/\x.2.1=(I,Z,Y,M,J,U)/\x.2.2.2=(Nw (I,Z,Y,M,J,U),(I.take i).map (λc=>c.2.2.2.2),ay M.length 0,ay J.length 0)) ?_ ?_ ⟨rfl,rfl,rfl⟩
 ·rintro i ⟨a,b,c,d,e,f,g⟩ hi ⟨e1,e2,e3⟩;simp only[aw] at e1 e2 e3;obtain⟨rfl,rfl,rfl,rfl⟩:=e3;subst e1;subst e2;with_reducible repeat' first|(refine OS.ok ?_;constructor)|refine IM.mk λ_=>?_
  all_goals try simp only[ai,decide_eq_true_eq,true_or,or_true,true_implies,true_and,and_true] at*
  all_goals first|omega|(simp;omega)|skip
  exact⟨go (by omega),by rw[mQ (T:=NI) hi,ct];rfl⟩
 rintro⟨a,b,c,d,e,f,g⟩ ⟨e1,e2,e3⟩;simp only[aw] at e1 e2 e3;obtain⟨rfl,rfl,rfl,rfl⟩:=e3;subst e1;subst e2;refine aI (λg4=>(by dsimp only[ai] at g4;omega)) λ_=>ah ?_
 rw[cz];rfl
theorem TN (w:WT) (h:VL w):Ok (lI w) λs=>NB 0 s/\s.2.1.length=w.1.length/\s.2.2.1.length=w.2.2.2.1.length/\s.2.2.2.length=w.2.2.2.2.1.length:=
 ah3 (I7 w h) ⟨⟨Rr h,by have:=h.c;simp[YX];omega,by have:=h.f;simp[ZN];omega,by have:=h.t;simp;omega⟩,by simp[YX],by simp[ZN],by simp⟩
theorem N8 (l:List ET) (i t:Int) (I:List Int) (hl:l.length<=1000000000) (hi:0<=i/\i<=l.length) (hn:I.length<=1000000000):Ok (pS (l,i,t,I)) λb=>b=ajp->∀ y∈I,Ji (l.take i.toNat) t y:=by
 unfold pS Prod.p2 Prod.q3 aX bk ik bw aP cu ax ca;refine bX I.length (λk x=>x=(k:Int)/\∀ j:Nat,j<k->Ji (l.take i.toNat) t (aD (T:=.int .i64) I (j:Int))) ?_ ?_ ⟨rfl,λj hj=>(by omega)⟩
 ·rintro k x hk ⟨rfl,Y⟩;refine aI (λM=>?_) λM=>(by dsimp only[ai] at M;omega)
  refine oS (λx=>(i-x.2.2).toNat) (λx=>0<=x.2.2/\x.2.2<=i/\x.1=((fl (l.take x.2.2.toNat) t).length:Int)/\(x.2.1=ajp->Ji (l.take x.2.2.toNat) t (aD (T:=.int .i64) I (k:Int)))) ?_ ⟨by simp,hi.1,by simp[fl],λh=>(by cases h)⟩;rintro⟨a,b,(c:Int)⟩ ⟨U,c1,Z,hb⟩;dsimp only at U c1 Z hb;subst Z;obtain⟨c,rfl⟩:∃ n:Nat,c=(n:Int):=⟨c.toNat,by omega⟩
  rw[iW] at hb;dsimp only;rw[iW];have hfl:=UF (l.take c) t;have htl:=oP c l;refine aI (λJ=>?_) λJ=>?_
  ·have J:(c:Int)<i:=J;have htk:l.take (c+1)=l.take c++[aD (T:=tE) l (c:Int)]:=mQ (T:=tE) (by omega);refine aQ (λy=>y.1=((fl (l.take (c+1)) t).length:Int)/\(y.2=ajp->Ji (l.take (c+1)) t (aD (T:=.int .i64) I (k:Int)))) ?_ ?_
   ·rw[htk,sT];refine aB U (by first|omega|(dsimp only;omega)) (aM ?_);refine bN (λhne=>ah ⟨by rw[uU hne];simp,λh=>(hb h).app _⟩) λhe=>?_
    have he:(aD (T:=tE) l (c:Int)).1=t:=he;refine aQ (λy=>y=ajp->Ji (l.take c++[aD (T:=tE) l (c:Int)]) t (aD (T:=.int .i64) I (k:Int))) ?_ λy hy=>ah ⟨?_,hy⟩
    ·refine aK (λh=>ah λ_=>(hb h).app _) λ_=>?_
     refine aB (by omega) (by first|omega|(dsimp only;omega)) (aM ?_);refine aE (λhn=>?_) λ_=>ah λh=>(by cases h)
     have hq:rH (aD (T:=tE) l (c:Int))=ajp->Ji (l.take c++[aD (T:=tE) l (c:Int)]) t (aD (T:=.int .i64) I (k:Int)):=λh=>by
      rw[<- he] at hn ⊢;exact Ji.last h hn.symm
     refine aB U (by first|omega|(dsimp only;omega)) (aM ?_);refine aE (λh=>ah λ_=>hq (by unfold rH;rw[decide_eq_true h];rfl)) λ_=>?_
     exact aB U (by first|omega|(dsimp only;omega)) (aM (ah λh=>hq (by unfold rH;rw[h];simp)))
    ·dsimp only;rw[xG he,go (by omega)];simp
   ·rintro⟨p,q⟩ ⟨hp,hq⟩;refine ah ?_;dsimp only at hp hq ⊢;rw[go (by omega),iW];exact⟨⟨by omega,by omega,hp,hq⟩,by omega⟩
  ·refine al (P:=λr=>match r with|.inl y=>y=((k+1:Nat):Int)/\∀ j:Nat,j<k+1->Ji (l.take i.toNat) t (aD (T:=.int .i64) I (j:Int))|.inr r=>r=ajp->∀ y∈I,Ji (l.take i.toNat) t y) ?_ λr hr=>ah ?_
   ·refine dB (λ_=>ah λh=>(by cases h)) λh=>ah ⟨go (by omega),λj hj=>?_⟩
    rcases bI j k with h1|h1
    ·exact Y j h1
    ·have:=hb h;have hci:c=i.toNat:=by have J:i<=(c:Int):=J;omega
     rw[show j=k by omega,<-hci];exact this
   ·cases r with
    |inl y=>exact hr
    |inr r=>exact hr
 ·rintro x ⟨rfl,Y⟩;refine aI (λM=>(by dsimp only[ai] at M;omega)) λ_=>ah λ_=>gB (T:=.int .i64) Y
def CN (l:List ET) (c:List Int):Prop:=∀ t:Int,0<=t->t<c.length->aD (T:=.int .i64) c t=((fl l t).length:Int)
theorem r8 {T:Ty} (xs:List T.den) (j k:Int) (x:T.den) (hj:0<=j) (I:j<xs.length) (hk:0<=k):aD (cw xs j x) k=if k=j then x else aD xs k:=by
 unfold aD cw;rw[au,au,rG];by_cases h:k=j
 ·subst h;rw[if_pos rfl,if_pos rfl,if_pos (by omega)];rfl
 ·rw[if_neg (by omega),if_neg h]
theorem CN.next {l:List ET} {c:List Int} (h:CN l c) (e:ET) (h0:0<=e.1) (h1:e.1<c.length) (hl:l.length<1000000):CN (l++[e]) (cw c e.1 (be .i64 (aD (T:=.int .i64) c e.1+1))):=λt t0 t1=>by
 rw[bG] at t1;have:=UF l e.1;rw[r8 (T:=.int .i64) _ _ _ _ h0 h1 t0,sT];split
 ·rename_i I;subst I;rw[xG rfl,h _ h0 h1,go (by omega)];simp
 ·rename_i I;rw[uU λJ=>I J.symm,h _ t0 t1];simp
structure EvF (w:WT) (e:ET):Prop where
 nm:NM w e.2.1 e.2.2.1
 t0:0<=e.1
 t1:e.1<w.2.2.2.2.1.length
 cd:∀ c∈w.2.2.1,0<=c.2/\c.2<w.2.1.length
theorem ZD (w:WT) (l:List ET) (hd:∀ e∈l,e.2.2.2.2.2.1.length<=1000000000/\e.2.2.2.2.2.2.length<=1000000000):Ok (su (w,l)) λy=>y.2=0->(VL w/\Zn w)/\(∀ e∈l,EvF w e)/\∃ sy ce fu,ZS w l sy ce fu:=by
 unfold su Prod.p5 Prod.q3 Prod.q6 bk bw aP cu ax ca;refine aI (λ_=>ah λh=>(by cases h)) λhl=>?_
 dsimp only[ai] at hl;refine al (zG w) λb hb=>?_
 refine dB (λ_=>ah λh=>(by cases h)) λh=>?_
 obtain⟨hv,hsv⟩:=hb h;refine aN (I7 w hv) ?_;have hs:NB 0 (Nw w,YX w,ZN w,ay w.2.2.2.2.1.length 0):=⟨Rr hv,by have:=hv.c;simp[YX];omega,by have:=hv.f;simp[ZN];omega,by have:=hv.t;simp;omega⟩
 have hw:w.2.2.1.length<=1000:=by have:=hv.d;omega
 refine bX l.length (λi x=>x.1=(i:Int)/\x.2.1=(w,l)/\NB i x.2.2/\(∀ k:Nat,k<i->EvF w (aD (T:=tE) l (k:Int)))/\ZS w (l.take i) x.2.2.1 x.2.2.2.1 x.2.2.2.2.1/\CN (l.take i) x.2.2.2.2.2/\x.2.2.2.2.2.length=w.2.2.2.2.1.length) ?_ ?_ ⟨rfl,rfl,hs,λk hk=>(by omega),.nil,λt t0 t1=>?_,by simp⟩
 ·rintro i ⟨a,b,s⟩ hi ⟨e1,e2,e3,Y,U,e6,Z⟩;dsimp only at e1 e2 e3 Y U e6 Z;subst e1;subst e2;refine aI (λI=>?_) λI=>(by dsimp only[ai] at I;omega)
  refine aB (by dsimp only;omega) (by dsimp only;omega) (aM ?_);have hmem:=bx (T:=tE) (xs:=l) (j:=(i:Int)) (by omega) (by omega);obtain⟨d1,d2⟩:=hd _ hmem;refine al (DM w s e3 hw _ d1 d2) λy hy=>?_
  refine aQ (λx=>x.2.1=(w,l)/\x.2.2.2=y.1/\(x.1=ajq->y.2=ajp/\(∀ z∈(aD (T:=tE) l (i:Int)).2.2.2.2.2.1,Ji (l.take i) (aD (T:=tE) l (i:Int)).1 z)/\∀ z∈(aD (T:=tE) l (i:Int)).2.2.2.2.2.2,Ji (l.take i) (aD (T:=tE) l (i:Int)).1 z)) ?_ ?_
  ·refine dB (λ_=>ah ⟨rfl,rfl,λh=>(by cases h)⟩) λh=>?_
   refine al (N8 l _ _ _ (by omega) ⟨by dsimp only;omega,by dsimp only;omega⟩ d1) λb1 hr1=>?_
   refine dB (λ_=>ah ⟨rfl,rfl,λh=>(by cases h)⟩) λhb1=>?_
   refine al (N8 l _ _ _ (by omega) ⟨by dsimp only;omega,by dsimp only;omega⟩ d2) λb2 hr2=>ah ⟨rfl,rfl,λhb2=>⟨h,hr1 hb1,hr2 (by simpa using hb2)⟩⟩
  ·rintro⟨c,p,q,r⟩ ⟨f1,f2,f3⟩;dsimp only at f1 f2 f3;subst f1;subst f2;refine aK (λ_=>ah λh=>(by cases h)) λh=>?_
   obtain⟨f4,r1,r2⟩:=f3 h;obtain⟨J,g2,M,I⟩:=hy.1 f4;refine ah ?_;dsimp only;have htk:l.take (i+1)=l.take i++[aD (T:=tE) l (i:Int)]:=mQ (T:=tE) hi;have hc:=e6 _ J.t0 (by rw[Z];exact J.t1);have hnx:=congrArg Prod.fst I;have hac:=U.snoc (e:=aD (T:=tE) l (i:Int)) ⟨J,M.rd,M.s1,M.s2,M.de,M.fr,by rw[<- hc];exact M.nd,by rw[<- hc];exact M.nf,r1,r2,M.va⟩;refine ⟨go (by omega),rfl,g2.NB e3 (by omega),λk hk=>?_,by rw[htk,I];exact hac,by rw[htk,I];exact e6.next _ J.t0 (by rw[Z];exact J.t1) (by rw[bm];omega),by rw[I];unfold ZL;rw[bG];exact Z⟩;rcases bI k i with h1|h1
   ·exact Y k h1
   ·rw[show k=i by omega];exact⟨J.nm,J.t0,J.t1,J.cd⟩
 ·rintro⟨a,b,s⟩ ⟨e1,e2,e3,Y,U,_⟩;dsimp only at e1 e2 e3 Y U;subst e1;subst e2;rw[cz] at U;refine aI (λI=>(by dsimp only[ai] at I;omega)) λ_=>ah λ_=>⟨⟨hv,hsv⟩,gB (T:=tE) Y,_,_,_,U⟩
 ·rw[dK] at t1;obtain⟨t,rfl⟩:∃ n:Nat,t=(n:Int):=⟨t.toNat,by omega⟩
  rw[MB,au,pE];split<;>simp[fl]
structure TP (t:List Int×Int):Prop where
 l0:t.1.length<=9223372036854775807
 by_:∀ x∈t.1,0<=x/\x<=255
 a0:0<=t.2
 a1:t.2<=t.1.length
structure te (t t':List Int×Int):Prop where
 e:t'.1=t.1
 m:t.2<=t'.2
 p:TP t'
theorem te.refl {t:List Int×Int} (h:TP t):te t t:=⟨rfl,dX _,h⟩
theorem te.trans {a b c:List Int×Int} (h:te a b) (g:te b c):te a c:=⟨g.e.trans h.e,Int.le_trans h.m g.m,g.p⟩
theorem fe (n:Int) (t:List Int×Int) (h:TP t):Ok (bh (n,t)) λy=>te t y.2/\0<=y.1/\(1<=n->y.1<n)/\(t.2<t.1.length->1<=n->t.2<y.2.2):=by
 obtain⟨L,a⟩:=t;have Y:=h;obtain⟨l0,hb,a0,a1⟩:=h;dsimp only at l0 hb a0 a1;unfold bh jf bn bw aP ax ca;refine aQ (λx=>x.2=(L,a)/\(x.1=ajp->a=L.length\/n<1)/\(x.1=ajq->a<L.length/\1<=n)) ?_ ?_
 ·refine eY (λh=>ah ⟨rfl,λ_=>?_,λh=>(by cases h)⟩) λh=>ah ⟨rfl,λI=>?_,λI=>?_⟩
  ·dsimp only[ai] at h;omega
  ·rw[rN] at I;exact .inr I
  ·rw[e9] at I;dsimp only[ai] at h I;omega
 rintro⟨b,x⟩ ⟨e,h1,I⟩;dsimp only at e h1 I;subst e;refine aK (λh=>ah ⟨te.refl Y,dX _,λU=>(by dsimp only;omega),λU h4=>?_⟩) λh=>?_
 ·have:=h1 h;dsimp only at U;omega
 obtain⟨M,Z⟩:=I h;refine aM ?_;have e1:be .i64 (a+1)=a+1:=gK (by omega) (by omega);dsimp only;rw[e1,gK (n:=a+1-1) (by omega) (by omega),show a+1-1=a by omega];have J:=hb _ (bx (T:=.int .u8) (xs:=L) (j:=a) a0 M);refine aB a0 M (aM ?_);generalize (aD _ a)=z at J;have J:0<=z/\z<=255:=J;rw[gK (n:=z) (by omega) (by omega)];refine xo (by omega) (ah ?_);dsimp only;refine ⟨⟨rfl,by dsimp only;omega,⟨l0,hb,by dsimp only;omega,by dsimp only;omega⟩⟩,Int.tmod_nonneg _ J.1,λ_=>?_,λ_ _=>by omega⟩;exact Int.tmod_lt_of_pos _ (by omega)
theorem Rh (s:SY) (hs:s.2.2.2.length<=1000) (y:List Int×List Int×List Int):Ok (jX (s,y)) λl=>l.length<=s.2.2.2.length:=by
 unfold jX Prod.q3 aX bk bn bw aP cu ax ca;refine bX s.2.2.2.length (λi x=>x.1=(i:Int)/\x.2.length<=i) ?_ ?_ ⟨rfl,by simp⟩
 ·rintro i ⟨a,b⟩ hi ⟨e1,e2⟩;dsimp only at e1 e2;subst e1;with_reducible repeat' first|(refine OS.ok ?_;constructor)|refine IM.mk λ_=>?_
  all_goals try simp only[ai,decide_eq_true_eq,true_or,or_true,true_implies,true_and,and_true] at*
  all_goals first|omega|(simp;omega)|skip
  ·exact⟨go (by omega),by simp;omega⟩
  ·exact⟨go (by omega),by omega⟩
 ·rintro⟨a,b⟩ ⟨e1,e2⟩;dsimp only at e1 e2;subst e1;refine aI (λI=>(by dsimp only[ai] at I;omega)) λ_=>ah e2
theorem Vs (k u:Int) (t:List Int×Int) (h:TP t):Ok (nv ((k,u),t)) λy=>te t y.2/\(k=3\/k=4->0<=y.1/\y.1<5):=by
 unfold nv aX kf ax ca;rcases @G8 k with rfl|rfl|rfl|rfl|rfl|rfl|rfl|rfl|rfl|rfl|rfl|rfl|rfl|rfl|rfl|rfl|rfl|rfl|rfl|rfl|rfl|rfl|rfl|⟨hk,J⟩
 case inr.inr.inr.inr.inr.inr.inr.inr.inr.inr.inr.inr.inr.inr.inr.inr.inr.inr.inr.inr.inr.inr.inr=>
  simp only[hk 1 (by decide) (by decide),hk 2 (by decide) (by decide),hk 3 (by decide) (by decide),hk 4 (by decide) (by decide),hk 5 (by decide) (by decide),hk 6 (by decide) (by decide),hk 7 (by decide) (by decide),hk 8 (by decide) (by decide),hk 9 (by decide) (by decide),hk 10 (by decide) (by decide),hk 11 (by decide) (by decide),hk 12 (by decide) (by decide),hk 13 (by decide) (by decide),hk 14 (by decide) (by decide),hk 15 (by decide) (by decide),hk 16 (by decide) (by decide),hk 17 (by decide) (by decide),hk 18 (by decide) (by decide),hk 19 (by decide) (by decide),hk 20 (by decide) (by decide),hk 21 (by decide) (by decide),hk 22 (by decide) (by decide),hk 23 (by decide) (by decide),aO,bd,decide_true,decide_false,oN,oK,re,rz,nM,ry,aY,aV];exact ah ⟨te.refl h,λh=>(by first|omega|(simp at h;done)|(rcases h with h|h<;>cases h;done))⟩
 all_goals simp only[aO,bd,decide_true,decide_false,oN,oK,re,rz,nM,ry,aY,aV]
 all_goals first
  |exact ah ⟨te.refl h,λh=>(by first|omega|(simp at h;done)|(rcases h with h|h<;>cases h;done))⟩
  |exact al (fe 2 t h) λy I=>ah ⟨I.1,λh=>(by first|omega|(simp at h;done)|(rcases h with h|h<;>cases h;done))⟩
  |exact al (fe 3 t h) λy I=>ah ⟨I.1,λh=>(by first|omega|(simp at h;done)|(rcases h with h|h<;>cases h;done))⟩
  |skip
 all_goals
  refine al (fe 8 t h) λy I=>?_
  have h1:=I.2.1;have M:=I.2.2.1 (by omega);refine aB h1 (by simp;omega) (aB h1 (by simp;omega) (aM (ah ⟨I.1,λ_=>?_⟩)));have:∀ z:Int,z∈([0,0,0,1,1,2,3,4]:List Int)->0<=z/\z<5:=by decide
  exact this _ (bx (T:=.int .i64) h1 (by simp;omega))
structure SZ (n:Nat) (s:SN):Prop where
 nb:NB n s
 c:s.2.1.length=5
 f:s.2.2.1.length=1
 k:s.2.2.2.length=4
theorem SZ.step {n:Nat} {s y:SN} (h:SZ n s) (hp:SP n s y) (hn:n+1<=100000):SZ (n+1) y:=
 ⟨hp.NB h.nb hn,by rw[hp.c];exact h.c,by rw[hp.f];exact h.f,by rw[hp.k];exact h.k⟩
theorem Vh {n:Nat} (s:SN) (hs:SZ n s) (k o:Int) (M:k=3->0<=o/\o<5) (t:List Int×Int) (h:TP t):Ok (oY ((s,k,o),t)) λy=>te t y.2:=by
 obtain⟨s1,s2,Y,U⟩:=s;have hc:=hs.c;have hf:=hs.f;have hth:=hs.nb.sb.th;dsimp only at hc hf hth;have J:=Rh s1 hth (s2,Y,U);unfold oY Prod.p2 aX bk bw aP ax;rcases @G8 k with rfl|rfl|rfl|rfl|rfl|rfl|rfl|rfl|rfl|rfl|rfl|rfl|rfl|rfl|rfl|rfl|rfl|rfl|rfl|rfl|rfl|rfl|rfl|⟨hk,Z⟩
 case inr.inr.inr.inr.inr.inr.inr.inr.inr.inr.inr.inr.inr.inr.inr.inr.inr.inr.inr.inr.inr.inr.inr=>
  simp only[hk 1 (by decide) (by decide),hk 2 (by decide) (by decide),hk 3 (by decide) (by decide),hk 4 (by decide) (by decide),hk 5 (by decide) (by decide),hk 6 (by decide) (by decide),hk 7 (by decide) (by decide),hk 8 (by decide) (by decide),hk 9 (by decide) (by decide),hk 10 (by decide) (by decide),hk 11 (by decide) (by decide),hk 12 (by decide) (by decide),hk 13 (by decide) (by decide),hk 14 (by decide) (by decide),hk 15 (by decide) (by decide),hk 16 (by decide) (by decide),hk 17 (by decide) (by decide),hk 18 (by decide) (by decide),hk 19 (by decide) (by decide),hk 20 (by decide) (by decide),hk 21 (by decide) (by decide),hk 22 (by decide) (by decide),hk 23 (by decide) (by decide),aO,bd,decide_true,decide_false,oN,oK,re,rz,nM,ry,aY,aV];exact ah (te.refl h)
 all_goals simp only[aO,bd,decide_true,decide_false,oN,oK,re,rz,nM,ry,aY,aV]
 all_goals first
  |exact ah (te.refl h)
  |exact al (fe 2 t h) λy I=>ah I.1
  |exact al (fe 3 t h) λy I=>ah I.1
  |exact al J λy I=>ah (te.refl h)
  |exact aB (by decide) (by omega) (aM (ah (te.refl h)))
  |exact aB (M rfl).1 (by have:=(M rfl).2;omega) (aM (ah (te.refl h)))
  |skip
 refine al J λl hl=>?_
 refine aI (λh1=>?_) λ_=>ah (te.refl h)
 refine al (fe _ t h) λy I=>?_
 dsimp only[ai] at h1;have h2:=I.2.2.1 (by dsimp only[ai];omega);exact aB I.2.1 h2 (aM (ah I.1))
theorem ZZ (t:List Int×Int) (h:TP t) (r:List Int) (hr:r.length<=1000000):Ok (fA (t,r)) λy=>y.1.length<=r.length/\te t y.2.1/\y.2.2=r:=by
 unfold fA Prod.p2 Prod.q3 bk jf bn kf aP cu ax ca;refine bX r.length (λi x=>x.1=(i:Int)/\te t x.2.1/\x.2.2.1=r/\x.2.2.2.length<=i) ?_ ?_ ⟨rfl,te.refl h,rfl,by simp⟩
 ·rintro i ⟨a,b,c,d⟩ hi ⟨e1,e2,e3,U⟩;dsimp only at e1 e2 e3 U;subst e1;subst e3;refine aI (λM=>?_) λM=>(by dsimp only[ai] at M;omega)
  refine aQ (λx=>te t x.1/\x.2.1=c/\x.2.2.length<=i+1) ?_ ?_
  ·refine aB (by dsimp only;omega) (by dsimp only;omega) (aB (by dsimp only;omega) (by dsimp only;omega) (aM ?_));refine aQ (λx=>te t x.2.1/\x.2.2=(c,d)) ?_ ?_
   ·refine aK (λ_=>?_) λ_=>ah ⟨e2,rfl⟩
    exact al (fe 2 b e2.p) λy Z=>ah ⟨e2.trans Z.1,rfl⟩
   ·rintro⟨p,q,u⟩ ⟨I,J⟩;dsimp only at I J;subst J;refine aK (λ_=>?_) λ_=>ah ⟨I,rfl,by dsimp only;omega⟩
    exact ba (by simp;omega) (by omega) (ah ⟨I,rfl,by simp;omega⟩)
  ·rintro⟨p,q,u⟩ ⟨I,J,Y⟩;dsimp only at I J Y;subst J;refine ah ?_;dsimp only;exact⟨go (by omega),I,rfl,Y⟩
 ·rintro⟨a,b,c,d⟩ ⟨e1,e2,e3,U⟩;dsimp only at e1 e2 e3 U;subst e1;subst e3;refine aI (λM=>(by dsimp only[ai] at M;omega)) λ_=>ah ⟨U,e2,rfl⟩
theorem Ye:rJ ()=ajn [3,3,3,3,3,4,4,4,4,4,5,5,5,6,6,6,7,7,7,8,9,10,11,12,13,14,14,15,16,16,17,17,18,18,19,20,1,1,2,21,22,23,23]:=rfl
abbrev RR:Type:=List Int×List Int×List Int×List Int
structure RB4 (m:Nat) (r:RR):Prop where
 r0:r.1.length<=m
 r1:r.2.1.length<=m
 r2:r.2.2.1.length<=m
 r3:r.2.2.2.length<=m
theorem YG {n:Nat} (s:SN) (hs:SZ n s) (w:WT) (hw:w.1.length=5) (t:List Int×Int) (h:TP t) (r:RR) (hr:RB4 1000000 r):Ok (oZ ((s,w),t,r)) λy=>te t y.2.1/\y.2.2=r/\(t.2<t.1.length->t.2<y.2.1.2)/\y.1.2.2.2.2.2.1.length<=1000000/\y.1.2.2.2.2.2.2.length<=1000000:=by
 obtain⟨r0,r1,r2,r3⟩:=r;obtain⟨h0,h1,h2,h3⟩:=hr;dsimp only at h0 h1 h2 h3;unfold oZ Prod.p10 Prod.p11 Prod.p12 Prod.p2 Prod.p3 Prod.p4 Prod.p5 Prod.p6 Prod.p7 Prod.p8 Prod.p9 Prod.q11 Prod.q12 Prod.q5 Prod.q6 aX bn bw aP ax;refine al (fe 4 t h) λy hy=>?_
 refine aN Ye ?_;refine al (fe _ y.2 hy.1.p) λz hz=>?_
 obtain⟨y1,yt⟩:=y;obtain⟨z1,zt⟩:=z;obtain⟨ty,yy0,yy1,yy2⟩:=hy;obtain⟨tz,zz0,zz1,_⟩:=hz;dsimp only at ty yy0 yy1 yy2 tz zz0 zz1;have yy1:=yy1 (by decide);have hzl:=zz1 (by decide);refine aB zz0 hzl (aM ?_);generalize (aD _ z1)=k;refine al (fe 6 zt tz.p) λv hv=>?_
 obtain⟨v1,vt⟩:=v;have tv:=hv.1;dsimp only at tv;have tt:=(ty.trans tz).trans tv;have hadv:t.2<t.1.length->t.2<vt.2:=λh=>by
  have:=yy2 h (by decide);have:=tz.m;have:=tv.m;omega
 refine aQ (λx=>x.1=vt/\x.2.1=r0/\x.2.2.1=r1/\x.2.2.2.1=r2/\x.2.2.2.2.1=r3/\x.2.2.2.2.2.1=s/\x.2.2.2.2.2.2.1=w) ?_ ?_
 ·refine aQ (λx=>x.2.1=vt/\x.2.2.1=r0/\x.2.2.2.1=r1/\x.2.2.2.2.1=r2/\x.2.2.2.2.2.1=r3/\x.2.2.2.2.2.2.1=s/\x.2.2.2.2.2.2.2.1=w) ?_ ?_
  ·with_reducible repeat' first|(refine OS.ok ?_;constructor)|refine IM.mk λ_=>?_
   all_goals exact⟨rfl,rfl,rfl,rfl,rfl,rfl,rfl⟩
  ·rintro⟨p,q⟩ hq;dsimp only at hq;with_reducible repeat' first|(refine OS.ok ?_;constructor)|refine IM.mk λ_=>?_
   all_goals exact hq
 rintro⟨x1,x2,x3,x4,x5,x6,x7,x8,x9,x10⟩ ⟨J,Y,f3,f4,f5,f6,U⟩;dsimp only at J Y f3 f4 f5 f6 U;subst J;subst Y;subst f3;subst f4;subst f5;subst f6;subst U;refine al (Vs _ _ _ tv.p) λo Z=>?_
 obtain⟨o1,ot⟩:=o;obtain⟨to,Z⟩:=Z;dsimp only at to Z;refine al (Vh _ hs _ _ (λhk=>Z (.inl hk)) _ to.p) λq hq=>?_
 obtain⟨q1,qt⟩:=q;dsimp only at hq;have M:=(tt.trans to).trans hq;have hadv2:t.2<t.1.length->t.2<qt.2:=λh=>by have:=hadv h;have:=to.m;have:=hq.m;omega
 have row:∀ (T:List Int×Int) (c:List Int) {R:Type} (k:List Int×((List Int×Int)×List Int)->Option R) (Q:R->Prop),te t T->c.length<=1000000->(∀ v T',te T T'->v.length<=1000000->Ok (k (v,T',c)) Q)->Ok (obind (fA (T,c)) k) Q:=λT c R k Q I hc hk=>by
  refine al (ZZ T I.p c hc) λy hy=>?_
  obtain⟨a,b,d⟩:=y;obtain⟨g1,g2,g3⟩:=hy;dsimp only at g1 g2 g3;subst g3;exact hk a b g2 (by omega)
 refine aQ (λx=>te t x.1/\(t.2<t.1.length->t.2<x.1.2)/\x.2.1=x2/\x.2.2.1=x3/\x.2.2.2.1=x4/\x.2.2.2.2.1=x5/\x.2.2.2.2.2.2.2.2.2.2.2.length<=1000000) ?_ ?_
 ·refine aQ (λx=>x.2.1=qt/\x.2.2.1=x2/\x.2.2.2.1=x3/\x.2.2.2.2.1=x4/\x.2.2.2.2.2.1=x5) ?_ ?_
  ·refine aE (λ_=>ah ⟨rfl,rfl,rfl,rfl,rfl⟩) λ_=>?_
   refine aE (λhk=>?_) λ_=>aE (λhk=>?_) λ_=>ah ⟨rfl,rfl,rfl,rfl,rfl⟩
   ·exact aB (Z (.inl hk)).1 (by dsimp only;rw[hw];exact (Z (.inl hk)).2) (aM (ah ⟨rfl,rfl,rfl,rfl,rfl⟩))
   ·exact aB (Z (.inr hk)).1 (by dsimp only;rw[hw];exact (Z (.inr hk)).2) (aM (ah ⟨rfl,rfl,rfl,rfl,rfl⟩))
  ·rintro⟨b,p1,p2,p3,p4,p5,p6⟩ ⟨J,Y,f3,f4,f5⟩;dsimp only at J Y f3 f4 f5;subst J;subst Y;subst f3;subst f4;subst f5;refine aK (λ_=>?_) λ_=>ah ⟨M,hadv2,rfl,rfl,rfl,rfl,by simp⟩
   have adv3:∀ T',te p1 T'->t.2<t.1.length->t.2<T'.2:=λT' I h=>by have:=hadv2 h;have:=I.m;omega
   refine aE (λ_=>?_) λ_=>aE (λ_=>?_) λ_=>aE (λ_=>?_) λ_=>aE (λ_=>?_) λ_=>?_
   ·refine row p1 p2 _ _ M h0 λv T' I hv=>?_
    refine cY (kn rfl (za ?_));exact ah ⟨M.trans I,adv3 T' I,rfl,rfl,rfl,rfl,hv⟩
   ·refine row p1 p3 _ _ M h1 λv T' I hv=>?_
    refine cY (kn rfl (za ?_));exact ah ⟨M.trans I,adv3 T' I,rfl,rfl,rfl,rfl,hv⟩
   ·refine row p1 p4 _ _ M h2 λv T' I hv=>?_
    refine cY (kn rfl (za ?_));exact ah ⟨M.trans I,adv3 T' I,rfl,rfl,rfl,rfl,hv⟩
   ·refine row p1 p5 _ _ M h3 λv T' I hv=>?_
    refine cY (kn rfl (za ?_));exact ah ⟨M.trans I,adv3 T' I,rfl,rfl,rfl,rfl,hv⟩
   ·omega
 rintro⟨u1,u2,u3,u4,u5,u6,u7,u8,u9,u10,u11,u12⟩ ⟨J,Y,f3,f4,f5,f6,U⟩;dsimp only at J Y f3 f4 f5 f6 U;subst f3;subst f4;subst f5;subst f6;refine aQ (λx=>te t x.1/\(t.2<t.1.length->t.2<x.1.2)/\x.2.1=u2/\x.2.2.1=u3/\x.2.2.2.1=u4/\x.2.2.2.2.1=u5/\x.2.2.2.2.2.2.2.2.2.2.2.1.length<=1000000/\x.2.2.2.2.2.2.2.2.2.2.2.2.length<=1000000) ?_ ?_
 ·refine aQ (λx=>x.2=(u1,u2,u3,u4,u5,u6,u7,u8,u9,u10,u11,u12)) ?_ ?_
  ·with_reducible repeat' first|(refine OS.ok ?_;constructor)|refine IM.mk λ_=>?_
   all_goals rfl
  ·rintro⟨b,x⟩ e;dsimp only at e;subst e;refine aK (λ_=>?_) λ_=>ah ⟨J,Y,rfl,rfl,rfl,rfl,U,by simp⟩
   have adv3:∀ T',te u1 T'->t.2<t.1.length->t.2<T'.2:=λT' I h=>by have:=Y h;have:=I.m;omega
   refine aE (λ_=>?_) λ_=>aE (λ_=>?_) λ_=>aE (λ_=>?_) λ_=>aE (λ_=>?_) λ_=>?_
   ·refine row u1 u2 _ _ J h0 λv T' I hv=>?_
    refine cY (kn rfl (za ?_));exact ah ⟨J.trans I,adv3 T' I,rfl,rfl,rfl,rfl,U,hv⟩
   ·refine row u1 u3 _ _ J h1 λv T' I hv=>?_
    refine cY (kn rfl (za ?_));exact ah ⟨J.trans I,adv3 T' I,rfl,rfl,rfl,rfl,U,hv⟩
   ·refine row u1 u4 _ _ J h2 λv T' I hv=>?_
    refine cY (kn rfl (za ?_));exact ah ⟨J.trans I,adv3 T' I,rfl,rfl,rfl,rfl,U,hv⟩
   ·refine row u1 u5 _ _ J h3 λv T' I hv=>?_
    refine cY (kn rfl (za ?_));exact ah ⟨J.trans I,adv3 T' I,rfl,rfl,rfl,rfl,U,hv⟩
   ·omega
 rintro⟨a1,a2,a3,a4,a5,a6,a7⟩ ⟨g1,g2,g3,g4,g5,g6,g7,g8⟩;dsimp only at g1 g2 g3 g4 g5 g6 g7 g8;subst g3;subst g4;subst g5;subst g6;exact ah ⟨g1,rfl,g2,g7,g8⟩
def Xb (e:ET):Prop:=e.2.2.2.2.2.1.length<=1000000/\e.2.2.2.2.2.2.length<=1000000
theorem Z5 {m:Nat} (hm:m<=1000) (s:SN) (hs:SZ m s) (w:WT) (hw:w.1.length=5) (hwt:w.2.2.2.2.1.length=4) (hwc:w.2.2.1.length<=1000) (n:Int) (hn:n<=60) (t:List Int×Int) (h:TP t):Ok (qH ((s,w,n,ajq),t)) λy=>(∀ e∈y.1,Xb e)/\y.1.length<=60:=by
 unfold qH Prod.p2 Prod.p3 Prod.p4 Prod.p5 Prod.p6 Prod.p7 Prod.p8 Prod.p9 Prod.q10 Prod.q3 Prod.q5 Prod.q6 Prod.q7 Prod.q8 Prod.q9 aX bk bn bw aP cu ax;refine cY (cY (cY (dY (by dsimp only[ai];omega) (dY (dX _) (ba (by dsimp only[ai];omega) (by omega) (Ur (by dsimp only[ai];omega) ?_))))));refine aQ (λx=>x=(t,s,w,[],[],[],[])) ⟨_,rfl,rfl⟩ ?_;rintro x rfl;refine oS (λx=>((t.1.length:Int)-x.1.2).toNat) (λx=>te t x.1/\x.2.2.1=w/\SZ (m+x.2.2.2.1.length) x.2.1/\x.2.2.2.1.length<=60/\(∀ e∈x.2.2.2.1,Xb e)/\RB4 x.2.2.2.1.length x.2.2.2.2) ?_ ⟨te.refl h,rfl,(by simpa using hs),by simp,λe he=>(by cases he),⟨by simp,by simp,by simp,by simp⟩⟩;rintro⟨I,s,w',out,r⟩ ⟨i1,i2,U,i4,i5,i6⟩;dsimp only at i1 i2 U i4 i5 i6;subst i2;refine aQ (λx=>x.2=(I,s,w',out,r)/\(x.1=ajp->out.length<60/\I.2<I.1.length)) ?_ ?_
 ·refine aI (λh1=>ah ⟨rfl,λh2=>?_⟩) λ_=>ah ⟨rfl,λh=>(by cases h)⟩
  rw[rN] at h2;dsimp only[ai] at h1 h2;exact⟨by omega,h2⟩
 rintro⟨b,x⟩ ⟨e,hb⟩;dsimp only at e hb;subst e;refine aK (λh1=>?_) λ_=>ah ⟨i5,i4⟩
 obtain⟨ho,ht⟩:=hb h1;obtain⟨q0,q1,q2,q3⟩:=id i6;refine aQ (λx=>te I x.1/\I.2<x.1.2/\x.2.2.1=w'/\SZ (m+x.2.2.2.1.length) x.2.1/\x.2.2.2.1.length<=60/\(∀ e∈x.2.2.2.1,Xb e)/\RB4 x.2.2.2.1.length x.2.2.2.2) ?_ ?_
 ·refine al (YG s U w' hw I i1.p r ⟨by omega,by omega,by omega,by omega⟩) λy hy=>?_
  obtain⟨ev,tp',r'⟩:=y;obtain⟨j1,j2,j3,M,J⟩:=hy;dsimp only at j1 j2 j3 M J;subst j2;have j3:=j3 ht;refine cY (kn rfl (cY (kn rfl (cY (kn rfl (cY (kn rfl (za ?_))))))));refine al (DM w' s U.nb hwc ev (by omega) (by omega)) λz hz=>?_
  refine dB (λ_=>ah ⟨j1,j3,rfl,U,i4,i5,i6⟩) λh2=>?_
  obtain⟨z1,z2⟩:=z;obtain⟨hE,hS,_⟩:=hz.1 h2;have hS2:=U.step hS (by omega);refine aQ (λx=>x.1=tp'/\x.2.2.1=w'/\x.2.2.2.1=out/\Xb x.2.2.2.2.1/\x.2.2.2.2.2.1=z1/\RB4 (out.length+1) x.2.2.2.2.2.2) ?_ ?_
  ·refine aQ (λx=>x.2=(tp',s,w',out,ev,z1,r')) ?_ ?_
   ·refine aE (λ_=>ah rfl) λ_=>ah rfl
   ·rintro⟨b,x⟩ e;dsimp only at e;subst e;have hk:=U.k;obtain⟨ev1,ev2⟩:=ev;have t0:=hE.t0;have t1:=hE.t1;rw[hwt] at t1;dsimp only at t0 t1;refine aK (λ_=>?_) λ_=>ah ⟨rfl,rfl,rfl,⟨M,J⟩,rfl,⟨by dsimp only;omega,by dsimp only;omega,by dsimp only;omega,by dsimp only;omega⟩⟩
    refine aE (λ_=>?_) λ_=>aE (λ_=>?_) λ_=>aE (λ_=>?_) λ_=>aE (λ_=>?_) λ_=>?_
    ·exact aB (by decide) (by dsimp only;omega) (aM (ba (by simp;omega) (by omega) (ah ⟨rfl,rfl,rfl,⟨M,J⟩,rfl,⟨by simp;omega,by dsimp only;omega,by dsimp only;omega,by dsimp only;omega⟩⟩)))
    ·exact aB (by decide) (by dsimp only;omega) (aM (ba (by simp;omega) (by omega) (ah ⟨rfl,rfl,rfl,⟨M,J⟩,rfl,⟨by dsimp only;omega,by simp;omega,by dsimp only;omega,by dsimp only;omega⟩⟩)))
    ·exact aB (by decide) (by dsimp only;omega) (aM (ba (by simp;omega) (by omega) (ah ⟨rfl,rfl,rfl,⟨M,J⟩,rfl,⟨by dsimp only;omega,by dsimp only;omega,by simp;omega,by dsimp only;omega⟩⟩)))
    ·exact aB (by decide) (by dsimp only;omega) (aM (ba (by simp;omega) (by omega) (ah ⟨rfl,rfl,rfl,⟨M,J⟩,rfl,⟨by dsimp only;omega,by dsimp only;omega,by dsimp only;omega,by simp;omega⟩⟩)))
    ·dsimp only at *;omega
  ·rintro⟨x1,x2,x3,x4,x5,x6,x7⟩ ⟨k1,k2,k3,k4,Z,Y⟩;dsimp only at k1 k2 k3 k4 Z Y;subst k1;subst k2;subst k3;subst Z;refine ba (by simp;omega) (by omega) (ah ⟨j1,j3,rfl,?_,by simp;omega,λe he=>?_,?_⟩)
   ·dsimp only;rw[bg,fw,<-qX];exact hS2
   ·rcases bE.1 he with he|he
    ·exact i5 e he
    ·rw[aF] at he;subst he;exact k4
   ·dsimp only;rw[bg,fw];exact Y
 rintro⟨tp',s',w'',out',r'⟩ ⟨k1,k2,k3,k4,Z,Y,k7⟩;dsimp only at k1 k2 k3 k4 Z Y k7;have e1:=i1.e;have a1:=k1.p.a1;have e2:=k1.e;refine ah ⟨⟨i1.trans k1,k3,k4,Z,Y,k7⟩,?_⟩;dsimp only;rw[e2,e1] at a1;omega
def C0:List (List UInt8×Int×Int×Bool×Int):=[([120],0,0,ajq,0),([121],0,0,ajq,1),([118],0,0,ajp,0),([113],0,2,ajq,0),([113],1,2,ajq,0)]
def E7:List (List UInt8×Bool):=[([109],ajq),([110],ajq),([114],ajp)]
def Kw:List (List UInt8×Int):=[([99],0)]
def QW:List (List UInt8):=[[102]]
def uz:List (List UInt8):=[[109,97,105,110],[116,49],[116,50],[116,51]]
structure WX (w:WT):Prop where
 c:w.1=C0
 l:w.2.1=E7
 d:w.2.2.1=Kw
 f:w.2.2.2.1=QW
 t:∃ n,1<=n/\n<=4/\w.2.2.2.2.1=uz.take n
 s:w.2.2.2.2.2.length<=60
 v:Zn w
structure W0 (w:WT):Prop where
 c:w.1.length=5
 l:w.2.1.length=3
 d:w.2.2.1.length=1
 f:w.2.2.2.1.length=1
 t:w.2.2.2.2.1.length=4
 s:w.2.2.2.2.2.length<=24
 x:WX w
theorem W0.vl {w:WT} (h:W0 w):VL w:=⟨by rw[h.c];decide,by rw[h.l];decide,by rw[h.d];decide,by rw[h.f];decide,by rw[h.t];decide,by rw[h.t];decide,by have:=h.s;omega⟩
def X3 (i j:Nat):Int×Int:=if j=0 then (if i=0 then (0,0) else ((i:Int)-1,6)) else (i,j)
theorem Ud {T:Int} {l:List (Int×Int×Int)} {s:Int×Int×Int}:Jr T (l++[s])=Rd T (Jr T l) s:=by unfold Jr;rw[eD];rfl
theorem QF:Ok (mt ()) W0:=by
 unfold mt Prod.p2 Prod.p3 Prod.p4 Prod.p5 Prod.q6 bk bn cu ax ca;refine bX 4 (λi x=>x.1=(i:Int)/\x.2.1=C0/\x.2.2.1=E7/\x.2.2.2.1=Kw/\x.2.2.2.2.1=QW/\x.2.2.2.2.2.1=uz/\x.2.2.2.2.2.2.length<=6*i/\Jr 4 x.2.2.2.2.2.2=ajn (X3 i 0)) ?_ ?_ ⟨rfl,rfl,rfl,rfl,rfl,rfl,by simp,rfl⟩
 ·rintro i ⟨a,w1,w2,w3,w4,w5,w6⟩ hi ⟨e1,e2,e3,Z,Y,I,e7,U⟩;dsimp only at e1 e2 e3 Z Y I e7 U;subst e1;have hl5:w5.length=4:=by rw[I];rfl
  refine aI (λ_=>?_) λg=>(by dsimp only[ai] at g;simp at g;omega)
  refine bX 6 (λj x=>x.1=(j:Int)/\x.2.1=w1/\x.2.2.1=w2/\x.2.2.2.1=w3/\x.2.2.2.2.1=w4/\x.2.2.2.2.2.1=w5/\x.2.2.2.2.2.2.length<=6*i+j/\Jr 4 x.2.2.2.2.2.2=ajn (X3 i j)) ?_ ?_ ⟨rfl,rfl,rfl,rfl,rfl,rfl,by dsimp only;omega,U⟩
  ·rintro j ⟨b,v1,v2,v3,v4,v5,v6⟩ hj ⟨d1,d2,d3,d4,d5,d6,d7,d8⟩;dsimp only at d1 d2 d3 d4 d5 d6 d7 d8;subst d1;refine aI (λ_=>?_) λg=>(by dsimp only at g;omega)
   refine ba (by simp;omega) (by omega) (ah ?_);dsimp only;refine ⟨go (by omega),d2,d3,d4,d5,d6,by simp;omega,?_⟩;rw[Ud,d8];by_cases J:j=0
   ·subst J;by_cases M:i=0
    ·subst M;rfl
    ·rw[show X3 i 0=((i:Int)-1,6) by unfold X3;simp[M],show X3 i (0+1)=((i:Int),1) by unfold X3;simp];unfold Rd;dsimp only;rw[if_neg (λh=>by have:=h.1;omega),if_pos ⟨by omega,by omega,rfl⟩]
   ·rw[show X3 i j=((i:Int),(j:Int)) by unfold X3;simp[J],show X3 i (j+1)=((i:Int),(j:Int)+1) by unfold X3;simp];unfold Rd;dsimp only;rw[if_pos ⟨rfl,rfl⟩]
  ·rintro⟨b,v1,v2,v3,v4,v5,v6⟩ ⟨d1,d2,d3,d4,d5,d6,d7,d8⟩;dsimp only at d1 d2 d3 d4 d5 d6 d7 d8;subst d1;subst d2;subst d3;subst d4;subst d5;subst d6;refine aI (λg=>(by dsimp only at g;omega)) λ_=>ah ?_
   dsimp only;refine ⟨go (by omega),e2,e3,Z,Y,I,by omega,?_⟩;rw[d8];unfold X3;simp
 ·rintro⟨a,w1,w2,w3,w4,w5,w6⟩ ⟨e1,e2,e3,Z,Y,I,e7,U⟩;dsimp only at e1 e2 e3 Z Y I e7 U;subst e1;subst e2;subst e3;subst Z;subst Y;subst I;refine aI (λg=>(by dsimp only[ai] at g;simp[uz] at g)) λ_=>ah ?_
  refine ⟨rfl,rfl,rfl,rfl,rfl,by dsimp only;omega,rfl,rfl,rfl,rfl,⟨4,by decide,by decide,rfl⟩,by dsimp only;omega,?_⟩;unfold Zn;show Jr 4 w6≠ajo;rw[U];simp
theorem SZ.mono {n m:Nat} {s:SN} (h:SZ n s) (hnm:n<=m) (hm:m<=100000):SZ m s:=
 ⟨⟨⟨hm,h.nb.sb.lk,λl hl=>cM (h.nb.sb.rd l hl) hnm,h.nb.sb.dn,h.nb.sb.th⟩,h.nb.c,h.nb.f,h.nb.k⟩,h.c,h.f,h.k⟩
theorem TK (w:WT) (I:W0 w):Ok (lI w) λs=>SZ 0 s:=by
 refine (TN w I.vl).mono λs hs=>⟨hs.1,?_,?_,?_⟩
 ·rw[hs.2.1,I.c]
 ·rw[hs.2.2.1,I.f]
 ·rw[hs.2.2.2,I.t]
structure WB (w:WT):Prop where
 c:w.1.length<=12
 l:w.2.1.length<=4
 d:w.2.2.1.length<=2
 f:w.2.2.2.1.length<=2
 t:w.2.2.2.2.1.length<=4
 s:w.2.2.2.2.2.length<=60
theorem VL.wb {w:WT} (h:VL w):WB w:=⟨h.c,h.l,h.d,h.f,h.t,h.s⟩
structure TR (y:WT×List ET):Prop where
 wb:WB y.1
 vl:VL y.1
 ev:∀ e∈y.2,EvF y.1 e
 len:y.2.length<=400
 ls:∀ e∈y.2,Xb e
 wx:WX y.1
 ac:∃ sy ce fu,ZS y.1 y.2 sy ce fu
theorem Gq (L:List Int) (n:Int) (hl:L.length<=9223372036854775807) (hb:∀ x∈L,0<=x/\x<=255):Ok (o6 (L,n)) TR:=by
 unfold o6 Prod.p2 Prod.p3 Prod.p4 Prod.q4 Prod.q5 bk jf ik bn kf aP cu ax ca;refine aQ (λx=>x.length<=600/\∀ z∈x,0<=z/\z<=255) ?_ ?_
 ·refine aI (λg=>?_) λg=>?_
  ·dsimp only[ai] at g;refine cY (dY (by omega) (dY (by dsimp only;omega) (ah ⟨by dsimp only;rw[bm];simp;omega,λz I=>hb z (ir I)⟩)))
  ·dsimp only[ai] at g;exact ah ⟨by dsimp only;omega,hb⟩
 rintro L' ⟨hL,hB⟩;refine al QF λw J=>?_
 have hvl:=J.vl;refine al (TK w J) λs hs=>?_
 refine al (fe 3 (L',0) ⟨by dsimp only;omega,hB,by dsimp only;omega,by dsimp only;omega⟩) λy hy=>?_
 obtain⟨y1,yt⟩:=y;obtain⟨ty,yy0,yy1,_⟩:=hy;have yy1:=yy1 (by decide);dsimp only at ty yy0 yy1;have ew:be .i64 (1+y1)=1+y1:=gK (by omega) (by omega);refine oS (λx=>(1+y1+1-x.1).toNat) (λx=>1<=x.1/\x.1<=2+y1/\x.2.1=yt/\x.2.2.1=w/\x.2.2.2.1=s/\((x.2.2.2.2.length:Nat):Int)<=2*x.1/\∀ e∈x.2.2.2.2,Xb e) ?_ ⟨by dsimp only;omega,by dsimp only;omega,rfl,rfl,rfl,by simp,λe he=>?_⟩
 ·rintro⟨a,t,w',s',es⟩ ⟨e1,e2,e3,e4,e5,e6,e7⟩;dsimp only at e1 e2 e3 e4 e5 e6 e7;subst e3;subst e4;subst e5;refine eY (λg=>?_) λg=>?_
  ·dsimp only at g;rw[ew] at g;refine ba (by simp;omega) (by omega) (ah ?_);dsimp only;rw[gK (n:=a+1) (by omega) (by omega)];refine ⟨⟨by omega,by omega,rfl,rfl,rfl,by simp;omega,λe he=>?_⟩,by omega⟩;rcases bE.1 he with he|he
   ·exact e7 e he
   ·simp only[bc,bY,or_false] at he;rcases he with he|he<;>subst he<;>exact⟨by simp,by simp⟩
  ·refine al (P:=TR) ?_ λr hr=>ah hr
   refine bX es.length (λi x=>x.1=(i:Int)/\TP x.2.1/\x.2.2.1=w'/\SZ i x.2.2.2.1/\x.2.2.2.2.1=es/\x.2.2.2.2.2.length<=i/\∀ e∈x.2.2.2.2.2,Xb e) ?_ ?_ ⟨rfl,ty.p,rfl,hs,rfl,by simp,λe he=>(by cases he)⟩
   ·rintro i ⟨b,t,w',s',es',out⟩ hi ⟨d1,U,Z,M,Y,d6,d7⟩;dsimp only at d1 U Z M Y d6 d7;subst d1;subst Z;subst Y;refine aI (λ_=>?_) λg=>(by dsimp only[ai] at g;omega)
    refine aQ (λx=>TP x.1/\x.2.1=w'/\SZ (i+1) x.2.2.1/\x.2.2.2.1=es'/\x.2.2.2.2.length<=i+1/\∀ e∈x.2.2.2.2,Xb e) ?_ ?_
    ·refine aB (by dsimp only;omega) (by dsimp only;omega) (aB (by dsimp only;omega) (by dsimp only;omega) (aM ?_));have I:=e7 _ (bx (T:=.st (.pr (.int .i64) (.pr (.int .i64) (.pr (.int .i64) (.pr (.int .i64) (.pr (.int .i64) (.pr (.sl (.int .i64)) (.sl (.int .i64))))))))) (xs:=es') (j:=(i:Int)) (by omega) (by omega));revert I;generalize (aD _ _)=z;intro I;refine al (DM w' s' M.nb (by rw[J.d];decide) z (by have:=I.1;omega) (by have:=I.2;omega)) λv hv=>?_
     refine aK (λh=>?_) λh=>ah ⟨U,rfl,M.mono (by omega) (by omega),rfl,by dsimp only;omega,d7⟩
     refine ba (by simp;omega) (by omega) (ah ⟨U,rfl,M.step (hv.1 h).2.1 (by omega),rfl,by simp;omega,λe he=>?_⟩);rcases bE.1 he with he|he
     ·exact d7 e he
     ·rw[aF] at he;subst he;exact I
    ·rintro⟨t,w'',s'',es'',out'⟩ ⟨f1,f2,f3,f4,f5,f6⟩;dsimp only at f1 f2 f3 f4 f5 f6;refine ah ?_;dsimp only;exact⟨go (by omega),f1,f2,f3,f4,f5,f6⟩
   ·rintro⟨b,t,w',s',es',out⟩ ⟨d1,U,Z,M,Y,d6,d7⟩;dsimp only at d1 U Z M Y d6 d7;subst d1;subst Z;subst Y;refine aI (λg=>(by dsimp only[ai] at g;omega)) λ_=>?_
    refine al (P:=TR) ?_ λr hr=>ah hr
    have hmin:Fi (jv n 0) 60<=60:=by
     unfold Fi;split
     ·omega
     ·rename_i h;simp[eX] at h;exact h
    refine al (Z5 (by omega) s' M w' J.c J.t (by rw[J.d];decide) _ hmin t U) λv hv=>?_
    refine ba (by have:=hv.2;dsimp only;omega) (by omega) ?_;have hall:∀ e∈out++v.1,Xb e:=λe he=>by
     rcases bE.1 he with he|he
     ·exact d7 e he
     ·exact hv.1 e he
    refine al (ZD w' (out++v.1) λe he=>by have:=hall e he;exact⟨by have:=this.1;omega,by have:=this.2;omega⟩) λc hc=>?_
    refine bN (λ_=>?_) λh=>?_
    ·exact al QF λu hu=>ah ⟨hu.vl.wb,hu.vl,λe he=>(by cases he),by simp,λe he=>(by cases he),hu.x,_,_,_,.nil⟩
    ·exact ah ⟨(hc h).1.1.wb,(hc h).1.1,(hc h).2.1,by have:=hv.2;simp;omega,hall,J.x,(hc h).2.2⟩
 ·rw[aF] at he;subst he;exact⟨by simp,by simp⟩
abbrev IT:Type:=Int×Int×Int×Int×Int×Int
abbrev CT:Type:=WT×List (Int×List IT)
theorem qy (a b:Int):iu (a,b)=ajn (decide (0<=a/\a<b)):=by
 refine co ?_;unfold iu jf ax;with_reducible repeat' first|(refine OS.ok ?_;constructor)|refine IM.mk λ_=>?_
 ·by_cases h:a<b<;>simp[*,eX]
 ·simp;omega
theorem DN (k:Int):oB k=ajn (decide (1<=k/\k<=5)):=by
 refine co ?_;unfold oB jf ax;with_reducible repeat' first|(refine OS.ok ?_;constructor)|refine IM.mk λ_=>?_
 ·by_cases h:k<=5<;>simp[*,cD]
 ·simp;omega
def gT (i:IT):List Int:=
 if i.1=1\/i.1=6\/i.1=10\/i.1=27 then [i.2.1]
 else if i.1=2\/i.1=3 then [i.2.1,i.2.2.1]
 else if i.1=4 then [i.2.1,i.2.2.1,i.2.2.2.1]
 else if i.1=7 then [i.2.1,i.2.2.2.1]
 else if i.1=8\/i.1=26 then [i.2.2.1]
 else if i.1=9 then [i.2.2.1,i.2.2.2.1]
 else []
theorem rS (i:IT):iL i=ajn (gT i):=by
 obtain⟨I,i2⟩:=i;unfold iL gT Prod.p2 Prod.p3 Prod.p4 aX ax;by_cases h1:I=1
 ·subst h1;rfl
 by_cases h2:I=6
 ·subst h2;rfl
 by_cases h3:I=10
 ·subst h3;rfl
 by_cases h4:I=27
 ·subst h4;rfl
 by_cases h5:I=2
 ·subst h5;rfl
 by_cases h6:I=3
 ·subst h6;rfl
 by_cases Z:I=4
 ·subst Z;rfl
 by_cases Y:I=7
 ·subst Y;rfl
 by_cases U:I=8
 ·subst U;rfl
 by_cases M:I=26
 ·subst M;rfl
 by_cases J:I=9
 ·subst J;rfl
 simp only[h1,h2,h3,h4,h5,h6,Z,Y,U,M,J,decide_false,oK,re,or_false,if_false]
theorem Bf (z:IT):(gT z).length<=3:=by
 unfold gT
 (repeat' split)<;>simp
theorem Yd (l:List IT) (a:Int) (hl:l.length<=1000000):Ok (og (l,a)) λ_=>True:=by
 unfold og aX bk jf bw aP cu ax ca;refine oS (λx=>((l.length:Int)+1-x.2).toNat) (λx=>0<=x.2/\x.2<=(l.length:Int)+1) ?_ ⟨by dsimp only;omega,by dsimp only;omega⟩;rintro⟨(a:Int),(n:Int)⟩ ⟨h0,h1⟩;dsimp only at h0 h1;refine eY (λg=>?_) λ_=>ah trivial
 dsimp only[ai] at g;refine aQ (λ_=>True) ?_ λb _=>ah ?_
 ·refine aQ (λb=>b=ajq->0<=a/\a<(l.length:Int)) ?_ ?_
  ·refine aI (λ_=>ah λh=>(by cases h)) λI=>ah λh=>?_
   rw[kP] at h;dsimp only[ai] at h I;exact⟨I,h⟩
  ·intro b hb;refine aK (λ_=>ah trivial) λh=>?_
   obtain⟨q0,J⟩:=hb h;refine aB q0 (by dsimp only;omega) (aM ?_);refine aN (DN _) ?_;refine dB (λ_=>ah trivial) λ_=>?_
   refine aB q0 (by dsimp only;omega) (aM ?_);refine aE (λ_=>?_) λ_=>ah trivial
   exact aB q0 (by dsimp only;omega) (aM (ah trivial))
 ·dsimp only;rw[gK (by omega) (by omega)];exact⟨⟨by omega,by omega⟩,by omega⟩
structure AR (w:WT) (b n:Int):Prop where
 b0:0<=b
 b1:b<w.1.length
 ix:(aD (T:=NI) w.1 b).2.1=0
 sz:¬(aD (T:=NI) w.1 b).2.2.1=0
 sn:(aD (T:=NI) w.1 b).2.2.1=n
theorem Qv (w:WT) (b n:Int):Ok (l9 (w,b,n)) λr=>r=ajp->AR w b n:=by
 unfold l9 aX ik bw aP ax;refine fR ?_;refine aN (qy _ _) ?_;refine aE (λh=>?_) λ_=>ah (ah λh=>(by cases h))
 refine aB h.1 h.2 (aM (aE (λh1=>?_) λ_=>ah (ah λh=>(by cases h))));refine aB h.1 h.2 (aM (bN (λJ=>?_) λ_=>ah (ah λh=>(by cases h))));exact aB h.1 h.2 (aM (ah (ah λI=>⟨h.1,h.2,h1,J,of_decide_eq_true I⟩)))
theorem RA (w:WT) (i:IT):Ok (kr (w,i)) λb=>b=ajp->(i.1=7->AR w i.2.2.1 i.2.2.2.2.1)/\(i.1=9->AR w i.2.1 i.2.2.2.2.1):=by
 have I:∀ {b:Bool},¬i.1=7->¬i.1=9->b=ajp->(i.1=7->AR w i.2.2.1 i.2.2.2.2.1)/\(i.1=9->AR w i.2.1 i.2.2.2.2.1):=λh1 J _=>⟨λh=>(h1 h).elim,λh=>(J h).elim⟩
 unfold kr Prod.p2 Prod.p3 Prod.p4 Prod.p5 Prod.p6 aX jf bw aP ax;simp only[qy,nM];refine aE (λY=>?_) λ_=>?_
 ·refine aQ (λ_=>True) ?_ λ_ _=>ah (I (by have Y:i.1=6:=Y;omega) (by have Y:i.1=6:=Y;omega))
  refine aE (λh=>?_) λ_=>ah trivial
  exact aB h.1 h.2 (aM (ah trivial))
 refine aE (λM=>?_) λ_=>?_
 ·refine aQ (λ_=>True) ?_ λ_ _=>ah (I (by have M:i.1=8:=M;omega) (by have M:i.1=8:=M;omega))
  refine aE (λh=>?_) λ_=>ah trivial
  exact aB h.1 h.2 (aM (ah trivial))
 refine aE (λU=>?_) λZ=>?_
 ·exact al (Qv _ _ _) λ_ h=>ah λJ=>⟨λ_=>h J,λh9=>by have U:i.1=7:=U;omega⟩
 refine aE (λh9=>?_) λn9=>?_
 ·exact al (Qv _ _ _) λ_ h=>ah λJ=>⟨λU=>(Z U).elim,λ_=>h J⟩
 have I:∀ {b:Bool},b=ajp->(i.1=7->AR w i.2.2.1 i.2.2.2.2.1)/\(i.1=9->AR w i.2.1 i.2.2.2.2.1):=I Z n9;refine aQ (λx=>x.2=(w,i)) (aE (λ_=>ah rfl) λ_=>ah rfl) ?_;rintro⟨b,x⟩ e;dsimp only at e;subst e;refine aK (λ_=>?_) λ_=>?_
 ·refine aQ (λ_=>True) ?_ λ_ _=>ah I
  refine aE (λh=>?_) λ_=>ah trivial
  exact aB h.1 h.2 (aM (ah trivial))
 refine aQ (λx=>x.2=(w,i)) (aE (λ_=>ah rfl) λ_=>aE (λ_=>ah rfl) λ_=>aE (λ_=>ah rfl) λ_=>ah rfl) ?_;rintro⟨b,x⟩ e;dsimp only at e;subst e;refine aK (λ_=>?_) λ_=>?_
 ·refine aQ (λ_=>True) ?_ λ_ _=>ah I
  refine aE (λh=>?_) λ_=>ah trivial
  exact aB h.1 h.2 (aM (ah trivial))
 refine aQ (λx=>x.2=(w,i)) (aE (λ_=>ah rfl) λ_=>aE (λ_=>ah rfl) λ_=>ah rfl) ?_;rintro⟨b,x⟩ e;dsimp only at e;subst e;refine aK (λ_=>ah I) λ_=>?_
 refine aQ (λx=>x.2=(w,i)) (aE (λ_=>ah rfl) λ_=>ah rfl) ?_;rintro⟨b,x⟩ e;dsimp only at e;subst e;with_reducible repeat' first|(refine OS.ok ?_;constructor)|refine IM.mk λ_=>?_
 all_goals exact I
structure VI (n:Int) (i:IT):Prop where
 o1:1<=i.1
 o2:i.1<=28
 r:∀ j∈gT i,0<=j/\j<n
structure VT (t:Int×List IT):Prop where
 r0:0<=t.1
 r1:t.1<=32
 i:∀ i∈t.2,VI t.1 i
structure VJ (w:WT) (k:Int) (i:IT):Prop where
 a7:i.1=7->AR w i.2.2.1 i.2.2.2.2.1
 a9:i.1=9->AR w i.2.1 i.2.2.2.2.1
 se:i.1=28->i.2.2.2.2.2= -1
 si:¬i.1=28->0<=i.2.2.2.2.2/\i.2.2.2.2.2<w.2.2.2.2.2.length/\(aD (T:=wB) w.2.2.2.2.2 i.2.2.2.2.2).1=k
theorem Gi (w:WT) (k:Int) (c:Int×List IT) (hc:c.2.length<=1000000):Ok (gy (w,k,c)) λb=>b=ajp->VT c/\∀ i∈c.2,VJ w k i:=by
 unfold gy Prod.p2 Prod.p3 Prod.p4 Prod.p5 Prod.q3 Prod.q5 Prod.q8 aX bk ik bw aP cu ax ca;refine aQ (λx=>x.2=(w,c)/\(x.1=ajq->0<=c.1/\c.1<=32)) ?_ ?_
 ·refine aI (λ_=>ah ⟨rfl,λh=>(by cases h)⟩) λh0=>aI (λ_=>ah ⟨rfl,λh=>(by cases h)⟩) λh1=>ah ⟨rfl,λ_=>⟨h0,h1⟩⟩
 rintro⟨b,x⟩ ⟨e,hb⟩;dsimp only at e hb;subst e;refine aK (λ_=>ah λh=>(by cases h)) λh=>?_
 obtain⟨r0,r1⟩:=hb h;refine bX c.2.length (λi x=>x.1=(i:Int)/\x.2=(w,c)/\∀ q:Nat,q<i->VI c.1 (aD (T:=zN) c.2 (q:Int))/\VJ w k (aD (T:=zN) c.2 (q:Int))) ?_ ?_ ⟨rfl,rfl,λk hk=>by omega⟩
 ·rintro i ⟨a,x⟩ hi ⟨e1,e2,e3⟩;dsimp only at e1 e2 e3;subst e1;subst e2;refine aI (λ_=>?_) λg=>(by dsimp only[ai] at g;omega)
  refine aB (by dsimp only;omega) (by dsimp only;omega) (aM ?_);generalize Y:(aD _ _)=z;refine aQ (λx=>x.2=(w,c,z)/\(x.1=ajq->(1<=z.1/\z.1<=28)/\(z.1=7->AR w z.2.2.1 z.2.2.2.2.1)/\(z.1=9->AR w z.2.1 z.2.2.2.2.1))) ?_ ?_
  ·refine aI (λ_=>ah ⟨rfl,λh=>(by cases h)⟩) λh0=>aI (λ_=>ah ⟨rfl,λh=>(by cases h)⟩) λh1=>?_
   refine aK (λ_=>ah ⟨rfl,λh=>(by cases h)⟩) λ_=>?_
   refine al (RA w z) λy Z=>?_
   refine dB (λ_=>ah ⟨rfl,λh=>(by cases h)⟩) λhyt=>?_
   exact al (Yd c.2 _ hc) λy _=>ah ⟨rfl,λ_=>⟨⟨h0,h1⟩,Z hyt⟩⟩
  rintro⟨b,x⟩ ⟨e,hb⟩;dsimp only at e hb;subst e;refine aK (λ_=>ah λh=>(by cases h)) λh=>?_
  obtain⟨⟨o1,o2⟩,a7,a9⟩:=hb h;refine aQ (λx=>x.2=(w,c,z)/\(x.1=ajq->(z.1=28->z.2.2.2.2.2= -1)/\(¬z.1=28->0<=z.2.2.2.2.2/\z.2.2.2.2.2<w.2.2.2.2.2.length/\(aD (T:=wB) w.2.2.2.2.2 z.2.2.2.2.2).1=k))) ?_ ?_
  ·simp only[qy,nM];refine aE (λI=>?_) λI=>?_
   ·refine bN (λ_=>ah ⟨rfl,λh=>(by cases h)⟩) λhm=>?_
    exact bN (λh=>(h I).elim) λ_=>ah ⟨rfl,λ_=>⟨λ_=>hm,λh=>(h I).elim⟩⟩
   ·refine bN (λ_=>?_) λh=>(I h).elim
    refine bN (λ_=>ah ⟨rfl,λh=>(by cases h)⟩) λh=>?_
    exact aB h.1 h.2 (aM (ah ⟨rfl,λh2=>⟨λh3=>(I h3).elim,λ_=>⟨h.1,h.2,by simpa using h2⟩⟩⟩))
  rintro⟨b,x⟩ ⟨e,hsi⟩;dsimp only at e hsi;subst e;refine aK (λ_=>ah λh=>(by cases h)) λhbs=>?_
  obtain⟨se,si⟩:=hsi hbs;refine aQ (λx=>x.2=(w,c,z)) ?_ ?_
  ·simp only[qy,nM];with_reducible repeat' first|(refine OS.ok ?_;constructor)|refine IM.mk λ_=>?_
   all_goals rfl
  rintro⟨b,x⟩ e;dsimp only at e;subst e;refine aK (λ_=>ah λh=>(by cases h)) λ_=>?_
  refine aN (rS z) ?_;refine bX (gT z).length (λj x=>x.1=(j:Int)/\x.2=(w,c)/\∀ k:Nat,k<j->0<=aD (T:=.int .i64) (gT z) (k:Int)/\aD (T:=.int .i64) (gT z) (k:Int)<c.1) ?_ ?_ ⟨rfl,rfl,λk hk=>by omega⟩
  ·rintro j ⟨a,x⟩ hj ⟨U,M,J⟩;dsimp only at U M J;subst U;subst M;refine aI (λ_=>?_) λg=>(by dsimp only[ai] at g;omega)
   refine aB (by dsimp only;omega) (by dsimp only;omega) (aM ?_);refine aN (qy _ _) ?_;refine bN (λ_=>ah λh=>(by cases h)) λh=>ah ?_
   dsimp only at h ⊢;have hj32:(gT z).length<=3:=Bf z;refine ⟨go (by omega),rfl,λk hk=>?_⟩;rcases bI k j with h1|h1
   ·exact J k h1
   ·rw[show k=j by omega];exact h
  ·rintro⟨a,x⟩ ⟨U,M,J⟩;dsimp only at U M J;subst U;subst M;refine aI (λg=>(by dsimp only[ai] at g;omega)) λ_=>ah ?_
   dsimp only;refine ⟨go (by omega),rfl,λk hk=>?_⟩;rcases bI k i with h1|h1
   ·exact e3 k h1
   ·rw[show k=i by omega,Y];exact⟨⟨o1,o2,gB (T:=.int .i64) J⟩,⟨a7,a9,se,si⟩⟩
 ·rintro⟨a,x⟩ ⟨e1,e2,e3⟩;dsimp only at e1 e2 e3;subst e1;subst e2;refine aI (λg=>(by dsimp only[ai] at g;omega)) λ_=>ah λ_=>⟨⟨r0,r1,gB (T:=zN) (p:=VI c.1) λq hq=>(e3 q hq).1⟩,gB (T:=zN) (p:=VJ w k) λq hq=>(e3 q hq).2⟩
structure VC (c:CT):Prop where
 vl:VL c.1
 tl:c.2.length=c.1.2.2.2.2.1.length
 t:∀ t∈c.2,VT t
 sv:Zn c.1
 j:∀ k:Nat,k<c.2.length->∀ i∈(aD (T:=uy) c.2 (k:Int)).2,VJ c.1 (k:Int) i
structure CB (c:CT):Prop where
 th:c.2.length<=1000000
 ins:∀ t∈c.2,t.2.length<=1000000
 rg:∀ t∈c.2,1<=t.1
 wx:WX c.1
 ok:iK c=ajn ajp
theorem QI (c:CT) (h1:c.2.length<=1000000) (J:∀ t∈c.2,t.2.length<=1000000):Ok (iK c) λb=>b=ajp->VC c:=by
 obtain⟨w,l⟩:=c;dsimp only at h1 J;unfold iK Prod.p4 bk bw aP cu ax ca;refine aQ (λx=>x.2=(w,l)/\(x.1=ajq->(VL w/\Zn w)/\l.length=w.2.2.2.2.1.length)) ?_ ?_
 ·refine al (zG w) λb hb=>?_
  refine dB (λ_=>ah ⟨rfl,λh=>(by cases h)⟩) λh=>ah ⟨rfl,λU=>⟨hb h,?_⟩⟩
  simp at U;omega
 rintro⟨b,x⟩ ⟨e,I⟩;dsimp only at e I;subst e;refine aK (λ_=>ah λh=>(by cases h)) λh=>?_
 obtain⟨⟨hv,hsv⟩,hl⟩:=I h;refine bX l.length (λi x=>x.1=(i:Int)/\x.2=(w,l)/\∀ k:Nat,k<i->VT (aD (T:=uy) l (k:Int))/\∀ q∈(aD (T:=uy) l (k:Int)).2,VJ w (k:Int) q) ?_ ?_ ⟨rfl,rfl,λk hk=>by omega⟩
 ·rintro i ⟨a,x⟩ hi ⟨e1,e2,e3⟩;dsimp only at e1 e2 e3;subst e1;subst e2;refine aI (λ_=>?_) λg=>(by dsimp only[ai] at g;omega)
  refine aB (by dsimp only;omega) (by dsimp only;omega) (aM ?_);have hm:=bx (T:=uy) (xs:=l) (j:=(i:Int)) (by omega) (by omega);revert hm;generalize M:(aD (T:=uy) l (i:Int))=z;intro hm;refine al (Gi w _ z (J z hm)) λb hb=>?_
  refine dB (λ_=>ah λh=>(by cases h)) λh=>ah ?_
  dsimp only;refine ⟨go (by omega),rfl,λk hk=>?_⟩;rcases bI k i with h1|h1
  ·exact e3 k h1
  ·rw[show k=i by omega,M];exact hb h
 ·rintro⟨a,x⟩ ⟨e1,e2,e3⟩;dsimp only at e1 e2 e3;subst e1;subst e2;refine aI (λg=>(by dsimp only[ai] at g;omega)) λ_=>ah λ_=>⟨hv,hl,gB (T:=uy) (p:=VT) λk hk=>(e3 k hk).1,hsv,λk hk=>(e3 k hk).2⟩
abbrev TT:Type:=Int×List Int×List (List Int)×Int
structure TL (F:Int->Prop) (E:Nat) (l:List Int):Prop where
 a:FH l
 m:∀ y∈l,0<=y/\y<(E:Int)
 f:∀ y∈l,F y
theorem Ni:∀ (l:List Int) (lo hi:Int),FH l->(∀ y∈l,lo<=y/\y<hi)->(l.length:Int)<=max 0 (hi-lo)
 |[],lo,hi,_,_=>by simp;omega
 |x::r,lo,hi,h,hm=>by
  have h1:=hm x (dg ..);have J:=Ni r (x+1) hi h.2 λy I=>⟨by have:=h.1 y I;omega,(hm y (cA _ I)).2⟩
  rw[bH];omega
variable {F:Int->Prop}
theorem TL.len {E:Nat} {l:List Int} (h:TL F E l):l.length<=E:=by
 have:=Ni l 0 E h.a h.m;omega
theorem TL.nil (E:Nat):TL F E []:=⟨trivial,λy I=>(by cases I),λy I=>(by cases I)⟩
theorem TL.uni {E:Nat} {a b:List Int} (J:TL F E a) (hb:TL F E b):TL F E (vE a b):=
 ⟨NH a b,λy I=>by
   rcases Gj.1 I with h|h
   ·exact J.m y h
   ·exact hb.m y h,λy I=>(Gj.1 I).elim (J.f y) (hb.f y)⟩
theorem TL.mono {E M:Nat} {J:Int->Prop} {l:List Int} (h:TL F E l) (hf:E<=M) (U:∀ y,F y->J y):TL J M l:=⟨h.a,λy I=>⟨(h.m y I).1,by have:=(h.m y I).2;omega⟩,λy I=>U y (h.f y I)⟩
structure TH (F:Int->Prop) (E:Nat) (s:TT):Prop where
 r:s.2.1.length<=32
 t:s.2.2.1.length<=32
 l:∀ l∈s.2.2.1,TL F E l
 e0:0<=s.2.2.2
 e1:s.2.2.2<=(E:Int)
theorem TH.zero (E:Nat):TH F E (0,[],[],0):=⟨by simp,by simp,λl hl=>(by cases hl),by simp,by simp⟩
theorem TH.mono {E J:Nat} {I:Int->Prop} {s:TT} (h:TH F E s) (hf:E<=J) (M:∀ y,F y->I y):TH I J s:=⟨h.r,h.t,λl hl=>(h.l l hl).mono hf M,h.e0,by have:=h.e1;omega⟩
theorem cG (s:TT) (E:Nat) (Y:E<=100000) (h:TH F E s):bR s=ajn ((s.1,s.2.2.2),s.2.1,s.2.2.1):=by
 obtain⟨h1,h2,U,h4,Z⟩:=h;refine co ?_;unfold bR Prod.p2 Prod.p3 Prod.p4 Prod.q3 Prod.q5 bk bn bw aP cu ax ca;refine ba (by simp;omega) (by omega) ?_;refine bX s.2.2.1.length (λi x=>x.1=(i:Int)/\x.2.1=s/\x.2.2.2.1=(s.1,s.2.2.2)/\x.2.2.2.2.1=s.2.1/\x.2.2.2.2.2=s.2.2.1.take i) ?_ ?_ ⟨rfl,rfl,rfl,rfl,rfl⟩
 ·rintro i ⟨a,b,c,d,e,f⟩ hi ⟨e1,e2,e3,J,I⟩;dsimp only at e1 e2 e3 J I;subst e1;subst e2;subst I;refine aI (λ_=>?_) λg=>(by dsimp only[ai] at g;omega)
  refine aB (by dsimp only;omega) (by dsimp only;omega) (aM ?_);have M:=(U _ (bx (T:=.sl (.int .i64)) (xs:=b.2.2.1) (j:=(i:Int)) (by omega) (by omega))).len;refine ba (by simp only[je,bz];exact cM M (by omega)) (by omega) ?_;refine ba (by simp;omega) (by omega) (ah ?_);dsimp only;refine ⟨go (by omega),rfl,e3,J,?_⟩;rw[mQ (T:=.sl (.int .i64)) hi];rfl
 ·rintro⟨a,b,c,d,e,f⟩ ⟨e1,e2,e3,J,I⟩;dsimp only at e1 e2 e3 J I;subst e1;subst e2;subst I;refine aI (λg=>(by dsimp only[ai] at g;omega)) λ_=>ah ?_
  show (d,e,_)=_;rw[e3,J,cz]
theorem uA (b:Bool):Ok (eQ b) λ_=>True:=by
 unfold eQ;with_reducible repeat' first|(refine OS.ok ?_;constructor)|refine IM.mk λ_=>?_
 all_goals trivial
theorem D3 (n:Int):Ok (kW n) λ_=>True:=by
 unfold kW bk ax;with_reducible repeat' first|(refine OS.ok ?_;constructor)|refine IM.mk λ_=>?_
 all_goals trivial
theorem Zh (x:Int×Int):Ok (sC x) λ_=>True:=by
 unfold sC aX;refine aE (λ_=>ah trivial) λ_=>aE (λ_=>?_) λ_=>ah trivial
 exact al (uA _) λ_ _=>ah trivial
theorem Xo (x:Int×Int×Int):Ok (qK x) λ_=>True:=by
 unfold qK aX ik bn ax;have t1:∀ b,Ok (obind (eQ b) λy=>ajn (y,ajp)) λ_=>True:=λb=>al (uA _) λ_ _=>ah trivial
 refine aE (λ_=>ah trivial) λ_=>aE (λ_=>ah trivial) λ_=>aE (λ_=>ah trivial) λ_=>?_
 refine aE (λ_=>aE (λ_=>ah trivial) λh=>xo h (ah trivial)) λ_=>?_
 refine aE (λ_=>aE (λ_=>ah trivial) λh=>xo h (ah trivial)) λ_=>?_
 refine aE (λ_=>t1 _) λ_=>aE (λ_=>t1 _) λ_=>aE (λ_=>t1 _) λ_=>aE (λ_=>t1 _) λ_=>aE (λ_=>t1 _) λ_=>aE (λ_=>t1 _) λ_=>?_
 refine aE (λ_=>aQ (λ_=>True) (bN (λ_=>al (uA _) λ_ _=>ah trivial) λ_=>al (uA _) λ_ _=>ah trivial) λ_ _=>ah trivial) λ_=>?_
 exact aE (λ_=>aQ (λ_=>True) (bN (λ_=>al (uA _) λ_ _=>ah trivial) λ_=>al (uA _) λ_ _=>ah trivial) λ_ _=>ah trivial) λ_=>ah trivial
theorem Vj (E:Nat) (hE:E<=100000) (i:IT) (p:Int×Int) (R:List Int) (T:List (List Int)) (hr:∀ j∈gT i,0<=j/\j<(R.length:Int)) (o1:1<=i.1) (o2:i.1<=5) (hR:R.length<=32) (I:T.length=R.length) (hl:∀ l∈T,TL F E l):Ok (uI ((i,p),R,T)) λy=>y.1.1.2=p.2/\y.2.1.length=R.length/\y.2.2.length=T.length/\∀ l∈y.2.2,TL F E l:=by
 unfold uI Prod.p2 Prod.p3 Prod.p4 ck aX bk bn bw kf aP cu ax ca;refine aN (rS i) ?_;have h3:=Bf i;refine bX (gT i).length (λj x=>x.1=(j:Int)/\x.2.1=R/\x.2.2.1=T/\x.2.2.2.1=i/\x.2.2.2.2.1=p) ?_ ?_ ⟨rfl,rfl,rfl,rfl,rfl⟩
 ·rintro j ⟨a,b,c,d,e⟩ hj ⟨e1,e2,e3,Z,M⟩;dsimp only at e1 e2 e3 Z M;subst e1;subst e2;subst e3;subst Z;refine aI (λ_=>?_) λg=>(by dsimp only[ai] at g;omega)
  have hz:=hr _ (bx (T:=.int .i64) (xs:=gT d) (j:=(j:Int)) (by omega) (by omega));refine aQ (λx=>x.2=(b,c,d,e)/\x.1=ajq) ?_ ?_
  ·refine aB (by dsimp only;omega) (by dsimp only;omega) (aM ?_);refine aI (λg=>?_) λ_=>?_
   ·dsimp only at g;omega
   refine aB (by dsimp only;omega) (by dsimp only;omega) (aM (ah ⟨rfl,?_⟩));dsimp only;rw[kP];exact hz.2
  rintro⟨b',x⟩ ⟨Y,U⟩;dsimp only at Y U;subst Y;subst U;refine aK (λh=>(by cases h)) λ_=>ah ?_
  dsimp only;exact⟨go (by omega),rfl,rfl,rfl,M⟩
 ·rintro⟨a,b,c,d,e⟩ ⟨e1,e2,e3,Z,M⟩;dsimp only at e1 e2 e3 Z M;subst e1;subst e2;subst e3;subst Z;refine aI (λg=>(by dsimp only[ai] at g;omega)) λ_=>?_
  obtain⟨e,e'⟩:=e;dsimp only at M;subst M;refine al (P:=λy=>y.1.1.2=e.2/\y.2.1.length=b.length/\y.2.2.length=c.length/\∀ l∈y.2.2,TL F E l) ?_ λr hr=>ah hr
  have hA:d.1≠5->0<=d.2.1/\d.2.1<(b.length:Int):=λh5=>hr _ (by
   unfold gT;(repeat' split)<;>simp<;>omega)
  have hB:2<=d.1->d.1≠5->0<=d.2.2.1/\d.2.2.1<(b.length:Int):=λh2 h5=>hr _ (by
   unfold gT;(repeat' split)<;>simp<;>omega)
  have hC:d.1=4->0<=d.2.2.2.1/\d.2.2.2.1<(b.length:Int):=λh5=>hr _ (by
   unfold gT;(repeat' split)<;>simp<;>omega)
  have hg:∀ {j:Int},0<=j->j<(b.length:Int)->TL F E (aD (T:=.sl (.int .i64)) c j):=λh0 h1=>hl _ (bx (T:=.sl (.int .i64)) (xs:=c) h0 (by rw[I];exact h1))
  refine aQ (λx=>x.2.1=b/\x.2.2.1=c/\x.2.2.2.1=d/\x.2.2.2.2.1=e/\TL F E x.1.2.2/\d.1≠5) ?_ ?_
  ·refine aE (λ_=>ah ⟨rfl,rfl,rfl,hl⟩) λJ=>?_
   refine aE (λ_=>ah ⟨rfl,rfl,rfl,rfl,TL.nil E,J⟩) λn1=>?_
   dsimp only at n1 J;obtain⟨b0,b1⟩:=hB (by omega) J;refine aE (λ_=>?_) λn2=>?_
   ·refine aB b0 b1 (aB b0 b1 (aM ?_));refine aB b0 (by dsimp only;rw[I];exact b1) (aB b0 (by dsimp only;rw[I];exact b1) (aM ?_));exact ah ⟨rfl,rfl,rfl,rfl,hg b0 b1,J⟩
   refine aE (λ_=>?_) λn3=>?_
   ·refine al (D3 _) λy _=>?_
    refine aB b0 b1 (aB b0 b1 (aM ?_));refine al (Zh _) λy _=>?_
    refine aB b0 (by dsimp only;rw[I];exact b1) (aB b0 (by dsimp only;rw[I];exact b1) (aM ?_));exact ah ⟨rfl,rfl,rfl,rfl,hg b0 b1,J⟩
   dsimp only at n2 n3;obtain⟨c0,c1⟩:=hC (by omega);refine al (D3 _) λy _=>?_
   refine aB b0 b1 (aB b0 b1 (aM ?_));refine aB c0 c1 (aB c0 c1 (aM ?_));refine al (Xo _) λy _=>?_
   refine aB b0 (by dsimp only;rw[I];exact b1) (aB b0 (by dsimp only;rw[I];exact b1) (aM ?_));refine aB c0 (by dsimp only;rw[I];exact c1) (aB c0 (by dsimp only;rw[I];exact c1) (aM ?_));have g1:=hg b0 b1;have g2:=hg c0 c1;refine aN (QJ _ _ (cM g1.len (by omega)) (cM g2.len (by omega))) ?_;exact ah ⟨rfl,rfl,rfl,rfl,g1.uni g2,J⟩
  rintro⟨⟨v,ok,tn⟩,b',c',d',e',e''⟩ ⟨Y,U,f3,f4,f5,f6⟩;dsimp only at Y U f3 f4 f5 f6;subst Y;subst U;subst f3;subst f4;obtain⟨a0,a1⟩:=hA f6;have ht:=f5.len;refine ba (by simp;omega) (by omega) ?_;refine aB a0 a1 (aB a0 a1 (aB a0 (by dsimp only;rw[I];exact a1) (aB a0 (by dsimp only;rw[I];exact a1) (ah ?_))));refine ⟨rfl,bG ..,bG ..,λl hm=>?_⟩;rcases AY hm with h|h
  ·exact hl l h
  ·rw[h];exact f5
theorem WO (E:Nat) (Z:E<=100000) (c:Int×List IT) (hc:c.2.length<=1000000) (hv:VT c) (s:TT) (h:TH F E s):Ok (l8 (c,s)) λy=>TH F E y.1/\(y.1.2.1.length=0\/y.1.2.2.2=s.2.2.2):=by
 unfold l8 Prod.p2 Prod.p3 Prod.p4 Prod.q3 Prod.q4 Prod.q5 aX bk jf ik bn bw aP cu ax ca;have J:=h;obtain⟨h1,h2,h3,h4,h5⟩:=h;refine aQ (λx=>x.2.1=c/\x.2.2.1=s/\(x.1=ajq->(s.2.1.length:Int)=c.1/\(s.2.2.1.length:Int)=c.1)) ?_ ?_
 ·refine bN (λ_=>ah ⟨rfl,rfl,λh=>(by cases h)⟩) λg=>ah ⟨rfl,rfl,λh=>?_⟩
  simp at h;exact⟨g,h⟩
 rintro⟨b,c',s',z⟩ ⟨e1,e2,e3⟩;dsimp only at e1 e2 e3;subst e1;subst e2;refine aK (λ_=>ah ⟨TH.zero E,.inl rfl⟩) λhb=>?_
 obtain⟨q1,q2⟩:=e3 hb;refine aN (cG s' E Z J) ?_;refine oS (λx=>((c'.2.length:Int)+1-x.1).toNat) (λx=>0<=x.1/\x.1<=(c'.2.length:Int)+1/\x.2.1=c'/\x.2.2.1.2=s'.2.2.2/\x.2.2.2.2.1.length=s'.2.1.length/\x.2.2.2.2.2.length=s'.2.2.1.length/\∀ l∈x.2.2.2.2.2,TL F E l) ?_ ⟨by dsimp only;omega,by dsimp only;omega,rfl,rfl,rfl,rfl,h3⟩;rintro⟨(n:Int),c,⟨(I:Int),ev⟩,z',R,T⟩ ⟨n0,n1,e1,e2,e3,e4,M⟩;dsimp only at n0 n1 e1 e2 e3 e4 M;subst e1;subst e2;refine eY (λg=>?_) λ_=>ah ⟨TH.zero E,.inl rfl⟩
 dsimp only[ai] at g;refine aQ (λx=>x.2=(c,(I,s'.2.2.2),z',R,T)/\(x.1=ajq->0<=I/\I<(c.2.length:Int))) ?_ ?_
 ·refine aI (λ_=>ah ⟨rfl,λh=>(by cases h)⟩) λg1=>ah ⟨rfl,λh=>?_⟩
  dsimp only at g1 h;rw[kP] at h;exact⟨g1,h⟩
 rintro⟨b',x⟩ ⟨f1,f2⟩;dsimp only at f1 f2;subst f1;refine aK (λ_=>ah ⟨TH.zero E,.inl rfl⟩) λhb=>?_
 obtain⟨p0,p1⟩:=f2 hb;refine aB p0 p1 (aM ?_);have hi:=hv.i _ (bx (T:=zN) (xs:=c.2) (j:=I) p0 p1);revert hi;generalize (aD (T:=zN) _ _)=i;intro hi;refine aN (DN _) ?_;refine bN (λ_=>ah ⟨⟨by dsimp only;omega,by dsimp only;omega,M,h4,h5⟩,.inr rfl⟩) λhsil=>?_
 refine aE (λ_=>ah ⟨TH.zero E,.inl rfl⟩) λhn=>?_
 dsimp only[ai] at hn;refine al (Vj E Z i (I,s'.2.2.2) R T (λj hj=>by have:=hi.r j hj;omega) hsil.1 hsil.2 (by omega) (by omega) M) λy hy=>?_
 obtain⟨⟨⟨pc',ev'⟩,ok⟩,R',T'⟩:=y;obtain⟨k1,k2,Y,U⟩:=hy;dsimp only at k1 k2 Y U;refine cY (kn Y.symm (cY (kn k2.symm (za ?_))));refine dB (λ_=>ah ⟨TH.zero E,.inl rfl⟩) λ_=>ah ?_
 dsimp only;rw[gK (by omega) (by omega)];exact⟨⟨by omega,by omega,rfl,k1,by omega,by omega,U⟩,by omega⟩
abbrev ST:Type:=SY×List Int×List Int×List TT
structure TF (c:Int×List IT) (t:TT):Prop where
 p0:0<=t.1
 p1:t.1<(c.2.length:Int)
 r:(t.2.1.length:Int)=c.1
 t:(t.2.2.1.length:Int)=c.1
structure FSx (c:CT) (s:ST):Prop where
 vc:VC c
 cd:∀ d∈c.1.2.2.1,0<=d.2/\d.2<(c.1.2.1.length:Int)
 e3:s.1.2.2.2.length=c.1.2.2.2.2.1.length
 ce:s.2.1.length=c.1.1.length
 fu:s.2.2.1.length=c.1.2.2.2.1.length
 th:s.2.2.2.length=c.2.length
 t:∀ k:Nat,k<c.2.length->TF (aD (T:=uy) c.2 (k:Int)) (aD (T:=s7) s.2.2.2 (k:Int))
def FQ (L:List ET) (k:Int) (y:Int):Prop:=1<=y/\Ji L k y
structure SV (n:Nat) (L:List ET) (s:ST):Prop where
 sb:SB n s.1
 ln:L.length=n
 t:∀ k:Nat,k<s.2.2.2.length->TH (FQ L k) n (aD (T:=s7) s.2.2.2 (k:Int))
theorem SV.ti {n:Nat} {L:List ET} {s:ST} (h:SV n L s) {k:Int} (h0:0<=k) (h1:k<(s.2.2.2.length:Int)):TH (FQ L k) n (aD (T:=s7) s.2.2.2 k):=by
 have:=h.t k.toNat (by omega);rw[show ((k.toNat:Nat):Int)=k by omega] at this;exact this
structure TG (c:CT) (L:List ET) (sy:SY) (k:Int) (t:TT):Prop where
 ev:t.2.2.2=((fl L k).length:Int)
 wi:(aD (T:=ja) sy.2.2.2 k).1=3\/(aD (T:=ja) sy.2.2.2 k).1=4->(aD (T:=zN) (aD (T:=uy) c.2 k).2 t.1).1=21
 nw:(fl L k).length=0->(aD (T:=ja) sy.2.2.2 k).1=0\/(aD (T:=ja) sy.2.2.2 k).1=1
structure Ju (c:CT) (L:List ET) (s:ST):Prop where
 ac:ZS c.1 L s.1 s.2.1 s.2.2.1
 t:∀ k:Nat,k<s.2.2.2.length->(aD (T:=s7) s.2.2.2 (k:Int)).2.1.length=0\/TG c L s.1 (k:Int) (aD (T:=s7) s.2.2.2 (k:Int))
theorem aas (c:CT) (s:ST) (hc:CB c):Ok (uH (c,s)) λb=>b=ajp->FSx c s:=by
 unfold uH Prod.p2 Prod.p3 Prod.q4 Prod.q5 bk jf ik bw aP cu ax ca;refine aQ (λx=>x.2=(c,s)/\(x.1=ajq->VC c/\(∀ d∈c.1.2.2.1,0<=d.2/\d.2<(c.1.2.1.length:Int))/\s.1.2.2.2.length=c.1.2.2.2.2.1.length/\s.2.1.length=c.1.1.length/\s.2.2.1.length=c.1.2.2.2.1.length/\s.2.2.2.length=c.2.length)) ?_ ?_
 ·refine al (QI c hc.th hc.ins) λb hb=>?_
  refine dB (λ_=>ah ⟨rfl,λh=>(by cases h)⟩) λh=>?_
  have hv:=hb h;refine al (Nv c.1 s.1 (by have:=hv.vl.d;omega)) λb2 I=>?_
  refine dB (λ_=>ah ⟨rfl,λh=>(by cases h)⟩) λZ=>?_
  obtain⟨J,_,_,g4⟩:=I Z;refine bN (λ_=>ah ⟨rfl,λh=>(by cases h)⟩) λk1=>?_
  refine bN (λ_=>ah ⟨rfl,λh=>(by cases h)⟩) λk2=>ah ⟨rfl,λU=>⟨hv,J,g4,?_,?_,?_⟩⟩
  ·dsimp only[ai] at k1;omega
  ·dsimp only[ai] at k2;omega
  ·simp at U;omega
 rintro⟨b,x⟩ ⟨e,hb⟩;dsimp only at e hb;subst e;refine aK (λ_=>ah λh=>(by cases h)) λh=>?_
 obtain⟨hv,hcd,Y,hce,hfu,hth⟩:=hb h;have hcl:=hc.th;refine bX c.2.length (λi x=>x.1=(i:Int)/\x.2=(c,s)/\∀ k:Nat,k<i->TF (aD (T:=uy) c.2 (k:Int)) (aD (T:=s7) s.2.2.2 (k:Int))) ?_ ?_ ⟨rfl,rfl,λk hk=>by omega⟩
 ·rintro i ⟨a,x⟩ hi ⟨e1,e2,e3⟩;dsimp only at e1 e2 e3;subst e1;subst e2;refine aI (λ_=>?_) λg=>(by dsimp only[ai] at g;omega)
  have hin:((i:Nat):Int)<(c.2.length:Int):=by omega
  refine aB (by dsimp only;omega) (by dsimp only;omega) (aM ?_);refine aQ (λx=>x.2=(c,s)/\(x.1=ajq->TF (aD (T:=uy) c.2 (i:Int)) (aD (T:=s7) s.2.2.2 (i:Int)))) ?_ ?_
  ·refine aI (λ_=>ah ⟨rfl,λh=>(by cases h)⟩) λg0=>?_
   refine aB (by dsimp only;omega) hin (aM ?_);refine eY (λ_=>ah ⟨rfl,λh=>(by cases h)⟩) λJ=>?_
   refine aB (by dsimp only;omega) hin (aM ?_);refine bN (λ_=>ah ⟨rfl,λh=>(by cases h)⟩) λg2=>?_
   refine aB (by dsimp only;omega) hin (aM (ah ⟨rfl,λM=>⟨g0,J,g2,?_⟩⟩));simp at M;exact M
  rintro⟨b,x⟩ ⟨e,hb⟩;dsimp only at e hb;subst e;refine aK (λ_=>ah λh=>(by cases h)) λh=>ah ?_
  dsimp only;refine ⟨go (by omega),rfl,λk hk=>?_⟩;rcases bI k i with h1|h1
  ·exact e3 k h1
  ·rw[show k=i by omega];exact hb h
 ·rintro⟨a,x⟩ ⟨e1,e2,e3⟩;dsimp only at e1 e2 e3;subst e1;subst e2;refine aI (λg=>(by dsimp only[ai] at g;omega)) λ_=>ah λ_=>⟨hv,hcd,Y,hce,hfu,hth,e3⟩
theorem acr {i:IT} (h:i.1=6\/i.1=7\/i.1=27\/i.1=10):i.2.1∈gT i:=by
 unfold gT;(repeat' split)<;>simp<;>omega
theorem acq {i:IT} (h:i.1=8\/i.1=9\/i.1=26):i.2.2.1∈gT i:=by
 unfold gT;(repeat' split)<;>simp<;>omega
theorem agw {i:IT} (h:i.1=7\/i.1=9):i.2.2.2.1∈gT i:=by
 unfold gT;(repeat' split)<;>simp<;>omega
structure KD (op k:Int):Prop where
 ld:k=3->op=6\/op=7
 st:k=4->op=8\/op=9
 br:k=5->op=10
 se:k=22->op=26
 ge:k=23->op=27
 e1:k=2->op=28
 n1:¬k=1
 n17:¬k=17
 wt:k=16->op=21
 e2:¬k=0->op=28->k=2
 d7:¬k=0->op=7->k=3
 d8:¬k=0->op=8->k=4
 d9:¬k=0->op=9->k=4
 d10:¬k=0->op=10->k=5
 d26:¬k=0->op=26->k=22
theorem aa7 (op:Int):Ok (uF op) λk=>KD op k:=by
 unfold uF bk kf ax;refine aQ (λx=>x.2=[3,3,4,4,5,6,7,8,9,10,11,12,13,14,15,16,18,19,20,21,22,23,2]/\(x.1=ajq->6<=op/\op<=28)) ?_ ?_
 ·refine aI (λ_=>ah ⟨rfl,λh=>(by cases h)⟩) λg=>ah ⟨rfl,λh=>?_⟩
  dsimp only at h;rw[e9] at h;exact⟨g,h⟩
 rintro⟨b,x⟩ ⟨e,hb⟩;dsimp only at e hb;subst e;refine aK (λ_=>ah (by constructor<;>first|decide|(intro h;first|(exact (h rfl).elim)|(cases h;done)))) λh=>?_
 obtain⟨h1,I⟩:=hb h;dsimp only;rw[gK (n:=op-6) (by omega) (by omega)];refine aB (by omega) (by simp;omega) (aB (by omega) (by simp;omega) (aM (ah ?_)));have:op=6\/op=7\/op=8\/op=9\/op=10\/op=11\/op=12\/op=13\/op=14\/op=15\/op=16\/op=17\/op=18\/op=19\/op=20\/op=21\/op=22\/op=23\/op=24\/op=25\/op=26\/op=27\/op=28:=by omega
 rcases this with rfl|rfl|rfl|rfl|rfl|rfl|rfl|rfl|rfl|rfl|rfl|rfl|rfl|rfl|rfl|rfl|rfl|rfl|rfl|rfl|rfl|rfl|rfl;all_goals (constructor<;>decide)
theorem QV (a n:Int):Ok (pX (a,n)) λr=>n=2->r=0\/r=1:=by
 unfold pX bk bn ax;refine aI (λ_=>ah λh=>(by dsimp only at *;omega)) λh=>?_
 dsimp only at h;refine xo (by dsimp only;omega) ?_;have t1:=Int.tmod_lt_of_pos a (b:=n) (by omega);have J:=Int.lt_tmod_of_pos a (b:=n) (by omega);refine aQ (λr=>n=2->r=0\/r=1) (aI (λg=>ah λI=>?_) λg=>ah λI=>?_) λ_ h=>ah h
 ·dsimp only at g ⊢;rw[gK (by omega) (by omega)];omega
 ·dsimp only at g ⊢;omega
theorem Oi (i:IT) (t:TT) (hr:∀ j∈gT i,0<=j/\j<(t.2.1.length:Int)):Ok (qJ (i,t)) λo=>(i.1=7->i.2.2.1=3->i.2.2.2.2.1=2->o=3\/o=4)/\(i.1=9->i.2.1=3->i.2.2.2.2.1=2->o=3\/o=4):=by
 unfold qJ Prod.p2 Prod.p3 Prod.p4 aX bw ax;have J:i.1=7\/i.1=9->0<=i.2.2.2.1/\i.2.2.2.1<(t.2.1.length:Int):=λh=>hr _ (by
  unfold gT;(repeat' split)<;>simp<;>omega)
 have M:∀ {o:Int},¬i.1=7->¬i.1=9->(i.1=7->i.2.2.1=3->i.2.2.2.2.1=2->o=3\/o=4)/\(i.1=9->i.2.1=3->i.2.2.2.2.1=2->o=3\/o=4):=λh1 h2=>⟨λh=>(h1 h).elim,λh=>(h2 h).elim⟩
 have wk:∀ {b r n:Int},b=3->n=2->(n=2->r=0\/r=1)->be .i64 (b+r)=3\/be .i64 (b+r)=4:=λh1 h2 I=>by
  have:=I h2;rw[gK (by omega) (by omega)];omega
 refine aQ (λx=>x.2=(i,t)/\(x.1=ajp->i.1=6\/i.1=27)) (aE (λh=>ah ⟨rfl,λ_=>.inl h⟩) λ_=>ah ⟨rfl,λh=>.inr (of_decide_eq_true h)⟩) ?_;rintro⟨b,x⟩ ⟨e,hb⟩;dsimp only at e hb;subst e;refine aK (λh=>ah (M (by have:=hb h;omega) (by have:=hb h;omega))) λ_=>?_
 refine aE (λh=>?_) λU=>?_
 ·exact aB (J (.inl h)).1 (J (.inl h)).2 (aM (al (QV _ _) λy Y=>ah ⟨λ_ I Z=>wk I Z Y,λh9=>by dsimp only at h;omega⟩))
 refine aE (λh=>?_) λn9=>?_
 ·exact aB (J (.inr h)).1 (J (.inr h)).2 (aM (al (QV _ _) λy Y=>ah ⟨λh7=>(U h7).elim,λ_ I Z=>wk I Z Y⟩))
 refine aQ (λ_=>True) ?_ λx _=>aK (λ_=>ah (M U n9)) λ_=>ah (M U n9)
 with_reducible repeat' first|(refine OS.ok ?_;constructor)|refine IM.mk λ_=>?_
 all_goals trivial
theorem ad4 {w:WT} (I:w.1=C0) {b n:Int} (h:AR w b n):b=3/\n=2:=by
 obtain⟨b0,b1,ix,sz,sn⟩:=h;rw[I] at b1 ix sz sn;have b1:b<5:=b1;rcases (by omega:b=0\/b=1\/b=2\/b=3\/b=4) with rfl|rfl|rfl|rfl|rfl
 ·exact (sz rfl).elim
 ·exact (sz rfl).elim
 ·exact (sz rfl).elim
 ·exact⟨rfl,sn.symm⟩
 ·exact absurd ix (by decide)
theorem ack {w:WT} (I:w.1=C0) {o:Int} (h:o=3\/o=4):¬(aD (T:=NI) w.1 o).2.2.1=0:=by
 rw[I];rcases h with rfl|rfl<;>decide
structure PE (n:Nat) (c:CT) (s:ST) (t:Int) (e:ET):Prop where
 fs:FSx c s
 t0:0<=t
 t1:t<(c.2.length:Int)
 et:e.1=t
 d:e.2.2.2.2.2.1.length<=n
 f:e.2.2.2.2.2.2.length<=n
 a:e.2.1=3\/e.2.1=23\/e.2.1=5->0<=(aD (T:=zN) (aD (T:=uy) c.2 t).2 (aD (T:=s7) s.2.2.2 t).1).2.1/\(aD (T:=zN) (aD (T:=uy) c.2 t).2 (aD (T:=s7) s.2.2.2 t).1).2.1<((aD (T:=s7) s.2.2.2 t).2.1.length:Int)
 b:e.2.1=4\/e.2.1=22->0<=(aD (T:=zN) (aD (T:=uy) c.2 t).2 (aD (T:=s7) s.2.2.2 t).1).2.2.1/\(aD (T:=zN) (aD (T:=uy) c.2 t).2 (aD (T:=s7) s.2.2.2 t).1).2.2.1<((aD (T:=s7) s.2.2.2 t).2.1.length:Int)
structure PS (c:CT) (L:List ET) (s:ST) (t:Int) (e:ET):Prop where
 tg:TG c L s.1 t (aD (T:=s7) s.2.2.2 t)
 s1:e.2.1=1\/e.2.1=2->e.2.2.2.2.1= -1
 s2:¬(e.2.1=1\/e.2.1=2)->0<=e.2.2.2.2.1/\e.2.2.2.2.1<c.1.2.2.2.2.2.length/\(aD (T:=wB) c.1.2.2.2.2.2 e.2.2.2.2.1).1=t
 de:0<e.2.2.2.2.2.1.length->e.2.1=5\/(e.2.1=3\/e.2.1=4)/\¬(aD (T:=NI) c.1.1 e.2.2.1).2.2.1=0
 fr:0<e.2.2.2.2.2.2.length->e.2.1=4\/e.2.1=22
 da:FH e.2.2.2.2.2.1
 dq:∀ y∈e.2.2.2.2.2.1,FQ L t y
 fa:FH e.2.2.2.2.2.2
 fq:∀ y∈e.2.2.2.2.2.2,FQ L t y
 wt:e.2.1=16->(aD (T:=zN) (aD (T:=uy) c.2 t).2 (aD (T:=s7) s.2.2.2 t).1).1=21
theorem TU (n:Nat) (hn:n<=100000) (c:CT) (L:List ET) (s:ST) (hc:CB c) (hs:SV n L s) (hI:Ju c L s) (t:Int):Ok (my (c,s,t)) λy=>y.2=ajp->PE n c s t y.1/\PS c L s t y.1:=by
 unfold my Prod.p2 Prod.p3 Prod.p4 Prod.q3 Prod.q4 Prod.q5 aX bk bn bw aP ax;refine aQ (λx=>x.2.1=c/\x.2.2.1=s/\(x.1=ajq->FSx c s/\0<=t/\t<(c.2.length:Int))) ?_ ?_
 ·refine al (aas c s hc) λb hb=>?_
  refine dB (λ_=>ah ⟨rfl,rfl,λh=>(by cases h)⟩) λh=>?_
  refine aI (λ_=>ah ⟨rfl,rfl,λh=>(by cases h)⟩) λg0=>ah ⟨rfl,rfl,λg1=>?_⟩
  dsimp only at g0 g1;rw[kP] at g1;exact⟨hb h,g0,g1⟩
 rintro⟨b,c',s',z⟩ ⟨e1,e2,hb⟩;dsimp only at e1 e2 hb;subst e1;subst e2;refine aK (λ_=>ah λh=>(by cases h)) λh=>?_
 obtain⟨hf,t0,t1⟩:=hb h;have hk:((t.toNat:Nat):Int)=t:=by omega
 have htf:=hf.t t.toNat (by omega);rw[hk] at htf;have hvt:=hf.vc.t _ (bx (T:=uy) (xs:=c'.2) (j:=t) t0 t1);have hth:=hs.ti t0 (by rw[hf.th];exact t1);have key:∀ e:ET,e.1=t->e.2.2.2.2.2.1.length<=n->e.2.2.2.2.2.2.length<=n->(e.2.1=1\/e.2.1=17\/KD (aD (T:=zN) (aD (T:=uy) c'.2 t).2 (aD (T:=s7) s'.2.2.2 t).1).1 e.2.1)->PE n c' s' t e:=by
  intro e h1 Y h3 J;have hi:=hvt.i _ (bx (T:=zN) (xs:=(aD (T:=uy) c'.2 t).2) (j:=(aD (T:=s7) s'.2.2.2 t).1) htf.p0 htf.p1);refine ⟨hf,t0,t1,h1,Y,h3,λh5=>?_,λh5=>?_⟩
  ·rw[htf.r];rcases J with J|J|J
   ·omega
   ·omega
   ·refine hi.r _ ?_;have a1:=J.ld;have a2:=J.ge;have a3:=J.br;revert a1 a2 a3 h5;generalize (aD (T:=zN) (aD (T:=uy) c'.2 t).2 (aD (T:=s7) s'.2.2.2 t).1)=i;intro h5 a1 a2 a3;exact acr (by omega)
  ·rw[htf.r];rcases J with J|J|J
   ·omega
   ·omega
   ·refine hi.r _ ?_;have a1:=J.st;have a2:=J.se;revert a1 a2 h5;generalize (aD (T:=zN) (aD (T:=uy) c'.2 t).2 (aD (T:=s7) s'.2.2.2 t).1)=i;intro h5 a1 a2;exact acq (by omega)
 have hir:=(hvt.i _ (bx (T:=zN) (xs:=(aD (T:=uy) c'.2 t).2) (j:=(aD (T:=s7) s'.2.2.2 t).1) htf.p0 htf.p1)).r;rw[<- htf.r] at hir;have hrg:=hc.rg _ (bx (T:=uy) (xs:=c'.2) (j:=t) t0 t1);have htg:TG c' L s'.1 t (aD (T:=s7) s'.2.2.2 t):=by
  have:=hI.t t.toNat (by rw[hf.th];omega);rw[hk] at this;refine this.resolve_left λh=>?_
  have:=htf.r;omega
 have hvj:=hf.vc.j t.toNat (by omega);rw[hk] at hvj;have hvj:=hvj _ (bx (T:=zN) (xs:=(aD (T:=uy) c'.2 t).2) (j:=(aD (T:=s7) s'.2.2.2 t).1) htf.p0 htf.p1);have hC0:=hc.wx.c;refine aB t0 (by dsimp only;rw[hf.th];exact t1) (aM ?_);refine aB t0 t1 (aM ?_);refine aB htf.p0 htf.p1 (aM ?_);have t4:t<(s'.1.2.2.2.length:Int):=by rw[hf.e3,<-hf.vc.tl];exact t1
 have tz:(aD (T:=s7) s'.2.2.2 t).2.2.1.length=(aD (T:=s7) s'.2.2.2 t).2.1.length:=by have:=htf.r;have:=htf.t;omega
 refine aB t0 t4 (aM ?_);refine aE (λ_=>ah λ_=>⟨key _ rfl (j9 _) (j9 _) (.inl rfl),⟨htg,λ_=>rfl,λh=>(h (.inl rfl)).elim,λh=>(by cases h),λh=>(by cases h),trivial,λy hy=>(by cases hy),trivial,λy hy=>(by cases hy),λh=>(by cases h)⟩⟩) λ_=>?_
 refine aE (λJ=>aB t0 t4 (aM (ah λ_=>⟨key _ rfl (j9 _) (j9 _) (.inr (.inl rfl)),⟨htg,λh=>(by rcases h with h|h<;>cases h),λ_=>hvj.si (by rw[htg.wi (.inr J)];decide),λh=>(by cases h),λh=>(by cases h),trivial,λy hy=>(by cases hy),trivial,λy hy=>(by cases hy),λh=>(by cases h)⟩⟩))) λ_=>?_
 refine aE (λ_=>?_) λ_=>ah λh=>(by cases h)
 refine al (aa7 _) λk I=>?_
 refine al (Oi _ _ hir) λo ho=>?_
 refine aE (λ_=>ah λh=>(by cases h)) λM=>?_
 have fin:∀ e:ET,e.1=t->e.2.1=k->e.2.2.1=o->e.2.2.2.2.1=(aD (T:=zN) (aD (T:=uy) c'.2 t).2 (aD (T:=s7) s'.2.2.2 t).1).2.2.2.2.2->(0<e.2.2.2.2.2.1.length->(aD (T:=zN) (aD (T:=uy) c'.2 t).2 (aD (T:=s7) s'.2.2.2 t).1).1=10\/(aD (T:=zN) (aD (T:=uy) c'.2 t).2 (aD (T:=s7) s'.2.2.2 t).1).1=7\/(aD (T:=zN) (aD (T:=uy) c'.2 t).2 (aD (T:=s7) s'.2.2.2 t).1).1=9)->(0<e.2.2.2.2.2.2.length->(aD (T:=zN) (aD (T:=uy) c'.2 t).2 (aD (T:=s7) s'.2.2.2 t).1).1=8\/(aD (T:=zN) (aD (T:=uy) c'.2 t).2 (aD (T:=s7) s'.2.2.2 t).1).1=9\/(aD (T:=zN) (aD (T:=uy) c'.2 t).2 (aD (T:=s7) s'.2.2.2 t).1).1=26)->TL (FQ L t) n e.2.2.2.2.2.1->TL (FQ L t) n e.2.2.2.2.2.2->PE n c' s' t e/\PS c' L s' t e:=by
  intro e h1 Y h3 J h5 h6 h7 h8;refine ⟨key e h1 h7.len h8.len (.inr (.inr (Y▸I))),htg,λh=>?_,λh=>?_,λh=>?_,λh=>?_,h7.a,h7.f,h8.a,h8.f,λh=>I.wt (Y▸h)⟩
  ·rw[J];rw[Y] at h;exact hvj.se (I.e1 (h.resolve_left I.n1))
  ·rw[J];rw[Y] at h;exact hvj.si λh9=>h (.inr (I.e2 M h9))
  ·rw[Y,h3];rcases h5 h with g|g|g
   ·exact .inl (I.d10 M g)
   ·obtain⟨q1,q2⟩:=ad4 hC0 (hvj.a7 g);exact .inr ⟨.inl (I.d7 M g),ack hC0 (ho.1 g q1 q2)⟩
   ·obtain⟨q1,q2⟩:=ad4 hC0 (hvj.a9 g);exact .inr ⟨.inr (I.d9 M g),ack hC0 (ho.2 g q1 q2)⟩
  ·rw[Y];rcases h6 h with g|g|g
   ·exact .inl (I.d8 M g)
   ·exact .inl (I.d9 M g)
   ·exact .inr (I.d26 M g)
 clear key htg hvj ho hC0 hrg;revert fin htf hvt hth hir tz I;dsimp only;generalize (aD (T:=s7) s'.2.2.2 t)=th;generalize (aD (T:=zN) _ th.1)=i;intro htf hvt hth hir tz I fin;have hlen:∀ {j:Int},0<=j->j<(th.2.2.1.length:Int)->TL (FQ L t) n (aD (T:=.sl (.int .i64)) th.2.2.1 j):=λh0 h1=>hth.l _ (bx (T:=.sl (.int .i64)) (xs:=th.2.2.1) h0 h1)
 have hA:i.1=10->0<=i.2.1/\i.2.1<(th.2.2.1.length:Int):=λh=>by
  rw[tz];exact hir _ (acr (.inr (.inr (.inr h))))
 have hB:i.1=8\/i.1=9\/i.1=26->0<=i.2.2.1/\i.2.2.1<(th.2.2.1.length:Int):=λh=>by
  rw[tz];exact hir _ (acq (h))
 have hC:i.1=7\/i.1=9->0<=i.2.2.2.1/\i.2.2.2.1<(th.2.2.1.length:Int):=λh=>by
  rw[tz];exact hir _ (agw (h))
 refine aQ (λx=>x.2.1=th/\x.2.2.1=i/\(x.2.2.2.1.1=t/\x.2.2.2.1.2.1=k/\x.2.2.2.1.2.2.1=o/\x.2.2.2.1.2.2.2.2=i.2.2.2.2.2)/\TL (FQ L t) n x.2.2.2.2/\(0<x.2.2.2.2.length->i.1=10\/i.1=7\/i.1=9)) ?_ ?_
 ·refine aE (λh=>?_) λ_=>?_
  ·obtain⟨a0,a1⟩:=hA h;refine aB a0 a1 (aM ?_);have:=hlen a0 a1;exact ba (cM this.len (by omega)) (by omega) (ah ⟨rfl,rfl,⟨rfl,rfl,rfl,rfl⟩,this,λ_=>.inl h⟩)
  refine aQ (λx=>x.2.2.1=th/\x.2.2.2.1=i/\(x.2.2.2.2.1=t/\x.2.2.2.2.2.1=k/\x.2.2.2.2.2.2.1=o/\x.2.2.2.2.2.2.2.2=i.2.2.2.2.2)/\(x.1=ajp->i.1=7\/i.1=9)) ?_ ?_
  ·refine aE (λh=>ah ⟨rfl,rfl,⟨rfl,rfl,rfl,rfl⟩,λ_=>.inl h⟩) λ_=>ah ⟨rfl,rfl,⟨rfl,rfl,rfl,rfl⟩,λh=>.inr (of_decide_eq_true h)⟩
  rintro⟨b,z0,th',Z,t',k',z1⟩ ⟨e1,e2,e3,U⟩;dsimp only at e1 e2 e3 U;subst e1;subst e2;refine aK (λh=>?_) λ_=>ah ⟨rfl,rfl,e3,TL.nil n,λh=>(by cases h)⟩
  obtain⟨a0,a1⟩:=hC (U h);refine aB a0 a1 (aM ?_);have:=hlen a0 a1;exact ba (cM this.len (by omega)) (by omega) (ah ⟨rfl,rfl,e3,this,λ_=>.inr (U h)⟩)
 rintro⟨z0,th',Z,⟨t',k',z1⟩,ds⟩ ⟨e1,e2,e3,hd,hd2⟩;dsimp only at e1 e2 e3 hd hd2;subst e1;subst e2;refine aQ (λx=>(x.2.1.1=t/\x.2.1.2.1=k/\x.2.1.2.2.1=o/\x.2.1.2.2.2.2=Z.2.2.2.2.2)/\x.2.2.1=ds/\TL (FQ L t) n x.2.2.2/\(0<x.2.2.2.length->Z.1=8\/Z.1=9\/Z.1=26)) ?_ ?_
 ·refine aQ (λx=>x.2=(z0,th',Z,(t',k',z1),ds)/\(x.1=ajp->Z.1=8\/Z.1=9\/Z.1=26)) ?_ ?_
  ·exact aE (λh=>ah ⟨rfl,λ_=>.inl h⟩) λ_=>aE (λh=>ah ⟨rfl,λ_=>.inr (.inl h)⟩) λ_=>ah ⟨rfl,λh=>.inr (.inr (of_decide_eq_true h))⟩
  rintro⟨b,x⟩ ⟨e,U⟩;dsimp only at e U;subst e;refine aK (λh=>?_) λ_=>ah ⟨e3,rfl,TL.nil n,λh=>(by cases h)⟩
  obtain⟨a0,a1⟩:=hB (U h);refine aB a0 a1 (aM ?_);have:=hlen a0 a1;exact ba (cM this.len (by omega)) (by omega) (ah ⟨e3,rfl,this,λ_=>U h⟩)
 rintro⟨z2,⟨t2,k2,o2,z3,si⟩,d2,f2⟩ ⟨e1,e2,h1,Y⟩;dsimp only at e1 e2 h1 Y;subst e2;obtain⟨g1,g2,g3,g4⟩:=e1;exact ah λ_=>fin _ g1 g2 g3 g4 hd2 Y hd h1
theorem adt {n:Nat} {k:Int} (h0:0<=k) (h1:k<n):(aD (T:=ja) (XF n) k).1=0\/(aD (T:=ja) (XF n) k).1=1:=by
 have hm:=bx (T:=ja) (xs:=XF n) h0 (by rw[LT];exact h1);revert hm;generalize aD (T:=ja) (XF n) k=z;intro hm;cases n with
 |zero=>cases hm
 |succ n=>
  rcases bc.1 hm with rfl|hm
  ·exact .inr rfl
  ·rw[vz hm];exact .inl rfl
theorem TO (c:CT) (hvt:iK c=ajn ajp) (hv:VC c):Ok (sw c) λs=>SV 0 [] s/\Ju c [] s:=by
 unfold sw Prod.p2 Prod.p3 Prod.p4 Prod.p5 Prod.q3 Prod.q4 Prod.q5 Prod.q6 bk vA bn bw aP cu ax ca;refine aN hvt (dB (λh=>(by cases h)) λ_=>?_);obtain⟨vc,vl,vd,Z,_,Y,_⟩:=id hv.vl;have htl:=hv.tl;refine aN (I8 c.1 hv.vl) ?_;refine bX c.1.1.length (λi x=>x.1=(i:Int)/\x.2.1=c/\x.2.2.2.1=Nw c.1/\x.2.2.2.2=(c.1.1.take i).map λc=>c.2.2.2.2) ?_ ?_ ⟨rfl,rfl,rfl,rfl⟩
 ·rintro i ⟨a,c',z,U,l⟩ hi ⟨e1,e2,e3,I⟩;dsimp only at e1 e2 e3 I;subst e1;subst e2;subst e3;subst I;refine aI (λ_=>?_) λg=>(by dsimp only[ai] at g;omega)
  refine aB (by dsimp only;omega) (by dsimp only;omega) (aM (ba (by simp;omega) (by omega) (ah ?_)));dsimp only;exact⟨go (by omega),rfl,rfl,by rw[mQ (T:=NI) hi,ct];rfl⟩
 rintro⟨a,c',z,U,l⟩ ⟨e1,e2,e3,I⟩;dsimp only at e1 e2 e3 I;subst e1;subst e2;subst e3;rw[cz] at I;subst I;refine aI (λg=>(by dsimp only[ai] at g;omega)) λ_=>?_
 refine al (P:=λs=>SV 0 [] s/\Ju c' [] s) ?_ λr hr=>ah hr
 refine bX c'.1.2.2.2.1.length (λi x=>x.1=(i:Int)/\x.2.1=c'/\x.2.2.2.1=Nw c'.1/\x.2.2.2.2.1=YX c'.1/\x.2.2.2.2.2=ay i 0) ?_ ?_ ⟨rfl,rfl,rfl,rfl,rfl⟩
 ·rintro i ⟨a,c,z,y,l,f⟩ hi ⟨e1,e2,e3,I,J⟩;dsimp only at e1 e2 e3 I J;subst e1;subst e2;subst e3;subst J;refine aI (λ_=>?_) λg=>(by dsimp only[ai] at g;omega)
  refine ba (by simp;omega) (by omega) (ah ?_);dsimp only;exact⟨go (by omega),rfl,rfl,I,by rw[CF]⟩
 rintro⟨a,c,z,y,l,f⟩ ⟨e1,e2,e3,I,J⟩;dsimp only at e1 e2 e3 I J;subst e1;subst e2;subst e3;subst I;subst J;refine aI (λg=>(by dsimp only[ai] at g;omega)) λ_=>?_
 refine al (P:=λs=>SV 0 [] s/\Ju c [] s) ?_ λr hr=>ah hr
 refine bX c.2.length (λi x=>x.1=(i:Int)/\x.2.1=c/\x.2.2.2.1=Nw c.1/\x.2.2.2.2.1=YX c.1/\x.2.2.2.2.2.1=ZN c.1/\x.2.2.2.2.2.2.length=i/\∀ t∈x.2.2.2.2.2.2,(∀ F,TH F 0 t)/\t.2.2.2=0) ?_ ?_ ⟨rfl,rfl,rfl,rfl,rfl,rfl,λt ht=>(by cases ht)⟩
 ·rintro i ⟨a,c,z,y,l,f,th⟩ hi ⟨e1,e2,e3,I,e4b,J,M⟩;dsimp only at e1 e2 e3 I e4b J M;subst e1;subst e2;subst e3;refine aI (λ_=>?_) λg=>(by dsimp only[ai] at g;omega)
  have hin:((i:Nat):Int)<(c.2.length:Int):=by omega
  have hvt:=hv.t _ (bx (T:=uy) (xs:=c.2) (j:=(i:Int)) (by omega) hin);have q0:=hvt.r0;have q1:=hvt.r1;refine aB (by dsimp only;omega) hin (aM ?_);refine cY (cY (dY q0 (dY (dX _) (ba (by dsimp only;omega) (by omega) ?_))));refine aB (by dsimp only;omega) hin (aM ?_);refine cY (cY (dY q0 (dY (dX _) (ba (by dsimp only;omega) (by omega) ?_))));refine ba (by simp;omega) (by omega) (ah ?_);dsimp only;refine ⟨go (by omega),rfl,rfl,I,e4b,by simp;omega,λt ht=>?_⟩;rcases bE.1 ht with h|h
  ·exact M t h
  ·rw[aF] at h;subst h;refine ⟨λF=>⟨?_,?_,λl hl=>?_,dX _,dX _⟩,rfl⟩
   ·dsimp only;rw[dK];omega
   ·dsimp only;rw[dK];omega
   ·rw[vz hl];exact TL.nil 0
 ·rintro⟨a,c,z,y,l,f,th⟩ ⟨e1,e2,e3,I,e4b,J,M⟩;dsimp only at e1 e2 e3 I e4b J M;subst e1;subst e2;subst e3;subst I;subst e4b;refine aI (λg=>(by dsimp only[ai] at g;omega)) λ_=>ah ?_
  have hm:∀ k:Nat,k<th.length->_:=λk hk=>M _ (bx (T:=s7) (xs:=th) (j:=(k:Int)) (by omega) (by omega))
  refine ⟨⟨Rr hv.vl,rfl,λk hk=>(hm k hk).1 _⟩,⟨.nil,λk hk=>.inr ?_⟩⟩;dsimp only at hk;have hst:=adt (n:=c.1.2.2.2.2.1.length) (k:=(k:Int)) (by omega) (by omega);exact⟨(hm k hk).2,λh=>(by rcases hst with q|q<;>rcases h with h|h<;>exact absurd (q.symm.trans h) (by decide)),λ_=>hst⟩
theorem Gm {th:List (Int×Int×Bool)} {t x j:Int} (h0:0<=t) (h1:t<th.length) (hj:0<=j):(aD (T:=ja) (AH th t x) j).1=if j=t then x else (aD (T:=ja) th j).1:=by
 unfold AH;rw[r8 (T:=ja) _ _ _ _ h0 h1 hj];split<;>rfl
theorem acy {th:List (Int×Int×Bool)} {t x j:Int} (h0:0<=t) (h1:t<th.length) (hj:0<=j):(aD (T:=ja) (cdP th t x) j).1=(aD (T:=ja) th j).1:=by
 unfold cdP;rw[r8 (T:=ja) _ _ _ _ h0 h1 hj];split
 ·rename_i h;rw[h]
 ·rfl
theorem ad3 {th:List (Int×Int×Bool)} {t j:Int} {x:Bool} (h0:0<=t) (h1:t<th.length) (hj:0<=j):(aD (T:=ja) (atP th t x) j).1=(aD (T:=ja) th j).1:=by
 unfold atP;rw[r8 (T:=ja) _ _ _ _ h0 h1 hj];split
 ·rename_i h;rw[h]
 ·rfl
theorem acs {j:Int} (hj:0<=j):∀ (l:List Int) (th:List (Int×Int×Bool)),(∀ u:Int,u∈l->0<=u/\u<th.length)->(aD (T:=ja) (Fd th l) j).1=if j∈l then 4 else (aD (T:=ja) th j).1
 |[],th,_=>by simp[Fd]
 |x::r,th,h=>by
  have J:=h x (dg ..);have M:=acs hj r (AH th x 4) λu hu=>by unfold AH;rw[bG];exact h u (cA _ hu)
  have e:Fd th (x::r)=Fd (AH th x 4) r:=rfl;rw[e,M,Gm J.1 J.2 hj];by_cases h1:j∈r
  ·rw[if_pos h1,if_pos (cA _ h1)]
  ·rw[if_neg h1];by_cases I:j=x
   ·rw[if_pos I,if_pos (by rw[I];exact dg ..)]
   ·rw[if_neg I,if_neg λh=>(bc.1 h).elim I h1]
theorem F7 {l:List Int} (u:Int) (hl:¬l.length=0):AA l u∈l:=by
 unfold AA;rw[if_neg hl];split
 ·rename_i h;exact rq.1 h
 ·exact bx (T:=.int .i64) (by omega) (by omega)
theorem Qx {w:WT} {s:SY} {t k o u v:Int} {sy:SY} (h:(sy,v)=uo w s t k o u):uo w s t k o v=(sy,v):=by
 by_cases hk:k=18
 ·subst hk;rw[I1] at h ⊢;by_cases hl:(wl s.2.2.2 o s.2.2.2.length).length=0
  ·rw[if_pos hl] at h ⊢;exact h.symm
  ·rw[if_neg hl] at h ⊢;have hm:=F7 u hl;generalize wl s.2.2.2 o s.2.2.2.length=l at h hl hm ⊢;obtain⟨rfl,rfl⟩:=Prod.mk.inj h;have:AA l (AA l u)=AA l u:=by
    rw[AA,if_neg hl,if_pos (rq.2 hm)]
   rw[this]
 ·rw[U4 _ _ _ _ _ _ u hk,<-h]
theorem aek {w:WT} {s:SY} {t k o:Int} (u:Int) (he:EN w s t k o) (hr:Vb w s t k o) {j:Int} (h0:0<=j):(¬j=t->(aD (T:=ja) (uo w s t k o u).1.2.2.2 j).1=(aD (T:=ja) s.2.2.2 j).1\/((aD (T:=ja) s.2.2.2 j).1=3/\(aD (T:=ja) (uo w s t k o u).1.2.2.2 j).1=4)\/((aD (T:=ja) s.2.2.2 j).1=0/\(aD (T:=ja) (uo w s t k o u).1.2.2.2 j).1=1))/\(j=t->¬k=16->¬(aD (T:=ja) (uo w s t k o u).1.2.2.2 j).1=3/\¬(aD (T:=ja) (uo w s t k o u).1.2.2.2 j).1=4):=by
 have t0:=he.t0;have t1:t<s.2.2.2.length:=by have:=he.t1;have:=he.e3;omega
 have M:=hr.r;have hml:∀ u:Int,u∈wl s.2.2.2 o s.2.2.2.length->0<=u/\u<s.2.2.2.length:=λu hu=>⟨(ua.1 hu).1,(ua.1 hu).2.1⟩
 have h3:∀ u:Int,u∈wl s.2.2.2 o s.2.2.2.length->(aD (T:=ja) s.2.2.2 u).1=3:=λu hu=>by
  have:=(ua.1 hu).2.2;unfold Jv at this;rw[aj] at this;exact of_decide_eq_true this.1
 have same:¬k=1->¬k=17->∀ th:List (Int×Int×Bool),(aD (T:=ja) th j).1=(aD (T:=ja) s.2.2.2 j).1->(¬j=t->(aD (T:=ja) th j).1=(aD (T:=ja) s.2.2.2 j).1\/((aD (T:=ja) s.2.2.2 j).1=3/\(aD (T:=ja) th j).1=4)\/((aD (T:=ja) s.2.2.2 j).1=0/\(aD (T:=ja) th j).1=1))/\(j=t->¬k=16->¬(aD (T:=ja) th j).1=3/\¬(aD (T:=ja) th j).1=4):=λa b th h=>⟨λ_=>.inl h,λh2 _=>by rw[h,h2,M a b];decide⟩
 have st:∀ x:Int,¬x=3\/k=16->¬x=4->∀ th:List (Int×Int×Bool),(aD (T:=ja) th j).1=(if j=t then x else (aD (T:=ja) s.2.2.2 j).1)->(¬j=t->(aD (T:=ja) th j).1=(aD (T:=ja) s.2.2.2 j).1\/((aD (T:=ja) s.2.2.2 j).1=3/\(aD (T:=ja) th j).1=4)\/((aD (T:=ja) s.2.2.2 j).1=0/\(aD (T:=ja) th j).1=1))/\(j=t->¬k=16->¬(aD (T:=ja) th j).1=3/\¬(aD (T:=ja) th j).1=4):=λx hx hx4 th h=>⟨λhn=>.inl (by rw[h,if_neg hn]),λh2 h16=>by rw[h,if_pos h2];exact⟨hx.resolve_right h16,hx4⟩⟩
 have U:∀ x:Int,t<(AH s.2.2.2 t x).length:=λx=>by unfold AH;rw[bG];exact t1
 by_cases k1:k=1
 ·subst k1;exact st 2 (.inl (by decide)) (by decide) _ (Gm t0 t1 h0)
 by_cases k2:k=2
 ·subst k2;exact st 5 (.inl (by decide)) (by decide) _ (Gm t0 t1 h0)
 by_cases k16:k=16
 ·subst k16;exact st 3 (.inr rfl) (by decide) _ ((acy t0 (U _) h0).trans (Gm t0 t1 h0))
 by_cases I:k=17
 ·subst I;exact st 2 (.inl (by decide)) (by decide) _ ((acy t0 (U _) h0).trans (Gm t0 t1 h0))
 by_cases k14:k=14
 ·subst k14;exact same k1 I _ (ad3 t0 t1 h0)
 by_cases k15:k=15
 ·subst k15;exact same k1 I _ (ad3 t0 t1 h0)
 by_cases k18:k=18
 ·subst k18;rw[I1];by_cases hl:(wl s.2.2.2 o s.2.2.2.length).length=0
  ·rw[if_pos hl];exact same k1 I _ rfl
  ·rw[if_neg hl];have hc:=F7 u hl;have Y:=hml _ hc;have J:=h3 _ hc;dsimp only;rw[Gm Y.1 Y.2 h0];generalize AA (wl s.2.2.2 o s.2.2.2.length) u=c at J;by_cases hj:j=c
   ·rw[if_pos hj,hj];exact⟨λ_=>.inr (.inl ⟨J,rfl⟩),λh _=>by rw[h,M k1 I] at J;exact absurd J (by decide)⟩
   ·rw[if_neg hj];exact⟨λ_=>.inl rfl,λh _=>by rw[h,M k1 I];decide⟩
 by_cases k19:k=19
 ·subst k19;show (_->(aD (T:=ja) (Fd _ _) j).1=_\/_/\(aD (T:=ja) (Fd _ _) j).1=_\/_/\(aD (T:=ja) (Fd _ _) j).1=_)/\(_->_->¬(aD (T:=ja) (Fd _ _) j).1=_/\¬(aD (T:=ja) (Fd _ _) j).1=_)
  rw[acs h0 _ _ hml];by_cases hj:j∈wl s.2.2.2 o s.2.2.2.length
  ·rw[if_pos hj];have J:=h3 _ hj;exact⟨λ_=>.inr (.inl ⟨J,rfl⟩),λh _=>by rw[h,M k1 I] at J;exact absurd J (by decide)⟩
  ·rw[if_neg hj];exact⟨λ_=>.inl rfl,λh _=>by rw[h,M k1 I];decide⟩
 by_cases k20:k=20
 ·subst k20;obtain⟨o0,o1⟩:=he.nm.th (.inl rfl);obtain⟨hot,ho0⟩:=hr.sp rfl;have Z:o<s.2.2.2.length:=by rw[he.e3];exact o1
  show (_->(aD (T:=ja) (AH _ _ _) j).1=_\/_/\(aD (T:=ja) (AH _ _ _) j).1=_\/_/\(aD (T:=ja) (AH _ _ _) j).1=_)/\(_->_->¬(aD (T:=ja) (AH _ _ _) j).1=_/\¬(aD (T:=ja) (AH _ _ _) j).1=_)
  rw[Gm o0 Z h0];by_cases hj:j=o
  ·rw[if_pos hj,hj];exact⟨λ_=>.inr (.inr ⟨ho0,rfl⟩),λh _=>(hot h).elim⟩
  ·rw[if_neg hj];exact⟨λ_=>.inl rfl,λh _=>by rw[h,M k1 I];decide⟩
 refine same k1 I _ ?_;unfold uo;rw[if_neg k1,if_neg k2];repeat' split
 all_goals first|rfl|omega
theorem aar {e e':ET} (h1:e'.1=e.1) (I:e'.2.1=e.2.1) (t:Int):fl [e'] t=fl [e] t:=by
 by_cases h:e.1=t
 ·rw[xG h,xG (h1.trans h)];unfold rH;rw[I]
 ·rw[uU h,uU (λg=>h (h1.symm.trans g))]
theorem acb {L:List ET} {e e':ET} (h1:e'.1=e.1) (I:e'.2.1=e.2.1) {k y:Int} (h:FQ (L++[e]) k y):FQ (L++[e']) k y:=by
 unfold FQ Ji at h ⊢;rw[sT,aar h1 I,<-sT];exact h
theorem Hz {T:Ty} (xs:List T.den) (i k:Nat) (x:T.den) (hi:i<xs.length):aD (xs.set i x) (k:Int)=if k=i then x else aD xs (k:Int):=by
 refine (r8 xs (i:Int) (k:Int) x (by omega) (by omega) (by omega)).trans ?_;by_cases h:k=i
 ·rw[if_pos h,if_pos (by omega)]
 ·rw[if_neg h,if_neg (by omega)]
def SQ (n:Nat) (c:CT) (L:List ET) (y:ST×ET×Bool):Prop:=y.2.2=ajp->SV (n+1) (L++[y.2.1]) y.1/\Ju c (L++[y.2.1]) y.1/\EvF c.1 y.2.1/\Xb y.2.1
theorem abs {n:Nat} (hn:n+1<=100000) {c:CT} {L:List ET} {s:ST} {i:Nat} {kd o v0 si:Int} {ds fs:List Int} {sy:SY} (hs:SV n L s) (hI:Ju c L s) (hp:PE n c s (i:Int) ((i:Int),kd,o,v0,si,ds,fs)) (hm:PS c L s (i:Int) ((i:Int),kd,o,v0,si,ds,fs)) (he:EN c.1 s.1 (i:Int) kd o) (hr:Vb c.1 s.1 (i:Int) kd o) (ha:AP n s.1 sy) (I:Int) (ce fu:List Int) (t':TT) (hap:(uo c.1 s.1 (i:Int) kd o I).1=sy) (hva:VA c.1 s.1 s.2.1 s.2.2.1 (i:Int) kd o I) (hce:ce=Ws s.2.1 ((i:Int),kd,o,I,si,ds,fs)) (hfu:fu=Xr s.2.2.1 ((i:Int),kd,o,I,si,ds,fs)) (ht:TH (FQ (L++[((i:Int),kd,o,v0,si,ds,fs)]) (i:Int)) (n+1) t') (hg:t'.2.1.length=0\/t'.2.2.2=be .i64 ((aD (T:=s7) s.2.2.2 (i:Int)).2.2.2+1)/\(kd=16->t'.1=(aD (T:=s7) s.2.2.2 (i:Int)).1)):SQ n c L ((sy,ce,fu,s.2.2.2.set i t'),((i:Int),kd,o,I,si,ds,fs),ajp):=by
 intro _;have q1:=hp.t1;have q2:=hp.fs.th;have q3:=hp.fs.e3;have q4:=hp.fs.vc.tl;have hil:i<s.2.2.2.length:=by omega
 have hln:=hs.ln;refine ⟨⟨ha.toSB hs.sb hn,by simp[hln],λk hk=>?_⟩,⟨?_,λk hk=>?_⟩,⟨he.nm,he.t0,he.t1,he.cd⟩,⟨cM hp.d (by omega),cM hp.f (by omega)⟩⟩
 ·dsimp only at hk ⊢;rw[qW] at hk;rw[Hz (T:=s7) _ _ _ _ hil];split
  ·rename_i h;subst h;exact ht.mono (bF _) λy J=>acb (e:=((k:Int),kd,o,v0,si,ds,fs)) (e':=((k:Int),kd,o,I,si,ds,fs)) rfl rfl J
  ·exact (hs.t k hk).mono (by omega) λy J=>⟨J.1,J.2.app _⟩
 ·rw[<- hap,hce,hfu];exact hI.ac.snoc (e:=((i:Int),kd,o,I,si,ds,fs)) ⟨he,hr,hm.s1,hm.s2,hm.de,hm.fr,⟨hm.da,λx U=>⟨(hm.dq x U).1,(hm.dq x U).2.lt⟩⟩,⟨hm.fa,λx U=>⟨(hm.fq x U).1,(hm.fq x U).2.lt⟩⟩,λy J=>(hm.dq y J).2,λy J=>(hm.fq y J).2,hva⟩
 ·dsimp only at hk ⊢;rw[qW] at hk;rw[Hz (T:=s7) _ _ _ _ hil];obtain⟨Gn,XJ⟩:=aek I he hr (j:=(k:Int)) (by omega);rw[hap] at Gn XJ;have hfl:=UF L (i:Int);split
  ·rename_i h;subst h;rcases hg with hg|⟨g1,g2⟩
   ·exact .inl hg
   ·refine .inr ⟨?_,λZ=>?_,λM=>?_⟩
    ·rw[g1,hm.tg.ev,sT,xG rfl,go (by omega)];simp
    ·have Y:kd=16:=t8 λh=>Z.elim (XJ rfl h).1 (XJ rfl h).2
     rw[g2 Y];exact hm.wt Y
    ·rw[sT,xG rfl] at M;simp at M
  ·rename_i h;have hki:¬(k:Int)=(i:Int):=by omega
   have hfo:∀ e:ET,e.1=(i:Int)->fl (L++[e]) (k:Int)=fl L (k:Int):=λe h=>by
    rw[sT,uU (by rw[h];exact λh=>hki h.symm),kF]
   have Gn:=Gn hki;refine (hI.t k hk).imp id λg=>⟨by rw[hfo _ rfl];exact g.ev,λZ=>g.wi (by
    rcases Gn with h1|⟨h1,_⟩|⟨_,h1⟩
    ·rw[<- h1];exact Z
    ·exact .inl h1
    ·exact Z.elim (λh=>absurd (h1.symm.trans h) (by decide)) λh=>absurd (h1.symm.trans h) (by decide)),λM=>?_⟩
   rw[hfo _ rfl] at M;have g2:=g.nw M;rcases Gn with h1|⟨h1,_⟩|⟨_,h1⟩
   ·rw[h1];exact g2
   ·exact (g2.elim (λh=>absurd (h1.symm.trans h) (by decide)) λh=>absurd (h1.symm.trans h) (by decide))
   ·exact .inr h1
end
end Go.Proofs.YtkagidinekdnoaaGreatDoor.AI
