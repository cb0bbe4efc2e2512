/-
  Texts of the proof, part 2 of 5: what is used to prove the statement. No condition.
-/
import Derived.Test.YtiaemgcbndhkfaaGreatDoorHBRefusesQ0
namespace Go.Proofs.YtiaemgcbndhkfaaGreatDoor.AI
open Go.RowKit
set_option maxRecDepth 100000
set_option maxHeartbeats 4000000
set_option linter.unusedVariables false
set_option linter.unusedSimpArgs false
open _root_.Bool renaming true→M,false→aa
open _root_.Int renaming ofNat_eq_natCast→aj,reduceEq→aN,toNat→aP,reduceNeg→aS,ofNat→aT,toNat_natCast→cV,le_trans→eS,max_le→wW
open _root_.List renaming length→ah,replicate→aA,length_cons→ca,length_singleton→cP,take→dh,range→fd,cons_append→gX,length_nil→jW,take_succ_cons→uU,getElem_of_mem→uV,foldl_cons→El,mem_or_eq_of_mem_set→Lm
open _root_.Nat renaming beq→ax,blt→eP
open _root_.Option renaming some→Z,none→U,map_some→bU,getD_some→uh
open _root_.Prod renaming p2→aX,p3→bh,p4→bk,q3→bn,p5→bS,q5→cC,q4→cI,p6→da,q6→dI,q7→gG,p7→ip,q8→nl,p8→ug,p9→yR,p10→yS,p11→J2
open _root_.Sum renaming inr→b7,inl→nk
noncomputable section
abbrev Kd0:Ty:=(.st (.pr uR (.pr uR (.pr uR (.pr uR (.pr uR (.pr uR (.pr (.sl aM) (.pr uR (.sl aM))))))))))
abbrev Kd1:Ty:=(.st (.pr .bool .bool))
abbrev Yd0:=((Y η)×(Y η)×(Y η)×(Y η)×(Y η)×(Y η)×(η)×(Y η)×η)
abbrev Yd1:=(η×(Y η)×(Y η)×(Y η)×(Y η)×(Y η)×(Y η)×(Y η)×(η)×η)
abbrev XQ:=(Int×(θ)×Y dG)
abbrev Yd3:=(Int×iG×(θ)×Y dG)
abbrev Yd4:=(Int×ne×mi×(Y jw)×dg×dg×Y ν)
abbrev Yd5:=(eX×Int×Int×Int×Int×Int×(η)×η)
abbrev Yd6:=(Y Γ)
def Lw {α R:Type} [DecidableEq α] (a b:α) (r:J R):J R:=if a=b then r else U
theorem OL {α R:Type} [DecidableEq α] (a b:α) (r:J R):Lw a b r=same a b r:=by unfold Lw same;by_cases h:a=b<;>simp[h]
theorem OK {α R:Type} [DecidableEq α] {a b:α} (h:a=b) (r:J R):Lw a b r=r:=by unfold Lw;rw[aU h]
def jt (x:η×Int):J (Int):=
 (jn (bx x.2 0 (aB M) (aB (cL (aY x.1) x.2))) λx1=>(aE x1 (Z 0) (mF x.2 x.1 (Z (aH (T:=aM) x.1 x.2)))))
def ux (it:yN) (x:η×η):J η:=
 (bp (cL 0 (lh (aY x.1) (aY x.2))&&cL (lh (aY x.1) (aY x.2)) (lh (aY x.1) (aY x.2))&&be (aP (lh (aY x.1) (aY x.2))) 8) (it (Int×η) _ (λx1=>(bx x1.1 (aT (ah (aA (aP (lh (aY x.1) (aY x.2))) (0:Int)))) (av (jt (x.1,x1.1)) λq=>(av (jt (x.2,x1.1)) λd=>(ck (fm x1.1 (ah x1.2)) (cH ((ct x1.1),(cJ x1.2 x1.1 (lh q d))))))) (aB x1.2))) (0,(aA (aP (lh (aY x.1) (aY x.2))) (0:Int)))))
def xR (x:η×η):J η:=ux @iter x
def ly (x:η×η):J η:=ux @fX x
def M1 (x:η):J η:=
 (aE (ax (ah x) 0) (D' (Z ([]:η)) (bp (be (ah ([]:η)+ah x) 8) (Z (([]:η)++x)))) (bp (be (ah ([]:η)+ah x) 8) (Z (([]:η)++x))))
def AK (x:η):J η:=chk (be (ah x) 8) λ_=>Z x
def wy (it:yN) (x:Y η):J (Y η):=
 (bp (cL 0 (aY x)&&cL (aY x) (aY x)&&be (aP (aY x)) 24) (it (Int×Y η) _ (λx1=>(bx x1.1 (aY x) (mF x1.1 x (av (AK (aH (T:=(.sl aM)) x x1.1)) λd=>(ck (fm x1.1 (ah x1.2)) (cH ((ct x1.1),(cJ x1.2 x1.1 d)))))) (aB x1.2))) (0,(aA (aP (aY x)) ([]:η)))))
def AF (x:Y η):J (Y η):=wy @iter x
def ie (x:Y η):J (Y η):=wy @fX x
def HJ (x:η):J η:=
 (aE (ax (ah x) 0) (D' (Z ([]:η)) (bp (be (ah ([]:η)+ah x) 8) (Z (([]:η)++x)))) (bp (be (ah ([]:η)+ah x) 8) (Z (([]:η)++x))))
def gf (x:η):J η:=chk (be (ah x) 8) λ_=>Z x
def tC (x:(Y η)×(Y η)×(Y η)×(Y η)×(Y η)×(Y η)×(η)×(Y η)×η):J (η×(Y η)×(Y η)×(Y η)×(Y η)×(Y η)×(Y η)×(Y η)×η):=
 (av (ie x.1) λL=>(av (ie x.2.1) λI=>(av (ie x.p2) λF=>(av (ie x.p3) λD=>(av (ie x.p4) λA=>(av (ie x.p5) λz=>(av (gf x.p6) λs=>(av (ie x.p7) λq=>(av (gf x.q8) λd=>(Z (s,L,I,F,D,A,z,q,d)))))))))))
def sY (x:Int×Y η):J (η×Y η):=
 (jn (bx x.1 0 (aB (M,x.2)) (aB ((cL (aY x.2) x.1),x.2))) λx1=>(aE x1.1 (Z (([]:η),x1.2)) (ck (fm x.1 (ah x1.2)) (Z ((aH (T:=(.sl aM)) x1.2 x.1),x1.2)))))
def tD (x:jN×(η)×eX×(Y η)×(Y η)×(Y η)×(Y η)×(Y η)×(Y η)×(Y η)×η):J ((Y η)×jN×(η)×eX×(Y η)×(Y η)×(Y η)×(Y η)×(Y η)×(Y η)×(Y η)×η):=
 (bi x.1.2.1 1 (ck (fm x.1.1 (ah x.p4)) (Z ([(aH (T:=(.sl aM)) x.p4 x.1.1)],(x.1.1,x.1.2.1,x.1.p2,x.1.p3,x.1.p4,x.1.p5,x.1.q6),x.2.1,(x.p2.1,x.p2.2.1,x.p2.p2,x.p2.p3,x.p2.p4,x.p2.q5),x.p3,x.p4,x.p5,x.p6,x.p7,x.p8,x.p9,x.q10))) (bi x.1.2.1 21 (ck (fm x.1.p2 (ah x.p3)) (Z ([(aH (T:=(.sl aM)) x.p3 x.1.p2)],(x.1.1,x.1.2.1,x.1.p2,x.1.p3,x.1.p4,x.1.p5,x.1.q6),x.2.1,(x.p2.1,x.p2.2.1,x.p2.p2,x.p2.p3,x.p2.p4,x.p2.q5),x.p3,x.p4,x.p5,x.p6,x.p7,x.p8,x.p9,x.q10))) (jn (bi x.1.2.1 6 (aB ((decide ((x.1.2.1:Int)=6)),(x.1.1,x.1.2.1,x.1.p2,x.1.p3,x.1.p4,x.1.p5,x.1.q6),x.2.1,(x.p2.1,x.p2.2.1,x.p2.p2,x.p2.p3,x.p2.p4,x.p2.q5),x.p3,x.p4,x.p5,x.p6,x.p7,x.p8,x.p9,x.q10)) (aB ((decide ((x.1.2.1:Int)=10)),(x.1.1,x.1.2.1,x.1.p2,x.1.p3,x.1.p4,x.1.p5,x.1.q6),x.2.1,(x.p2.1,x.p2.2.1,x.p2.p2,x.p2.p3,x.p2.p4,x.p2.q5),x.p3,x.p4,x.p5,x.p6,x.p7,x.p8,x.p9,x.q10))) λx1=>(aE x1.1 (ck (fm x1.2.1.p2 (ah x1.p6)) (ck (fm x1.2.1.p2 (ah x1.p7)) (Z ([(aH (T:=(.sl aM)) x1.p6 x1.2.1.p2),(aH (T:=(.sl aM)) x1.p7 x1.2.1.p2)],(x1.2.1.1,x1.2.1.2.1,x1.2.1.p2,x1.2.1.p3,x1.2.1.p4,x1.2.1.p5,x1.2.1.q6),x1.p2,(x1.p3.1,x1.p3.2.1,x1.p3.p2,x1.p3.p3,x1.p3.p4,x1.p3.q5),x1.p4,x1.p5,x1.p6,x1.p7,x1.p8,x1.p9,x1.p10,x1.q11)))) (bi x.1.2.1 8 (ck (fm x1.2.1.p2 (ah x1.p6)) (Z ([(aH (T:=(.sl aM)) x1.p6 x1.2.1.p2)],(x1.2.1.1,x1.2.1.2.1,x1.2.1.p2,x1.2.1.p3,x1.2.1.p4,x1.2.1.p5,x1.2.1.q6),x1.p2,(x1.p3.1,x1.p3.2.1,x1.p3.p2,x1.p3.p3,x1.p3.p4,x1.p3.q5),x1.p4,x1.p5,x1.p6,x1.p7,x1.p8,x1.p9,x1.p10,x1.q11))) (bi x.1.2.1 17 (mF x1.2.1.p2 x1.p3.p2 (av (sY ((aH (T:=ll) x1.p3.p2 x1.2.1.p2).2,x1.p6)) λq=>(bp (ax (ah x1.p6) (ah q.2)&&M) (av (sY ((aH (T:=ll) x1.p3.p2 x1.2.1.p2).2,x1.p7)) λd=>(bp (ax (ah x1.p7) (ah d.2)&&M) (ck (fm x1.2.1.1 (ah x1.p10)) (Z ([q.1,d.1,(aH (T:=(.sl aM)) x1.p10 x1.2.1.1)],(x1.2.1.1,x1.2.1.2.1,x1.2.1.p2,x1.2.1.p3,x1.2.1.p4,x1.2.1.p5,x1.2.1.q6),x1.p2,(x1.p3.1,x1.p3.2.1,x1.p3.p2,x1.p3.p3,x1.p3.p4,x1.p3.q5),x1.p4,x1.p5,q.2,d.2,x1.p8,x1.p9,x1.p10,x1.q11)))))))) (bi x.1.2.1 3 (ck (fm x1.2.1.p2 (ah x1.p8)) (Z ([(aH (T:=(.sl aM)) x1.p8 x1.2.1.p2)],(x1.2.1.1,x1.2.1.2.1,x1.2.1.p2,x1.2.1.p3,x1.2.1.p4,x1.2.1.p5,x1.2.1.q6),x1.p2,(x1.p3.1,x1.p3.2.1,x1.p3.p2,x1.p3.p3,x1.p3.p4,x1.p3.q5),x1.p4,x1.p5,x1.p6,x1.p7,x1.p8,x1.p9,x1.p10,x1.q11))) (bi x.1.2.1 23 (ck (fm x1.2.1.p2 (ah x1.p9)) (Z ([(aH (T:=(.sl aM)) x1.p9 x1.2.1.p2)],(x1.2.1.1,x1.2.1.2.1,x1.2.1.p2,x1.2.1.p3,x1.2.1.p4,x1.2.1.p5,x1.2.1.q6),x1.p2,(x1.p3.1,x1.p3.2.1,x1.p3.p2,x1.p3.p3,x1.p3.p4,x1.p3.q5),x1.p4,x1.p5,x1.p6,x1.p7,x1.p8,x1.p9,x1.p10,x1.q11))) (bi x.1.2.1 12 (Z ([x1.p2],(x1.2.1.1,x1.2.1.2.1,x1.2.1.p2,x1.2.1.p3,x1.2.1.p4,x1.2.1.p5,x1.2.1.q6),x1.p2,(x1.p3.1,x1.p3.2.1,x1.p3.p2,x1.p3.p3,x1.p3.p4,x1.p3.q5),x1.p4,x1.p5,x1.p6,x1.p7,x1.p8,x1.p9,x1.p10,x1.q11)) (Z (([]:Y η),(x1.2.1.1,x1.2.1.2.1,x1.2.1.p2,x1.2.1.p3,x1.2.1.p4,x1.2.1.p5,x1.2.1.q6),x1.p2,(x1.p3.1,x1.p3.2.1,x1.p3.p2,x1.p3.p3,x1.p3.p4,x1.p3.q5),x1.p4,x1.p5,x1.p6,x1.p7,x1.p8,x1.p9,x1.p10,x1.q11)))))))))))
def zl (it:yN) (x:ne×mi×(Y jw)×dg×dg×Y ν):J Yd0:=
 (ck (cL 0 (aY x.p4)&&cL (aY x.p4) (aY x.p4)&&be (aP (aY x.p4)) 24) (ck (cL 0 (aY x.2.1)&&cL (aY x.2.1) (aY x.2.1)&&be (aP (aY x.2.1)) 24) (bp (cL 0 (aY x.1)&&cL (aY x.1) (aY x.1)&&be (aP (aY x.1)) 24) (bp (cL 0 (aY x.p3)&&cL (aY x.p3) (aY x.p3)&&be (aP (aY x.p3)) 24) (bp (cL 0 (aY x.p4)&&cL (aY x.p4) (aY x.p4)&&be (aP (aY x.p4)) 24) (bp (cL 0 (aY x.p4)&&cL (aY x.p4) (aY x.p4)&&be (aP (aY x.p4)) 8) (it (Int×(Y η)×(Y η)×(Y η)×(Y η)×(Y η)×(Y η)×(Y η)×η) _ (λx1=>(bx x1.1 (aT (ah (aA (aP (aY x.p4)) (0:Int)))) (ck (fm x1.1 (ah x1.q8)) (cH ((ct x1.1),x1.2.1,x1.p2,x1.p3,x1.p4,x1.p5,x1.p6,x1.p7,(cJ x1.q8 x1.1 (-1))))) (aB (x1.2.1,x1.p2,x1.p3,x1.p4,x1.p5,x1.p6,([]:η),x1.p7,x1.q8)))) (0,(aA (aP (aY x.p4)) ([]:η)),(aA (aP (aY x.p4)) ([]:η)),(aA (aP (aY x.2.1)) ([]:η)),(aA (aP (aY x.2.1)) ([]:η)),(aA (aP (aY x.1)) ([]:η)),(aA (aP (aY x.p3)) ([]:η)),(aA (aP (aY x.p4)) ([]:η)),(aA (aP (aY x.p4)) (0:Int))))))))))
def Di (x:ne×mi×(Y jw)×dg×dg×Y ν):J Yd0:=zl @iter x
def py (x:ne×mi×(Y jw)×dg×dg×Y ν):J Yd0:=zl @fX x
def rV (x:η×Int):J η:=
 (jn (ja 0 x.2 (aB (fI x.2 4)) (aB aa)) λx1=>(jn (aE x1 (aB (lh (aY x.1) (ct x.2))) (aB (aY x.1))) λx2=>(bp (cL 0 x2&&cL x2 x2&&be (aP x2) 8) (jn (jn (aE x1 (ck (fm x.2 (ah (RN (aA (aP x2) (0:Int)) x.1))) (aB ((fI (aH (T:=aM) (RN (aA (aP x2) (0:Int)) x.1) x.2) 9223372036854775807),(RN (aA (aP x2) (0:Int)) x.1)))) (aB (aa,(RN (aA (aP x2) (0:Int)) x.1)))) λx4=>(aE x4.1 (ck (fm x.2 (ah x4.2)) (ck (fm x.2 (ah x4.2)) (aB (cJ x4.2 x.2 (aZ .i64 ((aH (T:=aM) x4.2 x.2)+1)))))) (aB x4.2))) λx3=>(Z x3)))))
def vm (x:η):J (η×η):=
 (bp (be (ah ([]:η)+ah x) 8) (Z ((([]:η)++x),x)))
def up (x:η):J η:=av (vm x) λy=>Lw y.2 x (Z y.1)
def G0 (it:yN) (x:η×η):J (η×η):=
 (bp (cL 0 (lh (aY x.1) (aY x.2))&&cL (lh (aY x.1) (aY x.2)) (lh (aY x.1) (aY x.2))&&be (aP (lh (aY x.1) (aY x.2))) 8) (it (Int×(η)×η) _ (λx1=>(bx x1.1 (aT (ah (aA (aP (lh (aY x.1) (aY x.2))) (0:Int)))) (av (jt (x.1,x1.1)) λq=>(av (jt (x1.2.1,x1.1)) λd=>(ck (fm x1.1 (ah x1.2.2)) (cH ((ct x1.1),x1.2.1,(cJ x1.2.2 x1.1 (lh q d))))))) (aB (x1.2.2,x1.2.1)))) (0,x.2,(aA (aP (lh (aY x.1) (aY x.2))) (0:Int)))))
def MZ (x:η×η):J (η×η):=G0 @iter x
def sN (x:η×η):J (η×η):=G0 @fX x
def AJ (x:η×η):J η:=av (sN x) λy=>Lw y.2 x.2 (Z y.1)
def lJ (x:Int×(Y η)×η):J ((Y η)×η):=
 (jn (ja 0 x.1 (aB ((fI x.1 (aY x.2.1)),x.2.1,x.2.2)) (aB (aa,x.2.1,x.2.2))) λx1=>(aE x1.1 (ck (fm x.1 (ah x1.2.1)) (av (AJ ((aH (T:=(.sl aM)) x1.2.1 x.1),x1.2.2)) λd=>(ck (fm x.1 (ah x1.2.1)) (Z ((cJ x1.2.1 x.1 d),x1.2.2))))) (Z (x1.2.1,x1.2.2))))
def vj (x:Int×(η)×(Y η)×(Y η)×(Y η)×(Y η)×(Y η)×(Y η)×(Y η)×(η)×η):J Yd1:=
 (av (up x.q10) λd=>(ck (fm x.1 (ah x.p8)) (ck (fm x.1 (ah x.p9)) (Z (x.2.1,x.p2,x.p3,x.p4,x.p5,x.p6,x.p7,(cJ x.p8 x.1 d),(cJ x.p9 x.1 (-1)),x.q10)))))
def zk (it:yN) (x:Yd5×(η)×(Y η)×(Y η)×(Y η)×(Y η)×(Y η)×(Y η)×(Y η)×(η)×η):J Yd1:=
 (av (up x.q10) λy1=>(ck (fm x.1.2.1 (ah x.p2)) (jn (α:=(η)×(Y η)×(Y η)×(Y η)×(Y η)×(Y η)×(Y η)×(Y η)×(η)×η) (bi x.1.p2 20 (av (up x.q10) λy3=>(ck (fm x.1.p3 (ah x.p3)) (aB (x.2.1,(cJ x.p2 x.1.2.1 y1),(cJ x.p3 x.1.p3 y3),x.p4,x.p5,x.p6,x.p7,x.p8,x.p9,x.q10)))) (jn (bi x.1.p2 7 (aB ((decide ((x.1.p2:Int)=7)),x.2.1,(cJ x.p2 x.1.2.1 y1),x.p3,x.p4,x.p5,x.p6,x.p7,x.p8,x.p9,x.q10,(x.1.1.1,x.1.1.2.1,x.1.1.p2,x.1.1.p3,x.1.1.p4,x.1.1.q5),x.1.2.1,x.1.p2,x.1.p3,x.1.p4,x.1.p5,x.1.p6,x.1.q7)) (aB ((decide ((x.1.p2:Int)=11)),x.2.1,(cJ x.p2 x.1.2.1 y1),x.p3,x.p4,x.p5,x.p6,x.p7,x.p8,x.p9,x.q10,(x.1.1.1,x.1.1.2.1,x.1.1.p2,x.1.1.p3,x.1.1.p4,x.1.1.q5),x.1.2.1,x.1.p2,x.1.p3,x.1.p4,x.1.p5,x.1.p6,x.1.q7))) λx4=>(aE x4.1 (av (lJ (x4.p14,x4.p4,x4.p10)) λy5=>(bp (ax (ah x4.p10) (ah y5.2)&&(ax (ah x4.p4) (ah y5.1)&&M)) (aB (x4.2.1,x4.p2,x4.p3,y5.1,x4.p5,x4.p6,x4.p7,x4.p8,x4.p9,y5.2)))) (bi x.1.p2 9 (av (lJ (x4.p14,x4.p5,x4.p10)) λL=>(bp (ax (ah x4.p10) (ah L.2)&&(ax (ah x4.p5) (ah L.1)&&M)) (aB (x4.2.1,x4.p2,x4.p3,x4.p4,L.1,x4.p6,x4.p7,x4.p8,x4.p9,L.2)))) (bi x.1.p2 16 (ck (fm x4.p12 (ah x4.p9)) (mF x4.p14 x4.p11.p2 (av (lJ ((aH (T:=ll) x4.p11.p2 x4.p14).2,x4.p4,x4.p10)) λI=>(bp (ax (ah x4.p10) (ah I.2)&&(ax (ah x4.p4) (ah I.1)&&M)) (aB (x4.2.1,x4.p2,x4.p3,I.1,x4.p5,x4.p6,x4.p7,x4.p8,(cJ x4.p9 x4.p12 x4.p14),I.2)))))) (bi x.1.p2 4 (mF x4.p14 x4.p11.1 (aE (((((aH (T:=kB) x4.p11.1 x4.p14).2).2).2).1) (av (lJ (x4.p14,x4.p6,x4.p10)) λF=>(bp (ax (ah x4.p10) (ah F.2)&&(ax (ah x4.p6) (ah F.1)&&M)) (aB (x4.2.1,x4.p2,x4.p3,x4.p4,x4.p5,F.1,x4.p7,x4.p8,x4.p9,F.2)))) (aB (x4.2.1,x4.p2,x4.p3,x4.p4,x4.p5,x4.p6,x4.p7,x4.p8,x4.p9,x4.p10)))) (bi x.1.p2 22 (av (lJ (x4.p14,x4.p7,x4.p10)) λD=>(bp (ax (ah x4.p10) (ah D.2)&&(ax (ah x4.p7) (ah D.1)&&M)) (aB (x4.2.1,x4.p2,x4.p3,x4.p4,x4.p5,x4.p6,D.1,x4.p8,x4.p9,D.2)))) (bi x.1.p2 13 (av (AJ (x4.2.1,x4.p10)) λy10=>(aB (y10,x4.p2,x4.p3,x4.p4,x4.p5,x4.p6,x4.p7,x4.p8,x4.p9,x4.p10))) (bi x.1.p2 18 (jn (ja 0 x4.p15 (aB ((fI x4.p15 (aY x4.p8)),x4.2.1,x4.p2,x4.p3,x4.p4,x4.p5,x4.p6,x4.p7,x4.p8,x4.p9,x4.p10,x4.p12,x4.p13,x4.p14,x4.p15,x4.p16,x4.p17,x4.q18)) (aB (aa,x4.2.1,x4.p2,x4.p3,x4.p4,x4.p5,x4.p6,x4.p7,x4.p8,x4.p9,x4.p10,x4.p12,x4.p13,x4.p14,x4.p15,x4.p16,x4.p17,x4.q18))) λq=>(aE q.1 (av (vj (q.p14,q.2.1,q.p2,q.p3,q.p4,q.p5,q.p6,q.p7,q.p8,q.p9,q.p10)) λz=>(bp (ax (ah q.p10) (ah z.q9)&&(ax (ah q.p9) (ah z.p8)&&(ax (ah q.p8) (ah z.p7)&&(ax (ah q.p7) (ah z.p6)&&(ax (ah q.p6) (ah z.p5)&&(ax (ah q.p5) (ah z.p4)&&(ax (ah q.p4) (ah z.p3)&&(ax (ah q.p3) (ah z.p2)&&(ax (ah q.p2) (ah z.2.1)&&M))))))))) (aB (z.1,z.2.1,z.p2,z.p3,z.p4,z.p5,z.p6,z.p7,z.p8,z.q9)))) (aB (q.2.1,q.p2,q.p3,q.p4,q.p5,q.p6,q.p7,q.p8,q.p9,q.p10)))) (bi x.1.p2 19 (it (Int×(η)×(Y η)×(Y η)×(Y η)×(Y η)×(Y η)×(Y η)×(Y η)×(η)×(η)×Int×Int×Int×Int×Int×(η)×η) _ (λd=>(bx d.1 (aY x4.p9) (jn (ck (fm d.1 (ah d.p9)) (bi (aH (T:=aM) d.p9 d.1) d.p13 (av (vj (d.1,d.2.1,d.p2,d.p3,d.p4,d.p5,d.p6,d.p7,d.p8,d.p9,d.p10)) λs=>(bp (ax (ah d.p10) (ah s.q9)&&(ax (ah d.p9) (ah s.p8)&&(ax (ah d.p8) (ah s.p7)&&(ax (ah d.p7) (ah s.p6)&&(ax (ah d.p6) (ah s.p5)&&(ax (ah d.p5) (ah s.p4)&&(ax (ah d.p4) (ah s.p3)&&(ax (ah d.p3) (ah s.p2)&&(ax (ah d.p2) (ah s.2.1)&&M))))))))) (aB (s.1,s.2.1,s.p2,s.p3,s.p4,s.p5,s.p6,s.p7,s.p8,s.q9,d.p11,d.p12,d.p13,d.p14,d.p15,d.p16,d.q17)))) (aB (d.2.1,d.p2,d.p3,d.p4,d.p5,d.p6,d.p7,d.p8,d.p9,d.p10,d.p11,d.p12,d.p13,d.p14,d.p15,d.p16,d.q17)))) λA=>(cH ((ct d.1),A.1,A.2.1,A.p2,A.p3,A.p4,A.p5,A.p6,A.p7,A.p8,A.p9,A.p10,A.p11,A.p12,A.p13,A.p14,A.p15,A.q16))) (aB (b7 (d.2.1,d.p2,d.p3,d.p4,d.p5,d.p6,d.p7,d.p8,d.p9,d.p10))))) (0,x4.2.1,x4.p2,x4.p3,x4.p4,x4.p5,x4.p6,x4.p7,x4.p8,x4.p9,x4.p10,x4.p12,x4.p13,x4.p14,x4.p15,x4.p16,x4.p17,x4.q18)) (aB (x4.2.1,x4.p2,x4.p3,x4.p4,x4.p5,x4.p6,x4.p7,x4.p8,x4.p9,x4.p10)))))))))))) λx2=>(Z (x2.1,x2.2.1,x2.p2,x2.p3,x2.p4,x2.p5,x2.p6,x2.p7,x2.p8,x2.q9)))))
def Dh (x:Yd5×(η)×(Y η)×(Y η)×(Y η)×(Y η)×(Y η)×(Y η)×(Y η)×(η)×η):J Yd1:=zk @iter x
def qU (x:Yd5×(η)×(Y η)×(Y η)×(Y η)×(Y η)×(Y η)×(Y η)×(Y η)×(η)×η):J Yd1:=zk @fX x
def B7 (it:yN) (x:eX×Yd0×Int×Int×Int×Int×Int×(η)×η):J (Yd0×η):=
 (av (tC (x.2.1.1,x.2.1.2.1,x.2.1.p2,x.2.1.p3,x.2.1.p4,x.2.1.p5,x.2.1.p6,x.2.1.p7,x.2.1.q8)) λs=>(ck (fm x.p2 (ah s.2.1)) (av (tD ((x.p2,x.p3,x.p4,x.p5,x.p6,x.p7,x.q8),s.1,(x.1.1,x.1.2.1,x.1.p2,x.1.p3,x.1.p4,x.1.q5),s.2.1,s.p2,s.p3,s.p4,s.p5,s.p6,s.p7,s.q8)) λd=>(bp (ax (ah s.q8) (ah d.q11)&&(ax (ah s.p7) (ah d.p10)&&(ax (ah s.p6) (ah d.p9)&&(ax (ah s.p5) (ah d.p8)&&(ax (ah s.p4) (ah d.p7)&&(ax (ah s.p3) (ah d.p6)&&(ax (ah s.p2) (ah d.p5)&&(ax (ah s.2.1) (ah d.p4)&&M)))))))) (it (Int×eX×jN×(η)×(η)×(Y η)×(Y η)×(Y η)×(Y η)×(Y η)×(Y η)×(Y η)×η) _ (λx3=>(bx x3.1 (aY d.1) (mF x3.1 d.1 (av (ly (x3.p4,(aH (T:=(.sl aM)) d.1 x3.1))) λA=>(cH ((ct x3.1),(x3.2.1.1,x3.2.1.2.1,x3.2.1.p2,x3.2.1.p3,x3.2.1.p4,x3.2.1.q5),(x3.p2.1,x3.p2.2.1,x3.p2.p2,x3.p2.p3,x3.p2.p4,x3.p2.p5,x3.p2.q6),x3.p3,A,x3.p5,x3.p6,x3.p7,x3.p8,x3.p9,x3.p10,x3.p11,x3.q12)))) (av (av (rV (x3.p4,x3.p2.1)) λz=>(av (qU (((x3.2.1.1,x3.2.1.2.1,x3.2.1.p2,x3.2.1.p3,x3.2.1.p4,x3.2.1.q5),x3.p2.1,x3.p2.2.1,x3.p2.p2,x3.p2.p3,x3.p2.p4,x3.p2.p5,x3.p2.q6),x3.p3,x3.p5,x3.p6,x3.p7,x3.p8,x3.p9,x3.p10,x3.p11,x3.q12,z)) λq=>(bp (ax (ah z) (ah q.q9)&&(ax (ah x3.q12) (ah q.p8)&&(ax (ah x3.p11) (ah q.p7)&&(ax (ah x3.p10) (ah q.p6)&&(ax (ah x3.p9) (ah q.p5)&&(ax (ah x3.p8) (ah q.p4)&&(ax (ah x3.p7) (ah q.p3)&&(ax (ah x3.p6) (ah q.p2)&&(ax (ah x3.p5) (ah q.2.1)&&M))))))))) (Z ((q.2.1,q.p2,q.p3,q.p4,q.p5,q.p6,q.1,q.p7,q.p8),q.q9))))) λr=>Z (b7 r)))) (0,(d.p3.1,d.p3.2.1,d.p3.p2,d.p3.p3,d.p3.p4,d.p3.q5),(d.2.1.1,d.2.1.2.1,d.2.1.p2,d.2.1.p3,d.2.1.p4,d.2.1.p5,d.2.1.q6),d.p2,(aH (T:=(.sl aM)) s.2.1 x.p2),d.p4,d.p5,d.p6,d.p7,d.p8,d.p9,d.p10,d.q11))))))
def Hz (x:eX×Yd0×Int×Int×Int×Int×Int×(η)×η):J (Yd0×η):=B7 @iter x
def rU (x:eX×Yd0×Int×Int×Int×Int×Int×(η)×η):J (Yd0×η):=B7 @fX x
def nI (it:yN) (x:ζ):J (Bool):=
 (lt (aH (T:=(.st (.pr .str (.pr .str (.pr .str (.pr .str (.pr .str (.pr .str (.pr .str (.pr .str (.pr .str (.pr .str (.pr .str (.pr .str (.pr .str (.pr .str (.pr .str (.pr .str (.pr .str (.pr .str (.pr .str (.pr .str (.pr .str .str))))))))))))))))))))))) ([kwV]) 0) λd=>(it (Int) _ (λx2=>(bx x2 22 (bp (cL 0 x2&&fI x2 22) (lt (aH (T:=.str) [d.1,d.2.1,d.p2,d.p3,d.p4,d.p5,d.p6,d.p7,d.p8,d.p9,d.p10,d.p11,d.p12,d.p13,d.p14,d.p15,d.p16,d.p17,d.p18,d.p19,d.p20,d.q21] x2) λq=>(aE (decide ((x:ζ)=q)) (aB M) (cH (ct x2))))) (aB aa))) 0))
def qL (x:ζ):J (Bool):=nI @iter x
def ib (x:ζ):J (Bool):=nI @fX x
def rB (it:yN) (x:ζ):J (Bool):=
 (jn (bx (aY x) 1 (aB M) (bx 12 (aY x) (aB M) (av (ib x) λs=>(aB s)))) λx1=>(aE x1 (Z aa) (it (Y (jw×Unit)) _ (λx3=>(aE (eP (FI x3) (ah (GO x3))) (jn (α:=Y (jw×Unit)) (jn (α:=Bool×Y (jw×Unit)) (ja 97 (MR (GO x3) (FI x3)) (ja (MR (GO x3) (FI x3)) 122 (aB (M,[(((GO x3),(aT ((FI x3)+RU (GO x3) (FI x3)))),())])) (ja 65 (MR (GO x3) (FI x3)) (aB ((cL (MR (GO x3) (FI x3)) 90),[(((GO x3),(aT ((FI x3)+RU (GO x3) (FI x3)))),())])) (aB (aa,[(((GO x3),(aT ((FI x3)+RU (GO x3) (FI x3)))),())])))) (ja 65 (MR (GO x3) (FI x3)) (aB ((cL (MR (GO x3) (FI x3)) 90),[(((GO x3),(aT ((FI x3)+RU (GO x3) (FI x3)))),())])) (aB (aa,[(((GO x3),(aT ((FI x3)+RU (GO x3) (FI x3)))),())])))) λd=>(aE d.1 (aB d.2) (jn (bx 0 (aT (FI x3)) (bi (MR (GO x3) (FI x3)) 95 (aB (M,d.2)) (ja 48 (MR (GO x3) (FI x3)) (aB ((cL (MR (GO x3) (FI x3)) 57),d.2)) (aB (aa,d.2)))) (aB (aa,d.2))) λq=>(aE q.1 (aB q.2) (cH (b7 aa)))))) λx4=>(cH x4)) (aB M))) ([((x,0),())]))))
def uI (x:ζ):J (Bool):=rB @iter x
def ku (x:ζ):J (Bool):=rB @fX x
def wC (it:yN) (x:η×Int):J (Int):=
 (it (Int) _ (λx1=>(bx x1 (aY x.1) (bF aM x.1 x1 λd=>(bi x.2 d (aB x1) (cH (ct x1)))) (aB (-1)))) 0)
def AH (x:η×Int):J (Int):=wC @iter x
def qW (x:η×Int):J (Int):=wC @fX x
def jq (x:η×Int):J (Bool):=
 (av (qW x) λd=>(Z (cL 0 d)))
def md (x:η×Int×Int):J (Bool):=
 (av (jt (x.1,x.2.2)) λd=>(Z (cL x.2.1 d)))
def qV (x:Int×Int×Int×Int×Int×(η)×η):J (Bool):=
 (jn (bi x.2.1 3 (aB M) (aB (decide ((x.2.1:Int)=4)))) λx1=>(Z x1))
def qb (x:(eX×Y jN)×Int×Int):J (Bool):=
 (bF fZ x.1.2 x.2.1 λq=>(bF fZ x.1.2 x.2.2 λd=>(jn (bi q.1 d.1 (aB (M,x.1,q,d)) (aB ((!decide ((q.p2:Int)=d.p2)),x.1,q,d))) λx3=>(aE x3.1 (Z aa) (jn (av (qV x3.p2) λA=>(aE (!A) (aB (M,x3.2.2)) (av (qV x3.q3) λz=>(aE (!z) (aB (M,x3.2.2)) (bF kB x3.2.1.1.1 x3.p2.p2 λs=>(aB (s.2.2.2.1,x3.2.2))))))) λx4=>(aE x4.1 (Z aa) (jn (bi x4.2.1.2.1 4 (aB M) (aB (decide ((x4.p3:Int)=4)))) λD=>(Z D))))))))
def wx (it:yN) (x:Y jN):J Yd6:=
 (bp (cL 0 (aY x)&&cL (aY x) (aY x)&&be (aP (aY x)) 16) (it (Int×Yd6×Y Γ) _ (λx1=>(bx x1.1 (aY x) (bF fZ x x1.1 λd=>(ck (fm x1.1 (ah x1.2.2)) (cH ((ct x1.1),(xT (K:=aM) (V:=aM) d.1 (aZ .i64 ((sw (K:=aM) (V:=aM) d.1 x1.2.1 0)+1)) x1.2.1),(cJ x1.2.2 x1.1 ((sw (K:=aM) (V:=aM) d.1 (xT (K:=aM) (V:=aM) d.1 (aZ .i64 ((sw (K:=aM) (V:=aM) d.1 x1.2.1 0)+1)) x1.2.1) 0),d.1)))))) (aB x1.2.2))) (0,([]:Y Γ),(aA (aP (aY x)) ((0,0):Γ)))))
def AE (x:Y jN):J Yd6:=wx @iter x
def m7 (x:Y jN):J Yd6:=wx @fX x
def lZ (x:Γ):J (Bool):=
 (jn (ja 0 x.1 (aB (fI x.1 x.2)) (aB aa)) λx1=>(Z x1))
def oM (x:eX×Int×Bool):J (Bool):=
 (jn (av (lZ (x.2.1,(aY x.1.2.1))) λq=>(aE q (bF qr x.1.2.1 x.2.1 λd=>(aB ((d.2==x.2.2) !=aa))) (aB aa))) λx1=>(Z x1))
def kM (it:yN) (x:Y Rf):J (dg×Bool):=
 (it (Int×Y ζ) _ (λx1=>(bx x1.1 (aY x) (jn (α:=Int×Y ζ) (bF kB x x1.1 λd=>(bp (be (ah x1.2+ah ([d.1])) 16) (bi d.p2 0 (iA d.2.1 0 (cH (b7 (([]:Y ζ),aa))) (aB ((ct x1.1),(x1.2++([d.1]))))) (jn (α:=Bool×dg×(ζ)×Int×Int×Bool×Int) (bx d.p2 1 (aB (M,(x1.2++([d.1])),d)) (bx 4 d.p2 (aB (M,(x1.2++([d.1])),d)) (aE d.p3 (aB (M,(x1.2++([d.1])),d)) (aB ((fI (aZ .i64 ((aY x)-x1.1)) d.p2),(x1.2++([d.1])),d))))) λx4=>(aE x4.1 (cH (b7 (([]:Y ζ),aa))) (it (Int×dg×(ζ)×Int×Int×Bool×Int) _ (λq=>(bx q.1 x4.p4 (bF kB x (aZ .i64 (x1.1+q.1)) λs=>(aE (L2 (.pr .str (.pr aM (.pr aM (.pr .bool (.pr aM .un))))) (s.1,s.2.1,s.p2,s.p3,s.q4,()) (q.p2,q.1,q.p4,q.p5,q.q6,()) !=M) (aB (nk (b7 (([]:Y ζ),aa)))) (cH ((ct q.1),q.2.1,q.p2,q.1,q.q4)))) (aB (b7 ((aZ .i64 (x1.1+q.p4)),q.2.1))))) (0,x4.2))))))) λx2=>(cH x2)) (aB (x1.2,M)))) (0,([]:Y ζ)))
def nX (x:Y Rf):J (dg×Bool):=kM @iter x
def fH (x:Y Rf):J (dg×Bool):=kM @fX x
def kL (it:yN) (x:eX×Y ζ):J (Bool):=
 (bp (be (ah (x.2:Y ζ)) 16) (it (Int×eX×Y ζ) _ (λx1=>(bx x1.1 (aY x.1.2.1) (bF qr x.1.2.1 x1.1 λA=>(bp (be (ah x1.2.2+ah ([A.1])) 16) (cH ((ct x1.1),x1.2.1,(x1.2.2++([A.1])))))) (av (it (Int×eX×Y ζ) _ (λx3=>(bx x3.1 (aY x1.2.1.p2) (bF ll x1.2.1.p2 x3.1 λz=>(bp (be (ah x3.2.2+ah ([z.1])) 16) (cH ((ct x3.1),x3.2.1,(x3.2.2++([z.1])))))) (av (bp (be (ah x3.2.2+ah x3.2.1.p3) 16) (bp (be (ah (x3.2.2++x3.2.1.p3)+ah x3.2.1.p4) 16) (it (Int×mi×Y ζ) _ (λd=>(bx d.1 (aT (ah ((x3.2.2++x3.2.1.p3)++x3.2.1.p4))) (kF (.str) d.2.2 d.1 λq=>(jn (av (ku q) λD=>(aE (!D) (aB (M,d.2)) (aB ((sw (K:=.str) (V:=.bool) q d.2.1 aa),d.2)))) λs=>(aE s.1 (aB aa) (cH ((ct d.1),(xT (K:=.str) (V:=.bool) q M s.2.1),s.2.2))))) (aB M))) (0,([]:Y (ζ×Bool)),((x3.2.2++x3.2.1.p3)++x3.2.1.p4))))) λr=>Z (b7 r)))) (0,x1.2)) λr=>Z (b7 r)))) (0,x)))
def nW (x:eX×Y ζ):J (Bool):=kL @iter x
def fG (x:eX×Y ζ):J (Bool):=kL @fX x
def kK (it:yN) (x:ne×mi×(Y jw)×dg×dg×Y ν):J (Bool):=
 (it (ν×ne×mi×(Y jw)×dg×dg×Y ν) _ (λx1=>(bx x1.1.2.2 (aY x.q5) (bF nQ x.q5 x1.1.2.2 λd=>(jn (bx d.1 x1.1.1 (aB (M,x1.2,d)) (aB ((cL (aY x1.p5) d.1),x1.2,d))) λx3=>(aE x3.1 (aB aa) (jn (α:=(Γ)×eX×Int×Int×Int) (bx x1.1.1 x3.p2 (aB ((x3.p2,0),x3.2)) (aB ((x1.1.1,x1.1.2.1),x3.2))) λx4=>(iA x4.p3 x4.1.2 (aB aa) (cH ((x4.1.1,(ct x4.1.2),(ct x1.1.2.2)),x4.2.1))))))) (aB M))) ((0,0,0),x))
def nV (x:ne×mi×(Y jw)×dg×dg×Y ν):J (Bool):=kK @iter x
def fE (x:ne×mi×(Y jw)×dg×dg×Y ν):J (Bool):=kK @fX x
def kN (it:yN) (x:ne×mi×(Y jw)×dg×dg×Y ν):J (Bool):=
 (jn (bx 12 (aY x.1) (aB (M,x)) (bx 4 (aY x.2.1) (aB (M,x)) (bx 2 (aY x.p2) (aB (M,x)) (bx 2 (aY x.p3) (aB (M,x)) (aB ((fI 60 (aY x.q5)),x)))))) λx1=>(aE x1.1 (Z aa) (jn (bx (aY x1.p5) 1 (aB (M,x1.2)) (aB ((fI 4 (aY x1.p5)),x1.2))) λx2=>(aE x2.1 (Z aa) (av (fH x2.2.1) λq=>(jn (aE (!q.2) (aB (M,x2.2)) (av (fG (x2.2,q.1)) λD=>(aB ((!D),x2.2)))) λx4=>(aE x4.1 (Z aa) (it Yd4 _ (λd=>(bx d.1 (aY x4.p3) (bF ll x4.p3 d.1 λs=>(av (oM (d.2,s.2,aa)) λA=>(aE (!A) (aB aa) (cH ((ct d.1),d.2))))) (av (av (fE d.2) λz=>(Z z)) λr=>Z (b7 r)))) (0,x4.2)))))))))
def nY (x:ne×mi×(Y jw)×dg×dg×Y ν):J (Bool):=kN @iter x
def dv (x:ne×mi×(Y jw)×dg×dg×Y ν):J (Bool):=kN @fX x
def rF (it:yN) (x:ne×mi×(Y jw)×dg×dg×Y ν):J pG:=
 (bp (cL 0 (aY x.2.1)&&cL (aY x.2.1) (aY x.2.1)&&be (aP (aY x.2.1)) 32) (bp (cL 0 (aY x.p3)&&cL (aY x.p3) (aY x.p3)&&be (aP (aY x.p3)) 1) (bp (cL 0 (aY x.p4)&&cL (aY x.p4) (aY x.p4)&&be (aP (aY x.p4)) 24) (it (Int×Int×Int×iG×(θ)×Y dG) _ (λx1=>(bx x1.1 (aT (ah (aA (aP (aY x.2.1)) ((0,[]):Int×η)))) (ck (fm x1.1 (ah x1.p3)) (cH ((ct x1.1),x1.2.1,x1.p2,(cJ x1.p3 x1.1 ((-1),(aH (T:=dl) x1.p3 x1.1).2)),x1.q4))) (av (jn (α:=Int×Int×iG×(θ)×Y dG) (bx 0 (aY x1.q5) (ck (fm 0 (ah x1.q5)) (aB (x1.2.1,x1.p2,x1.p3,x1.p4,(cJ x1.q5 0 (1,(aH (T:=gC) x1.q5 0).2))))) (aB x1.2)) λx2=>(Z (x2.p2,x2.2.1,x2.q3))) λr=>Z (b7 r)))) (0,0,(-1),(aA (aP (aY x.2.1)) ((0,[]):Int×η)),(aA (aP (aY x.p3)) (aa:Bool)),(aA (aP (aY x.p4)) ((0,(0,aa)):Int×Int×Bool)))))))
def uK (x:ne×mi×(Y jw)×dg×dg×Y ν):J pG:=rF @iter x
def kz (x:ne×mi×(Y jw)×dg×dg×Y ν):J pG:=rF @fX x
def mo (it:yN) (x:ne×mi×(Y jw)×dg×dg×Y ν):J fP:=
 (av (kz x) λq=>(bp (cL 0 0&&cL 0 (aY x.1)&&be (aP (aY x.1)) 8) (bp (cL 0 (aY x.p3)&&cL (aY x.p3) (aY x.p3)&&be (aP (aY x.p3)) 8) (bp (cL 0 (aY x.p4)&&cL (aY x.p4) (aY x.p4)&&be (aP (aY x.p4)) 8) (it (Int×Int×pG×(η)×(η)×η) _ (λx2=>(bx x2.1 (aY x.1) (bF kB x.1 x2.1 λd=>(bp (be (ah x2.p3+ah ([d.q4])) 8) (cH ((ct x2.1),x2.2.1,x2.p2,(x2.p3++([d.q4])),x2.q4)))) (aB x2.2.2))) (0,0,q,(aA (aP 0) (0:Int)),(aA (aP (aY x.p3)) (0:Int)),(aA (aP (aY x.p4)) (0:Int))))))))
def pQ (x:ne×mi×(Y jw)×dg×dg×Y ν):J fP:=mo @iter x
def eA (x:ne×mi×(Y jw)×dg×dg×Y ν):J fP:=mo @fX x
def iE (it:yN) (x:θ×Int×Int×Int×Int×Int×(η)×η):J (Bool):=
 (it (Int) _ (λx1=>(bx x1 2 (bp (cL 0 x1&&fI x1 2) (lt (aH (T:=(.sl aM)) [x.p6,x.q7] x1) λq=>(it (Int) _ (λx3=>(bx x3 (aY q) (bF aM q x3 λd=>(jn (bx d 0 (aB M) (ja (aY x.1) d (aB M) (bF (.bool) x.1 d λs=>(aB (!s))))) λz=>(aE z (aB (b7 aa)) (cH (ct x3))))) (aB (nk (ct x1))))) 0))) (aB M))) 0)
def mK (x:θ×Int×Int×Int×Int×Int×(η)×η):J (Bool):=iE @iter x
def bR (x:θ×Int×Int×Int×Int×Int×(η)×η):J (Bool):=iE @fX x
def eM (x:Γ):J (Bool):=
 (jn (ja 0 x.1 (aB (fI x.1 x.2)) (aB aa)) λx1=>(Z x1))
def iY (x:eX×Int×Int):J (Bool):=
 (jn (bi x.2.1 1 (aB ((decide ((x.2.1:Int)=1)),x.1)) (bi x.2.1 2 (aB ((decide ((x.2.1:Int)=2)),x.1)) (bi x.2.1 5 (aB ((decide ((x.2.1:Int)=5)),x.1)) (bi x.2.1 12 (aB ((decide ((x.2.1:Int)=12)),x.1)) (bi x.2.1 13 (aB ((decide ((x.2.1:Int)=13)),x.1)) (bi x.2.1 14 (aB ((decide ((x.2.1:Int)=14)),x.1)) (aB ((decide ((x.2.1:Int)=15)),x.1)))))))) λx1=>(aE x1.1 (Z (decide ((x.2.2:Int)=(-1)))) (jn (bi x.2.1 3 (aB ((decide ((x.2.1:Int)=3)),x1.2)) (aB ((decide ((x.2.1:Int)=4)),x1.2))) λx2=>(aE x2.1 (av (eM (x.2.2,(aY x2.2.1))) λy3=>(Z y3)) (jn (bi x.2.1 6 (aB ((decide ((x.2.1:Int)=6)),x2.2)) (aB ((decide ((x.2.1:Int)=7)),x2.2))) λx4=>(aE x4.1 (jn (av (eM (x.2.2,(aY x4.p2))) λy6=>(aE y6 (bF qr x4.p2 x.2.2 λz7=>(aB (!z7.2))) (aB aa))) λx5=>(Z x5)) (jn (bi x.2.1 8 (aB ((decide ((x.2.1:Int)=8)),x4.2)) (bi x.2.1 9 (aB ((decide ((x.2.1:Int)=9)),x4.2)) (bi x.2.1 10 (aB ((decide ((x.2.1:Int)=10)),x4.2)) (aB ((decide ((x.2.1:Int)=11)),x4.2))))) λs=>(aE s.1 (jn (av (eM (x.2.2,(aY s.p2))) λL=>(aE L (bF qr s.p2 x.2.2 λA=>(aB A.2)) (aB aa))) λx9=>(Z x9)) (jn (bi x.2.1 16 (aB ((decide ((x.2.1:Int)=16)),s.2)) (bi x.2.1 17 (aB ((decide ((x.2.1:Int)=17)),s.2)) (bi x.2.1 18 (aB ((decide ((x.2.1:Int)=18)),s.2)) (aB ((decide ((x.2.1:Int)=19)),s.2))))) λq=>(aE q.1 (av (eM (x.2.2,(aY q.p3))) λI=>(Z I)) (jn (bi x.2.1 20 (aB ((decide ((x.2.1:Int)=20)),q.2)) (aB ((decide ((x.2.1:Int)=21)),q.2))) λd=>(aE d.1 (av (eM (x.2.2,(aY d.p5))) λF=>(Z F)) (jn (bi x.2.1 22 (aB ((decide ((x.2.1:Int)=22)),d.2)) (aB ((decide ((x.2.1:Int)=23)),d.2))) λz=>(aE z.1 (av (eM (x.2.2,(aY z.p4))) λD=>(Z D)) (Z aa)))))))))))))))
def qh (it:yN) (x:eX×iG×Int×(θ)×Y dG):J (Bool):=
 (jn (iA (aY x.2.1) (aY x.1.2.1) (aB (M,x.1)) (iA (aY x.p3) (aY x.1.p3) (aB (M,x.1)) (aB ((!decide (((aY x.q4):Int)=(aY x.1.p4))),x.1)))) λx1=>(aE x1.1 (Z aa) (it Yd4 _ (λx2=>(bx x2.1 (aY x1.p3) (bF ll x1.p3 x2.1 λd=>(av (eM (d.2,(aY x2.p2))) λq=>(aE (!q) (aB aa) (cH ((ct x2.1),x2.2))))) (aB M))) (0,x1.2))))
def wa (x:eX×iG×Int×(θ)×Y dG):J (Bool):=qh @iter x
def iw (x:eX×iG×Int×(θ)×Y dG):J (Bool):=qh @fX x
def kx (x:eX×pG×Int×Int×Int):J (Bool):=
 (bi x.p3 6 (bF dl x.2.1.1 x.q4 λz1=>(Z (decide ((z1.1:Int)=(-1))))) (bi x.p3 10 (jn (α:=Bool) (bF dl x.2.1.1 x.q4 λz3=>(bi z3.1 (-1) (bF dl x.2.1.1 x.q4 λz4=>(aB (decide (((aY z4.2):Int)=0)))) (aB aa))) λx2=>(Z x2)) (bi x.p3 8 (jn (α:=Bool) (bF dl x.2.1.1 x.q4 λz6=>(bi z6.1 (-1) (bF dl x.2.1.1 x.q4 λz7=>(av (jq (z7.2,x.p2)) λy8=>(aB (!y8)))) (aB aa))) λx5=>(Z x5)) (jn (bi x.p3 7 (aB ((decide ((x.p3:Int)=7)),x.1,x.2.1)) (aB ((decide ((x.p3:Int)=11)),x.1,x.2.1))) λq=>(aE q.1 (bF dl q.p2 x.q4 λz10=>(Z (decide ((z10.1:Int)=x.p2)))) (bi x.p3 9 (bF dl q.p2 x.q4 λz11=>(av (jq (z11.2,x.p2)) λy12=>(Z y12))) (bi x.p3 12 (Z (decide ((q.p3:Int)=(-1)))) (bi x.p3 13 (Z (decide ((q.p3:Int)=x.p2))) (bi x.p3 14 (bF gC q.q5 x.p2 λz13=>(Z (!z13.2.2))) (bi x.p3 15 (bF gC q.q5 x.p2 λL=>(Z L.2.2)) (jn (bi x.p3 16 (aB ((decide ((x.p3:Int)=16)),q.2)) (bi x.p3 18 (aB ((decide ((x.p3:Int)=18)),q.2)) (aB ((decide ((x.p3:Int)=19)),q.2)))) λd=>(aE d.1 (bF ll d.2.1.p2 x.q4 λI=>(bF dl d.p2 I.2 λF=>(Z (decide ((F.1:Int)=x.p2))))) (bi x.p3 20 (jn (iA x.q4 x.p2 (bF gC d.q5 x.q4 λD=>(aB (decide ((D.1:Int)=0)))) (aB aa)) λx18=>(Z x18)) (bi x.p3 21 (jn (iA x.q4 x.p2 (bF gC d.q5 x.q4 λA=>(aB (decide ((A.1:Int)=5)))) (aB aa)) λx20=>(Z x20)) (bi x.p3 22 (bF (.bool) d.p4 x.q4 λz=>(Z (!z))) (bi x.p3 23 (bF (.bool) d.p4 x.q4 λs=>(Z s)) (Z M)))))))))))))))))
def eg (x:eX×pG×Int×Int×Int):J (Bool):=
 (jn (av (iw (x.1,x.2.1)) λF=>(aE (!F) (aB (M,x.1,x.2.1)) (av (eM (x.p2,(aY x.1.p4))) λD=>(aE (!D) (aB (M,x.1,x.2.1)) (av (iY (x.1,x.q3)) λA=>(aB ((!A),x.1,x.2.1))))))) λx1=>(aE x1.1 (Z aa) (bF gC x1.q5 x.p2 λd=>(bi x.p3 1 (Z (decide ((d.1:Int)=1))) (bi x.p3 17 (jn (α:=Bool) (bi d.1 4 (bi d.2.1 x.q4 (bF ll x1.2.1.p2 x.q4 λz=>(bF dl x1.p2 z.2 λs=>(aB (decide ((s.1:Int)=(-1)))))) (aB aa)) (aB aa)) λL=>(Z L)) (jn (bi d.1 2 (av (kx (x1.2.1,x1.2.2,x.2.2)) λq=>(aB q)) (aB aa)) λI=>(Z I)))))))
def ia (x:eX×pG×(η)×(η)×η):J (Bool):=
 (jn (av (iw (x.1,x.2.1)) λd=>(aE d (bi (aY x.p2) (aY x.1.1) (bi (aY x.p3) (aY x.1.p3) (aB (decide (((aY x.q4):Int)=(aY x.1.p4)))) (aB aa)) (aB aa)) (aB aa))) λx1=>(Z x1))
def gm (x:eX×Int×Int×Int×Int×Int×(η)×η):J (Bool):=
 (jn (bi x.p2 1 (aB (M,x)) (aB ((decide ((x.p2:Int)=2)),x))) λx1=>(aE x1.1 (Z (decide ((x1.p6:Int)=(-1)))) (jn (ja 0 x1.p6 (bx x1.p6 (aY x1.2.1.q5) (bF nQ x1.2.1.q5 x1.p6 λd=>(aB (decide ((d.1:Int)=x1.p2)))) (aB aa)) (aB aa)) λx2=>(Z x2))))
def gK (it:yN) (x:eX×fP×Int×Int×Int×Int×Int×(η)×η):J (Bool):=
 (jn (bi x.p3 3 (bF kB x.1.1 x.p4 λz2=>(aB ((!decide ((z2.2.2.1:Int)=0)),x.2))) (bi x.p3 4 (bF kB x.1.1 x.p4 λL=>(aB ((!decide ((L.2.2.1:Int)=0)),x.2))) (aB (aa,x.2)))) λx1=>(jn (bi x1.p3 5 (bi x1.p3 4 (aB (x1.2.1,x1.2.2,M,M)) (aB (x1.2.1,x1.2.2,M,(decide ((x1.p3:Int)=22))))) (bi x1.p3 4 (aB (x1.2.1,x1.2.2,x1.1,M)) (aB (x1.2.1,x1.2.2,x1.1,(decide ((x1.p3:Int)=22)))))) λx4=>(it (Int×fP×jN×Bool×Bool) _ (λd=>(bx d.1 2 (bp (cL 0 d.1&&fI d.1 2) (lt (aH (T:=(.sl aM)) [x4.2.1.p5,x4.2.1.q6] d.1) λA=>(jn (α:=Bool×fP×jN×Bool×Bool) (bx 0 (aY A) (bp (cL 0 d.1&&fI d.1 2) (bp (fm d.1 2) (lt (aH (T:=.bool) [d.p3,d.q4] d.1) λI=>(aB ((!I),d.2))))) (aB (aa,d.2))) λF=>(aE F.1 (aB aa) (it (Γ×fP×jN×Bool×Bool) _ (λq=>(bx q.1.2 (aY A) (bF aM A q.1.2 λs=>(jn (ja s q.1.1 (aB (M,q.2)) (bF aM q.2.1.q3 q.p2.1 λD=>(aB ((cL D s),q.2)))) λz=>(aE z.1 (aB (b7 aa)) (cH ((s,(ct q.1.2)),z.2))))) (aB (nk ((ct d.1),q.2))))) ((0,0),F.2)))))) (aB M))) (0,x4))))
def lH (x:eX×fP×Int×Int×Int×Int×Int×(η)×η):J (Bool):=gK @iter x
def dw (x:eX×fP×Int×Int×Int×Int×Int×(η)×η):J (Bool):=gK @fX x
def jI (it:yN) (x:fP×Int×Int×Int×Int×Int×(η)×η):J (Bool):=
 (bi x.p2 3 (bF aM x.1.2.1 x.p3 λz1=>(Z (decide ((x.p4:Int)=z1)))) (bi x.p2 23 (bF aM x.1.p2 x.p3 λL=>(Z (decide ((x.p4:Int)=L)))) (bi x.p2 5 (jn (bi x.p4 0 (aB M) (aB (decide ((x.p4:Int)=1)))) λx3=>(Z x3)) (jn (bi x.p2 4 (aB ((decide ((x.p2:Int)=4)),x)) (aB ((decide ((x.p2:Int)=22)),x))) λx4=>(aE x4.1 (Z M) (bi x.p2 18 (it ((Int×Bool×Int)×Int×Int×Int×Int×Int×(η)×η) _ (λq=>(bx q.1.2.2 (aY x4.2.1.1.q3) (jn (bF gC x4.2.1.1.q3 q.1.2.2 λI=>(jn (bi I.1 3 (aB ((decide ((I.2.1:Int)=q.p3)),q.2)) (aB (aa,q.2))) λA=>(aE A.1 (aE q.1.2.1 (aB (((ct q.1.1),M),A.2)) (aB (((ct q.1.1),(decide ((A.p4:Int)=q.1.2.2))),A.2))) (aB ((q.1.1,q.1.2.1),A.2))))) λF=>(cH ((F.1.1,F.1.2,(ct q.1.2.2)),F.2))) (av (jn (α:=Bool) (aE q.1.2.1 (aB M) (bi q.1.1 0 (aB (decide ((q.p4:Int)=(-1)))) (aB aa))) λx9=>(Z x9)) λr=>Z (b7 r)))) ((0,aa,0),x4.2.2)) (bi x.p2 19 (it (Γ×Int×Int×Int×Int×Int×(η)×η) _ (λd=>(bx d.1.2 (aY x4.2.1.1.q3) (jn (bF gC x4.2.1.1.q3 d.1.2 λz=>(jn (bi z.1 3 (aB ((decide ((z.2.1:Int)=d.p3)),d.2)) (aB (aa,d.2))) λs=>(aE s.1 (aB ((ct d.1.1),s.2)) (aB (d.1.1,s.2))))) λD=>(cH ((D.1,(ct d.1.2)),D.2))) (aB (decide ((d.p4:Int)=d.1.1))))) ((0,0),x4.2.2)) (Z (decide ((x4.p5:Int)=0))))))))))
def oY (x:fP×Int×Int×Int×Int×Int×(η)×η):J (Bool):=jI @iter x
def eI (x:fP×Int×Int×Int×Int×Int×(η)×η):J (Bool):=jI @fX x
def mc (x:dG×Int):J (Bool):=
 (jn (bi x.1.1 3 (aB (decide ((x.1.2.1:Int)=x.2))) (aB aa)) λx1=>(Z x1))
def HL (x:θ):J θ:=
 (aE (ax (ah x) 0) (D' (Z ([]:θ)) (bp (be (ah ([]:θ)+ah x) 1) (Z (([]:θ)++x)))) (bp (be (ah ([]:θ)+ah x) 1) (Z (([]:θ)++x))))
def ze (x:θ):J θ:=chk (be (ah x) 1) λ_=>Z x
def Dn (x:θ):J θ:=
 (aE (ax (ah x) 0) (D' (Z ([]:θ)) (bp (be (ah ([]:θ)+ah x) 1) (Z (([]:θ)++x)))) (bp (be (ah ([]:θ)+ah x) 1) (Z (([]:θ)++x))))
def HK (x:θ):J θ:=chk (be (ah x) 1) λ_=>Z x
def HI (x:Y dG):J (Y dG):=
 (aE (ax (ah x) 0) (D' (Z ([]:Y dG)) (bp (be (ah ([]:Y dG)+ah x) 24) (Z (([]:Y dG)++x)))) (bp (be (ah ([]:Y dG)+ah x) 24) (Z (([]:Y dG)++x))))
def zd (x:Y dG):J (Y dG):=chk (be (ah x) 24) λ_=>Z x
def Dl (x:Y dG):J (Y dG):=
 (aE (ax (ah x) 0) (D' (Z ([]:Y dG)) (bp (be (ah ([]:Y dG)+ah x) 24) (Z (([]:Y dG)++x)))) (bp (be (ah ([]:Y dG)+ah x) 24) (Z (([]:Y dG)++x))))
def HH (x:Y dG):J (Y dG):=chk (be (ah x) 24) λ_=>Z x
def Dm (x:η):J η:=
 (aE (ax (ah x) 0) (D' (Z ([]:η)) (bp (be (ah ([]:η)+ah x) 8) (Z (([]:η)++x)))) (bp (be (ah ([]:η)+ah x) 8) (Z (([]:η)++x))))
def xY (x:η):J η:=chk (be (ah x) 8) λ_=>Z x
def rE (it:yN) (x:iG×Int×(θ)×Y dG):J Yd3:=
 (bp (cL 0 (aY x.1)&&cL (aY x.1) (aY x.1)&&be (aP (aY x.1)) 32) (it (Int×pG×Int×Y (Int×η)) _ (λx1=>(bx x1.1 (aY x.1) (bF dl x.1 x1.1 λd=>(av (AK d.2) λz=>(ck (fm x1.1 (ah x1.q3)) (cH ((ct x1.1),x1.2.1,x1.p2,(cJ x1.q3 x1.1 (d.1,z))))))) (av (av (HK x1.2.1.p2) λs=>(av (HH x1.2.1.q3) λq=>(Z (x1.2.1.2.1,x1.q3,s,q)))) λr=>Z (b7 r)))) (0,x,0,(aA (aP (aY x.1)) ((0,[]):Int×η)))))
def uJ (x:iG×Int×(θ)×Y dG):J Yd3:=rE @iter x
def ky (x:iG×Int×(θ)×Y dG):J Yd3:=rE @fX x
def qg (it:yN) (x:ν×iG×(θ)×Y dG):J Yd3:=
 (it (Γ×iG×(θ)×(Y dG)×Int) _ (λx1=>(bx x1.1.2 (aY x.q3) (jn (kF gC x1.p3 x1.1.2 λd=>(jn (av (mc (d,x.1.2.1)) λq=>(aE q (bx x1.1.1 0 (aB (M,x1.2)) (aB ((decide ((x1.1.2:Int)=x.1.2.2)),x1.2))) (aB (aa,x1.2)))) λx4=>(aE x4.1 (aB (x1.1.2,x4.2)) (aB (x1.1.1,x4.2))))) λx2=>(cH ((x2.1,(ct x1.1.2)),x2.2))) (av (jn (α:=iG×(θ)×Y dG) (ja 0 x1.1.1 (ck (fm x1.1.1 (ah x1.p3)) (aB (x1.2.1,x1.p2,(cJ x1.p3 x1.1.1 (4,(aH (T:=gC) x1.p3 x1.1.1).2))))) (aB (x1.2.1,x1.p2,x1.p3))) λs=>(Z (x1.1.1,s))) λr=>Z (b7 r)))) (((-1),0),x.2.1,x.p2,x.q3,x.1.1))
def td (x:ν×iG×(θ)×Y dG):J Yd3:=qg @iter x
def jD (x:ν×iG×(θ)×Y dG):J Yd3:=qg @fX x
def mr (it:yN) (x:Γ×iG×(θ)×Y dG):J Yd3:=
 (it (Γ×iG×(θ)×(Y dG)×Int) _ (λx1=>(bx x1.1.2 (aY x.q3) (jn (α:=Int×iG×(θ)×(Y dG)×Int) (kF gC x1.p3 x1.1.2 λd=>(av (mc (d,x.1.2)) λq=>(aE q (ck (fm x1.1.2 (ah x1.p3)) (aB ((ct x1.1.1),x1.2.1,x1.p2,(cJ x1.p3 x1.1.2 (4,(aH (T:=gC) x1.p3 x1.1.2).2)),x1.q4))) (aB (x1.1.1,x1.2))))) λx2=>(cH ((x2.1,(ct x1.1.2)),x2.2))) (aB (x1.1.1,x1.2.1,x1.p2,x1.p3)))) ((0,0),x.2.1,x.p2,x.q3,x.1.1))
def pR (x:Γ×iG×(θ)×Y dG):J Yd3:=mr @iter x
def gI (x:Γ×iG×(θ)×Y dG):J Yd3:=mr @fX x
def qc (x:Int):J (Bool):=
 (Z (!decide ((x:Int)=x)))
def uL (x:Γ):J (Bool):=
 (jn (av (qc x.1) λq=>(aE q (av (qc x.2) λd=>(aE (!d) (aB M) (aB (fI x.1 x.2)))) (aB (fI x.1 x.2)))) λx1=>(Z x1))
def qS (x:Int):J (Int):=
 (ja 4294967296 x U (ja 65536 x U (ja 256 x U (mF (aZ .u8 x) ([0,1,2,2,3,3,3,3,4,4,4,4,4,4,4,4,5,5,5,5,5,5,5,5,5,5,5,5,5,5,5,5,6,6,6,6,6,6,6,6,6,6,6,6,6,6,6,6,6,6,6,6,6,6,6,6,6,6,6,6,6,6,6,6,7,7,7,7,7,7,7,7,7,7,7,7,7,7,7,7,7,7,7,7,7,7,7,7,7,7,7,7,7,7,7,7,7,7,7,7,7,7,7,7,7,7,7,7,7,7,7,7,7,7,7,7,7,7,7,7,7,7,7,7,7,7,7,7,8,8,8,8,8,8,8,8,8,8,8,8,8,8,8,8,8,8,8,8,8,8,8,8,8,8,8,8,8,8,8,8,8,8,8,8,8,8,8,8,8,8,8,8,8,8,8,8,8,8,8,8,8,8,8,8,8,8,8,8,8,8,8,8,8,8,8,8,8,8,8,8,8,8,8,8,8,8,8,8,8,8,8,8,8,8,8,8,8,8,8,8,8,8,8,8,8,8,8,8,8,8,8,8,8,8,8,8,8,8,8,8,8,8,8,8,8,8,8,8,8,8,8,8,8,8,8,8]) (Z (aZ .i64 (0+(aZ .i64 (qB ([0,1,2,2,3,3,3,3,4,4,4,4,4,4,4,4,5,5,5,5,5,5,5,5,5,5,5,5,5,5,5,5,6,6,6,6,6,6,6,6,6,6,6,6,6,6,6,6,6,6,6,6,6,6,6,6,6,6,6,6,6,6,6,6,7,7,7,7,7,7,7,7,7,7,7,7,7,7,7,7,7,7,7,7,7,7,7,7,7,7,7,7,7,7,7,7,7,7,7,7,7,7,7,7,7,7,7,7,7,7,7,7,7,7,7,7,7,7,7,7,7,7,7,7,7,7,7,7,8,8,8,8,8,8,8,8,8,8,8,8,8,8,8,8,8,8,8,8,8,8,8,8,8,8,8,8,8,8,8,8,8,8,8,8,8,8,8,8,8,8,8,8,8,8,8,8,8,8,8,8,8,8,8,8,8,8,8,8,8,8,8,8,8,8,8,8,8,8,8,8,8,8,8,8,8,8,8,8,8,8,8,8,8,8,8,8,8,8,8,8,8,8,8,8,8,8,8,8,8,8,8,8,8,8,8,8,8,8,8,8,8,8,8,8,8,8,8,8,8,8,8,8,8,8,8,8]) (aZ .u8 x))))))))))
def tB (x:Int):J (Int):=
 (av (qS x) λd=>(Z d))
def jY (it:yN) (x:Γ×η):J η:=
 (it (Int×η) _ (λx1=>(bx x1.1 x.1.2 (it (Int×η) _ (λx2=>(jn (bx x.1.1 x2.1 (kF aM x2.2 x2.1 λz=>(kF aM x2.2 (aZ .i64 (x2.1-1)) λs=>(av (uL (z,s)) λA=>(aB (A,x2.2))))) (aB (aa,x2.2))) λx3=>(aE x3.1 (kF aM x3.2 (aZ .i64 (x2.1-1)) λd=>(kF aM x3.2 x2.1 λq=>(ck (fm x2.1 (ah x3.2)) (ck (fm (aZ .i64 (x2.1-1)) (ah (cJ x3.2 x2.1 d))) (cH ((aZ .i64 (x2.1-1)),(cJ (cJ x3.2 x2.1 d) (aZ .i64 (x2.1-1)) q))))))) (aB (nk ((ct x1.1),x3.2)))))) x1) (aB x1.2))) ((ct x.1.1),x.2))
def jX (x:Γ×η):J η:=jY @iter x
def fx (x:Γ×η):J η:=jY @fX x
def nZ (it:yN) (x:ν×η):J η:=
 (it ((Int×Int×Int×Bool×Bool)×η) _ (λx1=>(ja (aZ .i64 (x1.1.2.1-x1.1.1)) 12 (av (fx ((x1.1.1,x1.1.2.1),x1.2)) λd=>(bp (ax (ah x1.2) (ah d)&&M) (aB d))) (bi x1.1.p2 0 U (aE (!x1.1.p3) U U)))) ((x.1.1,x.1.2.1,x.1.2.2,M,M),x.2))
def nU (x:ν×η):J η:=nZ @iter x
def je (x:ν×η):J η:=nZ @fX x
def iQ (x:η):J η:=
 (av (tB (aZ .u64 (aY x))) λq=>(av (je ((0,(aY x),q),x)) λd=>(bp (ax (ah x) (ah d)&&M) (Z d))))
def wD (it:yN) (x:η):J η:=
 (bx (aY x) 2 (Z x) (it (Int×η) _ (λx1=>(bx x1.1 (aY x1.2) (kF aM x1.2 x1.1 λq=>(kF aM x1.2 (aZ .i64 (x1.1-1)) λd=>(bi q d (bp (cL 0 x1.1&&fI x1.1 (ah x1.2)) U) (cH ((ct x1.1),x1.2))))) (aB x1.2))) (1,x)))
def wg (x:η):J η:=wD @iter x
def ec (x:η):J η:=wD @fX x
def oL (x:Γ):J (Bool×Int):=
 (Z ((decide ((x.1:Int)=x.2)),x.2))
def tN (it:yN) (x:η×Int):J (Int×(η)×Int):=
 (it (Int×(η)×Int) _ (λx1=>(bx x1.1 (aY x.1) (kF aM x1.2.1 x1.1 λq=>(av (oL (q,x1.2.2)) λd=>(aE d.1 (aB (x1.1,x1.2.1,d.2)) (cH ((ct x1.1),x1.2.1,d.2))))) (aB ((-1),x1.2)))) (0,x))
def te (x:η×Int):J (Int×(η)×Int):=tN @iter x
def m8 (x:η×Int):J (Int×(η)×Int):=tN @fX x
def sg (it:yN) (x:η×Int):J (Int×η):=
 (av (m8 x) λd=>(bp (ax (ah x.1) (ah d.2.1)&&M) (bi d.1 (-1) U (it (Γ×(η)×Int) _ (λx2=>(bx x2.1.2 (aY x2.2.1) (jn (kF aM x2.2.1 x2.1.2 λs=>(av (oL (s,x2.2.2)) λq=>(aE (!q.1) (ck (fm x2.1.1 (ah x2.2.1)) (aB ((ct x2.1.1),(cJ x2.2.1 x2.1.1 s),q.2))) (aB (x2.1.1,x2.2.1,q.2))))) λx3=>(cH ((x3.1,(ct x2.1.2)),x3.2))) (av (ck (cL 0 x2.1.1&&fI x2.1.1 (ah x2.2.1)) (bp (cL 0 x2.1.1&&fI x2.1.1 (ah (dh (aP x2.1.1) x2.2.1++aA (ah x2.2.1-aP x2.1.1) (0:Int)))) (Z (x2.2.2,(dh (aP x2.1.1) (dh (aP x2.1.1) x2.2.1++aA (ah x2.2.1-aP x2.1.1) (0:Int))))))) λr=>Z (b7 r)))) ((d.1,(ct d.1)),d.2)))))
def sa (x:η×Int):J (Int×η):=sg @iter x
def c8 (x:η×Int):J (Int×η):=sg @fX x
def gJ (x:eX×pG×Int×Int×Int×Int):J (pG×Int×Bool):=
 (av (eg (x.1,x.2.1,x.p2,x.p3,x.p4)) λF=>(aE (!F) (Z ((([]:Y (Int×η)),0,([]:θ),([]:Y dG)),0,aa)) (av (ky x.2.1) λq=>(jn (α:=Int×Int×Int×iG×(θ)×Y dG) (bi x.p3 1 (ck (fm x.p2 (ah q.q3)) (aB (0,q.1,0,q.2.1,q.p2,(cJ q.q3 x.p2 (2,(aH (T:=gC) q.q3 x.p2).2))))) (bi x.p3 2 (ck (fm x.p2 (ah q.q3)) (aB (0,q.1,0,q.2.1,q.p2,(cJ q.q3 x.p2 (5,(aH (T:=gC) q.q3 x.p2).2))))) (jn (α:=Bool×eX×Int×Int×Int×iG×(θ)×Y dG) (bi x.p3 6 (aB ((decide ((x.p3:Int)=6)),x.1,q.1,x.p2,0,q.2)) (aB ((decide ((x.p3:Int)=10)),x.1,q.1,x.p2,0,q.2))) λx4=>(aE x4.1 (ck (fm x.p4 (ah x4.p5)) (aB (0,x4.p2,x4.p4,(cJ x4.p5 x.p4 (x4.p3,(aH (T:=dl) x4.p5 x.p4).2)),x4.q6))) (jn (bi x.p3 7 (aB ((decide ((x.p3:Int)=7)),x4.2)) (aB ((decide ((x.p3:Int)=11)),x4.2))) λd=>(aE d.1 (ck (fm x.p4 (ah d.p5)) (aB (0,d.p2,d.p4,(cJ d.p5 x.p4 ((-1),(aH (T:=dl) d.p5 x.p4).2)),d.q6))) (bi x.p3 8 (kF dl d.p5 x.p4 λL=>U) (bi x.p3 9 (kF dl d.p5 x.p4 λI=>U) (bi x.p3 12 (aB (0,d.q3)) (bi x.p3 13 (aB (0,(-1),d.q4)) (bi x.p3 14 (ck (fm d.p3 (ah d.q7)) (aB (0,d.p2,d.p4,d.p5,d.p6,(cJ d.q7 d.p3 ((aH (T:=gC) d.q7 d.p3).1,((aH (T:=gC) d.q7 d.p3).2).1,M))))) (bi x.p3 15 (ck (fm d.p3 (ah d.q7)) (aB (0,d.p2,d.p4,d.p5,d.p6,(cJ d.q7 d.p3 ((aH (T:=gC) d.q7 d.p3).1,((aH (T:=gC) d.q7 d.p3).2).1,aa))))) (bi x.p3 16 (bF ll d.2.1.p2 x.p4 λD=>(ck (fm D.2 (ah d.p5)) (ck (fm d.p3 (ah d.q7)) (ck (fm d.p3 (ah (cJ d.q7 d.p3 (3,(aH (T:=gC) d.q7 d.p3).2)))) (aB (0,d.p2,d.p4,(cJ d.p5 D.2 ((-1),(aH (T:=dl) d.p5 D.2).2)),d.p6,(cJ (cJ d.q7 d.p3 (3,(aH (T:=gC) d.q7 d.p3).2)) d.p3 ((aH (T:=gC) (cJ d.q7 d.p3 (3,(aH (T:=gC) d.q7 d.p3).2)) d.p3).1,x.p4,((aH (T:=gC) (cJ d.q7 d.p3 (3,(aH (T:=gC) d.q7 d.p3).2)) d.p3).2).2)))))))) (bi x.p3 17 (bF ll d.2.1.p2 x.p4 λA=>(ck (fm A.2 (ah d.p5)) (ck (fm d.p3 (ah d.q7)) (ck (fm d.p3 (ah (cJ d.q7 d.p3 (2,(aH (T:=gC) d.q7 d.p3).2)))) (aB (0,d.p2,d.p4,(cJ d.p5 A.2 (d.p3,(aH (T:=dl) d.p5 A.2).2)),d.p6,(cJ (cJ d.q7 d.p3 (2,(aH (T:=gC) d.q7 d.p3).2)) d.p3 ((aH (T:=gC) (cJ d.q7 d.p3 (2,(aH (T:=gC) d.q7 d.p3).2)) d.p3).1,0,((aH (T:=gC) (cJ d.q7 d.p3 (2,(aH (T:=gC) d.q7 d.p3).2)) d.p3).2).2)))))))) (bi x.p3 18 (av (jD ((d.p2,x.q4),d.q5)) λz=>(bp (ax (ah d.q7) (ah z.q3)&&(ax (ah d.p6) (ah z.p2)&&(ax (ah d.p5) (ah z.2.1)&&M))) (aB (z.1,d.p2,d.p4,z.2)))) (bi x.p3 19 (av (gI ((d.p2,x.p4),d.q5)) λs=>(bp (ax (ah d.q7) (ah s.q3)&&(ax (ah d.p6) (ah s.p2)&&(ax (ah d.p5) (ah s.2.1)&&M))) (aB (s.1,d.p2,d.p4,s.2)))) (bi x.p3 20 (ck (fm x.p4 (ah d.q7)) (aB (0,d.p2,d.p4,d.p5,d.p6,(cJ d.q7 x.p4 (1,(aH (T:=gC) d.q7 x.p4).2))))) (bi x.p3 22 (ck (fm x.p4 (ah d.p6)) (aB (0,d.p2,d.p4,d.p5,(cJ d.p6 x.p4 M),d.q7))) (aB (0,d.p2,d.q4)))))))))))))))))))) λx3=>(Z ((x3.p3,x3.2.1,x3.q4),x3.1,M))))))
def iX (x:iG×Int×(θ)×Y dG):J (XQ×Int×η):=
 (bp (cL 0 (aY x.1)&&cL (aY x.1) (aY x.1)&&be (aP (aY x.1)) 32&&decide (((aY x.1):Int)=1)) (jn (α:=pG×Int×Int×η) (bx 0 (aY x.1) (bF dl x.1 0 λd=>(av (gf d.2) λA=>(bx 1 (aY x.1) (bF dl x.1 1 λq=>(av (gf q.2) λD=>U)) (aB (x,0,d.1,A))))) (aB (x,0,0,([]:η)))) λx1=>(av (ze x1.1.p2) λz=>(av (zd x1.1.q3) λs=>(Z ((x1.1.2.1,z,s),x1.2.2))))))
def gd (x:eX×pG×Int×Int×Int×Int):J (pG×Int×Bool):=
 (av (eg (x.1,x.2.1,x.p2,x.p3,x.p4)) λD=>(aE (!D) (Z ((([]:Y (Int×η)),0,([]:θ),([]:Y dG)),0,aa)) (av (iX x.2.1) λq=>(jn (α:=Int×XQ×Int×Int×η) (bi x.p3 1 (mF x.p2 q.1.2.2 U) (bi x.p3 2 (mF x.p2 q.1.2.2 U) (jn (α:=Bool×eX×XQ×Int×Int×Int×η) (bi x.p3 6 (aB ((decide ((x.p3:Int)=6)),x.1,q.1,x.p2,0,q.2)) (aB ((decide ((x.p3:Int)=10)),x.1,q.1,x.p2,0,q.2))) λx4=>(aE x4.1 U (jn (bi x.p3 7 (aB ((decide ((x.p3:Int)=7)),x4.2)) (aB ((decide ((x.p3:Int)=11)),x4.2))) λd=>(aE d.1 U (bi x.p3 8 (bi x.p4 0 (bp (be (ah d.q6+ah ([d.p3])) 8) (av (iQ (d.q6++([d.p3]))) λs=>(bp (ax (ah (d.q6++([d.p3]))) (ah s)&&M) (av (ec s) λz=>(bp (ax (ah s) (ah z)&&M) (aB (0,d.p2,d.p4,d.p5,z))))))) U) (bi x.p3 9 (bi x.p4 0 (av (c8 (d.q6,d.p3)) λA=>(bp (ax (ah d.q6) (ah d.q6)&&M) (aB (0,d.p2,d.p4,d.p5,A.2)))) U) (bi x.p3 12 (aB (0,(d.p3,d.p2.2),d.q4)) (bi x.p3 13 (aB (0,((-1),d.p2.2),d.q4)) (bi x.p3 14 (mF d.p3 d.p2.2.2 U) (bi x.p3 15 (mF d.p3 d.p2.2.2 U) (bi x.p3 16 U (bi x.p3 17 U (bi x.p3 18 U (bi x.p3 19 U (bi x.p3 20 (mF x.p4 d.p2.2.2 U) (bi x.p3 22 (mF x.p4 d.p2.2.1 U) (aB (0,d.p2,d.q4)))))))))))))))))))) λx3=>(Z (([x3.q3],x3.2.1),x3.1,M))))))
def iW (x:iG×Int×(θ)×Y dG):J (XQ×(Γ)×(η)×η):=
 (bp (cL 0 (aY x.1)&&cL (aY x.1) (aY x.1)&&be (aP (aY x.1)) 32&&decide (((aY x.1):Int)=2)) (jn (α:=pG×Int×(Γ)×(η)×η) (bx 0 (aY x.1) (bF dl x.1 0 λd=>(av (gf d.2) λs=>(bx 1 (aY x.1) (bF dl x.1 1 λq=>(av (gf q.2) λF=>(bx 2 (aY x.1) (bF dl x.1 2 λz=>(av (gf z.2) λI=>U)) (aB (x,0,(d.1,q.1),s,F))))) (aB (x,0,(d.1,0),s,([]:η)))))) (aB (x,0,(0,0),([]:η),([]:η)))) λx1=>(av (ze x1.1.p2) λD=>(av (zd x1.1.q3) λA=>(Z ((x1.1.2.1,D,A),x1.2.2))))))
def fe (x:eX×pG×Int×Int×Int×Int):J (pG×Int×Bool):=
 (av (eg (x.1,x.2.1,x.p2,x.p3,x.p4)) λL=>(aE (!L) (Z ((([]:Y (Int×η)),0,([]:θ),([]:Y dG)),0,aa)) (av (iW x.2.1) λq=>(jn (α:=Int×XQ×Int×Int×(η)×Int×η) (bi x.p3 1 (mF x.p2 q.1.2.2 U) (bi x.p3 2 (mF x.p2 q.1.2.2 U) (jn (α:=Bool×eX×XQ×Int×Int×(Γ)×(η)×η) (bi x.p3 6 (aB ((decide ((x.p3:Int)=6)),x.1,q.1,x.p2,0,q.2)) (aB ((decide ((x.p3:Int)=10)),x.1,q.1,x.p2,0,q.2))) λx4=>(aE x4.1 U (jn (bi x.p3 7 (aB ((decide ((x.p3:Int)=7)),x4.2)) (aB ((decide ((x.p3:Int)=11)),x4.2))) λd=>(aE d.1 U (bi x.p3 8 (bi x.p4 0 (bp (be (ah d.p6+ah ([d.p3])) 8) (av (iQ (d.p6++([d.p3]))) λz=>(bp (ax (ah (d.p6++([d.p3]))) (ah z)&&M) (av (ec z) λI=>(bp (ax (ah z) (ah I)&&M) (aB (0,d.p2,d.p4,d.p5.1,I,d.p5.2,d.q7))))))) (bi x.p4 1 (bp (be (ah d.q7+ah ([d.p3])) 8) (av (iQ (d.q7++([d.p3]))) λs=>(bp (ax (ah (d.q7++([d.p3]))) (ah s)&&M) (av (ec s) λF=>(bp (ax (ah s) (ah F)&&M) (aB (0,d.p2,d.p4,d.p5.1,d.p6,d.p5.2,F))))))) U)) (bi x.p3 9 (bi x.p4 0 (av (c8 (d.p6,d.p3)) λD=>(bp (ax (ah d.p6) (ah d.p6)&&M) (aB (0,d.p2,d.p4,d.p5.1,D.2,d.p5.2,d.q7)))) (bi x.p4 1 (av (c8 (d.q7,d.p3)) λA=>(bp (ax (ah d.q7) (ah d.q7)&&M) (aB (0,d.p2,d.p4,d.p5.1,d.p6,d.p5.2,A.2)))) U)) (bi x.p3 12 (aB (0,(d.p3,d.p2.2),d.p4,d.p5.1,d.p6,d.p5.2,d.q7)) (bi x.p3 13 (aB (0,((-1),d.p2.2),d.p4,d.p5.1,d.p6,d.p5.2,d.q7)) (bi x.p3 14 (mF d.p3 d.p2.2.2 U) (bi x.p3 15 (mF d.p3 d.p2.2.2 U) (bi x.p3 16 U (bi x.p3 17 U (bi x.p3 18 U (bi x.p3 19 U (bi x.p3 20 (mF x.p4 d.p2.2.2 U) (bi x.p3 22 (mF x.p4 d.p2.2.1 U) (aB (0,d.p2,d.p4,d.p5.1,d.p6,d.p5.2,d.q7)))))))))))))))))))) λx3=>(Z (([(x3.p3,x3.p4),x3.q5],x3.2.1),x3.1,M))))))
def iV (x:iG×Int×(θ)×Y dG):J (XQ×(ν)×(η)×(η)×η):=
 (bp (cL 0 (aY x.1)&&cL (aY x.1) (aY x.1)&&be (aP (aY x.1)) 32&&decide (((aY x.1):Int)=3)) (jn (α:=pG×Int×(ν)×(η)×(η)×η) (bx 0 (aY x.1) (bF dl x.1 0 λd=>(av (gf d.2) λs=>(bx 1 (aY x.1) (bF dl x.1 1 λq=>(av (gf q.2) λF=>(bx 2 (aY x.1) (bF dl x.1 2 λD=>(av (gf D.2) λL=>(bx 3 (aY x.1) (bF dl x.1 3 λI=>(av (gf I.2) λy9=>U)) (aB (x,0,(d.1,q.1,D.1),s,F,L))))) (aB (x,0,(d.1,q.1,0),s,F,([]:η)))))) (aB (x,0,(d.1,0,0),s,([]:η),([]:η)))))) (aB (x,0,(0,0,0),([]:η),([]:η),([]:η)))) λx1=>(av (ze x1.1.p2) λA=>(av (zd x1.1.q3) λz=>(Z ((x1.1.2.1,A,z),x1.2.2))))))
def eO (x:eX×pG×Int×Int×Int×Int):J (pG×Int×Bool):=
 (av (eg (x.1,x.2.1,x.p2,x.p3,x.p4)) λy1=>(aE (!y1) (Z ((([]:Y (Int×η)),0,([]:θ),([]:Y dG)),0,aa)) (av (iV x.2.1) λs=>(jn (α:=Int×XQ×Int×Int×(η)×Int×(η)×Int×η) (bi x.p3 1 (mF x.p2 s.1.2.2 U) (bi x.p3 2 (mF x.p2 s.1.2.2 U) (jn (α:=Bool×eX×XQ×Int×Int×(ν)×(η)×(η)×η) (bi x.p3 6 (aB ((decide ((x.p3:Int)=6)),x.1,s.1,x.p2,0,s.2)) (aB ((decide ((x.p3:Int)=10)),x.1,s.1,x.p2,0,s.2))) λx4=>(aE x4.1 U (jn (bi x.p3 7 (aB ((decide ((x.p3:Int)=7)),x4.2)) (aB ((decide ((x.p3:Int)=11)),x4.2))) λd=>(aE d.1 U (bi x.p3 8 (bi x.p4 0 (bp (be (ah d.p6+ah ([d.p3])) 8) (av (iQ (d.p6++([d.p3]))) λD=>(bp (ax (ah (d.p6++([d.p3]))) (ah D)&&M) (av (ec D) λy7=>(bp (ax (ah D) (ah y7)&&M) (aB (0,d.p2,d.p4,d.p5.1,y7,d.p5.2.1,d.p7,d.p5.2.2,d.q8))))))) (bi x.p4 1 (bp (be (ah d.p7+ah ([d.p3])) 8) (av (iQ (d.p7++([d.p3]))) λA=>(bp (ax (ah (d.p7++([d.p3]))) (ah A)&&M) (av (ec A) λy9=>(bp (ax (ah A) (ah y9)&&M) (aB (0,d.p2,d.p4,d.p5.1,d.p6,d.p5.2.1,y9,d.p5.2.2,d.q8))))))) (bi x.p4 2 (bp (be (ah d.q8+ah ([d.p3])) 8) (av (iQ (d.q8++([d.p3]))) λq=>(bp (ax (ah (d.q8++([d.p3]))) (ah q)&&M) (av (ec q) λz=>(bp (ax (ah q) (ah z)&&M) (aB (0,d.p2,d.p4,d.p5.1,d.p6,d.p5.2.1,d.p7,d.p5.2.2,z))))))) U))) (bi x.p3 9 (bi x.p4 0 (av (c8 (d.p6,d.p3)) λL=>(bp (ax (ah d.p6) (ah d.p6)&&M) (aB (0,d.p2,d.p4,d.p5.1,L.2,d.p5.2.1,d.p7,d.p5.2.2,d.q8)))) (bi x.p4 1 (av (c8 (d.p7,d.p3)) λI=>(bp (ax (ah d.p7) (ah d.p7)&&M) (aB (0,d.p2,d.p4,d.p5.1,d.p6,d.p5.2.1,I.2,d.p5.2.2,d.q8)))) (bi x.p4 2 (av (c8 (d.q8,d.p3)) λF=>(bp (ax (ah d.q8) (ah d.q8)&&M) (aB (0,d.p2,d.p4,d.p5.1,d.p6,d.p5.2.1,d.p7,d.p5.2.2,F.2)))) U))) (bi x.p3 12 (aB (0,(d.p3,d.p2.2),d.p4,d.p5.1,d.p6,d.p5.2.1,d.p7,d.p5.2.2,d.q8)) (bi x.p3 13 (aB (0,((-1),d.p2.2),d.p4,d.p5.1,d.p6,d.p5.2.1,d.p7,d.p5.2.2,d.q8)) (bi x.p3 14 (mF d.p3 d.p2.2.2 U) (bi x.p3 15 (mF d.p3 d.p2.2.2 U) (bi x.p3 16 U (bi x.p3 17 U (bi x.p3 18 U (bi x.p3 19 U (bi x.p3 20 (mF x.p4 d.p2.2.2 U) (bi x.p3 22 (mF x.p4 d.p2.2.1 U) (aB (0,d.p2,d.p4,d.p5.1,d.p6,d.p5.2.1,d.p7,d.p5.2.2,d.q8)))))))))))))))))))) λx3=>(Z (([(x3.p3,x3.p4),(x3.p5,x3.p6),x3.q7],x3.2.1),x3.1,M))))))
def lY (x:iG×Int×(θ)×Y dG):J (XQ×(π)×(η)×(η)×(η)×η):=
 (bp (cL 0 (aY x.1)&&cL (aY x.1) (aY x.1)&&be (aP (aY x.1)) 32&&decide (((aY x.1):Int)=4)) (jn (α:=pG×Int×(π)×(η)×(η)×(η)×η) (bx 0 (aY x.1) (bF dl x.1 0 λd=>(av (gf d.2) λs=>(bx 1 (aY x.1) (bF dl x.1 1 λq=>(av (gf q.2) λD=>(bx 2 (aY x.1) (bF dl x.1 2 λz=>(av (gf z.2) λy7=>(bx 3 (aY x.1) (bF dl x.1 3 λL=>(av (gf L.2) λy9=>(bx 4 (aY x.1) (bF dl x.1 4 λA=>(av (gf A.2) λy11=>U)) (aB (x,0,(d.1,q.1,z.1,L.1),s,D,y7,y9))))) (aB (x,0,(d.1,q.1,z.1,0),s,D,y7,([]:η)))))) (aB (x,0,(d.1,q.1,0,0),s,D,([]:η),([]:η)))))) (aB (x,0,(d.1,0,0,0),s,([]:η),([]:η),([]:η)))))) (aB (x,0,(0,0,0,0),([]:η),([]:η),([]:η),([]:η)))) λx1=>(av (ze x1.1.p2) λI=>(av (zd x1.1.q3) λF=>(Z ((x1.1.2.1,I,F),x1.2.2))))))
def f_ (x:eX×pG×Int×Int×Int×Int):J (pG×Int×Bool):=
 (av (eg (x.1,x.2.1,x.p2,x.p3,x.p4)) λy1=>(aE (!y1) (Z ((([]:Y (Int×η)),0,([]:θ),([]:Y dG)),0,aa)) (av (lY x.2.1) λz=>(jn (α:=Int×XQ×Int×Int×(η)×Int×(η)×Int×(η)×Int×η) (bi x.p3 1 (mF x.p2 z.1.2.2 U) (bi x.p3 2 (mF x.p2 z.1.2.2 U) (jn (α:=Bool×eX×XQ×Int×Int×(π)×(η)×(η)×(η)×η) (bi x.p3 6 (aB ((decide ((x.p3:Int)=6)),x.1,z.1,x.p2,0,z.2)) (aB ((decide ((x.p3:Int)=10)),x.1,z.1,x.p2,0,z.2))) λx4=>(aE x4.1 U (jn (bi x.p3 7 (aB ((decide ((x.p3:Int)=7)),x4.2)) (aB ((decide ((x.p3:Int)=11)),x4.2))) λd=>(aE d.1 U (bi x.p3 8 (bi x.p4 0 (bp (be (ah d.p6+ah ([d.p3])) 8) (av (iQ (d.p6++([d.p3]))) λI=>(bp (ax (ah (d.p6++([d.p3]))) (ah I)&&M) (av (ec I) λy7=>(bp (ax (ah I) (ah y7)&&M) (aB (0,d.p2,d.p4,d.p5.1,y7,d.p5.2.1,d.p7,d.p5.p2,d.p8,d.p5.q3,d.q9))))))) (bi x.p4 1 (bp (be (ah d.p7+ah ([d.p3])) 8) (av (iQ (d.p7++([d.p3]))) λF=>(bp (ax (ah (d.p7++([d.p3]))) (ah F)&&M) (av (ec F) λy9=>(bp (ax (ah F) (ah y9)&&M) (aB (0,d.p2,d.p4,d.p5.1,d.p6,d.p5.2.1,y9,d.p5.p2,d.p8,d.p5.q3,d.q9))))))) (bi x.p4 2 (bp (be (ah d.p8+ah ([d.p3])) 8) (av (iQ (d.p8++([d.p3]))) λs=>(bp (ax (ah (d.p8++([d.p3]))) (ah s)&&M) (av (ec s) λD=>(bp (ax (ah s) (ah D)&&M) (aB (0,d.p2,d.p4,d.p5.1,d.p6,d.p5.2.1,d.p7,d.p5.p2,D,d.p5.q3,d.q9))))))) (bi x.p4 3 (bp (be (ah d.q9+ah ([d.p3])) 8) (av (iQ (d.q9++([d.p3]))) λq=>(bp (ax (ah (d.q9++([d.p3]))) (ah q)&&M) (av (ec q) λA=>(bp (ax (ah q) (ah A)&&M) (aB (0,d.p2,d.p4,d.p5.1,d.p6,d.p5.2.1,d.p7,d.p5.p2,d.p8,d.p5.q3,A))))))) U)))) (bi x.p3 9 (bi x.p4 0 (av (c8 (d.p6,d.p3)) λy14=>(bp (ax (ah d.p6) (ah d.p6)&&M) (aB (0,d.p2,d.p4,d.p5.1,y14.2,d.p5.2.1,d.p7,d.p5.p2,d.p8,d.p5.q3,d.q9)))) (bi x.p4 1 (av (c8 (d.p7,d.p3)) λy15=>(bp (ax (ah d.p7) (ah d.p7)&&M) (aB (0,d.p2,d.p4,d.p5.1,d.p6,d.p5.2.1,y15.2,d.p5.p2,d.p8,d.p5.q3,d.q9)))) (bi x.p4 2 (av (c8 (d.p8,d.p3)) λy16=>(bp (ax (ah d.p8) (ah d.p8)&&M) (aB (0,d.p2,d.p4,d.p5.1,d.p6,d.p5.2.1,d.p7,d.p5.p2,y16.2,d.p5.q3,d.q9)))) (bi x.p4 3 (av (c8 (d.q9,d.p3)) λL=>(bp (ax (ah d.q9) (ah d.q9)&&M) (aB (0,d.p2,d.p4,d.p5.1,d.p6,d.p5.2.1,d.p7,d.p5.p2,d.p8,d.p5.q3,L.2)))) U)))) (bi x.p3 12 (aB (0,(d.p3,d.p2.2),d.p4,d.p5.1,d.p6,d.p5.2.1,d.p7,d.p5.p2,d.p8,d.p5.q3,d.q9)) (bi x.p3 13 (aB (0,((-1),d.p2.2),d.p4,d.p5.1,d.p6,d.p5.2.1,d.p7,d.p5.p2,d.p8,d.p5.q3,d.q9)) (bi x.p3 14 (mF d.p3 d.p2.2.2 U) (bi x.p3 15 (mF d.p3 d.p2.2.2 U) (bi x.p3 16 U (bi x.p3 17 U (bi x.p3 18 U (bi x.p3 19 U (bi x.p3 20 (mF x.p4 d.p2.2.2 U) (bi x.p3 22 (mF x.p4 d.p2.2.1 U) (aB (0,d.p2,d.p4,d.p5.1,d.p6,d.p5.2.1,d.p7,d.p5.p2,d.p8,d.p5.q3,d.q9)))))))))))))))))))) λx3=>(Z (([(x3.p3,x3.p4),(x3.p5,x3.p6),(x3.p7,x3.p8),x3.q9],x3.2.1),x3.1,M))))))
def ry (x:eX×pG×Int×Int×Int×Int):J (pG×Int×Bool):=orE (gJ x) (orE (gd x) (orE (fe x) (orE (eO x) (f_ x))))
def dR (x:eX×fP×Int×Int×Int×Int×Int×(η)×η):J (fP×Bool):=
 (jn (α:=Bool×eX×fP×jN×Int) (av (ia (x.1,x.2.1)) λy2=>(aE (!y2) (aB (M,x.1,x.2.1,x.2.2,0)) (bx x.p2 0 (aB (M,x.1,x.2.1,x.2.2,0)) (ja (aY x.1.p4) x.p2 (aB (M,x.1,x.2.1,x.2.2,0)) (bx x.p3 1 (aB (M,x.1,x.2.1,x.2.2,0)) (aB ((fI 23 x.p3),x.1,x.2.1,x.2.2,0))))))) λx1=>(aE x1.1 (Z (((([]:Y (Int×η)),0,([]:θ),([]:Y dG)),([]:η),([]:η),([]:η)),aa)) (jn (av (eg (x1.2.1,x1.p2.1,x1.p3.1,x1.p3.2.1,x1.p3.p2)) λy4=>(aE (!y4) (aB (M,x1.2)) (av (gm (x1.2.1,x1.p3)) λy5=>(aE (!y5) (aB (M,x1.2)) (av (dw (x1.2.1,x1.p2,x1.p3)) λL=>(aE (!L) (aB (M,x1.2)) (av (eI (x1.p2,x1.p3)) λI=>(aB ((!I),x1.2))))))))) λx3=>(aE x3.1 (Z (((([]:Y (Int×η)),0,([]:θ),([]:Y dG)),([]:η),([]:η),([]:η)),aa)) (jn (α:=Int×eX×fP×jN×Int) (bi x3.p3.2.1 18 (aB (x3.p3.p3,x3.2)) (aB ((-1),x3.2))) λd=>(av (ry (d.2.1,d.p2.1,d.p3.1,d.p3.2.1,d.p3.p2,d.1)) λD=>(aE (!D.2.2) (Z (((([]:Y (Int×η)),0,([]:θ),([]:Y dG)),([]:η),([]:η),([]:η)),aa)) (av (xY d.p2.2.1) λz=>(av (xY d.p2.p2) λs=>(av (gf d.p2.q3) λA=>(jn (bi d.p3.2.1 4 (ck (fm d.p3.p2 (ah z)) (aB (d.p3,d.q4,D.1,(cJ z d.p3.p2 d.p3.p3),s,A))) (bi d.p3.2.1 22 (ck (fm d.p3.p2 (ah s)) (aB (d.p3,d.q4,D.1,z,(cJ s d.p3.p2 d.p3.p3),A))) (aB (d.p3,d.q4,D.1,z,s,A)))) λq=>(kF aM q.q5 q.1.1 λF=>(ck (fm q.1.1 (ah q.q5)) (Z ((q.p2,q.p3,q.p4,(cJ q.q5 q.1.1 (ct F))),M)))))))))))))))
def lK (it:yN) (x:eX×Y jN):J Γ:=
 (bx 400 (aY x.2) (Z (0,2)) (av (dv x.1) λF=>(aE (!F) (Z (0,1)) (av (eA x.1) λD=>(bp (cL 0 (aY x.1.p4)&&cL (aY x.1.p4) (aY x.1.p4)&&be (aP (aY x.1.p4)) 24&&decide (((aY x.1.p4):Int)=1)) (it (Int×(eX×Y jN)×fP×θ) _ (λx3=>(bx x3.1 (aY x.2) (bF fZ x.2 x3.1 λq=>(av (dR (x3.2.1.1,x3.p2,q)) λs=>(jn (α:=Bool×(eX×Y jN)×fP×jN×fP×θ) (aE s.2 (bi q.1 0 (av (bR (x3.q3,0,q.2)) λA=>(aB ((!A),x3.2.1,x3.p2,(0,q.2),s.1,x3.q3))) U) (aB (M,x3.2.1,x3.p2,q,s.1,x3.q3))) λd=>(aE d.1 (aB (x3.1,12)) (jn (α:=(eX×Y jN)×fP×fP×θ) (bi d.p3.1 0 (bi d.p3.2.1 3 (bp (be (ah d.q5+ah ([M])) 1) (aB (d.2.1,d.p2,d.p4,(d.q5++([M]))))) (bp (be (ah d.q5+ah ([(decide ((d.p3.2.1:Int)=23))])) 1) (aB (d.2.1,d.p2,d.p4,(d.q5++([(decide ((d.p3.2.1:Int)=23))])))))) U) λz=>(cH ((ct x3.1),z.1,z.2.2))))))) (aB (0,0)))) (0,x,D,([]:θ))))))))
def o8 (x:eX×Y jN):J Γ:=lK @iter x
def dX (x:eX×Y jN):J Γ:=lK @fX x
def jK (it:yN) (x:eX×Y jN):J Γ:=
 (bx 400 (aY x.2) (Z (0,2)) (av (dv x.1) λI=>(aE (!I) (Z (0,1)) (av (eA x.1) λF=>(bp (cL 0 (aY x.1.p4)&&cL (aY x.1.p4) (aY x.1.p4)&&be (aP (aY x.1.p4)) 24&&decide (((aY x.1.p4):Int)=2)) (it (Int×(eX×Y jN)×fP×(θ)×θ) _ (λx3=>(bx x3.1 (aY x.2) (bF fZ x.2 x3.1 λq=>(av (dR (x3.2.1.1,x3.p2,q)) λs=>(jn (α:=Bool×(eX×Y jN)×fP×jN×fP×(θ)×θ) (aE s.2 (bi q.1 0 (av (bR (x3.p3,0,q.2)) λD=>(aB ((!D),x3.2.1,x3.p2,(0,q.2),s.1,x3.q3))) (bi q.1 1 (av (bR (x3.q4,1,q.2)) λA=>(aB ((!A),x3.2.1,x3.p2,(1,q.2),s.1,x3.q3))) U)) (aB (M,x3.2.1,x3.p2,q,s.1,x3.q3))) λd=>(aE d.1 (aB (x3.1,12)) (jn (α:=(eX×Y jN)×fP×fP×(θ)×θ) (bi d.p3.1 0 (bi d.p3.2.1 3 (bp (be (ah d.p5+ah ([M])) 1) (aB (d.2.1,d.p2,d.p4,(d.p5++([M])),d.q6))) (bp (be (ah d.p5+ah ([(decide ((d.p3.2.1:Int)=23))])) 1) (aB (d.2.1,d.p2,d.p4,(d.p5++([(decide ((d.p3.2.1:Int)=23))])),d.q6)))) (bi d.p3.1 1 (bi d.p3.2.1 3 (bp (be (ah d.q6+ah ([M])) 1) (aB (d.2.1,d.p2,d.p4,d.p5,(d.q6++([M]))))) (bp (be (ah d.q6+ah ([(decide ((d.p3.2.1:Int)=23))])) 1) (aB (d.2.1,d.p2,d.p4,d.p5,(d.q6++([(decide ((d.p3.2.1:Int)=23))])))))) U)) λz=>(cH ((ct x3.1),z.1,z.2.2))))))) (aB (0,0)))) (0,x,F,([]:θ),([]:θ))))))))
def o7 (x:eX×Y jN):J Γ:=jK @iter x
def dj (x:eX×Y jN):J Γ:=jK @fX x
def jJ (it:yN) (x:eX×Y jN):J Γ:=
 (bx 400 (aY x.2) (Z (0,2)) (av (dv x.1) λL=>(aE (!L) (Z (0,1)) (av (eA x.1) λI=>(bp (cL 0 (aY x.1.p4)&&cL (aY x.1.p4) (aY x.1.p4)&&be (aP (aY x.1.p4)) 24&&decide (((aY x.1.p4):Int)=3)) (it (Int×(eX×Y jN)×fP×(θ)×(θ)×θ) _ (λx3=>(bx x3.1 (aY x.2) (bF fZ x.2 x3.1 λq=>(av (dR (x3.2.1.1,x3.p2,q)) λs=>(jn (α:=Bool×(eX×Y jN)×fP×jN×fP×(θ)×(θ)×θ) (aE s.2 (bi q.1 0 (av (bR (x3.p3,0,q.2)) λF=>(aB ((!F),x3.2.1,x3.p2,(0,q.2),s.1,x3.q3))) (bi q.1 1 (av (bR (x3.p4,1,q.2)) λD=>(aB ((!D),x3.2.1,x3.p2,(1,q.2),s.1,x3.q3))) (bi q.1 2 (av (bR (x3.q5,2,q.2)) λA=>(aB ((!A),x3.2.1,x3.p2,(2,q.2),s.1,x3.q3))) U))) (aB (M,x3.2.1,x3.p2,q,s.1,x3.q3))) λd=>(aE d.1 (aB (x3.1,12)) (jn (α:=(eX×Y jN)×fP×fP×(θ)×(θ)×θ) (bi d.p3.1 0 (bi d.p3.2.1 3 (bp (be (ah d.p5+ah ([M])) 1) (aB (d.2.1,d.p2,d.p4,(d.p5++([M])),d.q6))) (bp (be (ah d.p5+ah ([(decide ((d.p3.2.1:Int)=23))])) 1) (aB (d.2.1,d.p2,d.p4,(d.p5++([(decide ((d.p3.2.1:Int)=23))])),d.q6)))) (bi d.p3.1 1 (bi d.p3.2.1 3 (bp (be (ah d.p6+ah ([M])) 1) (aB (d.2.1,d.p2,d.p4,d.p5,(d.p6++([M])),d.q7))) (bp (be (ah d.p6+ah ([(decide ((d.p3.2.1:Int)=23))])) 1) (aB (d.2.1,d.p2,d.p4,d.p5,(d.p6++([(decide ((d.p3.2.1:Int)=23))])),d.q7)))) (bi d.p3.1 2 (bi d.p3.2.1 3 (bp (be (ah d.q7+ah ([M])) 1) (aB (d.2.1,d.p2,d.p4,d.p5,d.p6,(d.q7++([M]))))) (bp (be (ah d.q7+ah ([(decide ((d.p3.2.1:Int)=23))])) 1) (aB (d.2.1,d.p2,d.p4,d.p5,d.p6,(d.q7++([(decide ((d.p3.2.1:Int)=23))])))))) U))) λz=>(cH ((ct x3.1),z.1,z.2.2))))))) (aB (0,0)))) (0,x,I,([]:θ),([]:θ),([]:θ))))))))
def o6 (x:eX×Y jN):J Γ:=jJ @iter x
def dE (x:eX×Y jN):J Γ:=jJ @fX x
def gp (it:yN) (x:eX×Y jN):J Γ:=
 (bx 400 (aY x.2) (Z (0,2)) (av (dv x.1) λy1=>(aE (!y1) (Z (0,1)) (av (eA x.1) λL=>(bp (cL 0 (aY x.1.p4)&&cL (aY x.1.p4) (aY x.1.p4)&&be (aP (aY x.1.p4)) 24&&decide (((aY x.1.p4):Int)=4)) (it (Int×(eX×Y jN)×fP×(θ)×(θ)×(θ)×θ) _ (λx3=>(bx x3.1 (aY x.2) (bF fZ x.2 x3.1 λq=>(av (dR (x3.2.1.1,x3.p2,q)) λs=>(jn (α:=Bool×(eX×Y jN)×fP×jN×fP×(θ)×(θ)×(θ)×θ) (aE s.2 (bi q.1 0 (av (bR (x3.p3,0,q.2)) λI=>(aB ((!I),x3.2.1,x3.p2,(0,q.2),s.1,x3.q3))) (bi q.1 1 (av (bR (x3.p4,1,q.2)) λF=>(aB ((!F),x3.2.1,x3.p2,(1,q.2),s.1,x3.q3))) (bi q.1 2 (av (bR (x3.p5,2,q.2)) λD=>(aB ((!D),x3.2.1,x3.p2,(2,q.2),s.1,x3.q3))) (bi q.1 3 (av (bR (x3.q6,3,q.2)) λA=>(aB ((!A),x3.2.1,x3.p2,(3,q.2),s.1,x3.q3))) U)))) (aB (M,x3.2.1,x3.p2,q,s.1,x3.q3))) λd=>(aE d.1 (aB (x3.1,12)) (jn (α:=(eX×Y jN)×fP×fP×(θ)×(θ)×(θ)×θ) (bi d.p3.1 0 (bi d.p3.2.1 3 (bp (be (ah d.p5+ah ([M])) 1) (aB (d.2.1,d.p2,d.p4,(d.p5++([M])),d.q6))) (bp (be (ah d.p5+ah ([(decide ((d.p3.2.1:Int)=23))])) 1) (aB (d.2.1,d.p2,d.p4,(d.p5++([(decide ((d.p3.2.1:Int)=23))])),d.q6)))) (bi d.p3.1 1 (bi d.p3.2.1 3 (bp (be (ah d.p6+ah ([M])) 1) (aB (d.2.1,d.p2,d.p4,d.p5,(d.p6++([M])),d.q7))) (bp (be (ah d.p6+ah ([(decide ((d.p3.2.1:Int)=23))])) 1) (aB (d.2.1,d.p2,d.p4,d.p5,(d.p6++([(decide ((d.p3.2.1:Int)=23))])),d.q7)))) (bi d.p3.1 2 (bi d.p3.2.1 3 (bp (be (ah d.p7+ah ([M])) 1) (aB (d.2.1,d.p2,d.p4,d.p5,d.p6,(d.p7++([M])),d.q8))) (bp (be (ah d.p7+ah ([(decide ((d.p3.2.1:Int)=23))])) 1) (aB (d.2.1,d.p2,d.p4,d.p5,d.p6,(d.p7++([(decide ((d.p3.2.1:Int)=23))])),d.q8)))) (bi d.p3.1 3 (bi d.p3.2.1 3 (bp (be (ah d.q8+ah ([M])) 1) (aB (d.2.1,d.p2,d.p4,d.p5,d.p6,d.p7,(d.q8++([M]))))) (bp (be (ah d.q8+ah ([(decide ((d.p3.2.1:Int)=23))])) 1) (aB (d.2.1,d.p2,d.p4,d.p5,d.p6,d.p7,(d.q8++([(decide ((d.p3.2.1:Int)=23))])))))) U)))) λz=>(cH ((ct x3.1),z.1,z.2.2))))))) (aB (0,0)))) (0,x,L,([]:θ),([]:θ),([]:θ),([]:θ))))))))
def oZ (x:eX×Y jN):J Γ:=gp @iter x
def cS (x:eX×Y jN):J Γ:=gp @fX x
def kc (x:eX×Y jN):J Γ:=orE (cS x) (orE (dE x) (orE (dj x) (dX x)))
def tK (it:yN) (x:eX×Y jN):J ((Y η)×Int):=
 (av (kc x) λz=>(iA z.2 0 (Z (([]:Y η),12)) (av (py x.1) λs=>(bp (cL 0 (aY x.2)&&cL (aY x.2) (aY x.2)&&be (aP (aY x.2)) 24) (it (Int×(eX×Y jN)×Yd0×Y η) _ (λx3=>(bx x3.1 (aY x.2) (bF fZ x.2 x3.1 λq=>(av (rU (x3.2.1.1,x3.p2,q)) λd=>(ck (fm x3.1 (ah x3.q3)) (cH ((ct x3.1),x3.2.1,d.1,(cJ x3.q3 x3.1 d.2)))))) (aB (x3.q3,0)))) (0,x,s,(aA (aP (aY x.2)) ([]:η))))))))
def AG (x:eX×Y jN):J ((Y η)×Int):=tK @iter x
def jF (x:eX×Y jN):J ((Y η)×Int):=tK @fX x
def vx (it:yN) (x:eX×Y jN):J (Yd6×Int):=
 (av (jF x) λs=>(iA s.2 0 (Z (([]:Y Γ),s.2)) (av (m7 x.2) λF=>(it (Int×(eX×Y jN)×Y Γ) _ (λx3=>(bx x3.1 (aY x.2) (it (Int×(eX×Y jN)×Y Γ) _ (λx4=>(bx x4.1 x3.1 (jn (α:=(eX×Y jN)×Y Γ) (jn (av (qb (x4.2.1,x4.1,x3.1)) λD=>(aE D (bF (.sl aM) s.1 x3.1 λA=>(bF ij F x4.1 λz=>(av (md (A,z)) λq=>(aB ((!q),x4.2))))) (aB (aa,x4.2)))) λd=>(aE d.1 (bp (be (ah d.2.2+ah ([(x4.1,x3.1)])) 16) (aB (d.2.1,(d.2.2++([(x4.1,x3.1)]))))) (aB d.2))) λI=>(cH ((ct x4.1),I))) (aB (nk ((ct x3.1),x4.2))))) (0,x3.2)) (aB (x3.2.2,0)))) (0,x,([]:Y Γ))))))
def Dj (x:eX×Y jN):J (Yd6×Int):=vx @iter x
def kU (x:eX×Y jN):J (Yd6×Int):=vx @fX x
def Nm (it:yN) (x:Unit):J eX:=
 (it Yd4 _ (λx1=>(bx x1.1 (aT (ah ([[109,97,105,110],[116,49],[116,50],[116,51]]))) (it Yd4 _ (λx2=>(bx x2.1 6 (bp (be (ah x2.q6+ah ([(x1.1,x2.1,(aZ .i64 ((aZ .i64 ((aZ .i64 (10*x1.1))+x2.1))+1)))])) 24) (cH ((ct x2.1),x2.2.1,x2.p2,x2.p3,x2.p4,x2.p5,(x2.q6++([(x1.1,x2.1,(aZ .i64 ((aZ .i64 ((aZ .i64 (10*x1.1))+x2.1))+1)))]))))) (aB (nk ((ct x1.1),x2.2))))) (0,x1.2)) (aB x1.2))) (0,[([120],0,0,aa,0),([121],0,0,aa,1),([118],0,0,M,0),([113],0,2,aa,0),([113],1,2,aa,0)],[([109],aa),([110],aa),([114],M)],[([99],0)],[[102]],[[109,97,105,110],[116,49],[116,50],[116,51]],([]:Y ν)))
def MY (x:Unit):J eX:=Nm @iter x
def BN (x:Unit):J eX:=Nm @fX x
def wi (x:Bool):J (eX×Y jN):=
 (av (BN ()) λd=>(jn (α:=eX×Y jN) (aE x (kF fZ ([(0,1,(-1),0,(-1),([]:η),([]:η)),(0,20,1,0,0,([]:η),([]:η)),(1,1,(-1),0,(-1),([]:η),([]:η)),(0,6,0,0,0,([]:η),([]:η)),(0,4,0,1,0,([]:η),([]:η)),(0,7,0,0,0,([]:η),([]:η)),(1,6,0,0,6,([]:η),([]:η)),(1,4,0,2,6,([]:η),([]:η))]) 0 λF=>(kF fZ ([(0,1,(-1),0,(-1),([]:η),([]:η)),(0,20,1,0,0,([]:η),([]:η)),(1,1,(-1),0,(-1),([]:η),([]:η)),(0,6,0,0,0,([]:η),([]:η)),(0,4,0,1,0,([]:η),([]:η)),(0,7,0,0,0,([]:η),([]:η)),(1,6,0,0,6,([]:η),([]:η)),(1,4,0,2,6,([]:η),([]:η))]) 1 λD=>(kF fZ ([(0,1,(-1),0,(-1),([]:η),([]:η)),(0,20,1,0,0,([]:η),([]:η)),(1,1,(-1),0,(-1),([]:η),([]:η)),(0,6,0,0,0,([]:η),([]:η)),(0,4,0,1,0,([]:η),([]:η)),(0,7,0,0,0,([]:η),([]:η)),(1,6,0,0,6,([]:η),([]:η)),(1,4,0,2,6,([]:η),([]:η))]) 2 λA=>(kF fZ ([(0,1,(-1),0,(-1),([]:η),([]:η)),(0,20,1,0,0,([]:η),([]:η)),(1,1,(-1),0,(-1),([]:η),([]:η)),(0,6,0,0,0,([]:η),([]:η)),(0,4,0,1,0,([]:η),([]:η)),(0,7,0,0,0,([]:η),([]:η)),(1,6,0,0,6,([]:η),([]:η)),(1,4,0,2,6,([]:η),([]:η))]) 6 λz=>(kF fZ ([(0,1,(-1),0,(-1),([]:η),([]:η)),(0,20,1,0,0,([]:η),([]:η)),(1,1,(-1),0,(-1),([]:η),([]:η)),(0,6,0,0,0,([]:η),([]:η)),(0,4,0,1,0,([]:η),([]:η)),(0,7,0,0,0,([]:η),([]:η)),(1,6,0,0,6,([]:η),([]:η)),(1,4,0,2,6,([]:η),([]:η))]) 4 λs=>(kF fZ ([(0,1,(-1),0,(-1),([]:η),([]:η)),(0,20,1,0,0,([]:η),([]:η)),(1,1,(-1),0,(-1),([]:η),([]:η)),(0,6,0,0,0,([]:η),([]:η)),(0,4,0,1,0,([]:η),([]:η)),(0,7,0,0,0,([]:η),([]:η)),(1,6,0,0,6,([]:η),([]:η)),(1,4,0,2,6,([]:η),([]:η))]) 7 λq=>(aB (d,[F,D,A,z,s,q])))))))) (aB (d,[(0,1,(-1),0,(-1),([]:η),([]:η)),(0,20,1,0,0,([]:η),([]:η)),(1,1,(-1),0,(-1),([]:η),([]:η)),(0,6,0,0,0,([]:η),([]:η)),(0,4,0,1,0,([]:η),([]:η)),(0,7,0,0,0,([]:η),([]:η)),(1,6,0,0,6,([]:η),([]:η)),(1,4,0,2,6,([]:η),([]:η))]))) λx2=>(Z x2)))
def qa (x:Unit):J (Bool):=
 (av (wi aa) λA=>(av (kU A) λs=>(av (wi M) λz=>(av (kU z) λd=>(jn (α:=Bool) (bi s.2 0 (bi d.2 0 (bi (aY s.1) 0 (bi (aY d.1) 1 (bF ij d.1 0 λq=>(aB (L2 (.pr aM (.pr aM .un)) (q.1,q.2,()) (4,5,()) !=aa))) (aB aa)) (aB aa)) (aB aa)) (aB aa)) λD=>(Z D))))))
def xE:Nat:=1000000000
def jl (a b:η):η:=(fd (max a.length b.length)).map λi=>lh (a.getD i 0) (b.getD i 0)
theorem zh (a b:η):(jl a b).length=max a.length b.length:=by simp[jl]
theorem Ds (a b:η) (i:Nat):(jl a b).getD i 0=lh (a.getD i 0) (b.getD i 0):=by
 unfold jl;simp only[ay,bf];by_cases h:i<max a.length b.length
 .rw[pK h];rfl
 .rw[bJ (by simp only[jQ];omega),bJ (l:=a) (by omega),bJ (l:=b) (by omega)];rfl
theorem J0 (c:η) (i:Nat):jt (c,(i:Int))=Z (c.getD i 0):=by
 unfold jt bx mF aY aB;simp only[];rw[ye (by omega)];simp only[dZ,mg];by_cases h:i<c.length
 .rw[YN (by simp;omega)];simp only[dZ];rw[cD (c_ h),tL];rfl
 .rw[qE (by simp;omega)];simp only[dJ];rw[ay,bJ (by omega)];rfl
theorem ad9 (a b:η) (s:a.length<=xE) (hb:b.length<=xE):ly (a,b)=Z (jl a b):=by
 unfold xE at s hb;unfold ly ux ck bx bp aY cH aB ct;have hm:max a.length b.length<=1000000000:=by omega
 rw[cD (by simp only[yc];rw[qE (by omega),qE (by omega),vZ (by simp;omega) (by simp;omega)];rfl)];simp only[yc,cV,cK];have:=ya (σ:=Int×η) (R:=η) (max a.length b.length) (by omega) (λi=>((i:Int),(fd (max a.length b.length)).map λk=>if k<i then lh (a.getD k 0) (b.getD k 0) else 0)) (f:=(λx1=>(aE (fI x1.1 (aT (max a.length b.length))) (av (jt (a,x1.1)) λq=>(av (jt (b,x1.1)) λd=>(chk (fm x1.1 (ah x1.2)) λ_=>(chk (fm x1.1 (ah x1.2)) λ_=>(Z (nk ((aZ .i64 (x1.1+1)),(cJ x1.2 x1.1 (lh q d))))))))) (Z (b7 x1.2))))) (r:=jl a b) ?_ ?_
 .refine Eq.trans ?_ this;congr 1;simp only[Int.natCast_zero,vW,dq,aC,As];apply dy<;>simp
 .intro i hi;simp only[];rw[vr (by simp;omega),dJ,J0,J0,dA,dA,cD (c_ (by simpa using hi)),cD (c_ (by simpa using hi)),qI hi (by omega),fV];congr 3;apply dy
  .simp
  .intro k h1 h2;simp only[co,jQ]at h2;simp only[uj,qy,nh];by_cases e:i=k
   .subst e;simp
   .by_cases h:k<i
    .rw[aL e,aU h,aU (by omega)]
    .rw[aL e,aL h,aL (by omega)]
 .simp only[];rw[ye (by simp),dZ];congr 2;unfold jl;apply List.map_congr_left;intro k hk;rw[aU (ng.1 hk)]
theorem Xt (a b:η) (s:a.length<=xE) (hb:b.length<=xE):sN (a,b)=Z (jl a b,b):=by
 unfold xE at s hb;unfold sN G0 ck bx bp aY cH aB ct;have hm:max a.length b.length<=1000000000:=by omega
 rw[cD (by simp only[yc];rw[qE (by omega),qE (by omega),vZ (by simp;omega) (by simp;omega)];rfl)];simp only[yc,cV,cK];have:=ya (σ:=Int×η×η) (R:=η×η) (max a.length b.length) (by omega) (λi=>((i:Int),b,(fd (max a.length b.length)).map λk=>if k<i then lh (a.getD k 0) (b.getD k 0) else 0)) (f:=(λx1=>(aE (fI x1.1 (aT (max a.length b.length))) (av (jt (a,x1.1)) λq=>(av (jt (x1.2.1,x1.1)) λd=>(chk (fm x1.1 (ah x1.2.2)) λ_=>(chk (fm x1.1 (ah x1.2.2)) λ_=>(Z (nk ((aZ .i64 (x1.1+1)),x1.2.1,(cJ x1.2.2 x1.1 (lh q d))))))))) (Z (b7 (x1.2.2,x1.2.1)))))) (r:=(jl a b,b)) ?_ ?_
 .refine Eq.trans ?_ this;congr 1;simp only[Int.natCast_zero,vW,dq,aC,As];apply dy<;>simp
 .intro i hi;simp only[];rw[vr (by simp;omega),dJ,J0,J0,dA,dA,cD (c_ (by simpa using hi)),cD (c_ (by simpa using hi)),qI hi (by omega),fV];congr 4;apply dy
  .simp
  .intro k h1 h2;simp only[co,jQ]at h2;simp only[uj,qy,nh];by_cases e:i=k
   .subst e;simp
   .by_cases h:k<i
    .rw[aL e,aU h,aU (by omega)]
    .rw[aL e,aL h,aL (by omega)]
 .simp only[];rw[ye (by simp),dZ];congr 3;unfold jl;apply List.map_congr_left;intro k hk;rw[aU (ng.1 hk)]
theorem Rs (a b:η) (d:a.length<=xE) (hb:b.length<=xE):AJ (a,b)=Z (jl a b):=by
 unfold AJ;rw[Xt a b d hb,dA];exact OK rfl _
def tk (c:η) (t:Nat):η:=(c++aA (t+1-c.length) 0).set t (c.getD t 0+1)
theorem Lq (c:η) (t:Nat):(tk c t).length=max c.length (t+1):=by simp[tk];omega
theorem ahq (c:η) (n i:Nat):(c++aA n 0).getD i 0=c.getD i 0:=by
 simp only[ay];by_cases h:i<c.length
 .rw[bT h]
 .rw[b8 (by omega),bJ (l:=c) (by omega),lz];split<;>rfl
theorem Hb (c:η) (t i:Nat):(tk c t).getD i 0=if i=t then c.getD t 0+1 else c.getD i 0:=by
 unfold tk;rw[ay,oH];by_cases h:t=i
 .subst h;rw[aU rfl,aU (by simp;omega),aU rfl];rfl
 .rw[aL h,aL (λe=>h e.symm),<-ay,ahq]
theorem Zf (c:η) (n:Nat) (h:c.length<=n):RN (aA n 0) c=c++aA (n-c.length) 0:=by
 unfold RN;rw[cK,fJ h,List.drop_replicate]
theorem acn (c:η) (t:Nat) (hc:c.length<=xE) (ht:t<4) (h0:0<=c.getD t 0) (h1:c.getD t 0<9223372036854775807):rV (c,(t:Int))=Z (tk c t):=by
 unfold xE at hc;unfold rV ck ja bp aY aB ct;simp only[];rw[qE (by omega),dJ,mg,vr (by omega)];simp only[dJ,mg];have e1:lh (aT c.length) (aZ .i64 ((t:Int)+1))=((max c.length (t+1):Nat):Int):=by
  rw[qI ht (by omega)];exact yc _ _
 rw[e1];rw[cD (by rw[qE (by omega),qE (by omega),vZ (by simp;omega) (by simp;omega)];rfl)];rw[cV];have e2:RN (aA (max c.length (t+1)) (0:Int)) c=c++aA (t+1-c.length) 0:=by
  rw[Zf c _ (by omega)];rw[show max c.length (t+1)-c.length=t+1-c.length from by omega]
 rw[e2];have hl:t<(c++aA (t+1-c.length) (0:Int)).length:=by simp;omega
 rw[cD (c_ hl),cD (c_ hl),mg];have e3:aH (T:=.int .i64) (c++aA (t+1-c.length) (0:Int)) (t:Int)=c.getD t 0:=by
  rw[tL];exact ahq c _ t
 simp only[];rw[e3,vr h1,dJ,cD (c_ hl),cD (c_ hl),cD (c_ hl),cD (c_ hl),mg,adf (by omega) (by omega),fV];rfl
theorem RI (c:η) (hc:c.length<=xE):AK c=Z c:=by
 unfold xE at hc;unfold AK;rw[cD (vZ (by omega) (by omega))]
theorem My (c:η) (hc:c.length<=xE):up c=Z c:=by
 unfold xE at hc;unfold up vm bp;rw[cD (vZ (by simp;omega) (by simp;omega)),dA];exact OK rfl _
theorem Mz (c:η) (hc:c.length<=xE):gf c=Z c:=RI c hc
def GL (l:Y η):Prop:=l.length<=xE/\∀c∈l,c.length<=xE
abbrev HTp:Type:=Y η×Y η×Y η×Y η×Y η×Y η×η×Y η×η
def GH (h:HTp):Prop:=GL h.1/\GL h.2.1/\GL h.2.2.1/\GL h.2.2.2.1/\GL h.2.2.2.2.1/\GL h.2.2.2.2.2.1/\h.2.2.2.2.2.2.1.length<=xE/\GL h.2.2.2.2.2.2.2.1/\h.2.2.2.2.2.2.2.2.length<=xE
theorem Ij {l:Y η} {i:Nat} (h:i<l.length):l.getD i []∈l:=by
 rw[ay,aw h];exact qx h
theorem GL.at {l:Y η} (h:GL l) (i:Nat):(l.getD i []).length<=xE:=by
 by_cases hi:i<l.length
 .exact h.2 _ (Ij hi)
 .rw[ay,bJ (by omega)];simp
theorem WE (g:η->J η) (l:Y η) (hl:l.length<=xE) (hg:∀c∈l,g c=Z c):
 fX (σ:=Int×Y η) (λx1=>(aE (fI x1.1 (aT (ah l))) (chk (fm x1.1 (ah l)) λ_=>(av (g (aH (T:=(.sl (.int .i64))) l x1.1)) λd=>(chk (fm x1.1 (ah x1.2)) λ_=>(chk (fm x1.1 (ah x1.2)) λ_=>(Z (nk ((aZ .i64 (x1.1+1)),(cJ x1.2 x1.1 d)))))))) (Z (b7 x1.2)))) (0,(aA (aP (aT (ah l))) ([]:η)))=Z l:=by
 unfold xE at hl;have:=ya (σ:=Int×Y η) (R:=Y η) l.length (by omega) (λi=>((i:Int),(fd l.length).map λk=>if k<i then l.getD k [] else [])) (f:=(λx1=>(aE (fI x1.1 (aT (ah l))) (chk (fm x1.1 (ah l)) λ_=>(av (g (aH (T:=(.sl (.int .i64))) l x1.1)) λd=>(chk (fm x1.1 (ah x1.2)) λ_=>(chk (fm x1.1 (ah x1.2)) λ_=>(Z (nk ((aZ .i64 (x1.1+1)),(cJ x1.2 x1.1 d)))))))) (Z (b7 x1.2))))) (r:=l) ?_ ?_
 .refine Eq.trans ?_ this;congr 1;simp only[Int.natCast_zero,vW,dq,aC,As,aj,cV];apply dy<;>simp
 .intro i hi;simp only[];rw[vr (by simp;omega),dJ,cD (c_ hi),tL,show (l.getD i (Ty.zero (.sl (.int .i64))))=l.getD i [] from rfl,hg _ (Ij hi),dA,cD (c_ (by simpa using hi)),cD (c_ (by simpa using hi)),qI hi (by omega),fV];congr 3;apply dy
  .simp
  .intro k h1 h2;simp only[co,jQ]at h2;simp only[uj,qy,nh];by_cases e:i=k
   .subst e;simp
   .by_cases h:k<i
    .rw[aL e,aU h,aU (by omega)]
    .rw[aL e,aL h,aL (by omega)]
 .simp only[];rw[ye (by simp),dZ];congr 2;apply dy
  .simp
  .intro k h1 h2;simp only[qy,nh];rw[aU h2,ay,aw h2];rfl
theorem rf (l:Y η) (h:GL l):ie l=Z l:=by
 have hl:=h.1;unfold xE at hl;unfold ie wy ck bx mF bp aY cH aB ct;rw[cD (by rw[qE (by simp),qE (by omega),vZ (by simp;omega) (by simp;omega)];rfl)];exact WE AK l h.1 λc hc=>RI c (h.2 c hc)
theorem WF (h:HTp) (g:GH h):tC h=Z (h.2.2.2.2.2.2.1,h.1,h.2.1,h.2.2.1,h.2.2.2.1,h.2.2.2.2.1,h.2.2.2.2.2.1,h.2.2.2.2.2.2.2.1,h.2.2.2.2.2.2.2.2):=by
 obtain⟨L,I,F,D,A,z,s,q,d⟩:=g;unfold tC aX bh bk bS da ip nl;rw[rf _ L,dA,rf _ I,dA,rf _ F,dA,rf _ D,dA,rf _ A,dA,rf _ z,dA,Mz _ s,dA,rf _ q,dA,Mz _ d,dA]
abbrev C5:Type:=Y (ζ×Int×Int×Bool×Int)×Y (ζ×Bool)×Y (ζ×Int)×Y ζ×Y ζ×Y ν
def h0 (w:C5):HTp:=(aA w.2.2.2.2.1.length [],aA w.2.2.2.2.1.length [],aA w.2.1.length [],aA w.2.1.length [],aA w.1.length [],aA w.2.2.2.1.length [],[],aA w.2.2.2.2.1.length [],aA w.2.2.2.2.1.length (-1))
theorem ZP (w:C5) (h1:w.1.length<=xE) (h2:w.2.1.length<=xE) (h3:w.2.2.2.1.length<=xE) (h4:w.2.2.2.2.1.length<=xE):py w=Z (h0 w):=by
 unfold xE at h1 h2 h3 h4;have c:∀n b:Nat,n<=1000000000->b<=24->(cL 0 (aT n)&&cL (aT n) (aT n)&&be (aP (aT n)) b)=M:=λn b hn hb=>by
  have:n*b<=n*24:=Nat.mul_le_mul_left n hb;rw[qE (by simp),qE (by omega),vZ (by simp;omega) (by simp;omega)];rfl
 unfold py zl aX bh bk bS da ip nl ck bx bp aY cH aB ct;rw[cD (c _ 24 h4 (by omega)),cD (c _ 24 h4 (by omega)),cD (c _ 24 h2 (by omega)),cD (c _ 24 h2 (by omega)),cD (c _ 24 h1 (by omega)),cD (c _ 24 h3 (by omega)),cD (c _ 24 h4 (by omega)),cD (c _ 8 h4 (by omega))];simp only[aj,cV,cK];have:=ya (σ:=Int×(Y η)×(Y η)×(Y η)×(Y η)×(Y η)×(Y η)×(Y η)×η) (R:=HTp) w.2.2.2.2.1.length (by omega) (λi=>((i:Int),aA w.2.2.2.2.1.length [],aA w.2.2.2.2.1.length [],aA w.2.1.length [],aA w.2.1.length [],aA w.1.length [],aA w.2.2.2.1.length [],aA w.2.2.2.2.1.length [],(fd w.2.2.2.2.1.length).map λk=>if k<i then -1 else 0)) (f:=(λx1=>(aE (fI x1.1 (w.2.2.2.2.1.length:Int)) (chk (fm x1.1 (ah x1.2.2.2.2.2.2.2.2)) λ_=>(chk (fm x1.1 (ah x1.2.2.2.2.2.2.2.2)) λ_=>(Z (nk ((aZ .i64 (x1.1+1)),x1.2.1,x1.2.2.1,x1.2.2.2.1,x1.2.2.2.2.1,x1.2.2.2.2.2.1,x1.2.2.2.2.2.2.1,x1.2.2.2.2.2.2.2.1,(cJ x1.2.2.2.2.2.2.2.2 x1.1 (-1))))))) (Z (b7 (x1.2.1,x1.2.2.1,x1.2.2.2.1,x1.2.2.2.2.1,x1.2.2.2.2.2.1,x1.2.2.2.2.2.2.1,([]:η),x1.2.2.2.2.2.2.2.1,x1.2.2.2.2.2.2.2.2)))))) (r:=h0 w) ?_ ?_
 .refine Eq.trans ?_ this;congr 1;simp only[Int.natCast_zero,vW,dq,aC,As];apply dy<;>simp
 .intro i hi;simp only[];rw[vr (by omega),dJ,cD (c_ (by simpa using hi)),cD (c_ (by simpa using hi)),qI hi (by omega),fV];congr 3;simp only[aC,As];apply dy
  .simp
  .intro k h1 h2;simp only[co,jQ]at h2;simp only[uj,qy,nh];by_cases e:i=k
   .subst e;simp
   .by_cases h:k<i
    .rw[aL e,aU h,aU (by omega)]
    .rw[aL e,aL h,aL (by omega)]
 .simp only[];rw[ye (by omega),dZ];unfold h0;congr 3;simp only[aC,As];apply dy
  .simp
  .intro k h1 h2;simp only[cK]at h2;simp only[qy,nh,List.getElem_replicate];rw[aU h2]
theorem yd (x y:Int):lh x y=max x y:=by
 unfold lh;by_cases h:x<y
 .rw[vr h,aU rfl];omega
 .rw[ye (by omega)];simp;omega
theorem VZ {a b:η} (hl:a.length=b.length) (h:∀i,a.getD i 0=b.getD i 0):a=b:=by
 apply dy hl;intro i h1 h2;have:=h i;simpa[ay,aw h1,aw h2] using this
def En (n:Int) (c:η):Prop:=c.length<=4/\∀i,0<=c.getD i 0/\c.getD i 0<=n
theorem En.nil {n:Int} (h:0<=n):En n []:=⟨by simp,λi=>by simp;exact h⟩
theorem En.mono {n m:Int} {c:η} (h:En n c) (hm:n<=m):En m c:=⟨h.1,λi=>⟨(h.2 i).1,eS (h.2 i).2 hm⟩⟩
theorem En.jl {n:Int} {a b:η} (d:En n a) (hb:En n b):En n (jl a b):=⟨by rw[zh];have:=d.1;have:=hb.1;omega,λi=>by
 rw[Ds];obtain⟨h1,h2⟩:=d.2 i;obtain⟨h3,h4⟩:=hb.2 i;unfold lh;split<;>exact⟨by assumption,by assumption⟩⟩
theorem En.tk {n:Int} {c:η} {t:Nat} (h:En n c) (ht:t<4):En (n+1) (tk c t):=⟨by rw[Lq];have:=h.1;omega,λi=>by
 rw[Hb];obtain⟨h1,h2⟩:=h.2 i;obtain⟨h3,h4⟩:=h.2 t;split<;>omega⟩
def Ap (n:Int) (l:Y η):Prop:=∀i,En n (l.getD i [])
theorem Ap.mono {n m:Int} {l:Y η} (h:Ap n l) (hm:n<=m):Ap m l:=λi=>(h i).mono hm
theorem Ap.set {n:Int} {l:Y η} (h:Ap n l) {c:η} (hc:En n c) (j:Nat):Ap n (l.set j c):=λi=>by
 rw[ay,oH];by_cases e:j=i
 .subst e;rw[aU rfl];split
  .exact hc
  .have:=h j;simp only[ay]at this;rename_i hj;rw[bJ (by omega)]at this;exact this
 .rw[aL e,<-ay];exact h i
theorem Ap.repl {n:Int} (h:0<=n) (k:Nat):Ap n (aA k []):=λi=>by
 rw[ay,lz];split<;>exact En.nil h
structure HS where
 T:List η
 S:List η
 L:List η
 R:List η
 C:List η
 F:List η
 X:η
 N:List η
 W:η
def HS.t (h:HS):HTp:=(h.T,h.S,h.L,h.R,h.C,h.F,h.X,h.N,h.W)
structure EV where
 th:Nat
 k:Nat
 ob:Nat
 va:Int
abbrev WTc:=Y (ζ×Int)
def mxP (d:WTc) (o:Nat):Nat:=((d.getD o ([],0)).2).toNat
def XY (d:Y (ζ×Int×Int×Bool×Int)) (o:Nat):Bool:=(d.getD o ([],0,0,aa,0)).2.2.2.1
def Av (w:C5) (h:HS) (e:EV):Y η:=
 if e.k=1 then [h.S.getD e.th []]
 else if e.k=21 then [h.T.getD e.ob []]
 else if e.k=6\/e.k=10 then [h.L.getD e.ob [],h.R.getD e.ob []]
 else if e.k=8 then [h.L.getD e.ob []]
 else if e.k=17 then [h.L.getD (mxP w.2.2.1 e.ob) [],h.R.getD (mxP w.2.2.1 e.ob) [],h.N.getD e.th []]
 else if e.k=3 then [h.C.getD e.ob []]
 else if e.k=23 then [h.F.getD e.ob []]
 else if e.k=12 then [h.X]
 else []
def Jq (w:C5) (h:HS) (e:EV):η:=tk ((Av w h e).foldl jl (h.T.getD e.th [])) e.th
def jat (l:Y η) (i:Nat) (c:η):Y η:=l.set i (jl (l.getD i []) c)
def Bo (p:Nat->Bool) (c:η) (h:HS):HS:={h with N:=h.N.mapIdx λu x=>if p u then c else x,W:=h.W.mapIdx λu x=>if p u then -1 else x}
def ub (w:C5) (h:HS) (e:EV) (c:η):HS:=
 let h:={h with T:=h.T.set e.th c}
 if e.k=20 then {h with S:=h.S.set e.ob c}
 else if e.k=7\/e.k=11 then {h with L:=jat h.L e.ob c}
 else if e.k=9 then {h with R:=jat h.R e.ob c}
 else if e.k=16 then {h with L:=jat h.L (mxP w.2.2.1 e.ob) c,W:=h.W.set e.th e.ob}
 else if e.k=4 then (if XY w.1 e.ob then {h with C:=jat h.C e.ob c} else h)
 else if e.k=22 then {h with F:=jat h.F e.ob c}
 else if e.k=13 then {h with X:=jl h.X c}
 else if e.k=18 then (if 0<=e.va/\e.va<h.N.length then {h with N:=h.N.set e.va.toNat c,W:=h.W.set e.va.toNat (-1)} else h)
 else if e.k=19 then Bo (λu=>decide (h.W.getD u 0=(e.ob:Int))) c h
 else h
def Oz (w:C5) (h:HS) (e:EV):HS×η:=(ub w h e (Jq w h e),Jq w h e)
structure EOK (w:C5) (h:HS) (e:EV):Prop where
 th4:e.th<4
 th:e.th<h.T.length
 k1:1<=e.k
 k2:e.k<=23
 sp:e.k=20\/e.k=21->e.ob<h.T.length
 lk:6<=e.k/\e.k<=11->e.ob<h.L.length
 cd:e.k=16\/e.k=17->e.ob<w.2.2.1.length/\0<=(w.2.2.1.getD e.ob ([],0)).2/\mxP w.2.2.1 e.ob<h.L.length
 ce:e.k=3\/e.k=4->e.ob<h.C.length/\e.ob<w.1.length
 fu:e.k=22\/e.k=23->e.ob<h.F.length
structure Uu (n:Int) (h:HS):Prop where
 n0:0<=n
 n1:n<=1000000
 T:Ap n h.T
 S:Ap n h.S
 L:Ap n h.L
 R:Ap n h.R
 C:Ap n h.C
 F:Ap n h.F
 X:En n h.X
 N:Ap n h.N
 lT:h.T.length<=1000
 lS:h.S.length=h.T.length
 lN:h.N.length=h.T.length
 lW:h.W.length=h.T.length
 lL:h.L.length<=1000
 lR:h.R.length=h.L.length
 lC:h.C.length<=1000
 lF:h.F.length<=1000
theorem En.lb {n:Int} {c:η} (h:En n c):c.length<=xE:=by have:=h.1;unfold xE;omega
theorem Ap.GL {n:Int} {l:Y η} (h:Ap n l) (hl:l.length<=1000):GL l:=⟨by unfold xE;omega,λc hc=>by
 obtain⟨i,hi⟩:=eR hc;have:=(h i).lb
 rwa [ay,hi]at this⟩
theorem Uu.GH {n:Int} {h:HS} (o:Uu n h):GH h.t:=
 ⟨o.T.GL o.lT,o.S.GL (by rw[o.lS];exact o.lT),o.L.GL o.lL,o.R.GL (by rw[o.lR];exact o.lL),o.C.GL o.lC,o.F.GL o.lF,o.X.lb,o.N.GL (by rw[o.lN];exact o.lT),by show h.W.length<=xE;have:=o.lT;rw[o.lW];unfold xE;omega⟩
theorem En.join {n:Int} {a b:η} (d:En n a) (hb:En n b):ly (a,b)=Z (AI.jl a b):=ad9 a b d.lb hb.lb
theorem R5 {n:Int} {w:C5} {h:HS} (o:Uu n h) (e:EV):∀c∈Av w h e,En n c:=by
 intro c hc;unfold Av at hc;repeat' (split at hc)
 all_goals simp only[bu,cA,gE]at hc
 .subst hc;exact o.S _
 .subst hc;exact o.T _
 .rcases hc with rfl|rfl
  .exact o.L _
  .exact o.R _
 .subst hc;exact o.L _
 .rcases hc with rfl|rfl|rfl
  .exact o.L _
  .exact o.R _
  .exact o.N _
 .subst hc;exact o.C _
 .subst hc;exact o.F _
 .subst hc;exact o.X
theorem B_ {n:Int}:∀(l:Y η) (c:η),En n c->(∀x∈l,En n x)->En n (l.foldl jl c)
 |[],_,hc,_=>hc
 |x::r,c,hc,h=>B_ r _ (hc.jl (h x (eo ..))) λy d=>h y (di _ d)
theorem Zj {n:Int} {w:C5} {h:HS} (o:Uu n h) {e:EV} (he:e.th<4):En (n+1) (Jq w h e):=(B_ _ _ (o.T _) (R5 o e)).tk he
theorem Ap.jat {n:Int} {l:Y η} {c:η} (h:Ap n l) (hc:En n c) (i:Nat):Ap n (jat l i c):=h.set ((h i).jl hc) i
theorem Ap.mapIdx {n:Int} {l:Y η} {c:η} (h:Ap n l) (hc:En n c) (p:Nat->Bool):Ap n (l.mapIdx λu x=>if p u then c else x):=λi=>by
 rw[ay,List.getElem?_mapIdx];have:=h i;rw[ay]at this;cases d:l[i]? with
 |none=>rw[d]at this;exact this
 |some x=>
  rw[d]at this;simp only[bU,uh];split
  .exact hc
  .exact this
theorem abu {n:Int} {w:C5} {h:HS} (o:Uu n h) (hn:n+1<=1000000) {e:EV} {c:η} (hc:En (n+1) c):Uu (n+1) (ub w h e c):=by
 have m:n<=n+1:=by omega
 have oT:Ap (n+1) (h.T.set e.th c):=(o.T.mono m).set hc _;have b:Uu (n+1) {h with T:=h.T.set e.th c}:=⟨by have:=o.n0;omega,hn,oT,o.S.mono m,o.L.mono m,o.R.mono m,o.C.mono m,o.F.mono m,o.X.mono m,o.N.mono m,by simpa using o.lT,by simpa using o.lS,by simpa using o.lN,by simpa using o.lW,o.lL,o.lR,o.lC,o.lF⟩
 unfold ub;simp only[];repeat' split
 .exact {b with S:=(o.S.mono m).set hc _,lS:=by simpa using b.lS}
 .exact {b with L:=(o.L.mono m).jat hc _,lL:=by simpa[jat] using b.lL,lR:=by simpa[jat] using b.lR}
 .exact {b with R:=(o.R.mono m).jat hc _,lR:=by simpa[jat] using b.lR}
 .exact {b with L:=(o.L.mono m).jat hc _,lL:=by simpa[jat] using b.lL,lR:=by simpa[jat] using b.lR,lW:=by simpa using b.lW}
 .exact {b with C:=(o.C.mono m).jat hc _,lC:=by simpa[jat] using b.lC}
 .exact b
 .exact {b with F:=(o.F.mono m).jat hc _,lF:=by simpa[jat] using b.lF}
 .exact {b with X:=(o.X.mono m).jl hc}
 .exact {b with N:=(o.N.mono m).set hc _,lN:=by simpa using b.lN,lW:=by simpa using b.lW}
 .exact b
 .exact {b with N:=(o.N.mono m).mapIdx hc _,lN:=by simpa[Bo] using b.lN,lW:=by simpa[Bo] using b.lW}
 .exact b
theorem X8 {n:Int} {w:C5} {h:HS} (o:Uu n h) (hn:n+1<=1000000) {e:EV} (he:e.th<4):Uu (n+1) (Oz w h e).1:=abu o hn (Zj o he)
theorem Zv {a b:Nat} (h:a=b):ax a b=M:=by subst h;exact rk a
theorem P' (l:Y η) (i:Nat) (h:i<l.length):sY ((i:Int),l)=Z (l.getD i [],l):=by
 unfold sY ck bx aY aB;simp only[];rw[ye (by omega)];simp only[dZ,mg];rw[YN (by simp;omega)];simp only[dZ];rw[cD (c_ h),cD (c_ h),q_]
theorem s5 {n:Int} (l:Y η) (i:Nat) (c:η) (h:i<l.length) (hl:Ap n l) (hc:En n c):lJ ((i:Int),l,c)=Z (jat l i c,c):=by
 unfold lJ ck ja aY aB;simp only[];rw[qE (by omega)];simp only[dJ,mg];rw[vr (by simp;omega)];simp only[dJ];rw[cD (c_ h),cD (c_ h),q_,Rs _ _ (hl i).lb hc.lb,dA,cD (c_ h),cD (c_ h),fV];rfl
theorem qY (l:Y η) (i:Nat) (c:η):(jat l i c).length=l.length:=by simp[jat]
theorem UA {n:Int} (h:HS) (u:Nat) (c:η) (h1:u<h.N.length) (h2:u<h.W.length) (hc:En n c):vj ((u:Int),h.X,h.T,h.S,h.L,h.R,h.C,h.F,h.N,h.W,c)=Z (h.X,h.T,h.S,h.L,h.R,h.C,h.F,h.N.set u c,h.W.set u (-1),c):=by
 unfold vj aX bh bk bS da ip ug yR Prod.q10 ck;simp only[];rw[My c hc.lb,dA,cD (c_ h1),cD (c_ h1),cD (c_ h2),cD (c_ h2),fV,fV]
theorem U2 (d:WTc) (i:Nat):aH (T:=.st (.pr .str (.int .i64))) d (i:Int)=d.getD i ([],0):=tL (T:=.st (.pr .str (.int .i64))) d i
theorem abm (d:Y (ζ×Int×Int×Bool×Int)) (i:Nat):aH (T:=.st (.pr .str (.pr (.int .i64) (.pr (.int .i64) (.pr .bool (.int .i64)))))) d (i:Int)=d.getD i ([],0,0,aa,0):=tL (T:=.st (.pr .str (.pr (.int .i64) (.pr (.int .i64) (.pr .bool (.int .i64)))))) d i
abbrev ETp:Type:=Int×Int×Int×Int×Int×η×η
structure EvT (e:EV) (x:ETp):Prop where
 th:x.1=(e.th:Int)
 k:x.2.1=(e.k:Int)
 ob:e.k∈[3,4,6,7,8,9,10,11,16,17,18,19,20,21,22,23]->x.2.2.1=(e.ob:Int)
 va:x.2.2.2.1=e.va
theorem UU {k:Nat} {z:Int} (d:z=(k:Int)) (h1:1<=k) (h2:k<=23):(k=1/\z=1)\/(k=2/\z=2)\/(k=3/\z=3)\/(k=4/\z=4)\/(k=5/\z=5)\/(k=6/\z=6)\/(k=7/\z=7)\/(k=8/\z=8)\/(k=9/\z=9)\/(k=10/\z=10)\/(k=11/\z=11)\/(k=12/\z=12)\/(k=13/\z=13)\/(k=14/\z=14)\/(k=15/\z=15)\/(k=16/\z=16)\/(k=17/\z=17)\/(k=18/\z=18)\/(k=19/\z=19)\/(k=20/\z=20)\/(k=21/\z=21)\/(k=22/\z=22)\/(k=23/\z=23):=by
 have h:k=1\/k=2\/k=3\/k=4\/k=5\/k=6\/k=7\/k=8\/k=9\/k=10\/k=11\/k=12\/k=13\/k=14\/k=15\/k=16\/k=17\/k=18\/k=19\/k=20\/k=21\/k=22\/k=23:=by omega
 subst d;rcases h with rfl|rfl|rfl|rfl|rfl|rfl|rfl|rfl|rfl|rfl|rfl|rfl|rfl|rfl|rfl|rfl|rfl|rfl|rfl|rfl|rfl|rfl|rfl<;>simp
theorem Ud (a:Nat):(ax a a&&M)=M:=by rw[Zv rfl];rfl
theorem ZO {n:Int} {w:C5} {h:HS} (o:Uu n h) {e:EV} (ok:EOK w h e) {x:ETp} (s:EvT e x):tD (x,h.X,w,h.T,h.S,h.L,h.R,h.C,h.F,h.N,h.W)=Z (Av w h e,x,h.X,w,h.T,h.S,h.L,h.R,h.C,h.F,h.N,h.W):=by
 obtain⟨x1,x2,x3,x4,D,A,z⟩:=x;obtain⟨w1,w2,w3,w4,w5,I⟩:=w;obtain⟨th,k,ob,va⟩:=e;obtain⟨q1,q2,q3,q4⟩:=s;simp only at q1 q2 q3 q4;subst q1 q4;have t1:=ok.th;simp only at t1;have fS:fm (th:Int) h.S.length=M:=c_ (by rw[o.lS];exact t1);have fN:fm (th:Int) h.N.length=M:=c_ (by rw[o.lN];exact t1);have fT:k=21->fm (ob:Int) h.T.length=M/\x3=(ob:Int):=λe=>by
  subst e;have:=ok.sp (.inr rfl);exact⟨c_ this,q3 (by decide)⟩
 have fL:(k=6\/k=10\/k=8)->fm (ob:Int) h.L.length=M/\fm (ob:Int) h.R.length=M/\x3=(ob:Int):=λe=>by
  have h1:ob<h.L.length:=ok.lk (by rcases e with rfl|rfl|rfl<;>(simp only[];omega));exact⟨c_ h1,c_ (by rw[o.lR];exact h1),q3 (by rcases e with rfl|rfl|rfl<;>decide)⟩
 have fC:k=3->fm (ob:Int) h.C.length=M/\x3=(ob:Int):=λe=>by
  subst e;have:=(ok.ce (.inl rfl)).1;exact⟨c_ this,q3 (by decide)⟩
 have fF:k=23->fm (ob:Int) h.F.length=M/\x3=(ob:Int):=λe=>by
  subst e;have:=ok.fu (.inr rfl);exact⟨c_ this,q3 (by decide)⟩
 unfold tD Av yS aX bh bk bS da ip ug yR Prod.q10 Prod.q11 cC dI ck bi mF bp aB;rcases UU q2 ok.k1 ok.k2 with ⟨e,e'⟩|⟨e,e'⟩|⟨e,e'⟩|⟨e,e'⟩|⟨e,e'⟩|⟨e,e'⟩|⟨e,e'⟩|⟨e,e'⟩|⟨e,e'⟩|⟨e,e'⟩|⟨e,e'⟩|⟨e,e'⟩|⟨e,e'⟩|⟨e,e'⟩|⟨e,e'⟩|⟨e,e'⟩|⟨e,e'⟩|⟨e,e'⟩|⟨e,e'⟩|⟨e,e'⟩|⟨e,e'⟩|⟨e,e'⟩|⟨e,e'⟩<;>clear q2<;>subst e<;>subst e'
 case inr.inr.inr.inr.inr.inr.inr.inr.inr.inr.inr.inr.inr.inr.inr.inr.inl=>
  have q3:=q3 (by decide);subst q3;obtain⟨d1,d2,d3⟩:=ok.cd (.inr rfl);simp only at d1 d2 d3;have d4:mxP w3 ob<h.R.length:=by rw[o.lR];exact d3
  have e1:(w3.getD ob ([],0)).2=((mxP w3 ob:Nat):Int):=by unfold mxP;omega
  simp only[aN,cZ,dH,dJ,dZ,mg,cD,c_ d1,U2,e1,P' _ _ d3,P' _ _ d4,dA,Ud,fN,q_];rfl
 case inr.inr.inl=>
  obtain⟨d,rfl⟩:=fC rfl;simp only[aN,cZ,dH,dJ,dZ,mg,cD,d,q_];rfl
 case inr.inr.inr.inr.inr.inr.inr.inr.inr.inr.inr.inr.inr.inr.inr.inr.inr.inr.inr.inr.inr.inr=>
  obtain⟨d,rfl⟩:=fF rfl;simp only[aN,cZ,dH,dJ,dZ,mg,cD,d,q_];rfl
 case inr.inr.inr.inr.inr.inr.inr.inr.inr.inr.inr.inr.inr.inr.inr.inr.inr.inr.inr.inr.inl=>
  obtain⟨d,rfl⟩:=fT rfl;simp only[aN,cZ,dH,dJ,dZ,mg,cD,d,q_];rfl
 case inl=>
  simp only[aN,cZ,dH,dJ,dZ,mg,cD,fS,q_];rfl
 case inr.inr.inr.inr.inr.inl=>
  obtain⟨d,q,rfl⟩:=fL (by decide);simp only[aN,cZ,dH,dJ,dZ,mg,cD,d,q,q_];rfl
 case inr.inr.inr.inr.inr.inr.inr.inr.inr.inl=>
  obtain⟨d,q,rfl⟩:=fL (by decide);simp only[aN,cZ,dH,dJ,dZ,mg,cD,d,q,q_];rfl
 case inr.inr.inr.inr.inr.inr.inr.inl=>
  obtain⟨d,q,rfl⟩:=fL (by decide);simp only[aN,cZ,dH,dJ,dZ,mg,cD,d,q,q_];rfl
 all_goals
  simp only[aN,cZ,dH,dJ,dZ,mg];rfl
theorem LO {σ R:Type} {f:σ->J (σ⊕R)} {x0:σ} {r:R} (n:Nat) (hn:n<18446744073709551616) (st:Nat->σ) (d:x0=st 0) (h0:∀i,i<n->f (st i)=Z (.inl (st (i+1)))) (h1:f (st n)=Z (.inr r)):fX f x0=Z r:=by
 subst d;exact ya n hn st h0 h1
def J5 {α:Type} (p:Nat->Bool) (c:α) (u:Nat) (l:Y α):Y α:=l.mapIdx λk x=>if decide (k<u)&&p k then c else x
theorem XV {α:Type} (p:Nat->Bool) (c:α) (l:Y α):J5 p c 0 l=l:=by
 unfold J5;apply dy
 .simp
 .intro i h1 h2;simp
theorem G' {α:Type} (p:Nat->Bool) (c:α) (u:Nat) (l:Y α):(J5 p c u l).length=l.length:=by simp[J5]
theorem Ou {α:Type} (p:Nat->Bool) (c:α) (u:Nat) (l:Y α) (h:l.length<=u):J5 p c u l=l.mapIdx λk x=>if p k then c else x:=by
 unfold J5;apply dy
 .simp
 .intro i h1 h2;simp only[List.length_mapIdx]at h1;simp only[List.getElem_mapIdx];rw[show decide (i<u)=M from bc (by omega)];rfl
theorem Uy {α:Type} (p:Nat->Bool) (c:α) (u:Nat) (l:Y α) (hp:p u=M):(J5 p c u l).set u c=J5 p c (u+1) l:=by
 unfold J5;apply dy
 .simp
 .intro i h1 h2;simp only[uj,List.getElem_mapIdx];by_cases e:u=i
  .subst e;simp[hp]
  .rw[aL e];by_cases h:i<u
   .rw[bc h,bc (show i<u+1 by omega)]
   .rw[bD h,bD (show ¬i<u+1 by omega)]
theorem Ot {α:Type} (p:Nat->Bool) (c:α) (u:Nat) (l:Y α) (hp:p u=aa):J5 p c u l=J5 p c (u+1) l:=by
 unfold J5;apply dy
 .simp
 .intro i h1 h2;simp only[List.getElem_mapIdx];by_cases e:u=i
  .subst e;simp[hp]
  .by_cases h:i<u
   .rw[bc h,bc (show i<u+1 by omega)]
   .rw[bD h,bD (show ¬i<u+1 by omega)]
theorem aek (p:Nat->Bool) (c:Int) (u:Nat) (l:η):(J5 p c u l).getD u 0=l.getD u 0:=by
 unfold J5;rw[ay,List.getElem?_mapIdx,ay];cases l[u]? with
 |none=>rfl
 |some x=>simp
def HS.e (h:HS) (c:η):η×Y η×Y η×Y η×Y η×Y η×Y η×Y η×η×η:=(h.X,h.T,h.S,h.L,h.R,h.C,h.F,h.N,h.W,c)
theorem Za {n:Int} {w:C5} {h:HS} (o:Uu n h) (hn:n+1<=1000000) {e:EV} (ok:EOK w h e) {x:ETp} (hx:EvT e x) {c:η} (hc:En (n+1) c):qU ((w,x),h.e c)=Z ((ub w h e c).e c):=by
 obtain⟨x1,x2,x3,x4,x5,x6,I⟩:=x;obtain⟨w1,w2,w3,w4,A,z⟩:=w;obtain⟨th,k,ob,va⟩:=e;obtain⟨q1,q2,q3,q4⟩:=hx;simp only at q1 q2 q3 q4;subst q1 q4;have t1:=ok.th;simp only at t1;have m:n<=n+1:=by omega
 have fT:fm (th:Int) h.T.length=M:=c_ t1;have fW:fm (th:Int) h.W.length=M:=c_ (by rw[o.lW];exact t1);have d:=My c hc.lb;unfold qU zk HS.e yS J2 Prod.p12 Prod.p13 Prod.p14 Prod.p15 Prod.p16 Prod.p17 aX bh bk bS da ip ug yR Prod.q10 Prod.q16 Prod.q17 Prod.q18 cC gG Prod.q9 ck bi bx ja mF bp aY cH aB ct;rcases UU q2 ok.k1 ok.k2 with ⟨e,e'⟩|⟨e,e'⟩|⟨e,e'⟩|⟨e,e'⟩|⟨e,e'⟩|⟨e,e'⟩|⟨e,e'⟩|⟨e,e'⟩|⟨e,e'⟩|⟨e,e'⟩|⟨e,e'⟩|⟨e,e'⟩|⟨e,e'⟩|⟨e,e'⟩|⟨e,e'⟩|⟨e,e'⟩|⟨e,e'⟩|⟨e,e'⟩|⟨e,e'⟩|⟨e,e'⟩|⟨e,e'⟩|⟨e,e'⟩|⟨e,e'⟩<;>clear q2<;>subst e<;>subst e'
 case inr.inr.inr.inr.inr.inr.inr.inr.inr.inr.inr.inr.inr.inr.inr.inr.inr.inr.inr.inl=>
  obtain rfl:=q3 (by decide);have f:fm (ob:Int) h.S.length=M:=c_ (by rw[o.lS];exact ok.sp (.inl rfl));simp only[aN,cZ,dH,dJ,dZ,mg,dA,cD,d,fT,f,fV];rfl
 case inr.inr.inr.inr.inr.inr.inl=>
  obtain rfl:=q3 (by decide);have f:ob<h.L.length:=ok.lk (by simp only[];omega);simp only[aN,cZ,dH,dJ,dZ,mg,dA,cD,d,fT,fV,s5 _ _ _ f (o.L.mono m) hc,qY,Ud];rfl
 case inr.inr.inr.inr.inr.inr.inr.inr.inr.inr.inl=>
  obtain rfl:=q3 (by decide);have f:ob<h.L.length:=ok.lk (by simp only[];omega);simp only[aN,cZ,dH,dJ,dZ,mg,dA,cD,d,fT,fV,s5 _ _ _ f (o.L.mono m) hc,qY,Ud];rfl
 case inr.inr.inr.inr.inr.inr.inr.inr.inl=>
  obtain rfl:=q3 (by decide);have f:ob<h.R.length:=by rw[o.lR];exact ok.lk (by simp only[];omega)
  simp only[aN,cZ,dH,dJ,dZ,mg,dA,cD,d,fT,fV,s5 _ _ _ f (o.R.mono m) hc,qY,Ud];rfl
 case inr.inr.inr.inr.inr.inr.inr.inr.inr.inr.inr.inr.inr.inr.inr.inl=>
  obtain rfl:=q3 (by decide);obtain⟨d1,d2,d3⟩:=ok.cd (.inl rfl);simp only at d1 d2 d3;have e1:(w3.getD ob ([],0)).2=((mxP w3 ob:Nat):Int):=by unfold mxP;omega
  simp only[aN,cZ,dH,dJ,dZ,mg,dA,cD,d,fT,fW,fV,c_ d1,U2,e1,s5 _ _ _ d3 (o.L.mono m) hc,qY,Ud];rfl
 case inr.inr.inr.inl=>
  obtain rfl:=q3 (by decide);obtain⟨d1,d2⟩:=ok.ce (.inr rfl);simp only at d1 d2;simp only[aN,cZ,dH,dJ,dZ,mg,dA,cD,d,fT,fV,c_ d2,abm];cases hv:(w1.getD ob ([],0,0,aa,0)).2.2.2.1 with
  |true=>
   simp only[dJ,dA,cD,s5 _ _ _ d1 (o.C.mono m) hc,qY,Ud,mg];have s:ub (w1,w2,w3,w4,A,z) h ⟨th,4,ob,x4⟩ c=if XY w1 ob then {h with T:=h.T.set th c,C:=jat h.C ob c} else {h with T:=h.T.set th c}:=rfl
   rw[s,show XY w1 ob=M from hv];rfl
  |false=>
   simp only[dZ,mg];have s:ub (w1,w2,w3,w4,A,z) h ⟨th,4,ob,x4⟩ c=if XY w1 ob then {h with T:=h.T.set th c,C:=jat h.C ob c} else {h with T:=h.T.set th c}:=rfl
   rw[s,show XY w1 ob=aa from hv];rfl
 case inr.inr.inr.inr.inr.inr.inr.inr.inr.inr.inr.inr.inr.inr.inr.inr.inr.inr.inr.inr.inr.inl=>
  obtain rfl:=q3 (by decide);have f:ob<h.F.length:=ok.fu (.inl rfl);simp only[aN,cZ,dH,dJ,dZ,mg,dA,cD,d,fT,fV,s5 _ _ _ f (o.F.mono m) hc,qY,Ud];rfl
 case inr.inr.inr.inr.inr.inr.inr.inr.inr.inr.inr.inr.inl=>
  simp only[aN,cZ,dH,dJ,dZ,mg,dA,cD,d,fT,fV,Rs _ _ (o.X.mono m).lb hc.lb];rfl
 case inr.inr.inr.inr.inr.inr.inr.inr.inr.inr.inr.inr.inr.inr.inr.inr.inr.inl=>
  simp only[aN,cZ,dH,dJ,dZ,mg,dA,cD,d,fT,fV];have s:ub (w1,w2,w3,w4,A,z) h ⟨th,18,ob,x4⟩ c=if 0<=x4/\x4<h.N.length then {h with T:=h.T.set th c,N:=h.N.set x4.toNat c,W:=h.W.set x4.toNat (-1)} else {h with T:=h.T.set th c}:=rfl
  rw[s];by_cases h0:0<=x4
  .by_cases h1:x4<h.N.length
   .rw[qE h0];simp only[dJ,mg];rw[vr (show x4<aT h.N.length from h1)];obtain⟨v,rfl⟩:∃v:Nat,x4=(v:Int):=⟨x4.toNat,by omega⟩
    have v1:v<h.N.length:=by omega
    have v2:v<h.W.length:=by rw[o.lW,<-o.lN];exact v1
    have:=UA {h with T:=h.T.set th c} v c v1 v2 hc;simp only[]at this;simp only[dJ,this,dA,Ek,cD,Zv rfl,jx,mg];rw[aU ⟨h0,h1⟩];rfl
   .rw[qE h0];simp only[dJ,mg];rw[ye (show aT h.N.length<=x4 from Int.not_lt.1 h1)];simp only[dZ,mg];rw[aL (λq=>h1 q.2)]
  .rw[YN (by omega)];simp only[dZ,mg];rw[aL (λq=>h0 q.1)]
 case inr.inr.inr.inr.inr.inr.inr.inr.inr.inr.inr.inr.inr.inr.inr.inr.inr.inr.inl=>
  obtain rfl:=q3 (by decide);simp only[aN,cZ,dH,dJ,dZ,mg,dA,cD,d,fT,fV];rw[LO (r:=b7 (h.X,h.T.set th c,h.S,h.L,h.R,h.C,h.F,J5 (λu=>decide (h.W.getD u 0=(ob:Int))) c h.W.length h.N,J5 (λu=>decide (h.W.getD u 0=(ob:Int))) (-1) h.W.length h.W,c)) h.W.length (by have:=o.lW;have:=o.lT;omega)
   (λi=>((i:Int),h.X,h.T.set th c,h.S,h.L,h.R,h.C,h.F,J5 (λu=>decide (h.W.getD u 0=(ob:Int))) c i h.N,J5 (λu=>decide (h.W.getD u 0=(ob:Int))) (-1) i h.W,c,(th:Int),(19:Int),(ob:Int),x4,x5,x6,I)) ?_ ?_ ?_]
  .simp only[mg];rw[Ou _ _ _ h.W (cB _),Ou _ _ _ h.N (by rw[o.lN,o.lW];exact cB _)];rfl
  .simp only[XV];rfl
  .intro i hi;simp only[];have hN:i<(J5 (λu=>decide (h.W.getD u 0=(ob:Int))) c i h.N).length:=by rw[G',o.lN,<-o.lW];exact hi
   have hW:i<(J5 (λu=>decide (h.W.getD u 0=(ob:Int))) (-1) i h.W).length:=by rw[G'];exact hi
   rw[vr (by simp;omega),dJ,cD (c_ hW),cD (c_ hW),aev,aek];have D:=qI hi (show h.W.length<=1099511627776 by have:=o.lW;have:=o.lT;omega);by_cases hp:h.W.getD i 0=(ob:Int)
   .rw[bc hp,dJ];have:=UA {h with T:=h.T.set th c,N:=J5 (λu=>decide (h.W.getD u 0=(ob:Int))) c i h.N,W:=J5 (λu=>decide (h.W.getD u 0=(ob:Int))) (-1) i h.W} i c hN hW hc;simp only[]at this;rw[this,dA,cD (by simp only[Ek,Zv rfl,jx]),mg,D,Uy _ _ _ _ (bc hp),Uy _ _ _ _ (bc hp)]
   .rw[bD hp,dZ,mg,D,<-Ot _ _ _ _ (bD hp),<-Ot _ _ _ _ (bD hp)]
  .simp only[];rw[ye (by simp),dZ]
 all_goals
  simp only[aN,cZ,dH,dJ,dZ,mg,dA,cD,d,fT,fV];rfl
theorem Tc (l:Y η) (c:η) (i:Nat) (hi:i<l.length):(l.take (i+1)).foldl jl c=jl ((l.take i).foldl jl c) (l.getD i []):=by
 rw[List.take_add_one,jR,aw hi,ay,aw hi];rfl
theorem OC (w:C5) (h:HS) (e:EV):(Av w h e).length<=3:=by
 unfold Av;repeat' split
 all_goals simp
theorem af4 {n:Int} {w:C5} {h:HS} (o:Uu n h) (e:EV) (i:Nat):0<=((Av w h e).foldl jl (h.T.getD e.th [])).getD i 0/\((Av w h e).foldl jl (h.T.getD e.th [])).getD i 0<9223372036854775807:=by
 have:=(B_ _ _ (o.T e.th) (R5 (w:=w) o e)).2 i;have:=o.n1;omega
theorem EP (w:C5) (h:HS) (e:EV) (c:η):(ub w h e c).T.length=h.T.length/\(ub w h e c).S.length=h.S.length/\(ub w h e c).L.length=h.L.length/\(ub w h e c).R.length=h.R.length/\(ub w h e c).C.length=h.C.length/\(ub w h e c).F.length=h.F.length/\(ub w h e c).N.length=h.N.length/\(ub w h e c).W.length=h.W.length:=by
 unfold ub;simp only[];repeat' split
 all_goals simp[jat,Bo]
theorem acq {n:Int} {w:C5} {h:HS} (o:Uu n h) (hn:n+1<=1000000) {e:EV} (ok:EOK w h e) {x:ETp} (s:EvT e x):rU (w,h.t,x)=Z ((Oz w h e).1.t,(Oz w h e).2):=by
 have s2:=ZO o ok s;have hce:En (n+1) (Jq w h e):=Zj o ok.th4;have en:=Za o hn ok s hce;have z:=WF h.t o.GH;have sl:=OC w h e;have sE:=R5 (w:=w) o e;have hlen:=EP w h e (Jq w h e);obtain⟨x1,x2,x3,x4,I,D,A⟩:=x;obtain⟨w1,w2,w3,w4,q,d⟩:=w;have t1:=s.th;simp only at t1;subst t1;unfold HS.t at z;simp only[]at z;have fT:fm (e.th:Int) h.T.length=M:=c_ ok.th;unfold rU B7 HS.t yS J2 aX bh bk bS da ip ug yR Prod.q11 Prod.q12 cC dI nl Prod.q9 ck bx mF bp aY cH ct;simp only[];rw[z,dA];simp only[];rw[cD fT,cD fT,s2,dA];simp only[];rw[cD (by simp only[Zv rfl,jx])];refine LO (Av (w1,w2,w3,w4,q,d) h e).length (by omega) (λi=>((i:Int),(w1,w2,w3,w4,q,d),((e.th:Int),x2,x3,x4,I,D,A),h.X,((Av (w1,w2,w3,w4,q,d) h e).take i).foldl jl (h.T.getD e.th []),h.T,h.S,h.L,h.R,h.C,h.F,h.N,h.W)) ?_ ?_ ?_
 .simp only[q_,List.take_zero,List.foldl_nil];rfl
 .intro i hi;simp only[];rw[vr (by simp;omega),dJ,cD (c_ hi),q_,(B_ _ _ (o.T e.th) (λy hy=>sE y (fB hy))).join (sE _ (Ij hi)),dA,qI hi (by omega),Tc _ _ _ hi]
 .simp only[];rw[ye (by simp),dZ,fJ (cB _)];have hl:=af4 (w:=(w1,w2,w3,w4,q,d)) o e e.th;rw[acn _ e.th (B_ _ _ (o.T e.th) sE).lb ok.th4 hl.1 hl.2,dA];unfold HS.e at en;unfold Jq at en hlen;rw[en,dA];simp only[];rw[cD (by rw[hlen.1,hlen.2.1,hlen.2.2.1,hlen.2.2.2.1,hlen.2.2.2.2.1,hlen.2.2.2.2.2.1,hlen.2.2.2.2.2.2.1,hlen.2.2.2.2.2.2.2];simp only[Zv rfl,jx])];rfl
abbrev GD:Ty:=(.st (.pr (.int .i64) (.sl (.st (.pr (.int .i64) (.pr (.int .i64) (.pr (.int .i64) (.pr (.int .i64) (.pr (.int .i64) (.int .i64))))))))))
abbrev UB:Ty:=(.st (.pr (.int .i64) (.pr (.int .i64) (.pr (.int .i64) (.pr (.int .i64) (.pr (.int .i64) (.int .i64)))))))
abbrev Et:Ty:=(.st (.pr (.int .i64) (.pr (.sl (.int .i64)) (.pr (.sl (.sl (.int .i64))) (.int .i64)))))
abbrev Hc:Ty:=(.st (.pr .str (.pr (.int .i64) (.pr (.sl .str) (.sl .sm)))))
abbrev tDc:Ty:=(.st (.pr (.int .i64) (.pr (.int .i64) (.pr .str (.pr (.int .i64) (.pr (.int .i64) .str))))))
abbrev tE:Ty:=(.st (.pr (.int .i64) (.pr (.int .i64) (.pr (.int .i64) (.pr (.int .i64) (.pr (.int .i64) (.pr (.sl (.int .i64)) (.sl (.int .i64)))))))))
abbrev xB:Ty:=(.st (.pr .str .bool))
abbrev Ol:Ty:=(.st (.pr .str (.pr (.int .i64) (.pr (.int .i64) (.pr .bool (.int .i64))))))
abbrev C2:Ty:=(.st (.pr (.int .i64) (.pr (.int .i64) (.int .i64))))
abbrev pI:Ty:=(.st (.pr .str (.int .i64)))
abbrev s9:Ty:=(.st (.pr (.int .i64) (.sl (.int .i64))))
abbrev uG:Ty:=(.st (.pr (.int .i64) (.pr (.int .i64) .bool)))
def Ok {R:Type} (o:J R) (Q:R->Prop):Prop:=∃y,o=Z y/\Q y
theorem Ok.mono {R:Type} {o:J R} {Q Q':R->Prop} (h:Ok o Q) (hq:∀y,Q y->Q' y):Ok o Q':=by obtain⟨y,h1,h2⟩:=h;exact⟨y,h1,hq y h2⟩
theorem Ok.and {R:Type} {o:J R} {Q Q':R->Prop} (h:Ok o Q) (h':Ok o Q'):Ok o λy=>Q y/\Q' y:=by
 obtain⟨y,h1,h2⟩:=h;obtain⟨z,h3,h4⟩:=h';rw[h1]at h3;cases h3;exact⟨y,h1,h2,h4⟩
theorem ai {R:Type} {y:R} {Q:R->Prop} (h:Q y):Ok (Z y) Q:=⟨y,rfl,h⟩
theorem Yo {R:Type} {o:J R} {y:R} {Q:R->Prop} (e:o=Z y) (h:Q y):Ok o Q:=⟨y,e,h⟩
theorem a8 {R:Type} {b:Bool} {k:J R} {Q:R->Prop} (h:b=M) (hk:Ok k Q):Ok (chk b λ_=>k) Q:=by subst h;exact hk
theorem aJ {R:Type} {b:Bool} {t f:J R} {Q:R->Prop} (ht:b=M->Ok t Q) (hf:b=aa->Ok f Q):Ok (aE b t f) Q:=by
 cases b with
 |true=>exact ht rfl
 |false=>exact hf rfl
theorem eL {R:Type} {b:Bool} {t f:J R} {Q:R->Prop} (h:b=M) (ht:Ok t Q):Ok (aE b t f) Q:=by subst h;exact ht
theorem jz {R:Type} {b:Bool} {t f:J R} {Q:R->Prop} (h:b=aa) (hf:Ok f Q):Ok (aE b t f) Q:=by subst h;exact hf
theorem ar {α R:Type} {o:J α} {k:α->J R} {P:α->Prop} {Q:R->Prop} (h:Ok o P) (hk:∀x,P x->Ok (k x) Q):Ok (av o k) Q:=by
 obtain⟨x,rfl,d⟩:=h;exact hk x d
theorem aQ {α R:Type} {o:J α} {k:α->J R} {x:α} {Q:R->Prop} (h:o=Z x) (hk:Ok (k x) Q):Ok (av o k) Q:=by subst h;exact hk
theorem aV {α R:Type} {x:α} {k:α->J R} {Q:R->Prop} (h:Ok (k x) Q):Ok (lt x k) Q:=h
theorem aW {α R:Type} {o:J (R⊕α)} {k:α->J R} {Q:R->Prop} (P:α->Prop) (h:Ok o λr=>match r with|.inl r=>Q r|.inr x=>P x) (hk:∀x,P x->Ok (k x) Q):Ok (jn o k) Q:=by
 obtain⟨r,rfl,hr⟩:=h;cases r with
 |inl r=>exact⟨r,rfl,hr⟩
 |inr x=>exact hk x hr
theorem fw {α R:Type} {o:J (R⊕α)} {k:α->J R} {Q:R->Prop} (h:Ok o λr=>match r with|.inl r=>Q r|.inr x=>Ok (k x) Q):Ok (jn o k) Q:=aW (λx=>Ok (k x) Q) h λ_ h=>h
theorem ab1 {α R:Type} {a b:α} {r:J R} {Q:R->Prop} (e:a=b) (h:Ok r Q):Ok (same a b r) Q:=by unfold same;rw[aU e];exact h
theorem ml {σ R:Type} {f:σ->J (σ⊕R)} {Q:R->Prop} (μ:σ->Nat) (I:σ->Prop) (h:∀x,I x->Ok (f x) λr=>match r with|.inl y=>I y/\μ y<μ x|.inr r=>Q r) {x:σ} (d:I x):Ok (iter f x) Q:=by
 have key:∀n x,μ x<n->I x->∃m r,iterN f m x=Z r/\Q r:=by
  intro n;induction n with
  |zero=>intro x hm;omega
  |succ n q=>
   intro x hm d;obtain⟨r,h1,h2⟩:=h x d;cases r with
   |inl y=>
    obtain⟨m,r,h3,h4⟩:=q y (by have:=h2.2;omega) h2.1;exact⟨m+1,r,by rw[iterN,h1];exact h3,h4⟩
   |inr r=>exact⟨1,r,by rw[iterN,h1],h2⟩
 obtain⟨m,r,h1,h2⟩:=key (μ x+1) x (qw _) d;exact⟨r,HR h1,h2⟩
theorem cf {σ R:Type} {f:σ->J (σ⊕R)} {Q:R->Prop} (n:Nat) (I:Nat->σ->Prop) (h0:∀i x,i<n->I i x->Ok (f x) λr=>match r with|.inl y=>I (i+1) y|.inr r=>Q r) (h1:∀x,I n x->Ok (f x) λr=>match r with|.inl _=>False|.inr r=>Q r) {x:σ} (s:I 0 x):Ok (iter f x) Q:=by
 have key:∀m i x,i+m=n->I i x->∃k r,iterN f k x=Z r/\Q r:=by
  intro m;induction m with
  |zero=>
   intro i x hi s;have:i=n:=by omega
   subst this;obtain⟨r,q,d⟩:=h1 x s;cases r with
   |inl y=>exact d.elim
   |inr r=>exact⟨1,r,by rw[iterN,q],d⟩
  |succ m z=>
   intro i x hi s;obtain⟨r,q,d⟩:=h0 i x (by omega) s;cases r with
   |inl y=>
    obtain⟨k,r,D,A⟩:=z (i+1) y (by omega) d;exact⟨k+1,r,by rw[iterN,q];exact D,A⟩
   |inr r=>exact⟨1,r,by rw[iterN,q],d⟩
 obtain⟨m,r,q,d⟩:=key n 0 x (by omega) s;exact⟨r,HR q,d⟩
theorem M5 {j:Int} {n:Nat}:fm j n=M↔0<=j/\j<n:=by simp[fm,cL,fI]
theorem oN {a b:Int}:cL a b=M↔a<=b:=by simp[cL]
theorem mm {a b:Int}:fI a b=M↔a<b:=by simp[fI]
theorem fy {a b:Int}:fI a b=aa↔b<=a:=by simp[fI]
theorem kV {a b:Int}:cL a b=aa↔b<a:=by simp[cL]
theorem yY {n b:Nat}:be n b=M↔n<=1099511627776/\n*b<=1099511627776:=by simp[be]
theorem bX {R:Type} {o:J R} {v:R} (h:Ok o (·=v)):o=Z v:=by obtain⟨y,h1,h2⟩:=h;rw[h1,h2]
section steps
variable {R:Type} {k t f:J R} {Q:R->Prop}
theorem aK {j:Int} {n:Nat} (h0:0<=j) (h1:j<n) (hk:Ok k Q):Ok (chk (fm j n) λ_=>k) Q:=a8 (M5.2 ⟨h0,h1⟩) hk
theorem a_ {n b:Nat} (h0:n<=1073741824) (h1:b<=1024) (hk:Ok k Q):Ok (chk (be n b) λ_=>k) Q:=
 a8 (yY.2 ⟨by omega,cW (Nat.mul_le_mul h0 h1) (by omega)⟩) hk
theorem cR {a b:Bool} (h:Ok (chk a λ_=>chk b λ_=>k) Q):Ok (chk (a&&b) λ_=>k) Q:=by
 cases a with
 |true=>exact h
 |false=>obtain⟨y,h,_⟩:=h;cases h
theorem du {a b:Int} (h:a<=b) (hk:Ok k Q):Ok (chk (cL a b) λ_=>k) Q:=a8 (oN.2 h) hk
theorem rx {a b:Int} (h:a<b) (hk:Ok k Q):Ok (chk (fI a b) λ_=>k) Q:=a8 (mm.2 h) hk
theorem MV {p:Prop} {i:Decidable p} (h:p) (hk:Ok k Q):Ok (chk (decide p) λ_=>k) Q:=a8 (bc h) hk
theorem u_ {p:Prop} {i:Decidable p} (h:¬p) (hk:Ok k Q):Ok (chk (!decide p) λ_=>k) Q:=a8 (by simp[h]) hk
theorem lG {a b:Nat} (h:a=b) (hk:Ok k Q):Ok (chk (ax a b) λ_=>k) Q:=a8 (by subst h;exact rk a) hk
theorem zP (hk:Ok k Q):Ok (chk M λ_=>k) Q:=hk
theorem aR {a b:Int} (ht:a<b->Ok t Q) (hf:b<=a->Ok f Q):Ok (aE (fI a b) t f) Q:=aJ (λh=>ht (mm.1 h)) (λh=>hf (fy.1 h))
theorem dT {a b:Int} (ht:a<=b->Ok t Q) (hf:b<a->Ok f Q):Ok (aE (cL a b) t f) Q:=aJ (λh=>ht (oN.1 h)) (λh=>hf (kV.1 h))
theorem aF {p:Prop} {i:Decidable p} (ht:p->Ok t Q) (hf:¬p->Ok f Q):Ok (aE (decide p) t f) Q:=aJ (λh=>ht (ba h)) (λh=>hf (jy h))
theorem bW {p:Prop} {i:Decidable p} (ht:¬p->Ok t Q) (hf:p->Ok f Q):Ok (aE (!decide p) t f) Q:=aJ (λh=>ht (by simpa using h)) (λh=>hf (by simpa using h))
theorem cQ {b:Bool} (ht:b=aa->Ok t Q) (hf:b=M->Ok f Q):Ok (aE (!b) t f) Q:=aJ (λh=>ht (by simpa using h)) (λh=>hf (by simpa using h))
theorem pu (ht:Ok t Q):Ok (aE M t f) Q:=ht
theorem gD (hf:Ok f Q):Ok (aE aa t f) Q:=hf
theorem dV {j:Int} {n:Nat} (hk:Ok k Q) (h0:0<=j:=by first|omega|(dsimp only;omega)) (h1:j<n:=by first|omega|(dsimp only;omega)):Ok (chk (fm j n) λ_=>k) Q:=aK h0 h1 hk
theorem io {a b:Int} (ht:Ok t Q) (h:a<b:=by first|omega|(dsimp only[aj];omega)):Ok (aE (fI a b) t f) Q:=aR (λ_=>ht) λg=>dP h (Int.not_lt.2 g)
theorem gS {a b:Int} (hf:Ok f Q) (h:b<=a:=by first|omega|(dsimp only[aj];omega)):Ok (aE (fI a b) t f) Q:=aR (λg=>dP g (Int.not_lt.2 h)) λ_=>hf
end steps
theorem od:(∀(p:Prop) [Decidable p],(decide p=M)=p)/\(∀p:Prop,(True\/p)=True)/\(∀p:Prop,(p\/True)=True)/\(∀p:Prop,(True->p)=p)/\(∀p:Prop,(True/\p)=p)/\∀p:Prop,(p/\True)=p:=⟨λ_=>bz,true_or,or_true,λ_=>true_implies _,As,and_true⟩
theorem kD:(∀i:Decidable True,@decide True i=M)/\(∀i:Decidable False,@decide False i=aa)/\(∀{R:Type} (t f:J R),aE M t f=t)/\(∀{R:Type} (t f:J R),aE aa t f=f)/\(∀{α R:Type} (x:α) (k:α->J R),jn (Z (.inr x)) k=k x)/\(∀{α R:Type} (r:R) (k:α->J R),jn (Z (.inl r)) k=Z r)/\(∀{α R:Type} (x:α) (k:α->J R),av (Z x) k=k x)/\(∀{α R:Type} (x:α) (k:α->J R),lt x k=k x)/\(!M)=aa/\(!aa)=M:=⟨dH,cZ,λ_ _=>rfl,λ_ _=>rfl,λ_ _=>rfl,λ_ _=>rfl,λ_ _=>rfl,λ_ _=>rfl,rfl,rfl⟩
structure IM (p q:Prop):Prop where
 h:p->q
inductive OS {R:Type}:Option R->(R->Prop)->Prop where
 |cand {a b:Bool} {k:Option R} {Q:R->Prop} (h:Ok (chk a λ_=>chk b λ_=>k) Q):OS (chk (a&&b) λ_=>k) Q
 |fm {j:Int} {n:Nat} {k:Option R} {Q:R->Prop} (h0:0<=j) (h1:j<n) (hk:Ok k Q):OS (chk (fm j n) λ_=>k) Q
 |room {n b:Nat} {k:Option R} {Q:R->Prop} (h0:n<=1073741824) (h1:b<=1024) (hk:Ok k Q):OS (chk (be n b) λ_=>k) Q
 |cile {a b:Int} {k:Option R} {Q:R->Prop} (h:a<=b) (hk:Ok k Q):OS (chk (cL a b) λ_=>k) Q
 |cilt {a b:Int} {k:Option R} {Q:R->Prop} (h:a<b) (hk:Ok k Q):OS (chk (fI a b) λ_=>k) Q
 |cdec {p:Prop} {i:Decidable p} {k:Option R} {Q:R->Prop} (h:p) (hk:Ok k Q):OS (chk (decide p) λ_=>k) Q
 |cndec {p:Prop} {i:Decidable p} {k:Option R} {Q:R->Prop} (h:¬p) (hk:Ok k Q):OS (chk (!decide p) λ_=>k) Q
 |cbeq {a b:Nat} {k:Option R} {Q:R->Prop} (h:a=b) (hk:Ok k Q):OS (chk (ax a b) λ_=>k) Q
 |cT {k:Option R} {Q:R->Prop} (hk:Ok k Q):OS (chk M λ_=>k) Q
 |lt {α:Type} {x:α} {k:α->Option R} {Q:R->Prop} (h:Ok (k x) Q):OS (lt x k) Q
 |b1 {t f:Option R} {Q:R->Prop} (h:Ok t Q):OS (aE M t f) Q
 |b0 {t f:Option R} {Q:R->Prop} (h:Ok f Q):OS (aE aa t f) Q
 |fI {a b:Int} {t f:Option R} {Q:R->Prop} (ht:IM (a<b) (Ok t Q)) (hf:IM (b<=a) (Ok f Q)):OS (aE (fI a b) t f) Q
 |cL {a b:Int} {t f:Option R} {Q:R->Prop} (ht:IM (a<=b) (Ok t Q)) (hf:IM (b<a) (Ok f Q)):OS (aE (cL a b) t f) Q
 |dec {p:Prop} {i:Decidable p} {t f:Option R} {Q:R->Prop} (ht:IM p (Ok t Q)) (hf:IM (¬p) (Ok f Q)):OS (aE (decide p) t f) Q
 |ndec {p:Prop} {i:Decidable p} {t f:Option R} {Q:R->Prop} (ht:IM (¬p) (Ok t Q)) (hf:IM p (Ok f Q)):OS (aE (!decide p) t f) Q
 |not {b:Bool} {t f:Option R} {Q:R->Prop} (ht:IM (b=aa) (Ok t Q)) (hf:IM (b=M) (Ok f Q)):OS (aE (!b) t f) Q
 |aE {b:Bool} {t f:Option R} {Q:R->Prop} (ht:IM (b=M) (Ok t Q)) (hf:IM (b=aa) (Ok f Q)):OS (aE b t f) Q
 |jc {α:Type} {o:Option (R⊕α)} {k:α->Option R} {Q:R->Prop} (h:Ok o λr=>match r with|.inl r=>Q r|.inr x=>Ok (k x) Q):OS (jn o k) Q
 |some {y:R} {Q:R->Prop} (h:Q y):OS (Z y) Q
theorem OS.ok {R:Type} {o:J R} {Q:R->Prop} (h:OS o Q):Ok o Q:=by
 cases h with
 |cand h=>exact cR h
 |fm a b h=>exact aK a b h
 |room a b h=>exact a_ a b h
 |cile a h=>exact du a h
 |cilt a h=>exact rx a h
 |cdec a h=>exact MV a h
 |cndec a h=>exact u_ a h
 |cbeq a h=>exact lG a h
 |cT h=>exact h
 |lt h=>exact h
 |b1 h=>exact h
 |b0 h=>exact h
 |fI a b=>exact aR a.h b.h
 |cL a b=>exact dT a.h b.h
 |dec a b=>exact aF a.h b.h
 |ndec a b=>exact bW a.h b.h
 |not a b=>exact cQ a.h b.h
 |aE a b=>exact aJ a.h b.h
 |jc h=>
  obtain⟨r,e,h⟩:=h;exact fw ⟨r,e,by cases r<;>exact h⟩
 |some h=>exact ai h
theorem bcT {R:Type} (t f:J R):aE M t f=t:=rfl
theorem Zw {R:Type} (t f:J R):aE aa t f=f:=rfl
theorem jnr {α R:Type} (x:α) (k:α->J R):jn (Z (.inr x)) k=k x:=rfl
theorem RL {α R:Type} (x:α) (k:α->J R):av (Z x) k=k x:=rfl
theorem xZ {k:Int}:k=1\/k=2\/k=3\/k=4\/k=5\/k=6\/k=7\/k=8\/k=9\/k=10\/k=11\/k=12\/k=13\/k=14\/k=15\/k=16\/k=17\/k=18\/k=19\/k=20\/k=21\/k=22\/k=23\/((∀j:Int,1<=j->j<=23->(k=j)=False)/\(k<1\/23<k)):=by
 by_cases h:1<=k/\k<=23
 .omega
 .have:(∀j:Int,1<=j->j<=23->(k=j)=False)/\(k<1\/23<k):=⟨λj h1 h2=>eq_false (by omega),by omega⟩
  repeat (first|exact this|refine Or.inr ?_)
theorem gF {n:Int} (h0: -9223372036854775808<=n) (h1:n<=9223372036854775807):aZ .i64 n=n:=by
 rw[GC];unfold Ln;simp[cL,h0,h1]
theorem fk {i:Nat} (h:i<9223372036854775807):aZ .i64 ((i:Int)+1)=((i+1:Nat):Int):=by rw[gF (by omega) (by omega)];omega
theorem Nk {T:Ty} (xs:Y T.den) (i:Nat):aH xs (i:Int)=xs.getD i T.zero:=by unfold aH;simp
theorem DI (xs:η) (i:Nat):aH (T:=.int .i64) xs (i:Int)=xs.getD i 0:=Nk (T:=.int .i64) xs i
theorem bH {T:Ty} {xs:Y T.den} {j:Int} (h0:0<=j) (h1:j<xs.length):aH xs j∈xs:=by
 unfold aH;rw[ay,aw (by omega)];exact qx _
theorem cM {α:Type} (xs:Y α) (j:Int) (x:α):(cJ xs j x).length=xs.length:=by unfold cJ;simp
theorem Bv {α:Type} {xs:Y α} {j:Int} {x y:α} (h:y∈cJ xs j x):y∈xs\/y=x:=Lm h
theorem dY {σ R:Type} {f:σ->J (σ⊕R)} {Q:R->Prop} (n:Nat) (hn:n<=1000000) (I:Nat->σ->Prop) (h0:∀i x,i<n->I i x->Ok (f x) λr=>match r with|.inl y=>I (i+1) y|.inr r=>Q r) (h1:∀x,I n x->Ok (f x) λr=>match r with|.inl _=>False|.inr r=>Q r) {x:σ} (s:I 0 x):Ok (fX f x) Q:=by
 have key:∀m i x,i+m=n->I i x->∃r,iterN f (m+1) x=Z r/\Q r:=by
  intro m;induction m with
  |zero=>
   intro i x hi s;have:i=n:=by omega
   subst this;obtain⟨r,q,d⟩:=h1 x s;cases r with
   |inl y=>exact d.elim
   |inr r=>exact⟨r,by rw[iterN,q],d⟩
  |succ m z=>
   intro i x hi s;obtain⟨r,q,d⟩:=h0 i x (by omega) s;cases r with
   |inl y=>
    obtain⟨r,D,A⟩:=z (i+1) y (by omega) d;exact⟨r,by rw[iterN,q];exact D,A⟩
   |inr r=>exact⟨r,vo (n:=1) (by rw[iterN,q]) (by omega),d⟩
 obtain⟨r,q,d⟩:=key n 0 x (by omega) s;exact⟨r,vo q (by omega),d⟩
abbrev WT:Type:=Y (ζ×Int×Int×Bool×Int)×Y (ζ×Bool)×Y (ζ×Int)×Y ζ×Y ζ×Y ν
abbrev SY:Type:=Y (Int×η)×Int×θ×Y (Int×Int×Bool)
theorem O_ (a b:Int):pW (a,b)=Z (decide (0<=a/\a<b)):=by
 refine bX ?_;unfold pW ja aB;with_reducible repeat' first|(refine OS.ok ?_;constructor)|refine IM.mk λ_=>?_
 .by_cases h:a<b<;>simp[*,fI]
 .simp;omega
theorem JW (l:η) (n:Int) (hl:l.length<=1000000):oh (l,n)=Z (l.contains n):=by
 refine bX ?_;unfold oh bi bx bF aY cH aB ct;refine cf l.length (λi x=>x=(i:Int)/\∀k,k<i->l.getD k 0≠n) ?_ ?_ ⟨rfl,λk hk=>by omega⟩
 .rintro i x hi ⟨rfl,d⟩;with_reducible repeat' first|(refine OS.ok ?_;constructor)|refine IM.mk λ_=>?_
  all_goals try simp only[aj,od] at*
  .omega
  .omega
  .rename_i h;rw[DI]at h;show M=_
   symm
   rw[sr,<-h,ay,aw hi];exact qx _
  .rename_i h;rw[DI]at h;refine ⟨fk (by omega),λk hk=>?_⟩;rcases bM k i with h1|h1
   .exact d k h1
   .rw[show k=i by omega];exact h
  .omega
 .rintro x ⟨rfl,d⟩;with_reducible repeat' first|(refine OS.ok ?_;constructor)|refine IM.mk λ_=>?_
  all_goals try simp only[aj,od] at*
  .omega
  .omega
  .omega
  .omega
  .symm
   rw[Bool.eq_false_iff];intro hc;rw[sr]at hc;obtain⟨k,hk,he⟩:=uV hc;exact d k hk (by rw[ay,aw hk];exact he)
theorem ii {T:Ty} {xs:Y T.den} {p:T.den->Prop} (h:∀k:Nat,k<ah xs->p (aH xs (k:Int))):∀c∈xs,p c:=λc hc=>by
 obtain⟨k,hk,he⟩:=uV hc;have:=h k hk;rw[Nk,ay,aw hk,uh,he]at this;exact this
theorem Oi (w:WT) (s:SY) (A:w.2.2.1.length<=1000000):Ok (nB (w,s)) λb=>b=M->(∀c∈w.2.2.1,0<=c.2/\c.2<w.2.1.length)/\s.1.length=w.2.1.length/\s.2.2.1.length=w.2.2.2.1.length/\s.2.2.2.length=w.2.2.2.2.1.length:=by
 unfold nB aX bh bk cC bi bx bF aY cH aB ct;refine cf w.2.2.1.length (λi x=>x.1=(i:Int)/\x.2=(w,s)/\∀k:Nat,k<i->0<=(aH (T:=pI) w.2.2.1 (k:Int)).2/\(aH (T:=pI) w.2.2.1 (k:Int)).2<w.2.1.length) ?_ ?_ ⟨rfl,rfl,λk hk=>by omega⟩
 .rintro i ⟨x1,x2⟩ hi ⟨q,d,z⟩;dsimp only at q d;subst q;subst d;with_reducible repeat' first|(refine OS.ok ?_;constructor)|refine IM.mk λ_=>?_
  all_goals try simp only[aj,od] at*
  all_goals first|omega|skip
  .intro h;cases h
  .intro h;cases h
  .refine ⟨fk (by omega),λk hk=>?_⟩;rcases bM k i with h1|h1
   .exact z k h1
   .rename_i h2 h3;rw[show k=i by omega];exact⟨h2,h3⟩
 .rintro⟨x1,x2⟩ ⟨q,d,z⟩;dsimp only at q d;subst q;subst d;with_reducible repeat' first|(refine OS.ok ?_;constructor)|refine IM.mk λ_=>?_
  all_goals try simp only[aj,od] at*
  all_goals first|omega|skip
  refine ar (P:=λb=>b=M->s.1.length=w.2.1.length/\s.2.2.1.length=w.2.2.2.1.length/\s.2.2.2.length=w.2.2.2.2.1.length) ?_ ?_
  .with_reducible repeat' first|(refine OS.ok ?_;constructor)|refine IM.mk λ_=>?_
   all_goals try simp only[aj,od] at*
   .intro h;omega
   .intro h;cases h
   .intro h;cases h
  .intro b hb;with_reducible repeat' first|(refine OS.ok ?_;constructor)|refine IM.mk λ_=>?_
   exact λh=>⟨ii (T:=pI) z,hb h⟩
structure NM (w:WT) (k o:Int):Prop where
 k1:1<=k
 k2:k<=23
 ce:k=3\/k=4->0<=o/\o<w.1.length
 lk:6<=k/\k<=11->0<=o/\o<w.2.1.length
 cd:16<=k/\k<=19->0<=o/\o<w.2.2.1.length
 th:k=20\/k=21->0<=o/\o<w.2.2.2.2.1.length
 fu:k=22\/k=23->0<=o/\o<w.2.2.2.1.length
 no:k=1\/k=2\/k=5\/(12<=k/\k<=15)->o= -1
 mu:k=6\/k=7->(aH (T:=xB) w.2.1 o).2=aa
 rw:8<=k/\k<=11->(aH (T:=xB) w.2.1 o).2=M
theorem Ys (w:WT) (k o:Int):Ok (pd (w,k,o)) λb=>b=M->NM w k o:=by
 unfold pd aX bh bk bS bi bF aY aB;rcases @xZ k with rfl|rfl|rfl|rfl|rfl|rfl|rfl|rfl|rfl|rfl|rfl|rfl|rfl|rfl|rfl|rfl|rfl|rfl|rfl|rfl|rfl|rfl|rfl|⟨hk,d⟩
 case inr.inr.inr.inr.inr.inr.inr.inr.inr.inr.inr.inr.inr.inr.inr.inr.inr.inr.inr.inr.inr.inr.inr=>
  simp only[hk 1 (by decide) (by decide),hk 2 (by decide) (by decide),hk 3 (by decide) (by decide),hk 4 (by decide) (by decide),hk 5 (by decide) (by decide),hk 6 (by decide) (by decide),hk 7 (by decide) (by decide),hk 8 (by decide) (by decide),hk 9 (by decide) (by decide),hk 10 (by decide) (by decide),hk 11 (by decide) (by decide),hk 12 (by decide) (by decide),hk 13 (by decide) (by decide),hk 14 (by decide) (by decide),hk 15 (by decide) (by decide),hk 16 (by decide) (by decide),hk 17 (by decide) (by decide),hk 18 (by decide) (by decide),hk 19 (by decide) (by decide),hk 20 (by decide) (by decide),hk 21 (by decide) (by decide),hk 22 (by decide) (by decide),hk 23 (by decide) (by decide),aN,aS,kD];exact ai λh=>by cases h
 all_goals simp only[aN,aS,kD,O_]
 all_goals with_reducible repeat' first|(refine OS.ok ?_;constructor)|refine IM.mk λ_=>?_
 all_goals try simp only[aj,od] at*
 all_goals first|omega|(intro h;cases h;done)|(intro h;constructor<;>first|omega|(intro h2;first|omega|(simpa using h)))
structure SB (n:Nat) (s:SY):Prop where
 n1:n<=100000
 lk:s.1.length<=1000
 rd:∀l∈s.1,l.2.length<=n
 dn:s.2.2.1.length<=1000
 th:s.2.2.2.length<=1000
structure EN (w:WT) (s:SY) (t k o:Int):Prop where
 nm:NM w k o
 t0:0<=t
 t1:t<w.2.2.2.2.1.length
 cd:∀c∈w.2.2.1,0<=c.2/\c.2<w.2.1.length
 e1:s.1.length=w.2.1.length
 e2:s.2.2.1.length=w.2.2.2.1.length
 e3:s.2.2.2.length=w.2.2.2.2.1.length
structure Fw (w:WT) (s:SY) (t k o:Int):Prop where
 b:k=1->(aH (T:=uG) s.2.2.2 t).1=1
 wk:k=17->(aH (T:=uG) s.2.2.2 t).1=4/\(aH (T:=uG) s.2.2.2 t).2.1=o/\(aH (T:=s9) s.1 (aH (T:=pI) w.2.2.1 o).2).1= -1
 r:k≠1->k≠17->(aH (T:=uG) s.2.2.2 t).1=2
 aq:k=6\/k=8\/k=10->(aH (T:=s9) s.1 o).1= -1
 wr:k=10->(aH (T:=s9) s.1 o).2.length=0
 ra:k=8->(aH (T:=s9) s.1 o).2.contains t=aa
 rl:k=7\/k=11->(aH (T:=s9) s.1 o).1=t
 rr:k=9->(aH (T:=s9) s.1 o).2.contains t=M
 xb:k=12->s.2.1= -1
 xe:k=13->s.2.1=t
 ab:k=14->(aH (T:=uG) s.2.2.2 t).2.2=aa
 ae:k=15->(aH (T:=uG) s.2.2.2 t).2.2=M
 nt:k=16\/k=18\/k=19->(aH (T:=s9) s.1 (aH (T:=pI) w.2.2.1 o).2).1=t
 sp:k=20->¬o=t/\(aH (T:=uG) s.2.2.2 o).1=0
 jo:k=21->¬o=t/\(aH (T:=uG) s.2.2.2 o).1=5
 se:k=22->aH (T:=.bool) s.2.2.1 o=aa
 ge:k=23->aH (T:=.bool) s.2.2.1 o=M
theorem JY {n:Nat} (w:WT) (s:SY) (hs:SB n s) (L:w.2.2.1.length<=1000) (t k o:Int):Ok (iu (w,s,t,k,o)) λb=>b=M->EN w s t k o/\Fw w s t k o:=by
 unfold iu aX bh bk bn cI cC bi iA bF aY aB;refine aW (λx=>x.2=(w,s)/\(x.1=aa->EN w s t k o)) ?_ ?_
 .refine ar (Oi w s (by omega)) λb hb=>?_
  with_reducible repeat' first|(refine OS.ok ?_;constructor)|refine IM.mk λ_=>?_
  .exact⟨rfl,λh=>by cases h⟩
  .simp only[O_,RL];with_reducible repeat' first|(refine OS.ok ?_;constructor)|refine IM.mk λ_=>?_
   .exact⟨rfl,λh=>by cases h⟩
   .refine ar (Ys w k o) λc hc=>?_
    with_reducible repeat' first|(refine OS.ok ?_;constructor)|refine IM.mk λ_=>?_
    all_goals try simp only[aj,od] at*
    rename_i h1 h2;obtain⟨I,F,f3,D⟩:=hb h1;exact λh=>⟨hc (by simpa using h),by omega,by omega,I,F,f3,D⟩
 .rintro⟨x1,x2⟩ ⟨d,q⟩;dsimp only at d q;subst d;refine aJ (λh=>ai λh=>by cases h) (λh=>?_);have he:=q h;obtain⟨nm,t0,t1,cd,e1,e2,e3⟩:=id he;obtain⟨_,_,ce,lk,cn,th,fu⟩:=nm;have hm:16<=k/\k<=19->0<=(aH (T:=pI) w.2.2.1 o).2/\(aH (T:=pI) w.2.2.1 o).2<w.2.1.length:=λh=>cd _ (bH (cn h).1 (cn h).2)
  have A:6<=k/\k<=11->oh ((aH (T:=s9) s.1 o).2,t)=Z ((aH (T:=s9) s.1 o).2.contains t):=λh=>JW _ _ (by
   have:=hs.rd _ (bH (T:=s9) (lk h).1 (by have:=(lk h).2;omega));have:=hs.n1;omega)
  rcases @xZ k with rfl|rfl|rfl|rfl|rfl|rfl|rfl|rfl|rfl|rfl|rfl|rfl|rfl|rfl|rfl|rfl|rfl|rfl|rfl|rfl|rfl|rfl|rfl|⟨hk,z⟩
  case inr.inr.inr.inr.inr.inr.inr.inr.inr.inr.inr.inr.inr.inr.inr.inr.inr.inr.inr.inr.inr.inr.inr=>omega
  all_goals simp only[aN,aS,kD]
  all_goals with_reducible repeat' first|(refine OS.ok ?_;constructor)|refine IM.mk λ_=>?_
  all_goals try simp only[A (by omega),RL]
  all_goals with_reducible repeat' first|(refine OS.ok ?_;constructor)|refine IM.mk λ_=>?_
  all_goals try simp only[aj,od] at*
  all_goals first|omega|(intro h;cases h;done)|exact (hm ⟨by decide,by decide⟩).1|(rw [e1];exact (hm ⟨by decide,by decide⟩).2)|(intro h;refine ⟨he,?_⟩;constructor<;>first|omega|(intros;first|omega|assumption|(simpa using h)|exact⟨by assumption,by first|assumption|exact⟨by assumption,by assumption⟩⟩))|(refine ⟨he,?_⟩;constructor<;>first|omega|(intros;first|omega|assumption))
def lU:η->Int->η
 |[],n=>[n]
 |x::r,n=>if x<n then x::lU r n else if x=n then x::r else n::x::r
theorem Dd (n:Int):∀(i:Nat) (l:η),i<=l.length->(∀k,k<i->l.getD k 0<n)->lU l n=l.take i++lU (l.drop i) n
 |0,l,_,_=>by simp
 |i+1,[],h,_=>by simp at h
 |i+1,x::r,h,hk=>by
  have h0:=hk 0 (by omega);simp at h0;have:=Dd n i r (by simpa using h) (λk d=>by have:=hk (k+1) (by omega);simpa using this);rw[lU,aU h0,this,uU,uW,gX]
theorem Ew (n:Int):∀l:η,(lU l n).length<=l.length+1
 |[]=>by simp[lU]
 |x::r=>by
  have:=Ew n r;rw[lU];split
  .simp;omega
  .split<;>simp
theorem Hl {n y:Int}:∀{l:η},y∈lU l n↔y=n\/y∈l
 |[]=>by simp[lU]
 |x::r=>by
  have:=Hl (n:=n) (y:=y) (l:=r);rw[lU];split
  .simp[this];constructor
   .rintro (h|h|h)<;>simp[h]
   .rintro (h|h|h)<;>simp[h]
  .split
   .rename_i h;subst h;simp
   .simp
def xG:η->Prop
 |[]=>True
 |x::r=>(∀y∈r,x<y)/\xG r
theorem OV {n:Int}:∀{l:η},xG l->xG (lU l n)
 |[],_=>by simp[lU,xG]
 |x::r,h=>by
  rw[lU];split
  .rename_i q;refine ⟨λy d=>?_,OV h.2⟩;rcases Hl.1 d with rfl|d
   .exact q
   .exact h.1 y d
  .split
   .exact h
   .rename_i h1 h2;refine ⟨λy d=>?_,h⟩;rcases bu.1 d with rfl|d
    .omega
    .have:=h.1 y d;omega
theorem ZT (l:η) (n:Int) (hl:l.length<=1000000):vi (l,n)=Z (lU l n):=by
 refine bX ?_;unfold vi bx bp bF aY cH aB ct;have fin:∀i:Nat,i<=l.length->(∀k,k<i->l.getD k 0<n)->(i<l.length->¬l.getD i 0<n/\l.getD i 0≠n)->l.take i++[n]++l.drop i=lU l n:=λi hi hk hn=>by
  rw[Dd n i l hi hk];cases hd:l.drop i with
  |nil=>simp[lU]
  |cons y r=>
   have hlt:i<l.length:=by
    rcases bM i l.length with h|h
    .exact h
    .rw[List.drop_eq_nil_of_le h]at hd;cases hd
   have q:l.getD i 0=y:=by
    rw[ay,<-List.head?_drop,hd];rfl
   obtain⟨h1,h2⟩:=hn hlt;rw[q]at h1 h2;rw[lU,aL h1,aL h2];simp
 refine cf l.length (λi x=>x=(i:Int)/\∀k,k<i->l.getD k 0<n) ?_ ?_ ⟨rfl,λk hk=>by omega⟩
 .rintro i x hi ⟨rfl,d⟩;by_cases hlt:l.getD i 0<n
  .with_reducible repeat' first|(refine OS.ok ?_;constructor)|refine IM.mk λ_=>?_
   all_goals try simp only[aj,od] at*
   all_goals first|omega|skip
   .refine ⟨fk (by omega),λk hk=>?_⟩;rcases bM k i with h1|h1
    .exact d k h1
    .rw[show k=i by omega];exact hlt
   .rename_i h;exact dP hlt (Int.not_lt.2 h)
  .have key:l.getD i 0=n->lU l n=l:=λhe=>by
    rw[Dd n i l (by omega) d];cases hd:l.drop i with
    |nil=>have:=iU ah hd;simp at this;omega
    |cons y r=>
     have q:l.getD i 0=y:=by rw[ay,<-List.head?_drop,hd];rfl
     rw[q]at he;rw[lU,aL (by omega),aU he,<-hd,List.take_append_drop]
   with_reducible repeat' first|(refine OS.ok ?_;constructor)|refine IM.mk λ_=>?_
   all_goals try simp only[aj,od] at*
   all_goals first|omega|skip
   .rename_i h;exact dP h hlt
   .refine ar (P:=λr=>r=lU l n) ?_ λr hr=>ai hr
    with_reducible repeat' first|(refine OS.ok ?_;constructor)|refine IM.mk λ_=>?_
    all_goals try simp only[aj,od] at*
    all_goals first|omega|skip
    .rename_i h;exact (key h).symm
    .simp;omega
    .simp;omega
    .simp;omega
    .rename_i h;simpa using fin i (by omega) d (λ_=>⟨hlt,h⟩)
 .rintro x ⟨rfl,d⟩;with_reducible repeat' first|(refine OS.ok ?_;constructor)|refine IM.mk λ_=>?_
  all_goals try simp only[aj,od] at*
  all_goals first|omega|skip
  refine ar (P:=λr=>r=lU l n) ?_ λr hr=>ai hr
  with_reducible repeat' first|(refine OS.ok ?_;constructor)|refine IM.mk λ_=>?_
  all_goals try simp only[aj,od] at*
  all_goals first|omega|skip
  .simp;omega
  .simp;omega
  .simp;omega
  .simpa using fin l.length (by omega) d (λh=>by omega)
def qA (a b:η):η:=b.foldl lU (a.foldl lU [])
theorem vy:∀(b acc:η),(b.foldl lU acc).length<=acc.length+b.length
 |[],acc=>by simp
 |x::r,acc=>by
  have:=vy r (lU acc x);have:=Ew x acc;rw[El,ca];omega
theorem Io:∀{b acc:η},xG acc->xG (b.foldl lU acc)
 |[],_,h=>h
 |x::r,acc,h=>by rw[El];exact Io (OV h)
theorem In {y:Int}:∀{b acc:η},y∈b.foldl lU acc↔y∈acc\/y∈b
 |[],acc=>by simp
 |x::r,acc=>by
  rw[El,In,Hl];simp;constructor
  .rintro ((h|h)|h)<;>simp[h]
  .rintro (h|h|h)<;>simp[h]
theorem Ow (a b:η):xG (qA a b):=Io (Io trivial)
theorem Ov {a b:η} {y:Int}:y∈qA a b↔y∈a\/y∈b:=by unfold qA;rw[In,In];simp
theorem X0 (a b:η):(qA a b).length<=a.length+b.length:=by
 have:=vy b (a.foldl lU []);have:=vy a [];unfold qA;simp at *;omega
theorem LW {b acc:η} {i:Nat} (hi:i<b.length):(b.take (i+1)).foldl lU acc=lU ((b.take i).foldl lU acc) (b.getD i 0):=by
 rw[oG hi,jR,ay,aw hi];rfl
theorem Rj (a b:η) (d:a.length<=400000) (hb:b.length<=400000):qN (a,b)=Z (qA a b):=by
 refine bX ?_;unfold qN bx bF aY cH aB ct;refine cf a.length (λi x=>x.2=(i:Int)/\x.1=(a.take i).foldl lU []) ?_ ?_ ⟨rfl,rfl⟩
 .rintro i ⟨x1,x2⟩ hi ⟨h1,h2⟩;dsimp only at h1 h2;subst h1;subst h2;have hl:((a.take i).foldl lU []).length<=1000000:=by have:=vy (a.take i) [];have:=gk i a;simp at *;omega
  with_reducible repeat' first|(refine OS.ok ?_;constructor)|refine IM.mk λ_=>?_
  all_goals try simp only[aj,od] at*
  all_goals first|omega|skip
  refine aQ (ZT _ _ hl) (ai ?_);dsimp only;refine ⟨fk (by omega),?_⟩;rw[DI,LW hi]
 .rintro⟨x1,x2⟩ ⟨h1,h2⟩;dsimp only at h1 h2;subst h1;subst h2;rw[bQ];have hla:=vy a [];with_reducible repeat' first|(refine OS.ok ?_;constructor)|refine IM.mk λ_=>?_
  all_goals try simp only[aj,od] at*
  all_goals first|omega|skip
  refine ar (P:=λr=>r=qA a b) ?_ λr hr=>ai hr
  refine cf b.length (λi x=>x.2=(i:Int)/\x.1=(b.take i).foldl lU (a.foldl lU [])) ?_ ?_ ⟨rfl,rfl⟩
  .rintro i ⟨x1,x2⟩ hi ⟨h1,h2⟩;dsimp only at h1 h2;subst h1;subst h2;have hl:((b.take i).foldl lU (a.foldl lU [])).length<=1000000:=by have:=vy (b.take i) (a.foldl lU []);have:=gk i b;simp at *;omega
   with_reducible repeat' first|(refine OS.ok ?_;constructor)|refine IM.mk λ_=>?_
   all_goals try simp only[aj,od] at*
   all_goals first|omega|skip
   refine aQ (ZT _ _ hl) (ai ?_);dsimp only;refine ⟨fk (by omega),?_⟩;rw[DI,LW hi]
  .rintro⟨x1,x2⟩ ⟨h1,h2⟩;dsimp only at h1 h2;subst h1;subst h2;rw[bQ];with_reducible repeat' first|(refine OS.ok ?_;constructor)|refine IM.mk λ_=>?_
   all_goals try simp only[aj,od] at*
   all_goals first|omega|rfl
def Ep (c:Int) (x:Int×Int×Bool):Bool:=decide (x.1=3)&&decide (x.2.1=c)
def wl (th:Y (Int×Int×Bool)) (c:Int):Nat->η
 |0=>[]
 |i+1=>if Ep c (aH (T:=uG) th (i:Int)) then wl th c i++[(i:Int)] else wl th c i
theorem pM (th:Y (Int×Int×Bool)) (c:Int):∀i,(wl th c i).length<=i
 |0=>cB _
 |i+1=>by have:=pM th c i;rw[wl];split<;>simp<;>omega
theorem xJ {th:Y (Int×Int×Bool)} {c u:Int}:∀{i:Nat},u∈wl th c i↔0<=u/\u<i/\Ep c (aH (T:=uG) th u)=M
 |0=>by simp[wl];omega
 |i+1=>by
  have d:= @xJ th c u i;rw[wl];by_cases hu:u=(i:Int)
  .subst hu;split
   .rename_i h;simp[h];omega
   .rename_i h;rw[d];simp[h]
  .split
   .rw[bN,d,aI];constructor
    .rintro (h|h)
     .exact⟨h.1,by omega,h.2.2⟩
     .exact dP h hu
    .intro h;exact .inl ⟨h.1,by omega,h.2.2⟩
   .rw[d];constructor
    .intro h;exact⟨h.1,by omega,h.2.2⟩
    .intro h;exact⟨h.1,by omega,h.2.2⟩
theorem ahe {th:Y (Int×Int×Bool)} {c:Int} {i:Nat} (h1:(aH (T:=uG) th (i:Int)).1=3) (h2:(aH (T:=uG) th (i:Int)).2.1=c):wl th c (i+1)=wl th c i++[(i:Int)]:=by
 rw[wl,aU];unfold Ep;rw[h1,h2];simp
theorem adh {th:Y (Int×Int×Bool)} {c:Int} {i:Nat} (h1:¬(aH (T:=uG) th (i:Int)).1=3):wl th c (i+1)=wl th c i:=by
 rw[wl,aL];unfold Ep;rw[bD h1];simp
theorem adg {th:Y (Int×Int×Bool)} {c:Int} {i:Nat} (h1:¬(aH (T:=uG) th (i:Int)).2.1=c):wl th c (i+1)=wl th c i:=by
 rw[wl,aL];unfold Ep;rw[bD h1];simp
theorem JK (s:SY) (c:Int) (hs:s.2.2.2.length<=1000):nA (s,c)=Z (wl s.2.2.2 c s.2.2.2.length):=by
 refine bX ?_;unfold nA bn bi bx bp bF aY cH aB ct;refine cf s.2.2.2.length (λi x=>x=((i:Int),s,wl s.2.2.2 c i)) ?_ ?_ rfl
 .rintro i x hi rfl;have hl:=pM s.2.2.2 c i;with_reducible repeat' first|(refine OS.ok ?_;constructor)|refine IM.mk λ_=>?_
  all_goals try simp only[aj,od] at*
  all_goals first|omega|skip
  all_goals first|(simp;omega)|skip
  .rename_i h1 h2;rw[ahe h1 h2,fk (by omega)]
  .rename_i h1 h2;rw[adg h2,fk (by omega)]
  .rename_i h1;rw[adh h1,fk (by omega)]
 .rintro x rfl;with_reducible repeat' first|(refine OS.ok ?_;constructor)|refine IM.mk λ_=>?_
  all_goals try simp only[aj,od] at*
  all_goals first|omega|rfl
def wo (l:η) (n:Int):η:=l.filter λx=> !decide (x=n)
theorem RQ (l:η) (n:Int) (hl:l.length<=1000000):pV (l,n)=Z (wo l n):=by
 refine bX ?_;unfold pV bx iA bp bF aY cH aB ct;refine cf l.length (λi x=>x=((i:Int),wo (l.take i) n)) ?_ ?_ rfl
 .rintro i x hi rfl;have hq:(wo (l.take i) n).length<=i:=cW (List.length_filter_le ..) (gk ..);have ht:wo (l.take (i+1)) n=if aH (T:=.int .i64) l (i:Int)=n then wo (l.take i) n else wo (l.take i) n++[aH (T:=.int .i64) l (i:Int)]:=by
   unfold wo;rw[oG hi,List.filter_append,DI,ay,aw hi];by_cases h:l[i]=n<;>simp[h]
  with_reducible repeat' first|(refine OS.ok ?_;constructor)|refine IM.mk λ_=>?_
  all_goals try simp only[aj,od] at*
  all_goals first|omega|skip
  .simp;omega
  .rename_i h;rw[ht,aL h,fk (by omega)]
  .rename_i h;rw[ht,aU h,fk (by omega)]
 .rintro x rfl;with_reducible repeat' first|(refine OS.ok ?_;constructor)|refine IM.mk λ_=>?_
  all_goals try simp only[aj,od] at*
  all_goals first|omega|(rw [bQ])
theorem pN {T:Ty} {xs:Y T.den} {i:Nat} (hi:i<ah xs):dh (i+1) xs=dh i xs++[aH xs (i:Int)]:=by
 rw[oG hi,Nk,ay,aw hi];rfl
theorem qv {n:Nat} (s:SY) (hs:SB n s):ic s=Z (s.2.1,s.1,s.2.2.1,s.2.2.2):=by
 refine bX ?_;obtain⟨s1,s2,d,s4⟩:=s;have hn:=hs.n1;have A:=hs.lk;have z:=hs.dn;have q:=hs.th;dsimp only at A z q;unfold ic aX bh bk bn cC bx bp bF aY cH aB ct;with_reducible repeat' first|(refine OS.ok ?_;constructor)|refine IM.mk λ_=>?_
 all_goals try simp only[aj,od] at*
 .simp;omega
 .omega
 .simp;omega
 .omega
 refine cf s1.length (λi x=>x=((i:Int),(s1,s2,d,s4),0,s2,s1.take i,d,s4)) ?_ ?_ ?_
 .rintro i x hi rfl;have hg:=hs.rd _ (bH (T:=s9) (xs:=s1) (j:=(i:Int)) (by omega) (by omega));with_reducible repeat' first|(refine OS.ok ?_;constructor)|refine IM.mk λ_=>?_
  all_goals try simp only[aj,od] at*
  all_goals first|omega|skip
  .simp;omega
  .simp;omega
  .rw[fk (by omega),pN (T:=s9) hi];rfl
 .rintro x rfl;with_reducible repeat' first|(refine OS.ok ?_;constructor)|refine IM.mk λ_=>?_
  all_goals try simp only[aj,od] at*
  all_goals first|omega|skip
  simp
 .simp
theorem Fv (s:SY) (c:Int) (hs:s.2.2.2.length<=1000):jA ((s.2.1,c),s.1,s.2.2.1,s.2.2.2)=Z (wl s.2.2.2 c s.2.2.2.length):=by
 refine bX ?_;unfold jA;refine ar (P:=λy=>y=(wl s.2.2.2 c s.2.2.2.length,s.1,s.2.2.1,s.2.2.2)) ?_ λy d=>by subst d;exact ab1 rfl (ai rfl)
 unfold ma aX bh bk bn cC bi bx bp kF aY cH aB ct;refine cf s.2.2.2.length (λi x=>x=((i:Int),s.1,s.2.2.1,s.2.2.2,s.2.1,wl s.2.2.2 c i)) ?_ ?_ rfl
 .rintro i x hi rfl;have hl:=pM s.2.2.2 c i;with_reducible repeat' first|(refine OS.ok ?_;constructor)|refine IM.mk λ_=>?_
  all_goals try simp only[aj,od] at*
  all_goals first|omega|skip
  all_goals first|(simp;omega)|skip
  .rename_i h1 h2;rw[ahe h1 h2,fk (by omega)]
  .rename_i h1 h2;rw[adg h2,fk (by omega)]
  .rename_i h1;rw[adh h1,fk (by omega)]
 .rintro x rfl;with_reducible repeat' first|(refine OS.ok ?_;constructor)|refine IM.mk λ_=>?_
  all_goals try simp only[aj,od] at*
  all_goals first|omega|rfl
structure AP (n:Nat) (s y:SY):Prop where
 a1:y.1.length=s.1.length
 a2:y.2.2.1.length=s.2.2.1.length
 a3:y.2.2.2.length=s.2.2.2.length
 rd:∀l∈y.1,l.2.length<=n+1
theorem AP.toSB {n:Nat} {s y:SY} (h:AP n s y) (hs:SB n s) (hn:n+1<=100000):SB (n+1) y:=
 ⟨hn,by rw[h.a1];exact hs.lk,h.rd,by rw[h.a2];exact hs.dn,by rw[h.a3];exact hs.th⟩
theorem AP.same {n:Nat} {s:SY} (hs:SB n s) (x:Int) (d:θ) (t:Y (Int×Int×Bool)) (hd:d.length=s.2.2.1.length) (ht:t.length=s.2.2.2.length):AP n s (s.1,x,d,t):=
 ⟨rfl,hd,ht,λl hl=>iq (hs.rd l hl)⟩
theorem AP.set {n:Nat} {s:SY} (hs:SB n s) (j a:Int) (r:η) (hr:r.length<=n+1) (x:Int) (d:θ) (t:Y (Int×Int×Bool)) (hd:d.length=s.2.2.1.length) (ht:t.length=s.2.2.2.length):AP n s (cJ s.1 j (a,r),x,d,t):=
 ⟨cM _ _ _,hd,ht,λl hl=>by
   rcases Bv hl with h|rfl
   .exact iq (hs.rd l h)
   .exact hr⟩
def Kc (th:Y (Int×Int×Bool)) (t st:Int):Y (Int×Int×Bool):=cJ th t (st,(aH (T:=uG) th t).2)
def owP (lk:Y (Int×η)) (o t:Int):Y (Int×η):=cJ lk o (t,(aH (T:=s9) lk o).2)
def rdP (lk:Y (Int×η)) (o:Int) (l:η):Y (Int×η):=cJ lk o ((aH (T:=s9) lk o).1,l)
def cdP (th:Y (Int×Int×Bool)) (t c:Int):Y (Int×Int×Bool):=cJ th t ((aH (T:=uG) th t).1,c,(aH (T:=uG) th t).2.2)
def atP (th:Y (Int×Int×Bool)) (t:Int) (b:Bool):Y (Int×Int×Bool):=cJ th t ((aH (T:=uG) th t).1,(aH (T:=uG) th t).2.1,b)
def Om (th:Y (Int×Int×Bool)) (l:η):Y (Int×Int×Bool):=l.foldl (λx u=>Kc x u 4) th
def C4 (l:η) (u:Int):Int:=if l.length=0 then -1 else if l.contains u then u else aH (T:=.int .i64) l 0
def muP (w:WT) (o:Int):Int:=(aH (T:=pI) w.2.2.1 o).2
def vO (w:WT) (s:SY) (t k o u:Int):SY×Int:=
 if k=1 then ((s.1,s.2.1,s.2.2.1,Kc s.2.2.2 t 2),0)
 else if k=2 then ((s.1,s.2.1,s.2.2.1,Kc s.2.2.2 t 5),0)
 else if k=6\/k=10 then ((owP s.1 o t,s.2),0)
 else if k=7\/k=11 then ((owP s.1 o (-1),s.2),0)
 else if k=8 then ((rdP s.1 o (qA (aH (T:=s9) s.1 o).2 [t]),s.2),0)
 else if k=9 then ((rdP s.1 o (wo (aH (T:=s9) s.1 o).2 t),s.2),0)
 else if k=12 then ((s.1,t,s.2.2),0)
 else if k=13 then ((s.1,-1,s.2.2),0)
 else if k=14 then ((s.1,s.2.1,s.2.2.1,atP s.2.2.2 t M),0)
 else if k=15 then ((s.1,s.2.1,s.2.2.1,atP s.2.2.2 t aa),0)
 else if k=16 then ((owP s.1 (muP w o) (-1),s.2.1,s.2.2.1,cdP (Kc s.2.2.2 t 3) t o),0)
 else if k=17 then ((owP s.1 (muP w o) t,s.2.1,s.2.2.1,cdP (Kc s.2.2.2 t 2) t 0),0)
 else if k=18 then (if (wl s.2.2.2 o s.2.2.2.length).length=0 then (s,-1) else ((s.1,s.2.1,s.2.2.1,Kc s.2.2.2 (C4 (wl s.2.2.2 o s.2.2.2.length) u) 4),C4 (wl s.2.2.2 o s.2.2.2.length) u))
 else if k=19 then ((s.1,s.2.1,s.2.2.1,Om s.2.2.2 (wl s.2.2.2 o s.2.2.2.length)),((wl s.2.2.2 o s.2.2.2.length).length:Int))
 else if k=20 then ((s.1,s.2.1,s.2.2.1,Kc s.2.2.2 o 1),0)
 else if k=22 then ((s.1,s.2.1,cJ s.2.2.1 o M,s.2.2.2),0)
 else (s,0)
theorem GJ (l:η):∀th,(Om th l).length=th.length:=by
 induction l with
 |nil=>intro th;rfl
 |cons x r d=>intro th;unfold Om;rw[El];exact (d _).trans (cM ..)
theorem Yt {th:Y (Int×Int×Bool)} {l:η} {i:Nat} (hi:i<l.length):Om th (l.take (i+1))=Kc (Om th (l.take i)) (aH (T:=.int .i64) l (i:Int)) 4:=by
 unfold Om;rw[oG hi,jR,DI,ay,aw hi];rfl
theorem Vi {l:η} (u:Int) (hl:¬l.length=0):C4 l u∈l:=by
 unfold C4;rw[aL hl];split
 .rename_i h;exact sr.1 h
 .exact bH (T:=.int .i64) (by omega) (by omega)
theorem J1 {n:Nat} (w:WT) (s:SY) (hs:SB n s) (A:w.2.2.1.length<=1000) (t k o u:Int):Ok (pf (w,s,t,k,o,u)) λy=>(y.2.2=M->EN w s t k o/\Fw w s t k o/\AP n s y.1/\(y.1,y.2.1)=vO w s t k o u)/\(y.2.2=aa->y.1=([],0,[],[]))/\(iu (w,s,t,k,o)=Z M->y.2.2=M):=by
 unfold pf aX bh bk bS bn cI cC dI ck bi bx bF kF aY cH aB ct;obtain⟨b,q,hb⟩:=JY w s hs A t k o;refine aQ q ?_;refine cQ (λh=>ai ⟨λh=>(by cases h),λ_=>rfl,λh2=>(by rw[q,h]at h2;cases h2)⟩) (λh=>?_);obtain⟨he,hry⟩:=hb h;refine aQ (qv s hs) ?_;suffices hmain:Ok _ _ from aW (λx=>AP n s (x.2.2.2.1,x.2.1,x.2.2.2.2)/\((x.2.2.2.1,x.2.1,x.2.2.2.2),x.1)=vO w s t k o u) hmain λx z=>ai ⟨λ_=>⟨he,hry,z⟩,λh=>(by cases h),λ_=>rfl⟩
 obtain⟨nm,t0,t1,cd,e1,e2,e3⟩:=id he;obtain⟨_,_,ce,lk,cn,th,fu⟩:=nm;have hn:=hs.n1;have hlk:=hs.lk;have hm:16<=k/\k<=19->0<=(aH (T:=pI) w.2.2.1 o).2/\(aH (T:=pI) w.2.2.1 o).2<w.2.1.length:=λh=>cd _ (bH (cn h).1 (cn h).2)
 have hr:∀j:Int,0<=j->j<s.1.length->(aH (T:=s9) s.1 j).2.length<=n:=λj h0 h1=>hs.rd _ (bH (T:=s9) h0 h1)
 rcases @xZ k with rfl|rfl|rfl|rfl|rfl|rfl|rfl|rfl|rfl|rfl|rfl|rfl|rfl|rfl|rfl|rfl|rfl|rfl|rfl|rfl|rfl|rfl|rfl|⟨hk,D⟩
 case inr.inr.inr.inr.inr.inr.inr.inr.inr.inr.inr.inr.inr.inr.inr.inr.inr.inr.inr.inr.inr.inr.inr=>omega
 all_goals simp only[aN,aS,kD]
 all_goals with_reducible repeat' first|(refine OS.ok ?_;constructor)|refine IM.mk λ_=>?_
 all_goals try simp only[aj,od] at*
 all_goals try rw[cM]
 all_goals first|omega|exact (hm ⟨by decide,by decide⟩).1|exact e1▸(hm ⟨by decide,by decide⟩).2|exact⟨AP.same hs _ _ _ rfl rfl,rfl⟩|exact⟨AP.same hs _ _ _ rfl (cM _ _ _),rfl⟩|exact⟨AP.same hs _ _ _ (cM _ _ _) rfl,rfl⟩|skip
 all_goals try exact⟨AP.set hs _ _ _ (iq (hr o (by omega) (by omega))) _ _ _ rfl rfl,rfl⟩
 .have:=hr o (by omega) (by omega);refine aQ (Rj _ _ (cW this (by have:=hs.n1;omega)) (by simp)) ?_;with_reducible repeat' first|(refine OS.ok ?_;constructor)|refine IM.mk λ_=>?_
  all_goals try simp only[aj,od] at*
  all_goals first|omega|skip
  exact⟨AP.set hs _ _ _ (by have:=X0 (aH (T:=s9) s.1 o).2 [t];simp at this;omega) _ _ _ rfl rfl,rfl⟩
 .have:=hr o (by omega) (by omega);have hl:(wo (aH (T:=s9) s.1 o).2 t).length<=(aH (T:=s9) s.1 o).2.length:=List.length_filter_le ..;refine aQ (RQ _ _ (by omega)) ?_;with_reducible repeat' first|(refine OS.ok ?_;constructor)|refine IM.mk λ_=>?_
  all_goals try simp only[aj,od] at*
  all_goals first|omega|skip
  exact⟨AP.set hs _ _ _ (cW hl (by omega)) _ _ _ rfl rfl,rfl⟩
 .exact⟨AP.set hs _ _ _ (iq (hr _ (hm ⟨by decide,by decide⟩).1 (by rw[e1];exact (hm ⟨by decide,by decide⟩).2))) _ _ _ rfl (by rw[cM,cM]),rfl⟩
 .exact⟨AP.set hs _ _ _ (iq (hr _ (hm ⟨by decide,by decide⟩).1 (by rw[e1];exact (hm ⟨by decide,by decide⟩).2))) _ _ _ rfl (by rw[cM,cM]),rfl⟩
 .refine aQ (Fv s o hs.th) ?_;have hth:=hs.th;have hll:=pM s.2.2.2 o s.2.2.2.length;have hml:∀u∈wl s.2.2.2 o s.2.2.2.length,0<=u/\u<s.2.2.2.length:=λu hu=>⟨(xJ.1 hu).1,(xJ.1 hu).2.1⟩
  have hap:vO w s t 18 o u=if (wl s.2.2.2 o s.2.2.2.length).length=0 then (s,-1) else ((s.1,s.2.1,s.2.2.1,Kc s.2.2.2 (C4 (wl s.2.2.2 o s.2.2.2.length) u) 4),C4 (wl s.2.2.2 o s.2.2.2.length) u):=rfl
  unfold C4 at hap;revert hll hml hap;generalize wl s.2.2.2 o s.2.2.2.length=l;intro hll hml hap;with_reducible repeat' first|(refine OS.ok ?_;constructor)|refine IM.mk λ_=>?_
  all_goals try simp only[aj,od] at*
  all_goals first|omega|skip
  .have d:=hml _ (bH (T:=.int .i64) (xs:=l) (j:=0) (by omega) (by omega));rw[aL (by omega),aL (by omega)]at hap;simp only[JW l u (by omega),RL];refine aJ (λhc=>?_) λhc=>?_
   .have hu:=hml u (sr.1 hc);rw[hc,aU rfl]at hap;refine ai (aK hu.1 hu.2 (aK hu.1 hu.2 (ai ⟨AP.same hs _ _ _ rfl (cM ..),?_⟩)));rw[hap];rfl
   .rw[hc,aL (by decide)]at hap;refine ai (aK d.1 d.2 (aK d.1 d.2 (ai ⟨AP.same hs _ _ _ rfl (cM ..),?_⟩)));rw[hap];rfl
  .rw[aU (by omega)]at hap;exact⟨AP.same hs _ _ _ rfl rfl,hap.symm⟩
 .refine aQ (Fv s o hs.th) ?_;have hth:=hs.th;have hll:=pM s.2.2.2 o s.2.2.2.length;have hml:∀u∈wl s.2.2.2 o s.2.2.2.length,0<=u/\u<s.2.2.2.length:=λu hu=>⟨(xJ.1 hu).1,(xJ.1 hu).2.1⟩
  have hap:vO w s t 19 o u=((s.1,s.2.1,s.2.2.1,Om s.2.2.2 (wl s.2.2.2 o s.2.2.2.length)),((wl s.2.2.2 o s.2.2.2.length).length:Int)):=rfl;rw[hap];clear hap;generalize wl s.2.2.2 o s.2.2.2.length=l at hll hml ⊢;refine cf l.length (λi x=>x=((i:Int),s.2.1,0,s.1,s.2.2.1,Om s.2.2.2 (l.take i))) ?_ ?_ rfl
  .rintro i x hi rfl;have d:=hml _ (bH (T:=.int .i64) (xs:=l) (j:=(i:Int)) (by omega) (by omega));have hq:=GJ (l.take i) s.2.2.2;with_reducible repeat' first|(refine OS.ok ?_;constructor)|refine IM.mk λ_=>?_
   all_goals try simp only[aj,od] at*
   all_goals first|omega|skip
   rw[fk (by omega),Yt hi];rfl
  .rintro x rfl;rw[bQ];with_reducible repeat' first|(refine OS.ok ?_;constructor)|refine IM.mk λ_=>?_
   all_goals try simp only[aj,od] at*
   all_goals first|omega|skip
   exact AP.same hs _ _ _ rfl (GJ ..)
abbrev SN:Type:=SY×η×η×η
abbrev ET:Type:=Int×Int×Int×Int×Int×η×η
theorem abg (a b:Int):BK (a,b)=Z (decide (0<=a/\a<b)):=O_ a b
structure NB (n:Nat) (s:SN):Prop where
 sb:SB n s.1
 c:s.2.1.length<=1000
 f:s.2.2.1.length<=1000
 k:s.2.2.2.length<=1000
structure SP (n:Nat) (s y:SN):Prop where
 ap:AP n s.1 y.1
 c:y.2.1.length=s.2.1.length
 f:y.2.2.1.length=s.2.2.1.length
 k:y.2.2.2.length=s.2.2.2.length
theorem SP.NB {n:Nat} {s y:SN} (h:SP n s y) (hs:NB n s) (hn:n+1<=100000):NB (n+1) y:=
 ⟨h.ap.toSB hs.sb hn,by rw[h.c];exact hs.c,by rw[h.f];exact hs.f,by rw[h.k];exact hs.k⟩
def sn0:SN:=(([],0,[],[]),[],[],[])
structure Rw (w:WT) (s:SN):Prop where
 c:s.2.1.length=w.1.length
 f:s.2.2.1.length=w.2.2.2.1.length
 k:s.2.2.2.length=w.2.2.2.2.1.length
theorem Xu (w:WT) (s:SN) (d:w.2.2.1.length<=1000):Ok (qM (w,s)) λb=>b=M->Rw w s:=by
 unfold qM aX bh bk cI bi aY aB;refine fw (ar (Oi w s.1 (by omega)) λb hb=>?_);with_reducible repeat' first|(refine OS.ok ?_;constructor)|refine IM.mk λ_=>?_
 all_goals try simp only[aj,od] at*
 all_goals first|(intro h;constructor<;>omega)|(intro h;cases h;done)
theorem N7:∀(l:η),(∀k:Nat,k+1<l.length->l.getD k 0<l.getD (k+1) 0)->xG l
 |[],_=>trivial
 |[x],_=>⟨λy s=>(by cases s),trivial⟩
 |x::y::r,h=>by
  have q:=N7 (y::r) λk hk=>by have:=h (k+1) (by simpa using hk);simpa using this
  have h0:=h 0 (by simp);simp at h0;refine ⟨λz d=>?_,q⟩;rcases bu.1 d with rfl|d
  .exact h0
  .have:=q.1 z d;omega
structure AN (c:Int) (l:η):Prop where
 a:xG l
 m:∀x:Int,x∈l->1<=x/\x<c
theorem G4:∀(l:η) (lo hi:Int),xG l->(∀y∈l,lo<=y/\y<hi)->(l.length:Int)<=max 0 (hi-lo)
 |[],lo,hi,_,_=>by simp;omega
 |x::r,lo,hi,h,hm=>by
  have h1:=hm x (eo ..);have h2:=G4 r (x+1) hi h.2 λy d=>⟨by have:=h.1 y d;omega,(hm y (di _ d)).2⟩
  rw[ca];omega
theorem AN.len {c:Int} {l:η} (h:AN c l):(l.length:Int)<=max 0 c:=by
 have:=G4 l 1 c h.a h.m;omega
theorem YO {l:η} {i:Nat} {c:Int} (d:∀k:Nat,k<i->1<=aH (T:=.int .i64) l (k:Int)/\aH (T:=.int .i64) l (k:Int)<c) (s:∀k:Nat,k+1<i->l.getD k 0<l.getD (k+1) 0):(i:Int)<=max 0 c:=by
 have key:∀k:Nat,k<i->(k:Int)+1<=l.getD k 0:=by
  intro k;induction k with
  |zero=>intro hk;have:=(d 0 hk).1;rw[DI]at this;exact this
  |succ k q=>
   intro hk;have h1:=q (by omega);have h2:=s k hk;omega
 rcases rj i with z|z
 .omega
 .have h1:=key (i-1) (by omega);have h2:=(d (i-1) (by omega)).2;rw[DI]at h2;have h2:l.getD (i-1) 0<c:=h2;omega
theorem Hx (l:η) (c:Int) (hl:l.length<=1000000000\/c<=1000000000):Ok (kf (l,c)) λb=>b=M->AN c l:=by
 unfold kf bx ja bF aY cH aB ct;refine cf l.length (λi x=>x=(i:Int)/\(∀k:Nat,k<i->1<=aH (T:=.int .i64) l (k:Int)/\aH (T:=.int .i64) l (k:Int)<c)/\∀k:Nat,k+1<i->l.getD k 0<l.getD (k+1) 0) ?_ ?_ ⟨rfl,λk hk=>by omega,λk hk=>by omega⟩
 .rintro i x hi ⟨rfl,d,q⟩;have hbd:i<=1000000000:=by
   have:=YO d q;rcases hl with hl|hl<;>omega
  have s:0<(i:Int)->aZ .i64 ((i:Int)-1)=((i-1:Nat):Int):=λh=>by rw[gF (by omega) (by omega)];omega
  have hq:(0<i->l.getD (i-1) 0<l.getD i 0)->1<=aH (T:=.int .i64) l (i:Int)/\aH (T:=.int .i64) l (i:Int)<c->aZ .i64 ((i:Int)+1)=((i+1:Nat):Int)/\(∀k:Nat,k<i+1->1<=aH (T:=.int .i64) l (k:Int)/\aH (T:=.int .i64) l (k:Int)<c)/\∀k:Nat,k+1<i+1->l.getD k 0<l.getD (k+1) 0:=λA z=>by
   refine ⟨fk (by omega),λk hk=>?_,λk hk=>?_⟩
   .rcases bM k i with h1|h1
    .exact d k h1
    .rw[show k=i by omega];exact z
   .rcases bM (k+1) i with h1|h1
    .exact q k h1
    .have:=A (by omega);rw[show k=i-1 by omega,show i-1+1=i by omega];exact this
  with_reducible repeat' first|(refine OS.ok ?_;constructor)|refine IM.mk λ_=>?_
  all_goals try simp only[aj,od] at*
  all_goals first|omega|(intro h;cases h;done)|(rw [s (by omega)];omega)|skip
  .rename_i h1 h2 h3 h4;rw[s h3,DI,DI]at h4;exact hq (λ_=>h4) ⟨by omega,by omega⟩
  .exact hq (λh=>by omega) ⟨by omega,by omega⟩
 .rintro x ⟨rfl,d,q⟩;with_reducible repeat' first|(refine OS.ok ?_;constructor)|refine IM.mk λ_=>?_
  all_goals try simp only[aj,od] at*
  all_goals first|omega|skip
  exact⟨N7 l λk hk=>q k hk,ii (T:=.int .i64) d⟩
structure VA (w:WT) (sy:SY) (ce fu:η) (t k o v:Int):Prop where
 ld:k=3->v=aH (T:=.int .i64) ce o
 gt:k=23->v=aH (T:=.int .i64) fu o
 br:k=5->v=0\/v=1
 el:¬k=3->¬k=23->¬k=5->¬k=4->¬k=22->v=(vO w sy t k o v).2
theorem ite2 {c:Prop} [Decidable c] {a b:SY×Int} (d:a.2=0) (hb:b.2=0):(if c then a else b).2=0:=by by_cases h:c<;>simp[h,d,hb]
theorem Vq (w:WT) (sy:SY) (t k o u:Int) (h1:¬k=18) (h2:¬k=19):(vO w sy t k o u).2=0:=by
 unfold vO;rw[aL h1,aL h2];repeat (first|exact rfl|refine ite2 rfl ?_)
theorem ae1 (w:WT) (sy:SY) (t k o u d:Int) (h1:¬k=18):vO w sy t k o u=vO w sy t k o d:=by
 unfold vO;rw[aL h1,aL h1]
theorem JF (w:WT) (sy:SY) (t o u:Int):vO w sy t 18 o u=if (wl sy.2.2.2 o sy.2.2.2.length).length=0 then (sy,-1) else ((sy.1,sy.2.1,sy.2.2.1,Kc sy.2.2.2 (C4 (wl sy.2.2.2 o sy.2.2.2.length) u) 4),C4 (wl sy.2.2.2 o sy.2.2.2.length) u):=rfl
theorem Uf (w:WT) (sy:SY) (t o u:Int):(vO w sy t 19 o u).2=((wl sy.2.2.2 o sy.2.2.2.length).length:Int):=rfl
theorem XZ {n:Nat} (w:WT) (s:SN) (hs:NB n s) (hf:Rw w s) (e:ET) (he:EN w s.1 e.1 e.2.1 e.2.2.1):Ok (o_ (s,e)) λb=>b=M->VA w s.1 s.2.1 s.2.2.1 e.1 e.2.1 e.2.2.1 e.2.2.2.1:=by
 obtain⟨t,k,o,v,si,de,fr⟩:=e;obtain⟨s1,s2,F,s4⟩:=s;obtain⟨nm,t0,t1,cd,e1,e2,e3⟩:=he;obtain⟨_,_,ce,lk,cn,th,fu,_,_,_⟩:=nm;obtain⟨f1,f2,f3⟩:=hf;have hth:=hs.sb.th;dsimp only at*
 unfold o_ aX bh bk bS bn bi bx ja bF aY aB;have hW:=JK s1 o hth;have hWl:=pM s1.2.2.2 o s1.2.2.2.length;refine aF (λh=>?_) λL=>?_
 .have h:k=3:=h;obtain⟨D,A⟩:=ce (.inl h);exact aK D (by rw[f1];exact A) (aV (ai λh2=>⟨λ_=>ba h2,λh3=>by omega,λh3=>by omega,λh3=>(h3 h).elim⟩))
 refine aF (λh=>?_) λd=>?_
 .have h:k=23:=h;obtain⟨D,A⟩:=fu (.inr h);exact aK D (by rw[f2];exact A) (aV (ai λh2=>⟨λh3=>by omega,λ_=>ba h2,λh3=>by omega,λ_ h3=>(h3 h).elim⟩))
 refine aF (λh=>?_) λI=>?_
 .have h:k=5:=h;exact fw (aF (λh2=>ai (ai λ_=>⟨λh3=>by omega,λh3=>by omega,λ_=>.inl h2,λ_ _ h3=>(h3 h).elim⟩)) λ_=>ai (ai λh2=>⟨λh3=>by omega,λh3=>by omega,λ_=>.inr (ba h2),λ_ _ h3=>(h3 h).elim⟩))
 refine aW (λx=>x.2=((s1,s2,F,s4),t,k,o,v,si,de,fr)/\(x.1=M->k=4\/k=22)) (aF (λh=>ai ⟨rfl,λ_=>.inl h⟩) λ_=>ai ⟨rfl,λh=>.inr (ba h)⟩) ?_;rintro⟨b,x⟩ ⟨e,hb⟩;dsimp only at e hb;subst e;refine aJ (λh=>ai λ_=>⟨λh3=>(L h3).elim,λh3=>(d h3).elim,λh3=>(I h3).elim,λ_ _ _ h4 h5=>(hb h).elim (λh=>(h4 h).elim) λh=>(h5 h).elim⟩) λ_=>?_
 have fin:v=(vO w s1 t k o v).2->VA w s1 s2 F t k o v:=λh=>⟨λh3=>(L h3).elim,λh3=>(d h3).elim,λh3=>(I h3).elim,λ_ _ _ _ _=>h⟩
 refine aF (λh=>?_) λz=>?_
 .have h:k=18:=h;subst h;rw[JF]at fin;refine aQ hW ?_;revert fin hWl;generalize wl s1.2.2.2 o s1.2.2.2.length=l;intro hWl fin;refine aF (λh=>ai λh2=>fin ?_) λh=>?_
  .dsimp only[aj]at h;rw[aU (by omega)];exact ba h2
  .dsimp only[aj]at h;have hne:¬l.length=0:=by omega
   refine fw (dT (λ_=>aR (λ_=>?_) λ_=>ai (ai λh=>(by cases h))) λ_=>ai (ai λh=>(by cases h)));refine aQ (JW _ _ (by omega)) (ai (ai λh2=>fin ?_));rw[aL hne];unfold C4;rw[aL hne,aU h2]
 refine aF (λh=>?_) λq=>?_
 .have h:k=19:=h;subst h;exact aQ hW (ai λh2=>fin (ba h2))
 exact ai λh2=>fin (by rw[Vq _ _ _ _ _ _ z q];exact ba h2)
structure XR (w:WT) (s:SN) (e:ET):Prop where
 rd:Fw w s.1 e.1 e.2.1 e.2.2.1
 s1:e.2.1=1\/e.2.1=2->e.2.2.2.2.1= -1
 s2:¬(e.2.1=1\/e.2.1=2)->0<=e.2.2.2.2.1/\e.2.2.2.2.1<w.2.2.2.2.2.length/\(aH (T:=C2) w.2.2.2.2.2 e.2.2.2.2.1).1=e.1
 de:0<e.2.2.2.2.2.1.length->e.2.1=5\/(e.2.1=3\/e.2.1=4)/\¬(aH (T:=Ol) w.1 e.2.2.1).2.2.1=0
 fr:0<e.2.2.2.2.2.2.length->e.2.1=4\/e.2.1=22
 nd:AN (aH (T:=.int .i64) s.2.2.2 e.1) e.2.2.2.2.2.1
 nf:AN (aH (T:=.int .i64) s.2.2.2 e.1) e.2.2.2.2.2.2
 va:VA w s.1 s.2.1 s.2.2.1 e.1 e.2.1 e.2.2.1 e.2.2.2.1
def Zn (ce:η) (e:ET):η:=if e.2.1=4 then cJ ce e.2.2.1 e.2.2.2.1 else ce
def fuP (fu:η) (e:ET):η:=if e.2.1=22 then cJ fu e.2.2.1 e.2.2.2.1 else fu
def RM (w:WT) (s:SN) (e:ET):SN:=((vO w s.1 e.1 e.2.1 e.2.2.1 e.2.2.2.1).1,Zn s.2.1 e,fuP s.2.2.1 e,cJ s.2.2.2 e.1 (aZ .i64 (aH (T:=.int .i64) s.2.2.2 e.1+1)))
theorem zp {n:Nat} (w:WT) (s:SN) (hs:NB n s) (hw:w.2.2.1.length<=1000) (e:ET) (hd:e.2.2.2.2.2.1.length<=1000000000\/(aH (T:=.int .i64) s.2.2.2 e.1:Int)<=1000000000) (hf:e.2.2.2.2.2.2.length<=1000000000\/(aH (T:=.int .i64) s.2.2.2 e.1:Int)<=1000000000):Ok (ny (w,s,e)) λy=>(y.2=M->EN w s.1 e.1 e.2.1 e.2.2.1/\SP n s y.1/\XR w s e/\y.1=RM w s e)/\(y.2=aa->y.1=sn0):=by
 have z:∀{Q:SN×Bool->Prop},Q (sn0,aa)->Ok (Z (sn0,aa)) Q:=λh=>ai h
 have A:((sn0,aa).2=M->EN w s.1 e.1 e.2.1 e.2.2.1/\SP n s (sn0,aa).1/\XR w s e/\(sn0,aa).1=RM w s e)/\((sn0,aa).2=aa->(sn0,aa).1=sn0):=⟨λh=>(by cases h),λ_=>rfl⟩
 unfold ny aX bh bk bS da bn cI cC dI gG ck bi bx iA bp bF kF aY cH aB ct;refine aW (λx=>x.2=(w,s,e,0)/\(x.1=aa->Rw w s/\(EN w s.1 e.1 e.2.1 e.2.2.1/\Fw w s.1 e.1 e.2.1 e.2.2.1)/\iu (w,s.1,e.1,e.2.1,e.2.2.1)=Z M)) ?_ ?_
 .refine ar (Xu w s hw) λb hb=>?_
  with_reducible repeat' first|(refine OS.ok ?_;constructor)|refine IM.mk λ_=>?_
  .exact⟨rfl,λh=>(by cases h)⟩
  simp only[abg,RL];with_reducible repeat' first|(refine OS.ok ?_;constructor)|refine IM.mk λ_=>?_
  .exact⟨rfl,λh=>(by cases h)⟩
  .exact⟨rfl,λh=>(by cases h)⟩
  .exact⟨rfl,λh=>(by cases h)⟩
  obtain⟨c,I,hc⟩:=JY w s.1 hs.sb hw e.1 e.2.1 e.2.2.1;refine aQ I (ai ⟨rfl,λh=>?_⟩);have h:c=M:=by simpa using h
  exact⟨hb (by assumption),hc h,h▸I⟩
 rintro⟨x1,x2⟩ ⟨d,hx⟩;dsimp only at d hx;subst d;refine aJ (λ_=>z A) λh1=>?_
 obtain⟨hF,⟨hE,hR⟩,hEn⟩:=hx h1;clear hx h1;refine aW (λx=>x=(w,s,e,0)/\(e.2.1=1\/e.2.1=2->e.2.2.2.2.1= -1)/\(¬(e.2.1=1\/e.2.1=2)->0<=e.2.2.2.2.1/\e.2.2.2.2.1<w.2.2.2.2.2.length/\(aH (T:=C2) w.2.2.2.2.2 e.2.2.2.2.1).1=e.1)) ?_ ?_
 .refine aW (λx=>x.2=(w,s,e,0)/\(x.1=M->e.2.1=1\/e.2.1=2)/\(x.1=aa->¬(e.2.1=1\/e.2.1=2))) ?_ ?_
  .refine aF (λh=>ai ⟨rfl,λ_=>.inl h,λh=>(by cases h)⟩) λh=>ai ⟨rfl,λh2=>.inr (ba h2),λh2=>?_⟩
   have:=jy h2;exact λh3=>h3.elim h this
  rintro⟨x1,x2⟩ ⟨d,F,D⟩;dsimp only at d F D;subst d;refine aJ (λhk=>?_) λhk=>?_
  .exact bW (λ_=>ai A) λh=>ai ⟨rfl,λ_=>h,λh3=>(h3 (F hk)).elim⟩
  .refine aW (λx=>x.2=(w,s,e,0)/\(x.1=aa->0<=e.2.2.2.2.1/\e.2.2.2.2.1<w.2.2.2.2.2.length/\(aH (T:=C2) w.2.2.2.2.2 e.2.2.2.2.1).1=e.1)) ?_ ?_
   .simp only[abg,RL];refine bW (λ_=>ai ⟨rfl,λh=>(by cases h)⟩) λh=>aK h.1 h.2 (aV (ai ⟨rfl,λh2=>⟨h.1,h.2,?_⟩⟩))
    simpa using h2
   rintro⟨x1,x2⟩ ⟨d,z⟩;dsimp only at d z;subst d;exact aJ (λ_=>ai A) λh=>ai ⟨rfl,λh3=>((D hk) h3).elim,λ_=>z h⟩
 rintro x ⟨rfl,hS1,hS2⟩;obtain⟨nm,t0,t1,cd,e1,e2,e3⟩:=id hE;obtain⟨_,_,ce,lk,cn,th,fu,_,_,_⟩:=nm;obtain⟨f1,f2,f3⟩:=id hF;refine aW (λx=>x.2=(w,s,e,0)/\(x.1=M->e.2.1=3\/e.2.1=4)) ?_ ?_
 .with_reducible repeat' first|(refine OS.ok ?_;constructor)|refine IM.mk λ_=>?_
  .exact⟨rfl,λ_=>.inl (by assumption)⟩
  .exact⟨rfl,λh=>.inr (ba h)⟩
 rintro⟨x1,x2⟩ ⟨d,q⟩;dsimp only at d q;subst d;refine aW (λx=>x.2=(w,s,e,0)/\(x.1=aa->0<e.2.2.2.2.2.1.length->e.2.1=5\/(e.2.1=3\/e.2.1=4)/\¬(aH (T:=Ol) w.1 e.2.2.1).2.2.1=0)) ?_ ?_
 .refine aR (λ_=>bW (λ_=>aJ (λh=>?_) λ_=>ai ⟨rfl,λh=>(by cases h)⟩) λL=>ai ⟨rfl,λ_ _=>.inl L⟩) λh=>ai ⟨rfl,λ_ h2=>?_⟩
  .refine aK (ce (q h)).1 (ce (q h)).2 (aV (ai ⟨rfl,λh2 _=>.inr ⟨q h,?_⟩⟩));simpa using h2
  .dsimp only[aj]at h;omega
 rintro⟨x1,x2⟩ ⟨d,hDe⟩;dsimp only at d hDe;subst d;refine aJ (λ_=>z A) λhde=>?_
 refine aW (λx=>x.2=(w,s,e,0)/\(x.1=aa->0<e.2.2.2.2.2.2.length->e.2.1=4\/e.2.1=22)) ?_ ?_
 .refine aR (λ_=>bW (λ_=>ai ⟨rfl,λh _=>.inr (by simpa using h)⟩) λh4=>ai ⟨rfl,λ_ _=>.inl h4⟩) λh=>ai ⟨rfl,λ_ h2=>?_⟩
  dsimp only[aj]at h;omega
 rintro⟨x1,x2⟩ ⟨d,hFr⟩;dsimp only at d hFr;subst d;refine aJ (λ_=>z A) λhfr=>?_
 have hk:=hs.k;have hc:=hs.c;have hfu:=hs.f;refine aW (λx=>x.2=(w,s,e,0)/\(x.1=aa->AN (aH (T:=.int .i64) s.2.2.2 e.1) e.2.2.2.2.2.1/\AN (aH (T:=.int .i64) s.2.2.2 e.1) e.2.2.2.2.2.2/\VA w s.1 s.2.1 s.2.2.1 e.1 e.2.1 e.2.2.1 e.2.2.2.1)) ?_ ?_
 .have hv:=XZ w s hs hF e hE;refine aK t0 (by rw[f3];exact t1) (aV (ar (Hx _ _ hd) λb hb=>?_));refine cQ (λ_=>ai ⟨rfl,λh=>(by cases h)⟩) λb1=>?_
  refine aK t0 (by rw[f3];exact t1) (aV (ar (Hx _ _ hf) λb hb2=>?_));refine cQ (λ_=>ai ⟨rfl,λh=>(by cases h)⟩) λb2=>?_
  exact ar hv λb hb3=>ai ⟨rfl,λh=>⟨hb b1,hb2 b2,hb3 (by simpa using h)⟩⟩
 rintro⟨x1,x2⟩ ⟨d,hNum⟩;dsimp only at d hNum;subst d;refine aJ (λ_=>z A) λhnu=>?_
 obtain⟨hN1,hN2,hVA⟩:=hNum hnu;have hS:XR w s e:=⟨hR,hS1,hS2,hDe hde,hFr hfr,hN1,hN2,hVA⟩
 refine a_ (by simp;omega) (by omega) (a_ (by simp;omega) (by omega) (a_ (by simp;omega) (by omega) ?_));refine aW (λx=>x.2=(w,s,e,0,0,s.2.1,s.2.2.1,s.2.2.2)/\vO w s.1 e.1 e.2.1 e.2.2.1 x.1=vO w s.1 e.1 e.2.1 e.2.2.1 e.2.2.2.1) ?_ ?_
 .exact aF (λ_=>ai ⟨rfl,rfl⟩) λh=>ai ⟨rfl,ae1 _ _ _ _ _ _ _ h⟩
 rintro⟨x1,x2⟩ ⟨d,hxu⟩;dsimp only at d hxu;subst d;refine ar (J1 w s.1 hs.sb hw e.1 e.2.1 e.2.2.1 x1) λy hy=>?_
 obtain⟨_,_,hap,hyq⟩:=hy.1 (hy.2.2 hEn);rw[hxu]at hyq;refine aW (λx=>x.1=e/\x.2.2.1=y.1/\x.2.2.2.1=Zn s.2.1 e/\x.2.2.2.2=(s.2.2.1,s.2.2.2)) ?_ ?_
 .unfold Zn;refine aF (λh=>?_) λh=>ai ⟨rfl,rfl,(aL h).symm,rfl⟩
  have hc4:=ce (.inr h);with_reducible repeat' first|(refine OS.ok ?_;constructor)|refine IM.mk λ_=>?_
  all_goals try simp only[aj,od] at*
  all_goals first|omega|exact (aU h).symm
 rintro⟨x1,x2,x3,x4,x5,x6⟩ ⟨h1,h2,h3,h4⟩;simp only[aC]at h1 h2 h3 h4;obtain⟨rfl,rfl⟩:=h4;subst h1;subst h2;subst h3;refine aW (λx=>x.1=x1/\x.2.2.1=y.1/\x.2.2.2.1=Zn s.2.1 x1/\x.2.2.2.2.1=fuP s.2.2.1 x1/\x.2.2.2.2.2=s.2.2.2) ?_ ?_
 .unfold fuP;refine aF (λh=>?_) λh=>ai ⟨rfl,rfl,rfl,(aL h).symm,rfl⟩
  have hc4:=fu (.inl h);with_reducible repeat' first|(refine OS.ok ?_;constructor)|refine IM.mk λ_=>?_
  all_goals try simp only[aj,od] at*
  all_goals first|omega|exact (aU h).symm
 rintro⟨x1,x2,x3,x4,x5,x6⟩ ⟨h1,h2,h4,L,h6⟩;simp only at h1 h2 h4 L h6;subst h1;subst h2;subst h4;subst L;subst h6;have l1:(Zn s.2.1 x1).length=s.2.1.length:=by unfold Zn;split<;>simp[cM]
 have l2:(fuP s.2.2.1 x1).length=s.2.2.1.length:=by unfold fuP;split<;>simp[cM]
 with_reducible repeat' first|(refine OS.ok ?_;constructor)|refine IM.mk λ_=>?_
 all_goals try simp only[aj,od] at*
 all_goals first|omega|skip
 exact⟨⟨hE,⟨hap,l1,l2,by rw[cM]⟩,hS,by unfold RM;rw[<- hyq]⟩,λh=>(by cases h)⟩
theorem Rr:Ok (oo ()) λl=>l.length=22:=by
 unfold oo;with_reducible repeat' first|(refine OS.ok ?_;constructor)|refine IM.mk λ_=>?_
 all_goals rfl
theorem Og (s:ζ):Ok (jC s) λ_=>True:=by
 unfold jC bx bF aY cH aB ct;refine ar Rr λl hl=>?_
 refine cf l.length (λi x=>x=(i:Int)) ?_ ?_ rfl
 .rintro i x hi rfl;with_reducible repeat' first|(refine OS.ok ?_;constructor)|refine IM.mk λ_=>?_
  all_goals try simp only[aj,od] at*
  all_goals first|omega|exact fk (by omega)
 .rintro x rfl;with_reducible repeat' first|(refine OS.ok ?_;constructor)|refine IM.mk λ_=>?_
  all_goals try simp only[aj,od] at*
  all_goals omega
theorem Mt (c:Int):Ok (lx c) λ_=>True:=by
 unfold lx ja aB;with_reducible repeat' first|(refine OS.ok ?_;constructor)|refine IM.mk λ_=>?_
 all_goals exact trivial
theorem YI (c:Int):Ok (pi c) λ_=>True:=by
 unfold pi tw ja aB;refine fw (ar (Mt c) λ_ _=>?_);with_reducible repeat' first|(refine OS.ok ?_;constructor)|refine IM.mk λ_=>?_
 all_goals try exact trivial
 refine ar (P:=λ_=>True) ?_ λ_ _=>?_
 .with_reducible repeat' first|(refine OS.ok ?_;constructor)|refine IM.mk λ_=>?_
  all_goals exact trivial
 .with_reducible repeat' first|(refine OS.ok ?_;constructor)|refine IM.mk λ_=>?_
  all_goals exact trivial
theorem ik (s:ζ):Ok (fb s) λ_=>True:=by
 unfold fb bx mF aY cH aB ct;refine aW (λb=>b=aa->s.length<=12) ?_ ?_
 .with_reducible repeat' first|(refine OS.ok ?_;constructor)|refine IM.mk λ_=>?_
  .exact λh=>(by cases h)
  .exact λh=>(by cases h)
  .omega
  .simp only[aj]at *;omega
  refine ar (Mt _) λ_ _=>?_
  with_reducible repeat' first|(refine OS.ok ?_;constructor)|refine IM.mk λ_=>?_
  .exact λh=>(by cases h)
  refine ar (Og _) λ_ _=>ai λ_=>?_
  simp only[aj]at *;omega
 .rintro b hb;refine aJ (λ_=>ai trivial) λh=>?_
  have hb:=hb h;refine cf s.length (λi x=>x=(i:Int)) ?_ ?_ rfl
  .rintro i x hi rfl;with_reducible repeat' first|(refine OS.ok ?_;constructor)|refine IM.mk λ_=>?_
   all_goals try simp only[aj,od] at*
   all_goals first|omega|skip
   refine ar (YI _) λ_ _=>?_
   with_reducible repeat' first|(refine OS.ok ?_;constructor)|refine IM.mk λ_=>?_
   .exact trivial
   .exact fk (by omega)
  .rintro x rfl;with_reducible repeat' first|(refine OS.ok ?_;constructor)|refine IM.mk λ_=>?_
   all_goals try simp only[aj,od] at*
   all_goals first|omega|exact trivial
theorem Ar (l:Y ζ) (s:ζ) (hl:l.length<=1000000000):Ok (jT (l,s)) λr=> -1<=r/\r<l.length/\(0<=r->aH (T:=.str) l r=s)/\(r<0->s∉l):=by
 unfold jT bx bF aY cH aB ct;refine cf l.length (λi x=>x=(i:Int)/\∀k:Nat,k<i->aH (T:=.str) l (k:Int)≠s) ?_ ?_ ⟨rfl,λk hk=>by omega⟩
 .rintro i x hi ⟨rfl,d⟩;with_reducible repeat' first|(refine OS.ok ?_;constructor)|refine IM.mk λ_=>?_
  all_goals try simp only[aj,od] at*
  all_goals first|omega|skip
  .exact⟨by omega,by omega,λ_=>by assumption,λh=>by omega⟩
  .refine ⟨fk (by omega),λk hk=>?_⟩;rcases bM k i with h1|h1
   .exact d k h1
   .rw[show k=i by omega];assumption
 .rintro x ⟨rfl,d⟩;with_reducible repeat' first|(refine OS.ok ?_;constructor)|refine IM.mk λ_=>?_
  all_goals try simp only[aj,od] at*
  all_goals first|omega|skip
  exact⟨by omega,by omega,λh=>by omega,λ_ h=>ii (T:=.str) (p:=λc=>c≠s) d s h rfl⟩
structure VL (w:WT):Prop where
 c:w.1.length<=12
 l:w.2.1.length<=4
 d:w.2.2.1.length<=2
 f:w.2.2.2.1.length<=2
 t0:1<=w.2.2.2.2.1.length
 t:w.2.2.2.2.1.length<=4
 s:w.2.2.2.2.2.length<=60
theorem Yr (w:WT) (h:VL w):Ok (pg w) λy=>y.1.length<=100:=by
 obtain⟨w1,w2,w3,w4,s,q⟩:=w;obtain⟨h1,h2,h3,h4,_,h5,h6⟩:=h;dsimp only at*
 unfold pg aX bh bk bS cI gG bi bx iA bp bF aY cH aB ct;refine ml (λx=>((w1.length:Int)-x.1).toNat) (λx=>x.2.1=(w1,w2,w3,w4,s,q)/\0<=x.1/\x.1<=(w1.length:Int)/\(x.2.2.length:Int)<=x.1) ?_ ⟨rfl,by simp,by simp,by simp⟩;rintro⟨x1,x2,x3⟩ ⟨e,g1,g2,g3⟩;dsimp only at e g1 g2 g3;subst e;refine aR (λA=>?_) λA=>?_
 .dsimp only[aj]at A;refine aW (λx=>x.2.1=(w1,w2,w3,w4,s,q)/\x1<x.1/\x.1<=(w1.length:Int)/\(x.2.2.length:Int)<=x.1) ?_ ?_
  .refine dV (aV (a_ (by simp;omega) (by omega) ?_));refine aF (λ_=>?_) λ_=>?_
   .with_reducible repeat' first|(refine OS.ok ?_;constructor)|refine IM.mk λ_=>?_
    .exact oF _
    .rw[gF (by omega) (by omega)];exact⟨rfl,by dsimp only;omega,by dsimp only;omega,by simp;omega⟩
   .generalize hz:aH _ x1=z;obtain⟨D,(z2:Int),(d:Int),L,I⟩:=z;dsimp only;refine aW (λx=>x.2=((w1,w2,w3,w4,s,q),x3++[D],D,z2,d,L,I)/\(x.1=aa->1<=d/\d<=4/\x1+d<=w1.length)) ?_ ?_
    .with_reducible repeat' first|(refine OS.ok ?_;constructor)|refine IM.mk λ_=>?_
     .exact⟨rfl,λh=>(by cases h)⟩
     .exact⟨rfl,λh=>(by cases h)⟩
     .refine ⟨rfl,λh=>?_⟩;dsimp only[aj] at*
      rw[gF (by omega) (by omega),fy]at h;omega
    .rintro⟨b,y⟩ ⟨e,hb⟩;dsimp only at e hb;subst e;refine aJ (λ_=>ai (oF _)) λh=>?_
     obtain⟨q1,q2,q3⟩:=hb h;refine ml (λx=>(d-x.1).toNat) (λx=>x.2=((w1,w2,w3,w4,s,q),x3++[D],D,z2,d,L,I)/\0<=x.1/\x.1<=d) ?_ ⟨rfl,by simp,by dsimp only;omega⟩;rintro⟨k,y⟩ ⟨e,k0,k1⟩;dsimp only at e k0 k1;subst e;refine aR (λk2=>?_) λk2=>?_
     .dsimp only at k2;have e1:aZ .i64 (x1+k)=x1+k:=gF (by omega) (by omega);refine aK (by dsimp only;rw[e1];omega) (by dsimp only;rw[e1];omega) (aV ?_);refine aW (λx=>x.2=((w1,w2,w3,w4,s,q),x3++[D],D,z2,d,L,I)) ?_ ?_
      .with_reducible repeat' first|(refine OS.ok ?_;constructor)|refine IM.mk λ_=>?_
       all_goals rfl
      .rintro⟨b,y⟩ e;dsimp only at e;subst e;refine aJ (λ_=>ai (oF _)) λ_=>ai ?_
       dsimp only;rw[gF (by omega) (by omega)];exact⟨⟨rfl,by omega,by omega⟩,by omega⟩
     .dsimp only at k2;refine ai ?_;dsimp only;rw[gF (by omega) (by omega)];exact⟨rfl,by omega,by omega,by simp;omega⟩
  .rintro⟨y1,y2,y3⟩ ⟨e,g5,g6,g7⟩;dsimp only at e g5 g6 g7;subst e;refine ai ⟨⟨rfl,by dsimp only;omega,g6,g7⟩,?_⟩;dsimp only;omega
 .dsimp only[aj]at A;refine ar (P:=λy=>y.1.length<=100) ?_ λy F=>ai F
  refine cf w2.length (λi x=>x.1=(i:Int)/\x.2.1=(w1,w2,w3,w4,s,q)/\x.2.2.length<=12+i) ?_ ?_ ⟨rfl,rfl,by dsimp only;omega⟩
  .rintro i ⟨a,b,c⟩ hi ⟨e1,e2,e3⟩;dsimp only at e1 e2 e3;subst e1;subst e2;with_reducible repeat' first|(refine OS.ok ?_;constructor)|refine IM.mk λ_=>?_
   all_goals try simp only[aj,od] at*
   all_goals first|omega|(simp;omega)|skip
   exact⟨fk (by omega),by simp;omega⟩
  .rintro⟨a,b,c⟩ ⟨e1,e2,e3⟩;dsimp only at e1 e2 e3;subst e1;subst e2;refine aR (λA=>(by dsimp only[aj]at A;omega)) λ_=>?_
   refine ar (P:=λy=>y.1.length<=100) ?_ λy F=>ai F
   refine cf w3.length (λi x=>x.1=(i:Int)/\x.2.1=(w1,w2,w3,w4,s,q)/\x.2.2.length<=16+i) ?_ ?_ ⟨rfl,rfl,by dsimp only;omega⟩
   .rintro i ⟨a,b,c⟩ hi ⟨e1,e2,e3⟩;dsimp only at e1 e2 e3;subst e1;subst e2;with_reducible repeat' first|(refine OS.ok ?_;constructor)|refine IM.mk λ_=>?_
    all_goals try simp only[aj,od] at*
    all_goals first|omega|(simp;omega)|skip
    exact⟨fk (by omega),by simp;omega⟩
   .rintro⟨a,b,c⟩ ⟨e1,e2,e3⟩;dsimp only at e1 e2 e3;subst e1;subst e2;refine aR (λA=>(by dsimp only[aj]at A;omega)) λ_=>?_
    refine ar (P:=λy=>y.1.length<=100) ?_ λy F=>ai F
    with_reducible repeat' first|(refine OS.ok ?_;constructor)|refine IM.mk λ_=>?_
    all_goals try simp only[aj,od] at*
    all_goals first|omega|(simp;omega)
def siS (T:Int) (o:J Γ) (s:ν):J Γ:=
 match o with
 |none=>U
 |some (t,n)=>if s.1=t/\s.2.1=n then Z (t,n+1) else if t<s.1/\s.1<T/\s.2.1=0 then Z (s.1,1) else U
def VK (T:Int) (l:Y ν):J Γ:=l.foldl (siS T) (Z (0,0))
def SV0 (w:WT):Prop:=VK w.2.2.2.2.1.length w.2.2.2.2.2≠U
theorem He {T:Int} {l:Y ν} {i:Nat} (hi:i<l.length):VK T (l.take (i+1))=siS T (VK T (l.take i)) (aH (T:=C2) l (i:Int)):=by
 rw[pN (T:=C2) hi];unfold VK;rw[jR];rfl
theorem OH (T:Int):∀l:Y ν,l.foldl (siS T) U=U
 |[]=>rfl
 |_::r=>OH T r
theorem aaq {T:Int} {l:Y ν} (h:VK T l≠U) (i:Nat):VK T (l.take i)≠U:=λhn=>h (by
 unfold VK at hn ⊢;rw[<- List.take_append_drop i l,jR,hn,OH])
theorem X' {T t n:Int} {z:ν} (h:siS T (Z (t,n)) z≠U):siS T (Z (t,n)) z=Z (z.1,z.2.1+1)/\(z.1=t/\z.2.1=n\/t<z.1/\z.1<T/\z.2.1=0):=by
 unfold siS at h ⊢;dsimp only at h ⊢;by_cases h1:z.1=t/\z.2.1=n
 .rw[aU h1];exact⟨by rw[h1.1,h1.2],.inl h1⟩
 .rw[aL h1]at h ⊢;by_cases h2:t<z.1/\z.1<T/\z.2.1=0
  .rw[aU h2];exact⟨by rw[h2.2.2];rfl,.inr h2⟩
  .rw[aL h2]at h;exact (h rfl).elim
theorem Am (w:WT):Ok (gU w) λb=>b=M->VL w/\SV0 w:=by
 unfold gU aX bh bk bS cC dI bi bx ja iA bp bF aY cH aB ct;refine aW (λx=>x.2=w/\(x.1=aa->VL w)) ?_ ?_
 .with_reducible repeat' first|(refine OS.ok ?_;constructor)|refine IM.mk λ_=>?_
  all_goals first|exact⟨rfl,λh=>(by cases h)⟩|skip
  dsimp only[aj] at*
  refine ⟨rfl,λh=>?_⟩;rw[fy]at h;constructor<;>omega
 rintro⟨b,x⟩ ⟨e,hb⟩;dsimp only at e hb;subst e;refine aJ (λ_=>ai λh=>(by cases h)) λh=>?_
 have hv:=hb h;refine ar (Yr _ hv) λy L=>?_
 refine cQ (λ_=>ai λh=>(by cases h)) λ_=>?_
 obtain⟨w1,w2,w3,w4,A,q⟩:=x;have h6:=hv.s;have h3:=hv.d;dsimp only at h6 h3;refine cf y.1.length (λi x=>x.1=(i:Int)/\x.2=(w1,w2,w3,w4,A,q)) ?_ ?_ ⟨rfl,rfl⟩
 .rintro i ⟨a,b⟩ hi ⟨e1,e2⟩;dsimp only at e1 e2;subst e1;subst e2;refine aR (λF=>?_) λF=>(by dsimp only[aj]at F;omega)
  refine aW (λx=>x.2=(w1,w2,w3,w4,A,q)) ?_ ?_
  .refine dV (aV (ar (ik _) λ_ _=>?_));refine cQ (λ_=>ai rfl) λ_=>?_
   with_reducible repeat' first|(refine OS.ok ?_;constructor)|refine IM.mk λ_=>?_
   all_goals try simp only[aj,od] at*
   all_goals first|omega|skip
   refine ar (Ar _ _ (by simp;omega)) λ_ _=>ai rfl
  .rintro⟨a,b⟩ e;dsimp only at e;subst e;with_reducible repeat' first|(refine OS.ok ?_;constructor)|refine IM.mk λ_=>?_
   .exact λh=>(by cases h)
   .dsimp only;exact⟨fk (by omega),rfl⟩
 rintro⟨a,b⟩ ⟨e1,e2⟩;dsimp only at e1 e2;subst e1;subst e2;refine aR (λF=>(by dsimp only[aj]at F;omega)) λ_=>?_
 refine ar (P:=λb=>b=M->VL (w1,w2,w3,w4,A,q)/\SV0 (w1,w2,w3,w4,A,q)) ?_ λy L=>ai L
 refine cf w3.length (λi x=>x.1=(i:Int)/\x.2=(w1,w2,w3,w4,A,q)) ?_ ?_ ⟨rfl,rfl⟩
 .rintro i ⟨a,b⟩ hi ⟨e1,e2⟩;dsimp only at e1 e2;subst e1;subst e2;refine aR (λF=>?_) λF=>(by dsimp only[aj]at F;omega)
  refine dV (aV ?_);refine aW (λx=>x.2=(w1,w2,w3,w4,A,q)) ?_ ?_
  .with_reducible repeat' first|(refine OS.ok ?_;constructor)|refine IM.mk λ_=>?_
   all_goals try simp only[aj,od] at*
   all_goals first|omega|rfl
  .rintro⟨a,b⟩ e;dsimp only at e;subst e;with_reducible repeat' first|(refine OS.ok ?_;constructor)|refine IM.mk λ_=>?_
   .exact λh=>(by cases h)
   .dsimp only;exact⟨fk (by omega),rfl⟩
 rintro⟨a,b⟩ ⟨e1,e2⟩;dsimp only at e1 e2;subst e1;subst e2;refine aR (λF=>(by dsimp only[aj]at F;omega)) λ_=>?_
 refine ar (P:=λb=>b=M->VL (w1,w2,w3,w4,A,q)/\SV0 (w1,w2,w3,w4,A,q)) ?_ λy L=>ai L
 refine cf q.length (λi x=>x.1=(i:Int)/\x.2=(w1,w2,w3,w4,A,q)/\VK A.length (q.take i)=Z (if i=0 then (0,0) else ((aH (T:=C2) q ((i-1:Nat):Int)).1,(aH (T:=C2) q ((i-1:Nat):Int)).2.1+1))/\(¬i=0->(0:Int)<=(aH (T:=C2) q ((i-1:Nat):Int)).2.1/\(i:Int)>(aH (T:=C2) q ((i-1:Nat):Int)).2.1)) ?_ ?_ ⟨rfl,rfl,rfl,λh=>(h rfl).elim⟩
 .rintro i ⟨a,b⟩ hi ⟨e1,e2,e3,hpb⟩;dsimp only at e1 e2;subst e1;subst e2;have hw:¬(i:Int)=0->aZ .i64 ((i:Int)-1)=((i-1:Nat):Int):=λh=>by rw[gF (by omega) (by omega)];omega
  have hnx:=He (T:=A.length) hi;rw[e3]at hnx;clear e3;refine aR (λF=>?_) λF=>(by dsimp only[aj]at F;omega)
  refine aW (λx=>x=(w1,w2,w3,w4,A,q)/\VK A.length (q.take (i+1))=Z (((aH (T:=C2) q (i:Int)).1,(aH (T:=C2) q (i:Int)).2.1+1))/\(0:Int)<=(aH (T:=C2) q (i:Int)).2.1/\((i+1:Nat):Int)>(aH (T:=C2) q (i:Int)).2.1) ?_ ?_
  .refine dV (aV ?_);rw[hnx];generalize hz:aH (T:=C2) q (i:Int)=z;obtain⟨(I:Int),(z2:Int),(z3:Int)⟩:=z;dsimp only;refine aW (λx=>x.2=((w1,w2,w3,w4,A,q),I,z2,z3)/\(x.1=aa->0<=I/\I<A.length)) ?_ ?_
   .refine aR (λ_=>ai ⟨rfl,λh=>(by cases h)⟩) λg=>ai ⟨rfl,λh=>⟨g,?_⟩⟩
    rw[kV]at h;exact h
   rintro⟨c,y⟩ ⟨e,hzr⟩;dsimp only at e hzr;subst e;refine aJ (λ_=>ai λh=>(by cases h)) λhzb=>?_
   obtain⟨z0,zT⟩:=hzr hzb;refine aW (λx=>x.2=((w1,w2,w3,w4,A,q),I,z2,z3)/\(x.1=M->i=0\/¬(aH (T:=C2) q ((i-1:Nat):Int)).1=I)/\(x.1=aa->¬(i:Int)=0/\(aH (T:=C2) q ((i-1:Nat):Int)).1=I)) ?_ ?_
   .refine aF (λh=>ai ⟨rfl,λ_=>.inl (by have h:((i:Nat):Int)=0:=h;omega),λh=>(by cases h)⟩) λh=>?_
    rw[hw h];refine dV (aV (ai ⟨rfl,λh2=>.inr (by simpa using h2),λh2=>⟨h,by simpa using h2⟩⟩))
   rintro⟨c,y⟩ ⟨e,hc1,hc⟩;dsimp only at e hc1 hc;subst e;refine aJ (λhct=>?_) λhcf=>?_
   .refine aW (λx=>x.2=(w1,w2,w3,w4,A,q)/\(x.1=aa->z2=0/\(¬i=0->((aH (T:=C2) q ((i-1:Nat):Int)).1:Int)<I))) ?_ ?_
    .refine bW (λ_=>ai ⟨rfl,λh=>(by cases h)⟩) λhz2=>?_
     refine aR (λh=>?_) λD=>ai ⟨rfl,λ_=>⟨hz2,λh=>by have D:((i:Nat):Int)<=0:=D;omega⟩⟩
     have h:(0:Int)<((i:Nat):Int):=h;rw[hw (by omega)];refine dV (aV (ai ⟨rfl,λh2=>⟨hz2,λh3=>?_⟩⟩));rw[fy]at h2;have h4:=(hc1 hct).resolve_left h3;have h2:(aH (T:=C2) q ((i-1:Nat):Int)).1<=I:=h2;exact Int.lt_iff_le_and_ne.2 ⟨h2,h4⟩
    rintro⟨c,y⟩ ⟨e,L⟩;dsimp only at e L;subst e;refine aJ (λ_=>ai λh=>(by cases h)) λh=>ai ⟨rfl,?_⟩
    obtain⟨q1,q2⟩:=L h;have q1:z2=0:=q1;subst q1;refine ⟨?_,gN 0,by show _>(0:Int);omega⟩;unfold siS;by_cases D:i=0
    .subst D;rw[aU rfl];dsimp only;by_cases hz1:I=0
     .subst hz1;rfl
     .rw[aL (λh=>hz1 h.1),aU ⟨by omega,zT,rfl⟩];rfl
    .have:=q2 D;rw[aL D];dsimp only;rw[aL (λh=>by omega),aU ⟨this,zT,rfl⟩];rfl
   .obtain⟨D,hpr⟩:=hc hcf;rw[hw D];refine dV (aV ?_);refine bW (λ_=>ai λh=>(by cases h)) λh=>ai ⟨rfl,?_⟩
    obtain⟨b0,b1⟩:=hpb (by omega);have h:z2=aZ .i64 ((aH (T:=C2) q ((i-1:Nat):Int)).2.1+1):=h;rw[gF (by omega) (by omega)]at h;refine ⟨?_,by omega,by omega⟩;rw[aL (by omega)];unfold siS;dsimp only;rw[aU ⟨hpr.symm,h⟩,hpr,h]
  .rintro x ⟨rfl,hx,hx2⟩;refine ai ?_;dsimp only;refine ⟨fk (by omega),rfl,?_,λ_=>hx2⟩;rw[aL (by omega)];exact hx
 .rintro⟨a,b⟩ ⟨e1,e2,e3,_⟩;dsimp only at e1 e2;subst e1;subst e2;refine aR (λF=>(by dsimp only[aj]at F;omega)) λ_=>?_
  rw[bQ]at e3;exact ai λ_=>⟨hv,by unfold SV0;dsimp only;rw[e3];simp⟩
def sJ (e:ET):Bool:=decide (e.2.1=3)||decide (e.2.1=23)
def fl (l:Y ET) (t:Int):θ:=(l.filter λe=>decide (e.1=t)).map sJ
def Bg (l:Y ET) (t y:Int):Prop:=0<=y/\(fl l t).getD y.toNat aa=M
theorem ym (l m:Y ET) (t:Int):fl (l++m) t=fl l t++fl m t:=by unfold fl;rw[List.filter_append,c7]
theorem DN {e:ET} {t:Int} (h:e.1=t):fl [e] t=[sJ e]:=by unfold fl;simp[h]
theorem yl {e:ET} {t:Int} (h:¬e.1=t):fl [e] t=[]:=by unfold fl;simp[h]
theorem Bg.app {l:Y ET} {t y:Int} (h:Bg l t y) (m:Y ET):Bg (l++m) t y:=by
 obtain⟨h0,h1⟩:=h;refine ⟨h0,?_⟩;rw[ym];rw[ay]at h1 ⊢;rcases bM y.toNat (fl l t).length with g|g
 .rw[bT g];exact h1
 .rw[bJ g]at h1;cases h1
theorem Bg.lt {l:Y ET} {t y:Int} (h:Bg l t y):y<(fl l t).length:=by
 obtain⟨h0,h1⟩:=h;rcases bM y.toNat (fl l t).length with g|g
 .omega
 .rw[ay,bJ g]at h1;cases h1
theorem Bg.last {l:Y ET} {e:ET} {y:Int} (h:sJ e=M) (d:y=(fl l e.1).length):Bg (l++[e]) e.1 y:=by
 subst d;refine ⟨by omega,?_⟩;rw[ym,DN rfl,ay,b8 (by simp),h];simp
theorem B' (l:Y ET) (t:Int):(fl l t).length<=l.length:=by unfold fl;rw[co];exact List.length_filter_le ..
structure RO (w:WT) (l:List ET) (sy:SY) (ce fu:η) (e:ET):Prop where
 en:EN w sy e.1 e.2.1 e.2.2.1
 rd:Fw w sy e.1 e.2.1 e.2.2.1
 s1:e.2.1=1\/e.2.1=2->e.2.2.2.2.1= -1
 s2:¬(e.2.1=1\/e.2.1=2)->0<=e.2.2.2.2.1/\e.2.2.2.2.1<w.2.2.2.2.2.length/\(aH (T:=C2) w.2.2.2.2.2 e.2.2.2.2.1).1=e.1
 de:0<e.2.2.2.2.2.1.length->e.2.1=5\/(e.2.1=3\/e.2.1=4)/\¬(aH (T:=Ol) w.1 e.2.2.1).2.2.1=0
 fr:0<e.2.2.2.2.2.2.length->e.2.1=4\/e.2.1=22
 nd:AN (fl l e.1).length e.2.2.2.2.2.1
 nf:AN (fl l e.1).length e.2.2.2.2.2.2
 rd1:∀y∈e.2.2.2.2.2.1,Bg l e.1 y
 rd2:∀y∈e.2.2.2.2.2.2,Bg l e.1 y
 va:VA w sy ce fu e.1 e.2.1 e.2.2.1 e.2.2.2.1
def thP:Nat->Y (Int×Int×Bool)
 |0=>[]
 |n+1=>(1,0,aa)::aA n (0,0,aa)
def Kh (w:WT):SY:=(aA w.2.1.length (-1,[]),-1,aA w.2.2.2.1.length aa,thP w.2.2.2.2.1.length)
def ce0 (w:WT):η:=w.1.map λc=>c.2.2.2.2
def fu0 (w:WT):η:=aA w.2.2.2.1.length 0
inductive G8 (w:WT):List ET->SY->η->η->Prop
 |nil:G8 w [] (Kh w) (ce0 w) (fu0 w)
 |snoc {l:List ET} {sy:SY} {ce fu:η} {e:ET} (h:G8 w l sy ce fu) (hs:RO w l sy ce fu e):G8 w (l++[e]) (vO w sy e.1 e.2.1 e.2.2.1 e.2.2.2.1).1 (Zn ce e) (fuP fu e)
theorem X4 (i:Nat):thP (i+2)=thP (i+1)++[(0,0,aa)]:=by
 show (1,0,aa)::aA (i+1) (0,0,aa)=(1,0,aa)::aA i (0,0,aa)++[(0,0,aa)]
 rw[C0,gX]
theorem MJ:∀n,(thP n).length=n
 |0=>rfl
 |n+1=>by simp[thP]
theorem JN (w:WT) (h:VL w):pe w=Z (Kh w):=by
 obtain⟨w1,w2,w3,w4,z,A⟩:=w;obtain⟨h1,h2,h3,h4,_,I,F⟩:=h;dsimp only at*
 refine bX ?_;unfold pe aX bh bk bS cI cC dI bi bx bp aY cH aB ct;refine cf w2.length (λi x=>x.1=(i:Int)/\x.2.1=(w1,w2,w3,w4,z,A)/\x.2.2.2=(-1,aA i (-1,[]))) ?_ ?_ ⟨rfl,rfl,rfl⟩
 .rintro i ⟨a,b,c,d,e⟩ hi ⟨e1,e2,e3⟩;simp only[aC]at e1 e2 e3;obtain⟨rfl,rfl⟩:=e3;subst e1;subst e2;with_reducible repeat' first|(refine OS.ok ?_;constructor)|refine IM.mk λ_=>?_
  all_goals try simp only[aj,od] at*
  all_goals first|omega|(simp;omega)|skip
  exact⟨fk (by omega),by rw[C0]⟩
 rintro⟨a,b,c,d,e⟩ ⟨e1,e2,e3⟩;simp only[aC]at e1 e2 e3;obtain⟨rfl,rfl⟩:=e3;subst e1;subst e2;refine aR (λq=>(by dsimp only[aj]at q;omega)) λ_=>?_
 refine ar (P:=λs=>s=Kh (w1,w2,w3,w4,z,A)) ?_ λy D=>ai D
 refine cf w4.length (λi x=>x.1=(i:Int)/\x.2.1=(w1,w2,w3,w4,z,A)/\x.2.2.2=(-1,aA w2.length (-1,[]),aA i aa)) ?_ ?_ ⟨rfl,rfl,rfl⟩
 .rintro i ⟨a,b,c,d,e',f⟩ hi ⟨e1,e2,e3⟩;simp only[aC]at e1 e2 e3;obtain⟨rfl,rfl,rfl⟩:=e3;subst e1;subst e2;with_reducible repeat' first|(refine OS.ok ?_;constructor)|refine IM.mk λ_=>?_
  all_goals try simp only[aj,od] at*
  all_goals first|omega|(simp;omega)|skip
  exact⟨fk (by omega),by rw[C0]⟩
 rintro⟨a,b,c,d,e',f⟩ ⟨e1,e2,e3⟩;simp only[aC]at e1 e2 e3;obtain⟨rfl,rfl,rfl⟩:=e3;subst e1;subst e2;refine aR (λq=>(by dsimp only[aj]at q;omega)) λ_=>?_
 refine ar (P:=λs=>s=Kh (w1,w2,w3,w4,z,A)) ?_ λy D=>ai D
 refine cf z.length (λi x=>x.1=(i:Int)/\x.2.1=(w1,w2,w3,w4,z,A)/\x.2.2.2=(-1,aA w2.length (-1,[]),aA w4.length aa,thP i)) ?_ ?_ ⟨rfl,rfl,rfl⟩
 .rintro i ⟨a,b,c,d,e'',f',g⟩ hi ⟨e1,e2,e3⟩;simp only[aC]at e1 e2 e3;obtain⟨rfl,rfl,rfl,rfl⟩:=e3;subst e1;subst e2;have hl:=MJ i;refine aR (λ_=>?_) λq=>(by dsimp only[aj]at q;omega)
  refine fw (aF (λh0=>ai ?_) λh0=>ai ?_)
  .have h0:((i:Nat):Int)=0:=h0;have h0:i=0:=by omega
   subst h0;exact a_ (by simp[thP]) (by omega) (ai ⟨rfl,rfl,rfl⟩)
  .have h0:¬((i:Nat):Int)=0:=h0;obtain⟨j,rfl⟩:∃j,i=j+1:=⟨i-1,by omega⟩
   refine a_ (by dsimp only;rw[hl];simp;omega) (by omega) (ai ⟨fk (by omega),rfl,?_⟩);dsimp only;rw[X4]
 rintro⟨a,b,c,d,e'',f',g⟩ ⟨e1,e2,e3⟩;simp only[aC]at e1 e2 e3;obtain⟨rfl,rfl,rfl,rfl⟩:=e3;subst e1;subst e2;refine aR (λq=>(by dsimp only[aj]at q;omega)) λ_=>ai rfl
theorem R_ {w:WT} (h:VL w):SB 0 (Kh w):=by
 obtain⟨h1,h2,h3,h4,_,q,d⟩:=h;refine ⟨by omega,by simp[Kh];omega,λl hl=>?_,by simp[Kh];omega,by simp[Kh,MJ];omega⟩;rw[List.eq_of_mem_replicate hl];simp
theorem Un (w:WT) (h:VL w):Ok (pe w) λs=>SB 0 s:=Yo (JN w h) (R_ h)
theorem Be (w:WT) (h:VL w):mM w=Z (Kh w,ce0 w,fu0 w,aA w.2.2.2.2.1.length 0):=by
 have hs:=JN w h;have hd:(Kh w)=Kh w:=rfl;obtain⟨w1,w2,w3,w4,q,s⟩:=w;obtain⟨h1,h2,h3,h4,_,D,A⟩:=h;dsimp only at*
 refine bX ?_;unfold mM aX bh bk bn cC bx bp bF aY cH aB ct;refine aQ hs ?_;with_reducible repeat' first|(refine OS.ok ?_;constructor)|refine IM.mk λ_=>?_
 all_goals try simp only[aj,od] at*
 all_goals first|omega|skip
 refine cf w1.length (λi x=>x.1=(i:Int)/\x.2.1=(w1,w2,w3,w4,q,s)/\x.2.2.2=(Kh (w1,w2,w3,w4,q,s),(w1.take i).map (λc=>c.2.2.2.2),aA w4.length 0,aA q.length 0)) ?_ ?_ ⟨rfl,rfl,rfl⟩
 .rintro i ⟨a,b,c,d,e,f,g⟩ hi ⟨e1,e2,e3⟩;simp only[aC]at e1 e2 e3;obtain⟨rfl,rfl,rfl,rfl⟩:=e3;subst e1;subst e2;with_reducible repeat' first|(refine OS.ok ?_;constructor)|refine IM.mk λ_=>?_
  all_goals try simp only[aj,od] at*
  all_goals first|omega|(simp;omega)|skip
  exact⟨fk (by omega),by rw[pN (T:=Ol) hi,c7];rfl⟩
 rintro⟨a,b,c,d,e,f,g⟩ ⟨e1,e2,e3⟩;simp only[aC]at e1 e2 e3;obtain⟨rfl,rfl,rfl,rfl⟩:=e3;subst e1;subst e2;refine aR (λz=>(by dsimp only[aj]at z;omega)) λ_=>ai ?_
 rw[bQ];rfl
theorem Ul (w:WT) (h:VL w):Ok (mM w) λs=>NB 0 s/\s.2.1.length=w.1.length/\s.2.2.1.length=w.2.2.2.1.length/\s.2.2.2.length=w.2.2.2.2.1.length:=
 Yo (Be w h) ⟨⟨R_ h,by have:=h.c;simp[ce0];omega,by have:=h.f;simp[fu0];omega,by have:=h.t;simp;omega⟩,by simp[ce0],by simp[fu0],by simp⟩
theorem BB (l:Y ET) (i t:Int) (ns:η) (hl:l.length<=1000000000) (hi:0<=i/\i<=l.length) (hn:ns.length<=1000000000):Ok (mL (l,i,t,ns)) λb=>b=M->∀y∈ns,Bg (l.take i.toNat) t y:=by
 unfold mL aX bn bi bx iA bF aY cH aB ct;refine cf ns.length (λk x=>x=(k:Int)/\∀j:Nat,j<k->Bg (l.take i.toNat) t (aH (T:=.int .i64) ns (j:Int))) ?_ ?_ ⟨rfl,λj hj=>(by omega)⟩
 .rintro k x hk ⟨rfl,A⟩;refine aR (λs=>?_) λs=>(by dsimp only[aj]at s;omega)
  refine ml (λx=>(i-x.2.2).toNat) (λx=>0<=x.2.2/\x.2.2<=i/\x.1=((fl (l.take x.2.2.toNat) t).length:Int)/\(x.2.1=M->Bg (l.take x.2.2.toNat) t (aH (T:=.int .i64) ns (k:Int)))) ?_ ⟨by simp,hi.1,by simp[fl],λh=>(by cases h)⟩;rintro⟨a,b,(c:Int)⟩ ⟨z,I,D,hb⟩;dsimp only at z I D hb;subst D;obtain⟨c,rfl⟩:∃n:Nat,c=(n:Int):=⟨c.toNat,by omega⟩
  rw[cV]at hb;dsimp only;rw[cV];have hfl:=B' (l.take c) t;have htl:=gk c l;refine aR (λd=>?_) λd=>?_
  .have d:(c:Int)<i:=d;have htk:l.take (c+1)=l.take c++[aH (T:=tE) l (c:Int)]:=pN (T:=tE) (by omega);refine aW (λy=>y.1=((fl (l.take (c+1)) t).length:Int)/\(y.2=M->Bg (l.take (c+1)) t (aH (T:=.int .i64) ns (k:Int)))) ?_ ?_
   .rw[htk,ym];refine aK z (by first|omega|(dsimp only;omega)) (aV ?_);refine bW (λhne=>ai ⟨by rw[yl hne];simp,λh=>(hb h).app _⟩) λhe=>?_
    have he:(aH (T:=tE) l (c:Int)).1=t:=he;refine aW (λy=>y=M->Bg (l.take c++[aH (T:=tE) l (c:Int)]) t (aH (T:=.int .i64) ns (k:Int))) ?_ λy F=>ai ⟨?_,F⟩
    .refine aJ (λh=>ai λ_=>(hb h).app _) λ_=>?_
     refine aK (by omega) (by first|omega|(dsimp only;omega)) (aV ?_);refine aF (λhn=>?_) λ_=>ai λh=>(by cases h)
     have hq:sJ (aH (T:=tE) l (c:Int))=M->Bg (l.take c++[aH (T:=tE) l (c:Int)]) t (aH (T:=.int .i64) ns (k:Int)):=λh=>by
      rw[<- he]at hn ⊢;exact Bg.last h hn.symm
     refine aK z (by first|omega|(dsimp only;omega)) (aV ?_);refine aF (λh=>ai λ_=>hq (by unfold sJ;rw[bc h];rfl)) λ_=>?_
     exact aK z (by first|omega|(dsimp only;omega)) (aV (ai λh=>hq (by unfold sJ;rw[h];simp)))
    .dsimp only;rw[DN he,fk (by omega)];simp
   .rintro⟨p,q⟩ ⟨hp,hq⟩;refine ai ?_;dsimp only at hp hq ⊢;rw[fk (by omega),cV];exact⟨⟨by omega,by omega,hp,hq⟩,by omega⟩
  .refine ar (P:=λr=>match r with|.inl y=>y=((k+1:Nat):Int)/\∀j:Nat,j<k+1->Bg (l.take i.toNat) t (aH (T:=.int .i64) ns (j:Int))|.inr r=>r=M->∀y∈ns,Bg (l.take i.toNat) t y) ?_ λr hr=>ai ?_
   .refine cQ (λ_=>ai λh=>(by cases h)) λh=>ai ⟨fk (by omega),λj hj=>?_⟩
    rcases bM j k with h1|h1
    .exact A j h1
    .have:=hb h;have hci:c=i.toNat:=by have d:i<=(c:Int):=d;omega
     rw[show j=k by omega,<-hci];exact this
   .cases r with
    |inl y=>exact hr
    |inr r=>exact hr
 .rintro x ⟨rfl,A⟩;refine aR (λs=>(by dsimp only[aj]at s;omega)) λ_=>ai λ_=>ii (T:=.int .i64) A
def CN (l:Y ET) (c:η):Prop:=∀t:Int,0<=t->t<c.length->aH (T:=.int .i64) c t=((fl l t).length:Int)
theorem LS {T:Ty} (xs:Y T.den) (j k:Int) (x:T.den) (hj:0<=j) (d:j<xs.length) (hk:0<=k):aH (cJ xs j x) k=if k=j then x else aH xs k:=by
 unfold aH cJ;rw[ay,ay,oH];by_cases h:k=j
 .subst h;rw[aU rfl,aU rfl,aU (by omega)];rfl
 .rw[aL (by omega),aL h]
theorem CN.next {l:Y ET} {c:η} (h:CN l c) (e:ET) (h0:0<=e.1) (h1:e.1<c.length) (hl:l.length<1000000):CN (l++[e]) (cJ c e.1 (aZ .i64 (aH (T:=.int .i64) c e.1+1))):=λt t0 t1=>by
 rw[cM]at t1;have:=B' l e.1;rw[LS (T:=.int .i64) _ _ _ _ h0 h1 t0,ym];split
 .rename_i h2;subst h2;rw[DN rfl,h _ h0 h1,fk (by omega)];simp
 .rename_i h2;rw[yl λh3=>h2 h3.symm,h _ t0 t1];simp
theorem CN.bd {l:Y ET} {c:η} (h:CN l c) (t:Int):(aH (T:=.int .i64) c t:Int)<=l.length:=by
 have key:∀z:Int,aH (T:=.int .i64) c t=z->z<=l.length:=by
  intro z e;rcases bM t.toNat c.length with g|g
  .have h1:=h (t.toNat:Int) (by omega) (by omega);have h2:=B' l ((t.toNat:Nat):Int);have h3:aH (T:=.int .i64) c t=aH (T:=.int .i64) c ((t.toNat:Nat):Int):=by unfold aH;rw[cV]
   have h4:z=((fl l ((t.toNat:Nat):Int)).length:Int):=e.symm.trans (h3.trans h1);omega
  .have:z=0:=by
    rw[<- e];unfold aH;rw[ay,bJ g];rfl
   omega
 exact key _ rfl
structure EvF (w:WT) (e:ET):Prop where
 nm:NM w e.2.1 e.2.2.1
 t0:0<=e.1
 t1:e.1<w.2.2.2.2.1.length
 cd:∀c∈w.2.2.1,0<=c.2/\c.2<w.2.1.length
theorem Z' (w:WT) (l:Y ET):Ok (mN (w,l)) λy=>y.2=0->(VL w/\SV0 w)/\(∀e∈l,EvF w e)/\∃sy ce fu,G8 w l sy ce fu:=by
 unfold mN bS bn dI bx bF aY cH aB ct;refine aR (λ_=>ai λh=>(by cases h)) λhl=>?_
 dsimp only[aj]at hl;refine ar (Am w) λb hb=>?_
 refine cQ (λ_=>ai λh=>(by cases h)) λh=>?_
 obtain⟨hv,hsv⟩:=hb h;refine aQ (Be w hv) ?_;have hs:NB 0 (Kh w,ce0 w,fu0 w,aA w.2.2.2.2.1.length 0):=⟨R_ hv,by have:=hv.c;simp[ce0];omega,by have:=hv.f;simp[fu0];omega,by have:=hv.t;simp;omega⟩
 have hw:w.2.2.1.length<=1000:=by have:=hv.d;omega
 refine cf l.length (λi x=>x.1=(i:Int)/\x.2.1=(w,l)/\NB i x.2.2/\(∀k:Nat,k<i->EvF w (aH (T:=tE) l (k:Int)))/\G8 w (l.take i) x.2.2.1 x.2.2.2.1 x.2.2.2.2.1/\CN (l.take i) x.2.2.2.2.2/\x.2.2.2.2.2.length=w.2.2.2.2.1.length) ?_ ?_ ⟨rfl,rfl,hs,λk hk=>(by omega),.nil,λt t0 t1=>?_,by simp⟩
 .rintro i ⟨a,b,s⟩ hi ⟨e1,e2,e3,e4,I,e6,L⟩;dsimp only at e1 e2 e3 e4 I e6 L;subst e1;subst e2;refine aR (λA=>?_) λA=>(by dsimp only[aj]at A;omega)
  refine dV (aV ?_);have hmem:=bH (T:=tE) (xs:=l) (j:=(i:Int)) (by omega) (by omega);have hbd:=e6.bd (aH (T:=tE) l (i:Int)).1;have htl:=gk i l;have hbd:(aH (T:=.int .i64) s.2.2.2 (aH (T:=tE) l (i:Int)).1:Int)<=1000000:=by
   refine eS hbd ?_;omega
  refine ar (zp w s e3 hw _ (.inr (eS hbd (by decide))) (.inr (eS hbd (by decide)))) λy hy=>?_
  have d1:y.2=M->(aH (T:=tE) l (i:Int)).2.2.2.2.2.1.length<=1000000000:=λh=>by
   have h3:((aH (T:=tE) l (i:Int)).2.2.2.2.2.1.length:Int)<=max (0:Int) (aH (T:=.int .i64) s.2.2.2 (aH (T:=tE) l (i:Int)).1):=(hy.1 h).2.2.1.nd.len;have h4:max (0:Int) (aH (T:=.int .i64) s.2.2.2 (aH (T:=tE) l (i:Int)).1)<=1000000:=wW.2 ⟨by decide,hbd⟩;have:=eS h3 h4;omega
  have d2:y.2=M->(aH (T:=tE) l (i:Int)).2.2.2.2.2.2.length<=1000000000:=λh=>by
   have h3:((aH (T:=tE) l (i:Int)).2.2.2.2.2.2.length:Int)<=max (0:Int) (aH (T:=.int .i64) s.2.2.2 (aH (T:=tE) l (i:Int)).1):=(hy.1 h).2.2.1.nf.len;have h4:max (0:Int) (aH (T:=.int .i64) s.2.2.2 (aH (T:=tE) l (i:Int)).1)<=1000000:=wW.2 ⟨by decide,hbd⟩;have:=eS h3 h4;omega
  refine aW (λx=>x.2.1=(w,l)/\x.2.2.2=y.1/\(x.1=aa->y.2=M/\(∀z∈(aH (T:=tE) l (i:Int)).2.2.2.2.2.1,Bg (l.take i) (aH (T:=tE) l (i:Int)).1 z)/\∀z∈(aH (T:=tE) l (i:Int)).2.2.2.2.2.2,Bg (l.take i) (aH (T:=tE) l (i:Int)).1 z)) ?_ ?_
  .refine cQ (λ_=>ai ⟨rfl,rfl,λh=>(by cases h)⟩) λh=>?_
   refine ar (BB l _ _ _ (by omega) ⟨by dsimp only;omega,by dsimp only;omega⟩ (d1 h)) λb1 hr1=>?_
   refine cQ (λ_=>ai ⟨rfl,rfl,λh=>(by cases h)⟩) λhb1=>?_
   refine ar (BB l _ _ _ (by omega) ⟨by dsimp only;omega,by dsimp only;omega⟩ (d2 h)) λb2 hr2=>ai ⟨rfl,rfl,λhb2=>⟨h,hr1 hb1,hr2 (by simpa using hb2)⟩⟩
  .rintro⟨c,p,q,r⟩ ⟨f1,f2,f3⟩;dsimp only at f1 f2 f3;subst f1;subst f2;refine aJ (λ_=>ai λh=>(by cases h)) λh=>?_
   obtain⟨f4,r1,r2⟩:=f3 h;obtain⟨D,g2,F,A⟩:=hy.1 f4;refine ai ?_;dsimp only;have htk:l.take (i+1)=l.take i++[aH (T:=tE) l (i:Int)]:=pN (T:=tE) hi;have hc:=e6 _ D.t0 (by rw[L];exact D.t1);have hnx:=iU Prod.fst A;have hac:=I.snoc (e:=aH (T:=tE) l (i:Int)) ⟨D,F.rd,F.s1,F.s2,F.de,F.fr,by rw[<- hc];exact F.nd,by rw[<- hc];exact F.nf,r1,r2,F.va⟩;refine ⟨fk (by omega),rfl,g2.NB e3 (by omega),λk hk=>?_,by rw[htk,A];exact hac,by rw[htk,A];exact e6.next _ D.t0 (by rw[L];exact D.t1) (by rw[b_];omega),by rw[A];unfold RM;rw[cM];exact L⟩;rcases bM k i with h1|h1
   .exact e4 k h1
   .rw[show k=i by omega];exact⟨D.nm,D.t0,D.t1,D.cd⟩
 .rintro⟨a,b,s⟩ ⟨e1,e2,e3,e4,I,_⟩;dsimp only at e1 e2 e3 e4 I;subst e1;subst e2;rw[bQ]at I;refine aR (λA=>(by dsimp only[aj]at A;omega)) λ_=>ai λ_=>⟨⟨hv,hsv⟩,ii (T:=tE) e4,_,_,_,I⟩
 .rw[cK]at t1;obtain⟨t,rfl⟩:∃n:Nat,t=(n:Int):=⟨t.toNat,by omega⟩
  rw[DI,ay,lz];split<;>simp[fl]
structure TP (t:η×Int):Prop where
 l0:t.1.length<=9223372036854775807
 by_:∀x∈t.1,0<=x/\x<=255
 a0:0<=t.2
 a1:t.2<=t.1.length
structure ud (t t':η×Int):Prop where
 e:t'.1=t.1
 m:t.2<=t'.2
 p:TP t'
theorem ud.refl {t:η×Int} (h:TP t):ud t t:=⟨rfl,gN _,h⟩
theorem ud.trans {a b c:η×Int} (h:ud a b) (g:ud b c):ud a c:=⟨g.e.trans h.e,eS h.m g.m,g.p⟩
theorem gi (n:Int) (t:η×Int) (h:TP t):Ok (bC (n,t)) λy=>ud t y.2/\0<=y.1/\(1<=n->y.1<n)/\(t.2<t.1.length->1<=n->t.2<y.2.2):=by
 obtain⟨L,a⟩:=t;have q:=h;obtain⟨l0,hb,a0,a1⟩:=h;dsimp only at l0 hb a0 a1;unfold bC ja bp bF aY aB ct;refine aW (λx=>x.2=(L,a)/\(x.1=M->a=L.length\/n<1)/\(x.1=aa->a<L.length/\1<=n)) ?_ ?_
 .refine dT (λh=>ai ⟨rfl,λ_=>?_,λh=>(by cases h)⟩) λh=>ai ⟨rfl,λh2=>?_,λh2=>?_⟩
  .dsimp only[aj]at h;omega
  .rw[mm]at h2;exact .inr h2
  .rw[fy]at h2;dsimp only[aj]at h h2;omega
 rintro⟨b,x⟩ ⟨e,h1,h2⟩;dsimp only at e h1 h2;subst e;refine aJ (λh=>ai ⟨ud.refl q,gN _,λh3=>(by dsimp only;omega),λh3 h4=>?_⟩) λh=>?_
 .have:=h1 h;dsimp only at h3;omega
 obtain⟨q1,q2⟩:=h2 h;refine aV ?_;have e1:aZ .i64 (a+1)=a+1:=gF (by omega) (by omega);dsimp only;rw[e1,gF (n:=a+1-1) (by omega) (by omega),show a+1-1=a by omega];have d:=hb _ (bH (T:=.int .u8) (xs:=L) (j:=a) a0 q1);refine aK a0 q1 (aV ?_);generalize (aH _ a)=z at d;have d:0<=z/\z<=255:=d;rw[gF (n:=z) (by omega) (by omega)];refine u_ (by omega) (ai ?_);dsimp only;refine ⟨⟨rfl,by dsimp only;omega,⟨l0,hb,by dsimp only;omega,by dsimp only;omega⟩⟩,Int.tmod_nonneg _ d.1,λ_=>?_,λ_ _=>by omega⟩;exact Int.tmod_lt_of_pos _ (by omega)
theorem RX (s:SY) (hs:s.2.2.2.length<=1000) (y:η×η×η):Ok (kQ (s,y)) λl=>l.length<=s.2.2.2.length:=by
 unfold kQ bn bi bx bp bF aY cH aB ct;refine cf s.2.2.2.length (λi x=>x.1=(i:Int)/\x.2.length<=i) ?_ ?_ ⟨rfl,by simp⟩
 .rintro i ⟨a,b⟩ hi ⟨e1,e2⟩;dsimp only at e1 e2;subst e1;with_reducible repeat' first|(refine OS.ok ?_;constructor)|refine IM.mk λ_=>?_
  all_goals try simp only[aj,od] at*
  all_goals first|omega|(simp;omega)|skip
  .exact⟨fk (by omega),by simp;omega⟩
  .exact⟨fk (by omega),by omega⟩
 .rintro⟨a,b⟩ ⟨e1,e2⟩;dsimp only at e1 e2;subst e1;refine aR (λd=>(by dsimp only[aj]at d;omega)) λ_=>ai e2
theorem VW (k u:Int) (t:η×Int) (h:TP t):Ok (og ((k,u),t)) λy=>ud t y.2/\(k=3\/k=4->0<=y.1/\y.1<5):=by
 unfold og bi kF aB ct;rcases @xZ k with rfl|rfl|rfl|rfl|rfl|rfl|rfl|rfl|rfl|rfl|rfl|rfl|rfl|rfl|rfl|rfl|rfl|rfl|rfl|rfl|rfl|rfl|rfl|⟨hk,q⟩
 case inr.inr.inr.inr.inr.inr.inr.inr.inr.inr.inr.inr.inr.inr.inr.inr.inr.inr.inr.inr.inr.inr.inr=>
  simp only[hk 1 (by decide) (by decide),hk 2 (by decide) (by decide),hk 3 (by decide) (by decide),hk 4 (by decide) (by decide),hk 5 (by decide) (by decide),hk 6 (by decide) (by decide),hk 7 (by decide) (by decide),hk 8 (by decide) (by decide),hk 9 (by decide) (by decide),hk 10 (by decide) (by decide),hk 11 (by decide) (by decide),hk 12 (by decide) (by decide),hk 13 (by decide) (by decide),hk 14 (by decide) (by decide),hk 15 (by decide) (by decide),hk 16 (by decide) (by decide),hk 17 (by decide) (by decide),hk 18 (by decide) (by decide),hk 19 (by decide) (by decide),hk 20 (by decide) (by decide),hk 21 (by decide) (by decide),hk 22 (by decide) (by decide),hk 23 (by decide) (by decide),aN,aS,kD];exact ai ⟨ud.refl h,λh=>(by first|omega|(simp at h;done)|(rcases h with h|h<;>cases h;done))⟩
 all_goals simp only[aN,aS,kD]
 all_goals first
  |exact ai ⟨ud.refl h,λh=>(by first|omega|(simp at h;done)|(rcases h with h|h<;>cases h;done))⟩
  |exact ar (gi 2 t h) λy d=>ai ⟨d.1,λh=>(by first|omega|(simp at h;done)|(rcases h with h|h<;>cases h;done))⟩
  |exact ar (gi 3 t h) λy d=>ai ⟨d.1,λh=>(by first|omega|(simp at h;done)|(rcases h with h|h<;>cases h;done))⟩
  |skip
 all_goals
  refine ar (gi 8 t h) λy d=>?_
  have h1:=d.2.1;have h2:=d.2.2.1 (by omega);refine aK h1 (by simp;omega) (aK h1 (by simp;omega) (aV (ai ⟨d.1,λ_=>?_⟩)));have:∀z:Int,z∈([0,0,0,1,1,2,3,4]:η)->0<=z/\z<5:=by decide
  exact this _ (bH (T:=.int .i64) h1 (by simp;omega))
structure SZ (n:Nat) (s:SN):Prop where
 nb:NB n s
 c:s.2.1.length=5
 f:s.2.2.1.length=1
 k:s.2.2.2.length=4
theorem SZ.step {n:Nat} {s y:SN} (h:SZ n s) (hp:SP n s y) (hn:n+1<=100000):SZ (n+1) y:=
 ⟨hp.NB h.nb hn,by rw[hp.c];exact h.c,by rw[hp.f];exact h.f,by rw[hp.k];exact h.k⟩
theorem VG {n:Nat} (s:SN) (hs:SZ n s) (k o:Int) (z:k=3->0<=o/\o<5) (t:η×Int) (h:TP t):Ok (pS ((s,k,o),t)) λy=>ud t y.2:=by
 obtain⟨s1,s2,A,s4⟩:=s;have hc:=hs.c;have hf:=hs.f;have hth:=hs.nb.sb.th;dsimp only at hc hf hth;have q:=RX s1 hth (s2,A,s4);unfold pS aX bi bx bF aY aB;rcases @xZ k with rfl|rfl|rfl|rfl|rfl|rfl|rfl|rfl|rfl|rfl|rfl|rfl|rfl|rfl|rfl|rfl|rfl|rfl|rfl|rfl|rfl|rfl|rfl|⟨hk,D⟩
 case inr.inr.inr.inr.inr.inr.inr.inr.inr.inr.inr.inr.inr.inr.inr.inr.inr.inr.inr.inr.inr.inr.inr=>
  simp only[hk 1 (by decide) (by decide),hk 2 (by decide) (by decide),hk 3 (by decide) (by decide),hk 4 (by decide) (by decide),hk 5 (by decide) (by decide),hk 6 (by decide) (by decide),hk 7 (by decide) (by decide),hk 8 (by decide) (by decide),hk 9 (by decide) (by decide),hk 10 (by decide) (by decide),hk 11 (by decide) (by decide),hk 12 (by decide) (by decide),hk 13 (by decide) (by decide),hk 14 (by decide) (by decide),hk 15 (by decide) (by decide),hk 16 (by decide) (by decide),hk 17 (by decide) (by decide),hk 18 (by decide) (by decide),hk 19 (by decide) (by decide),hk 20 (by decide) (by decide),hk 21 (by decide) (by decide),hk 22 (by decide) (by decide),hk 23 (by decide) (by decide),aN,aS,kD];exact ai (ud.refl h)
 all_goals simp only[aN,aS,kD]
 all_goals first
  |exact ai (ud.refl h)
  |exact ar (gi 2 t h) λy d=>ai d.1
  |exact ar (gi 3 t h) λy d=>ai d.1
  |exact ar q λy d=>ai (ud.refl h)
  |exact aK (by decide) (by omega) (aV (ai (ud.refl h)))
  |exact aK (z rfl).1 (by have:=(z rfl).2;omega) (aV (ai (ud.refl h)))
  |skip
 refine ar q λl hl=>?_
 refine aR (λh1=>?_) λ_=>ai (ud.refl h)
 refine ar (gi _ t h) λy d=>?_
 dsimp only[aj]at h1;have h2:=d.2.2.1 (by dsimp only[aj];omega);exact aK d.2.1 h2 (aV (ai d.1))
theorem aao (t:η×Int) (h:TP t) (r:η) (hr:r.length<=1000000):Ok (gr (t,r)) λy=>y.1.length<=r.length/\ud t y.2.1/\y.2.2=r:=by
 unfold gr aX bn bx ja bp kF aY cH aB ct;refine cf r.length (λi x=>x.1=(i:Int)/\ud t x.2.1/\x.2.2.1=r/\x.2.2.2.length<=i) ?_ ?_ ⟨rfl,ud.refl h,rfl,by simp⟩
 .rintro i ⟨a,b,c,d⟩ hi ⟨e1,e2,e3,e4⟩;dsimp only at e1 e2 e3 e4;subst e1;subst e3;refine aR (λA=>?_) λA=>(by dsimp only[aj]at A;omega)
  refine aW (λx=>ud t x.1/\x.2.1=c/\x.2.2.length<=i+1) ?_ ?_
  .refine dV (dV (aV ?_));refine aW (λx=>ud t x.2.1/\x.2.2=(c,d)) ?_ ?_
   .refine aJ (λ_=>?_) λ_=>ai ⟨e2,rfl⟩
    exact ar (gi 2 b e2.p) λy D=>ai ⟨e2.trans D.1,rfl⟩
   .rintro⟨p,q,u⟩ ⟨s,z⟩;dsimp only at s z;subst z;refine aJ (λ_=>?_) λ_=>ai ⟨s,rfl,by dsimp only;omega⟩
    exact a_ (by simp;omega) (by omega) (ai ⟨s,rfl,by simp;omega⟩)
  .rintro⟨p,q,u⟩ ⟨s,z,f3⟩;dsimp only at s z f3;subst z;refine ai ?_;dsimp only;exact⟨fk (by omega),s,rfl,f3⟩
 .rintro⟨a,b,c,d⟩ ⟨e1,e2,e3,e4⟩;dsimp only at e1 e2 e3 e4;subst e1;subst e3;refine aR (λA=>(by dsimp only[aj]at A;omega)) λ_=>ai ⟨e4,e2,rfl⟩
theorem YD:sL ()=Z [3,3,3,3,3,4,4,4,4,4,5,5,5,6,6,6,7,7,7,8,9,10,11,12,13,14,14,15,16,16,17,17,18,18,19,20,1,1,2,21,22,23,23]:=rfl
abbrev RR:Type:=η×η×η×η
structure RB4 (m:Nat) (r:RR):Prop where
 r0:r.1.length<=m
 r1:r.2.1.length<=m
 r2:r.2.2.1.length<=m
 r3:r.2.2.2.length<=m
theorem Y7 {n:Nat} (s:SN) (hs:SZ n s) (w:WT) (hw:w.1.length=5) (t:η×Int) (h:TP t) (r:RR) (hr:RB4 1000000 r):Ok (pT ((s,w),t,r)) λy=>ud t y.2.1/\y.2.2=r/\(t.2<t.1.length->t.2<y.2.1.2)/\y.1.2.2.2.2.2.1.length<=1000000/\y.1.2.2.2.2.2.2.length<=1000000:=by
 obtain⟨r0,r1,r2,r3⟩:=r;obtain⟨h0,h1,h2,h3⟩:=hr;dsimp only at h0 h1 h2 h3;unfold pT yS J2 Prod.p12 aX bh bk bS da ip ug yR Prod.q11 Prod.q12 cC dI bi bp bF aY aB;refine ar (gi 4 t h) λy hy=>?_
 refine aQ YD ?_;refine ar (gi _ y.2 hy.1.p) λz hz=>?_
 obtain⟨y1,yt⟩:=y;obtain⟨z1,zt⟩:=z;obtain⟨ty,yy0,yy1,yy2⟩:=hy;obtain⟨tz,zz0,zz1,_⟩:=hz;dsimp only at ty yy0 yy1 yy2 tz zz0 zz1;have yy1:=yy1 (by decide);have hzl:=zz1 (by decide);refine aK zz0 hzl (aV ?_);generalize (aH _ z1)=k;refine ar (gi 6 zt tz.p) λv hv=>?_
 obtain⟨v1,vt⟩:=v;have tv:=hv.1;dsimp only at tv;have tt:=(ty.trans tz).trans tv;have hadv:t.2<t.1.length->t.2<vt.2:=λh=>by
  have:=yy2 h (by decide);have:=tz.m;have:=tv.m;omega
 refine aW (λx=>x.1=vt/\x.2.1=r0/\x.2.2.1=r1/\x.2.2.2.1=r2/\x.2.2.2.2.1=r3/\x.2.2.2.2.2.1=s/\x.2.2.2.2.2.2.1=w) ?_ ?_
 .refine aW (λx=>x.2.1=vt/\x.2.2.1=r0/\x.2.2.2.1=r1/\x.2.2.2.2.1=r2/\x.2.2.2.2.2.1=r3/\x.2.2.2.2.2.2.1=s/\x.2.2.2.2.2.2.2.1=w) ?_ ?_
  .with_reducible repeat' first|(refine OS.ok ?_;constructor)|refine IM.mk λ_=>?_
   all_goals exact⟨rfl,rfl,rfl,rfl,rfl,rfl,rfl⟩
  .rintro⟨p,q⟩ hq;dsimp only at hq;with_reducible repeat' first|(refine OS.ok ?_;constructor)|refine IM.mk λ_=>?_
   all_goals exact hq
 rintro⟨x1,x2,x3,x4,x5,x6,x7,x8,x9,x10⟩ ⟨D,L,f3,f4,f5,f6,I⟩;dsimp only at D L f3 f4 f5 f6 I;subst D;subst L;subst f3;subst f4;subst f5;subst f6;subst I;refine ar (VW _ _ _ tv.p) λo ho=>?_
 obtain⟨o1,ot⟩:=o;obtain⟨to,ho⟩:=ho;dsimp only at to ho;refine ar (VG _ hs _ _ (λhk=>ho (.inl hk)) _ to.p) λq hq=>?_
 obtain⟨q1,qt⟩:=q;dsimp only at hq;have F:=(tt.trans to).trans hq;have hadv2:t.2<t.1.length->t.2<qt.2:=λh=>by have:=hadv h;have:=to.m;have:=hq.m;omega
 have row:∀(T:η×Int) (c:η) {R:Type} (k:η×((η×Int)×η)->J R) (Q:R->Prop),ud t T->c.length<=1000000->(∀v T',ud T T'->v.length<=1000000->Ok (k (v,T',c)) Q)->Ok (av (gr (T,c)) k) Q:=λT c R k Q A hc hk=>by
  refine ar (aao T A.p c hc) λy hy=>?_
  obtain⟨a,b,d⟩:=y;obtain⟨g1,g2,g3⟩:=hy;dsimp only at g1 g2 g3;subst g3;exact hk a b g2 (by omega)
 refine aW (λx=>ud t x.1/\(t.2<t.1.length->t.2<x.1.2)/\x.2.1=x2/\x.2.2.1=x3/\x.2.2.2.1=x4/\x.2.2.2.2.1=x5/\x.2.2.2.2.2.2.2.2.2.2.2.length<=1000000) ?_ ?_
 .refine aW (λx=>x.2.1=qt/\x.2.2.1=x2/\x.2.2.2.1=x3/\x.2.2.2.2.1=x4/\x.2.2.2.2.2.1=x5) ?_ ?_
  .refine aF (λ_=>ai ⟨rfl,rfl,rfl,rfl,rfl⟩) λ_=>?_
   refine aF (λhk=>?_) λ_=>aF (λhk=>?_) λ_=>ai ⟨rfl,rfl,rfl,rfl,rfl⟩
   .exact aK (ho (.inl hk)).1 (by dsimp only;rw[hw];exact (ho (.inl hk)).2) (aV (ai ⟨rfl,rfl,rfl,rfl,rfl⟩))
   .exact aK (ho (.inr hk)).1 (by dsimp only;rw[hw];exact (ho (.inr hk)).2) (aV (ai ⟨rfl,rfl,rfl,rfl,rfl⟩))
  .rintro⟨b,p1,p2,p3,p4,p5,p6⟩ ⟨D,L,f3,f4,f5⟩;dsimp only at D L f3 f4 f5;subst D;subst L;subst f3;subst f4;subst f5;refine aJ (λ_=>?_) λ_=>ai ⟨F,hadv2,rfl,rfl,rfl,rfl,by simp⟩
   have adv3:∀T',ud p1 T'->t.2<t.1.length->t.2<T'.2:=λT' A h=>by have:=hadv2 h;have:=A.m;omega
   refine aF (λ_=>?_) λ_=>aF (λ_=>?_) λ_=>aF (λ_=>?_) λ_=>aF (λ_=>?_) λ_=>?_
   .refine row p1 p2 _ _ F h0 λv T' A hv=>?_
    refine cR (lG rfl (zP ?_));exact ai ⟨F.trans A,adv3 T' A,rfl,rfl,rfl,rfl,hv⟩
   .refine row p1 p3 _ _ F h1 λv T' A hv=>?_
    refine cR (lG rfl (zP ?_));exact ai ⟨F.trans A,adv3 T' A,rfl,rfl,rfl,rfl,hv⟩
   .refine row p1 p4 _ _ F h2 λv T' A hv=>?_
    refine cR (lG rfl (zP ?_));exact ai ⟨F.trans A,adv3 T' A,rfl,rfl,rfl,rfl,hv⟩
   .refine row p1 p5 _ _ F h3 λv T' A hv=>?_
    refine cR (lG rfl (zP ?_));exact ai ⟨F.trans A,adv3 T' A,rfl,rfl,rfl,rfl,hv⟩
   .omega
 rintro⟨u1,u2,u3,u4,u5,u6,u7,u8,u9,u10,u11,u12⟩ ⟨D,L,f3,f4,f5,f6,I⟩;dsimp only at D L f3 f4 f5 f6 I;subst f3;subst f4;subst f5;subst f6;refine aW (λx=>ud t x.1/\(t.2<t.1.length->t.2<x.1.2)/\x.2.1=u2/\x.2.2.1=u3/\x.2.2.2.1=u4/\x.2.2.2.2.1=u5/\x.2.2.2.2.2.2.2.2.2.2.2.1.length<=1000000/\x.2.2.2.2.2.2.2.2.2.2.2.2.length<=1000000) ?_ ?_
 .refine aW (λx=>x.2=(u1,u2,u3,u4,u5,u6,u7,u8,u9,u10,u11,u12)) ?_ ?_
  .with_reducible repeat' first|(refine OS.ok ?_;constructor)|refine IM.mk λ_=>?_
   all_goals rfl
  .rintro⟨b,x⟩ e;dsimp only at e;subst e;refine aJ (λ_=>?_) λ_=>ai ⟨D,L,rfl,rfl,rfl,rfl,I,by simp⟩
   have adv3:∀T',ud u1 T'->t.2<t.1.length->t.2<T'.2:=λT' A h=>by have:=L h;have:=A.m;omega
   refine aF (λ_=>?_) λ_=>aF (λ_=>?_) λ_=>aF (λ_=>?_) λ_=>aF (λ_=>?_) λ_=>?_
   .refine row u1 u2 _ _ D h0 λv T' A hv=>?_
    refine cR (lG rfl (zP ?_));exact ai ⟨D.trans A,adv3 T' A,rfl,rfl,rfl,rfl,I,hv⟩
   .refine row u1 u3 _ _ D h1 λv T' A hv=>?_
    refine cR (lG rfl (zP ?_));exact ai ⟨D.trans A,adv3 T' A,rfl,rfl,rfl,rfl,I,hv⟩
   .refine row u1 u4 _ _ D h2 λv T' A hv=>?_
    refine cR (lG rfl (zP ?_));exact ai ⟨D.trans A,adv3 T' A,rfl,rfl,rfl,rfl,I,hv⟩
   .refine row u1 u5 _ _ D h3 λv T' A hv=>?_
    refine cR (lG rfl (zP ?_));exact ai ⟨D.trans A,adv3 T' A,rfl,rfl,rfl,rfl,I,hv⟩
   .omega
 rintro⟨a1,a2,a3,a4,a5,a6,a7⟩ ⟨g1,g2,g3,g4,g5,g6,g7,g8⟩;dsimp only at g1 g2 g3 g4 g5 g6 g7 g8;subst g3;subst g4;subst g5;subst g6;exact ai ⟨g1,rfl,g2,g7,g8⟩
def Uv (e:ET):Prop:=e.2.2.2.2.2.1.length<=1000000/\e.2.2.2.2.2.2.length<=1000000
theorem aay {m:Nat} (hm:m<=1000) (s:SN) (hs:SZ m s) (w:WT) (hw:w.1.length=5) (hwt:w.2.2.2.2.1.length=4) (hwc:w.2.2.1.length<=1000) (n:Int) (hn:n<=60) (t:η×Int) (h:TP t):Ok (rN ((s,w,n,aa),t)) λy=>(∀e∈y.1,Uv e)/\y.1.length<=60:=by
 unfold rN aX bh bk bS da ip ug yR Prod.q10 bn cC dI gG nl Prod.q9 bi bx bp bF aY cH aB;refine cR (cR (cR (du (by dsimp only[aj];omega) (du (gN _) (a_ (by dsimp only[aj];omega) (by omega) (MV (by dsimp only[aj];omega) ?_))))));refine aW (λx=>x=(t,s,w,[],[],[],[])) ⟨_,rfl,rfl⟩ ?_;rintro x rfl;refine ml (λx=>((t.1.length:Int)-x.1.2).toNat) (λx=>ud t x.1/\x.2.2.1=w/\SZ (m+x.2.2.2.1.length) x.2.1/\x.2.2.2.1.length<=60/\(∀e∈x.2.2.2.1,Uv e)/\RB4 x.2.2.2.1.length x.2.2.2.2) ?_ ⟨ud.refl h,rfl,(by simpa using hs),by simp,λe he=>(by cases he),⟨by simp,by simp,by simp,by simp⟩⟩;rintro⟨d,s,w',out,r⟩ ⟨i1,i2,D,i4,i5,i6⟩;dsimp only at i1 i2 D i4 i5 i6;subst i2;refine aW (λx=>x.2=(d,s,w',out,r)/\(x.1=M->out.length<60/\d.2<d.1.length)) ?_ ?_
 .refine aR (λh1=>ai ⟨rfl,λh2=>?_⟩) λ_=>ai ⟨rfl,λh=>(by cases h)⟩
  rw[mm]at h2;dsimp only[aj]at h1 h2;exact⟨by omega,h2⟩
 rintro⟨b,x⟩ ⟨e,hb⟩;dsimp only at e hb;subst e;refine aJ (λh1=>?_) λ_=>ai ⟨i5,i4⟩
 obtain⟨ho,ht⟩:=hb h1;obtain⟨q0,q1,q2,q3⟩:=id i6;refine aW (λx=>ud d x.1/\d.2<x.1.2/\x.2.2.1=w'/\SZ (m+x.2.2.2.1.length) x.2.1/\x.2.2.2.1.length<=60/\(∀e∈x.2.2.2.1,Uv e)/\RB4 x.2.2.2.1.length x.2.2.2.2) ?_ ?_
 .refine ar (Y7 s D w' hw d i1.p r ⟨by omega,by omega,by omega,by omega⟩) λy hy=>?_
  obtain⟨ev,tp',r'⟩:=y;obtain⟨j1,j2,j3,A,q⟩:=hy;dsimp only at j1 j2 j3 A q;subst j2;have j3:=j3 ht;refine cR (lG rfl (cR (lG rfl (cR (lG rfl (cR (lG rfl (zP ?_))))))));refine ar (zp w' s D.nb hwc ev (.inl (by omega)) (.inl (by omega))) λz hz=>?_
  refine cQ (λ_=>ai ⟨j1,j3,rfl,D,i4,i5,i6⟩) λh2=>?_
  obtain⟨z1,z2⟩:=z;obtain⟨hE,hS,_⟩:=hz.1 h2;have hS2:=D.step hS (by omega);refine aW (λx=>x.1=tp'/\x.2.2.1=w'/\x.2.2.2.1=out/\Uv x.2.2.2.2.1/\x.2.2.2.2.2.1=z1/\RB4 (out.length+1) x.2.2.2.2.2.2) ?_ ?_
  .refine aW (λx=>x.2=(tp',s,w',out,ev,z1,r')) ?_ ?_
   .refine aF (λ_=>ai rfl) λ_=>ai rfl
   .rintro⟨b,x⟩ e;dsimp only at e;subst e;have hk:=D.k;obtain⟨ev1,ev2⟩:=ev;have t0:=hE.t0;have t1:=hE.t1;rw[hwt]at t1;dsimp only at t0 t1;refine aJ (λ_=>?_) λ_=>ai ⟨rfl,rfl,rfl,⟨A,q⟩,rfl,⟨by dsimp only;omega,by dsimp only;omega,by dsimp only;omega,by dsimp only;omega⟩⟩
    refine aF (λ_=>?_) λ_=>aF (λ_=>?_) λ_=>aF (λ_=>?_) λ_=>aF (λ_=>?_) λ_=>?_
    .exact aK (by decide) (by dsimp only;omega) (aV (a_ (by simp;omega) (by omega) (ai ⟨rfl,rfl,rfl,⟨A,q⟩,rfl,⟨by simp;omega,by dsimp only;omega,by dsimp only;omega,by dsimp only;omega⟩⟩)))
    .exact aK (by decide) (by dsimp only;omega) (aV (a_ (by simp;omega) (by omega) (ai ⟨rfl,rfl,rfl,⟨A,q⟩,rfl,⟨by dsimp only;omega,by simp;omega,by dsimp only;omega,by dsimp only;omega⟩⟩)))
    .exact aK (by decide) (by dsimp only;omega) (aV (a_ (by simp;omega) (by omega) (ai ⟨rfl,rfl,rfl,⟨A,q⟩,rfl,⟨by dsimp only;omega,by dsimp only;omega,by simp;omega,by dsimp only;omega⟩⟩)))
    .exact aK (by decide) (by dsimp only;omega) (aV (a_ (by simp;omega) (by omega) (ai ⟨rfl,rfl,rfl,⟨A,q⟩,rfl,⟨by dsimp only;omega,by dsimp only;omega,by dsimp only;omega,by simp;omega⟩⟩)))
    .dsimp only at *;omega
  .rintro⟨x1,x2,x3,x4,x5,x6,x7⟩ ⟨k1,k2,k3,L,I,F⟩;dsimp only at k1 k2 k3 L I F;subst k1;subst k2;subst k3;subst I;refine a_ (by simp;omega) (by omega) (ai ⟨j1,j3,rfl,?_,by simp;omega,λe he=>?_,?_⟩)
   .dsimp only;rw[bY,cP,<-vV];exact hS2
   .rcases bN.1 he with he|he
    .exact i5 e he
    .rw[aI]at he;subst he;exact L
   .dsimp only;rw[bY,cP];exact F
 rintro⟨tp',s',w'',out',r'⟩ ⟨k1,k2,k3,L,I,F,k7⟩;dsimp only at k1 k2 k3 L I F k7;have e1:=i1.e;have a1:=k1.p.a1;have e2:=k1.e;refine ai ⟨⟨i1.trans k1,k3,L,I,F,k7⟩,?_⟩;dsimp only;rw[e2,e1]at a1;omega
structure W0 (w:WT):Prop where
 c:w.1.length=5
 l:w.2.1.length=3
 d:w.2.2.1.length=1
 f:w.2.2.2.1.length=1
 t:w.2.2.2.2.1.length=4
 s:w.2.2.2.2.2.length<=24
theorem W0.vl {w:WT} (h:W0 w):VL w:=⟨by rw[h.c];decide,by rw[h.l];decide,by rw[h.d];decide,by rw[h.f];decide,by rw[h.t];decide,by rw[h.t];decide,by have:=h.s;omega⟩
theorem Rh:Ok (nv ()) W0:=by
 unfold nv aX bh bk bS dI bx bp cH aB ct;refine cf 4 (λi x=>x.1=(i:Int)/\x.2.1.length=5/\x.2.2.1.length=3/\x.2.2.2.1.length=1/\x.2.2.2.2.1.length=1/\x.2.2.2.2.2.1.length=4/\x.2.2.2.2.2.2.length<=6*i) ?_ ?_ ⟨rfl,rfl,rfl,rfl,rfl,rfl,by simp⟩
 .rintro i ⟨a,w1,w2,w3,w4,F,I⟩ hi ⟨e1,e2,e3,e4,q,d,A⟩;dsimp only at e1 e2 e3 e4 q d A;subst e1;refine aR (λ_=>?_) λg=>(by dsimp only[aj]at g;simp at g;omega)
  refine cf 6 (λj x=>x.1=(j:Int)/\x.2.1=w1/\x.2.2.1=w2/\x.2.2.2.1=w3/\x.2.2.2.2.1=w4/\x.2.2.2.2.2.1=F/\x.2.2.2.2.2.2.length<=6*i+j) ?_ ?_ ⟨rfl,rfl,rfl,rfl,rfl,rfl,by dsimp only;omega⟩
  .rintro j ⟨b,v1,v2,v3,v4,v5,L⟩ hj ⟨d1,d2,d3,d4,z,s,D⟩;dsimp only at d1 d2 d3 d4 z s D;subst d1;refine aR (λ_=>?_) λg=>(by dsimp only at g;omega)
   refine a_ (by simp;omega) (by omega) (ai ?_);dsimp only;exact⟨fk (by omega),d2,d3,d4,z,s,by simp;omega⟩
  .rintro⟨b,v1,v2,v3,v4,v5,L⟩ ⟨d1,d2,d3,d4,z,s,D⟩;dsimp only at d1 d2 d3 d4 z s D;subst d1;subst d2;subst d3;subst d4;subst z;subst s;refine aR (λg=>(by dsimp only at g;omega)) λ_=>ai ?_
   dsimp only;exact⟨fk (by omega),e2,e3,e4,q,d,by omega⟩
 .rintro⟨a,w1,w2,w3,w4,F,I⟩ ⟨e1,e2,e3,e4,q,d,A⟩;dsimp only at e1 e2 e3 e4 q d A;subst e1;refine aR (λg=>(by dsimp only[aj]at g;simp at g)) λ_=>ai ?_
  exact⟨e2,e3,e4,q,d,by omega⟩
theorem SZ.mono {n m:Nat} {s:SN} (h:SZ n s) (hnm:n<=m) (hm:m<=100000):SZ m s:=
 ⟨⟨⟨hm,h.nb.sb.lk,λl hl=>cW (h.nb.sb.rd l hl) hnm,h.nb.sb.dn,h.nb.sb.th⟩,h.nb.c,h.nb.f,h.nb.k⟩,h.c,h.f,h.k⟩
theorem Uk (w:WT) (d:W0 w):Ok (mM w) λs=>SZ 0 s:=by
 refine (Ul w d.vl).mono λs hs=>⟨hs.1,?_,?_,?_⟩
 .rw[hs.2.1,d.c]
 .rw[hs.2.2.1,d.f]
 .rw[hs.2.2.2,d.t]
structure WB (w:WT):Prop where
 c:w.1.length<=12
 l:w.2.1.length<=4
 d:w.2.2.1.length<=2
 f:w.2.2.2.1.length<=2
 t:w.2.2.2.2.1.length<=4
 s:w.2.2.2.2.2.length<=60
theorem VL.wb {w:WT} (h:VL w):WB w:=⟨h.c,h.l,h.d,h.f,h.t,h.s⟩
structure TR (y:WT×List ET):Prop where
 len:y.2.length<=100000
 ls:∀e∈y.2,Uv e
theorem Hf (L:η) (n:Int) (hl:L.length<=9223372036854775807) (hb:∀x∈L,0<=x/\x<=255):Ok (pU (L,n)) TR:=by
 unfold pU aX bh bk cI cC bx ja iA bp kF aY cH aB ct;refine aW (λx=>x.length<=600/\∀z∈x,0<=z/\z<=255) ?_ ?_
 .refine aR (λg=>?_) λg=>?_
  .dsimp only[aj]at g;refine cR (du (by omega) (du (by dsimp only;omega) (ai ⟨by dsimp only;rw[b_];simp;omega,λz q=>hb z (fB q)⟩)))
  .dsimp only[aj]at g;exact ai ⟨by dsimp only;omega,hb⟩
 rintro L' ⟨hL,hB⟩;refine ar Rh λw A=>?_
 have hvl:=A.vl;refine ar (Uk w A) λs hs=>?_
 refine ar (gi 3 (L',0) ⟨by dsimp only;omega,hB,by dsimp only;omega,by dsimp only;omega⟩) λy hy=>?_
 obtain⟨I,yt⟩:=y;obtain⟨ty,yy0,yy1,_⟩:=hy;have yy1:=yy1 (by decide);dsimp only at ty yy0 yy1;have ew:aZ .i64 (1+I)=1+I:=gF (by omega) (by omega);refine ml (λx=>(1+I+1-x.1).toNat) (λx=>1<=x.1/\x.1<=2+I/\x.2.1=yt/\x.2.2.1=w/\x.2.2.2.1=s/\((x.2.2.2.2.length:Nat):Int)<=2*x.1/\∀e∈x.2.2.2.2,Uv e) ?_ ⟨by dsimp only;omega,by dsimp only;omega,rfl,rfl,rfl,by simp,λe he=>?_⟩
 .rintro⟨a,t,w',s',es⟩ ⟨e1,e2,e3,e4,e5,e6,e7⟩;dsimp only at e1 e2 e3 e4 e5 e6 e7;subst e3;subst e4;subst e5;refine dT (λg=>?_) λg=>?_
  .dsimp only at g;rw[ew]at g;refine a_ (by simp;omega) (by omega) (ai ?_);dsimp only;rw[gF (n:=a+1) (by omega) (by omega)];refine ⟨⟨by omega,by omega,rfl,rfl,rfl,by simp;omega,λe he=>?_⟩,by omega⟩;rcases bN.1 he with he|he
   .exact e7 e he
   .simp only[bu,cA,gE]at he;rcases he with he|he<;>subst he<;>exact⟨by simp,by simp⟩
  .refine ar (P:=TR) ?_ λr hr=>ai hr
   refine cf es.length (λi x=>x.1=(i:Int)/\TP x.2.1/\x.2.2.1=w'/\SZ i x.2.2.2.1/\x.2.2.2.2.1=es/\x.2.2.2.2.2.length<=i/\∀e∈x.2.2.2.2.2,Uv e) ?_ ?_ ⟨rfl,ty.p,rfl,hs,rfl,by simp,λe he=>(by cases he)⟩
   .rintro i ⟨b,t,w',s',es',out⟩ hi ⟨d1,d2,d3,d4,F,d6,D⟩;dsimp only at d1 d2 d3 d4 F d6 D;subst d1;subst d3;subst F;refine aR (λ_=>?_) λg=>(by dsimp only[aj]at g;omega)
    refine aW (λx=>TP x.1/\x.2.1=w'/\SZ (i+1) x.2.2.1/\x.2.2.2.1=es'/\x.2.2.2.2.length<=i+1/\∀e∈x.2.2.2.2,Uv e) ?_ ?_
    .refine aK (by dsimp only;omega) (by dsimp only;omega) (aK (by dsimp only;omega) (by dsimp only;omega) (aV ?_));have q:=e7 _ (bH (T:=.st (.pr (.int .i64) (.pr (.int .i64) (.pr (.int .i64) (.pr (.int .i64) (.pr (.int .i64) (.pr (.sl (.int .i64)) (.sl (.int .i64))))))))) (xs:=es') (j:=(i:Int)) (by omega) (by omega));revert q;generalize (aH _ _)=z;intro q;refine ar (zp w' s' d4.nb (by rw[A.d];decide) z (.inl (by have:=q.1;omega)) (.inl (by have:=q.2;omega))) λv hv=>?_
     refine aJ (λh=>?_) λh=>ai ⟨d2,rfl,d4.mono (by omega) (by omega),rfl,by dsimp only;omega,D⟩
     refine a_ (by simp;omega) (by omega) (ai ⟨d2,rfl,d4.step (hv.1 h).2.1 (by omega),rfl,by simp;omega,λe he=>?_⟩);rcases bN.1 he with he|he
     .exact D e he
     .rw[aI]at he;subst he;exact q
    .rintro⟨t,w'',s'',es'',out'⟩ ⟨f1,f2,f3,f4,f5,f6⟩;dsimp only at f1 f2 f3 f4 f5 f6;refine ai ?_;dsimp only;exact⟨fk (by omega),f1,f2,f3,f4,f5,f6⟩
   .rintro⟨b,t,w',s',es',out⟩ ⟨d1,d2,d3,d4,F,d6,D⟩;dsimp only at d1 d2 d3 d4 F d6 D;subst d1;subst d3;subst F;refine aR (λg=>(by dsimp only[aj]at g;omega)) λ_=>?_
    refine ar (P:=TR) ?_ λr hr=>ai hr
    have hmin:FJ (lh n 0) 60<=60:=by
     unfold FJ;split
     .omega
     .rename_i h;simp[fI]at h;exact h
    refine ar (aay (by omega) s' d4 w' A.c A.t (by rw[A.d];decide) _ hmin t d2) λv hv=>?_
    refine a_ (by have:=hv.2;dsimp only;omega) (by omega) ?_;have hall:∀e∈out++v.1,Uv e:=λe he=>by
     rcases bN.1 he with he|he
     .exact D e he
     .exact hv.1 e he
    refine ar (Z' w' (out++v.1)) λc hc=>?_
    refine bW (λ_=>?_) λh=>?_
    .exact ar Rh λu _=>ai ⟨by simp,λe he=>(by cases he)⟩
    .exact ai ⟨by have:=hv.2;simp;omega,hall⟩
 .rw[aI]at he;subst he;exact⟨by simp,by simp⟩
abbrev IT:Type:=ω
abbrev CT:Type:=WT×Y (Int×Y IT)
theorem BW (a b:Int):jh (a,b)=Z (decide (0<=a/\a<b)):=by
 refine bX ?_;unfold jh ja aB;with_reducible repeat' first|(refine OS.ok ?_;constructor)|refine IM.mk λ_=>?_
 .by_cases h:a<b<;>simp[*,fI]
 .simp;omega
theorem Ms (k:Int):px k=Z (decide (1<=k/\k<=5)):=by
 refine bX ?_;unfold px ja aB;with_reducible repeat' first|(refine OS.ok ?_;constructor)|refine IM.mk λ_=>?_
 .by_cases h:k<=5<;>simp[*,cL]
 .simp;omega
def sI (i:IT):η:=
 if i.1=1\/i.1=6\/i.1=10\/i.1=27 then [i.2.1]
 else if i.1=2\/i.1=3 then [i.2.1,i.2.2.1]
 else if i.1=4 then [i.2.1,i.2.2.1,i.2.2.2.1]
 else if i.1=7 then [i.2.1,i.2.2.2.1]
 else if i.1=8\/i.1=26 then [i.2.2.1]
 else if i.1=9 then [i.2.2.1,i.2.2.2.1]
 else []
theorem wU (i:IT):jB i=Z (sI i):=by
 obtain⟨d,L⟩:=i;unfold jB sI aX bh bk bi aB;by_cases h1:d=1
 .subst h1;rfl
 by_cases h2:d=6
 .subst h2;rfl
 by_cases h3:d=10
 .subst h3;rfl
 by_cases h4:d=27
 .subst h4;rfl
 by_cases I:d=2
 .subst I;rfl
 by_cases F:d=3
 .subst F;rfl
 by_cases D:d=4
 .subst D;rfl
 by_cases A:d=7
 .subst A;rfl
 by_cases z:d=8
 .subst z;rfl
 by_cases s:d=26
 .subst s;rfl
 by_cases q:d=9
 .subst q;rfl
 simp only[h1,h2,h3,h4,I,F,D,A,z,s,q,cZ,Zw,jnr,gE,dq]
theorem Hh (z:IT):(sI z).length<=3:=by
 unfold sI
 (repeat' split)<;>simp
theorem YC (l:Y IT) (a:Int) (hl:l.length<=1000000):Ok (tg (l,a)) λ_=>True:=by
 unfold tg bi bx ja bF aY cH aB ct;refine ml (λx=>((l.length:Int)+1-x.2).toNat) (λx=>0<=x.2/\x.2<=(l.length:Int)+1) ?_ ⟨by dsimp only;omega,by dsimp only;omega⟩;rintro⟨(a:Int),(n:Int)⟩ ⟨h0,h1⟩;dsimp only at h0 h1;refine dT (λg=>?_) λ_=>ai trivial
 dsimp only[aj]at g;refine aW (λ_=>True) ?_ λb _=>ai ?_
 .refine aW (λb=>b=aa->0<=a/\a<(l.length:Int)) ?_ ?_
  .refine aR (λ_=>ai λh=>(by cases h)) λd=>ai λh=>?_
   rw[kV]at h;dsimp only[aj]at h d;exact⟨d,h⟩
  .intro b hb;refine aJ (λ_=>ai trivial) λh=>?_
   obtain⟨q0,q1⟩:=hb h;refine aK q0 (by dsimp only;omega) (aV ?_);refine aQ (Ms _) ?_;refine cQ (λ_=>ai trivial) λ_=>?_
   refine aK q0 (by dsimp only;omega) (aV ?_);refine aF (λ_=>?_) λ_=>ai trivial
   exact aK q0 (by dsimp only;omega) (aV (ai trivial))
 .dsimp only;rw[gF (by omega) (by omega)];exact⟨⟨by omega,by omega⟩,by omega⟩
theorem Rb (w:WT) (b n:Int):Ok (qO (w,b,n)) λ_=>True:=by
 unfold qO bi iA bF aY aB;refine aW (λ_=>True) ?_ λ_ _=>ai trivial
 refine aQ (BW _ _) ?_;refine aF (λh=>?_) λ_=>ai trivial
 dsimp only[aj]at h;with_reducible repeat' first|(refine OS.ok ?_;constructor)|refine IM.mk λ_=>?_
 all_goals try simp only[aj,od] at*
 all_goals first|omega|trivial
theorem Sj (w:WT) (i:IT):Ok (pX (w,i)) λ_=>True:=by
 unfold pX aX bh bk bS da bi ja bF aY aB;simp only[BW,RL];refine aF (λ_=>?_) λ_=>?_
 .refine aW (λ_=>True) ?_ λ_ _=>ai trivial
  refine aF (λh=>?_) λ_=>ai trivial
  exact aK h.1 h.2 (aV (ai trivial))
 refine aF (λ_=>?_) λ_=>?_
 .refine aW (λ_=>True) ?_ λ_ _=>ai trivial
  refine aF (λh=>?_) λ_=>ai trivial
  exact aK h.1 h.2 (aV (ai trivial))
 refine aF (λ_=>?_) λ_=>?_
 .exact ar (Rb _ _ _) λ_ _=>ai trivial
 refine aF (λ_=>?_) λ_=>?_
 .exact ar (Rb _ _ _) λ_ _=>ai trivial
 refine aW (λx=>x.2=(w,i)) (aF (λ_=>ai rfl) λ_=>ai rfl) ?_;rintro⟨b,x⟩ e;dsimp only at e;subst e;refine aJ (λ_=>?_) λ_=>?_
 .refine aW (λ_=>True) ?_ λ_ _=>ai trivial
  refine aF (λh=>?_) λ_=>ai trivial
  exact aK h.1 h.2 (aV (ai trivial))
 refine aW (λx=>x.2=(w,i)) (aF (λ_=>ai rfl) λ_=>aF (λ_=>ai rfl) λ_=>aF (λ_=>ai rfl) λ_=>ai rfl) ?_;rintro⟨b,x⟩ e;dsimp only at e;subst e;refine aJ (λ_=>?_) λ_=>?_
 .refine aW (λ_=>True) ?_ λ_ _=>ai trivial
  refine aF (λh=>?_) λ_=>ai trivial
  exact aK h.1 h.2 (aV (ai trivial))
 refine aW (λx=>x.2=(w,i)) (aF (λ_=>ai rfl) λ_=>aF (λ_=>ai rfl) λ_=>ai rfl) ?_;rintro⟨b,x⟩ e;dsimp only at e;subst e;refine aJ (λ_=>ai trivial) λ_=>?_
 refine aW (λx=>x.2=(w,i)) (aF (λ_=>ai rfl) λ_=>ai rfl) ?_;rintro⟨b,x⟩ e;dsimp only at e;subst e;with_reducible repeat' first|(refine OS.ok ?_;constructor)|refine IM.mk λ_=>?_
 all_goals trivial
structure VI (n:Int) (i:IT):Prop where
 o1:1<=i.1
 o2:i.1<=28
 r:∀j∈sI i,0<=j/\j<n
structure VT (t:Int×List IT):Prop where
 r0:0<=t.1
 r1:t.1<=32
 i:∀i∈t.2,VI t.1 i
theorem Ha (w:WT) (k:Int) (c:Int×Y IT) (hc:c.2.length<=1000000):Ok (kS (w,k,c)) λb=>b=M->VT c:=by
 unfold kS aX bh bk bS bn cC nl bi bx iA bF aY cH aB ct;refine aW (λx=>x.2=(w,c)/\(x.1=aa->0<=c.1/\c.1<=32)) ?_ ?_
 .refine aR (λ_=>ai ⟨rfl,λh=>(by cases h)⟩) λh0=>aR (λ_=>ai ⟨rfl,λh=>(by cases h)⟩) λh1=>ai ⟨rfl,λ_=>⟨h0,h1⟩⟩
 rintro⟨b,x⟩ ⟨e,hb⟩;dsimp only at e hb;subst e;refine aJ (λ_=>ai λh=>(by cases h)) λh=>?_
 obtain⟨r0,r1⟩:=hb h;refine cf c.2.length (λi x=>x.1=(i:Int)/\x.2=(w,c)/\∀k:Nat,k<i->VI c.1 (aH (T:=.st (.pr (.int .i64) (.pr (.int .i64) (.pr (.int .i64) (.pr (.int .i64) (.pr (.int .i64) (.int .i64))))))) c.2 (k:Int))) ?_ ?_ ⟨rfl,rfl,λk hk=>by omega⟩
 .rintro i ⟨a,x⟩ hi ⟨e1,e2,e3⟩;dsimp only at e1 e2 e3;subst e1;subst e2;refine aR (λ_=>?_) λg=>(by dsimp only[aj]at g;omega)
  refine aK (by dsimp only;omega) (by dsimp only;omega) (aV ?_);generalize q:(aH _ _)=z;refine aW (λx=>x.2=(w,c,z)/\(x.1=aa->1<=z.1/\z.1<=28)) ?_ ?_
  .refine aR (λ_=>ai ⟨rfl,λh=>(by cases h)⟩) λh0=>aR (λ_=>ai ⟨rfl,λh=>(by cases h)⟩) λh1=>?_
   refine aJ (λ_=>ai ⟨rfl,λh=>(by cases h)⟩) λ_=>?_
   refine ar (Sj w z) λy _=>?_
   refine cQ (λ_=>ai ⟨rfl,λh=>(by cases h)⟩) λ_=>?_
   exact ar (YC c.2 _ hc) λy _=>ai ⟨rfl,λ_=>⟨h0,h1⟩⟩
  rintro⟨b,x⟩ ⟨e,hb⟩;dsimp only at e hb;subst e;refine aJ (λ_=>ai λh=>(by cases h)) λh=>?_
  obtain⟨o1,o2⟩:=hb h;refine aW (λx=>x.2=(w,c,z)) ?_ ?_
  .simp only[BW,RL];have key:∀(f:ν->Bool),Ok (aE (!decide (0<=z.2.2.2.2.2/\z.2.2.2.2.2<aT w.2.2.2.2.2.length)) (Z (b7 (M,w,c,z)):J (Bool⊕(Bool×WT×(Int×Y IT)×IT))) (chk (fm z.2.2.2.2.2 w.2.2.2.2.2.length) λ_=>lt (aH (T:=.st (.pr (.int .i64) (.pr (.int .i64) (.int .i64)))) w.2.2.2.2.2 z.2.2.2.2.2).1 λd=>Z (b7 (!decide ((d:Int)=k),w,c,z)))) (λr=>match r with|.inl r=>(match (r:Bool) with|_=>True)|.inr x=>x.2=(w,c,z)):=λf=>by
    refine bW (λ_=>ai rfl) λh=>?_
    exact aK h.1 h.2 (aV (ai rfl))
   with_reducible repeat' first|(refine OS.ok ?_;constructor)|refine IM.mk λ_=>?_
   all_goals first|rfl|(simp only[aj]at *;omega)|skip
  rintro⟨b,x⟩ e;dsimp only at e;subst e;refine aJ (λ_=>ai λh=>(by cases h)) λ_=>?_
  refine aW (λx=>x.2=(w,c,z)) ?_ ?_
  .simp only[BW,RL];with_reducible repeat' first|(refine OS.ok ?_;constructor)|refine IM.mk λ_=>?_
   all_goals rfl
  rintro⟨b,x⟩ e;dsimp only at e;subst e;refine aJ (λ_=>ai λh=>(by cases h)) λ_=>?_
  refine aQ (wU z) ?_;refine cf (sI z).length (λj x=>x.1=(j:Int)/\x.2=(w,c)/\∀k:Nat,k<j->0<=aH (T:=.int .i64) (sI z) (k:Int)/\aH (T:=.int .i64) (sI z) (k:Int)<c.1) ?_ ?_ ⟨rfl,rfl,λk hk=>by omega⟩
  .rintro j ⟨a,x⟩ hj ⟨d1,d2,d3⟩;dsimp only at d1 d2 d3;subst d1;subst d2;refine aR (λ_=>?_) λg=>(by dsimp only[aj]at g;omega)
   refine aK (by dsimp only;omega) (by dsimp only;omega) (aV ?_);refine aQ (BW _ _) ?_;refine bW (λ_=>ai λh=>(by cases h)) λh=>ai ?_
   dsimp only at h ⊢;have hj32:(sI z).length<=3:=Hh z;refine ⟨fk (by omega),rfl,λk hk=>?_⟩;rcases bM k j with h1|h1
   .exact d3 k h1
   .rw[show k=j by omega];exact h
  .rintro⟨a,x⟩ ⟨d1,d2,d3⟩;dsimp only at d1 d2 d3;subst d1;subst d2;refine aR (λg=>(by dsimp only[aj]at g;omega)) λ_=>ai ?_
   dsimp only;refine ⟨fk (by omega),rfl,λk hk=>?_⟩;rcases bM k i with h1|h1
   .exact e3 k h1
   .rw[show k=i by omega,q];exact⟨o1,o2,ii (T:=.int .i64) d3⟩
 .rintro⟨a,x⟩ ⟨e1,e2,e3⟩;dsimp only at e1 e2 e3;subst e1;subst e2;refine aR (λg=>(by dsimp only[aj]at g;omega)) λ_=>ai λ_=>⟨r0,r1,ii (T:=.st (.pr (.int .i64) (.pr (.int .i64) (.pr (.int .i64) (.pr (.int .i64) (.pr (.int .i64) (.int .i64))))))) (p:=VI c.1) e3⟩
structure VC (c:CT):Prop where
 vl:VL c.1
 tl:c.2.length=c.1.2.2.2.2.1.length
 t:∀t∈c.2,VT t
structure CB (c:CT):Prop where
 th:c.2.length<=1000000
 ins:∀t∈c.2,t.2.length<=1000000
theorem JL (c:CT) (hb:CB c):Ok (ph c) λb=>b=M->VC c:=by
 obtain⟨w,l⟩:=c;obtain⟨h1,h2⟩:=hb;dsimp only at h1 h2;unfold ph bk bx bF aY cH aB ct;refine aW (λx=>x.2=(w,l)/\(x.1=aa->VL w/\l.length=w.2.2.2.2.1.length)) ?_ ?_
 .refine ar (Am w) λb hb=>?_
  refine cQ (λ_=>ai ⟨rfl,λh=>(by cases h)⟩) λh=>ai ⟨rfl,λh3=>⟨(hb h).1,?_⟩⟩
  simp at h3;omega
 rintro⟨b,x⟩ ⟨e,d⟩;dsimp only at e d;subst e;refine aJ (λ_=>ai λh=>(by cases h)) λh=>?_
 obtain⟨hv,hl⟩:=d h;refine cf l.length (λi x=>x.1=(i:Int)/\x.2=(w,l)/\∀k:Nat,k<i->VT (aH (T:=GD) l (k:Int))) ?_ ?_ ⟨rfl,rfl,λk hk=>by omega⟩
 .rintro i ⟨a,x⟩ hi ⟨e1,e2,e3⟩;dsimp only at e1 e2 e3;subst e1;subst e2;refine aR (λ_=>?_) λg=>(by dsimp only[aj]at g;omega)
  refine aK (by dsimp only;omega) (by dsimp only;omega) (aV ?_);have hm:=bH (T:=GD) (xs:=l) (j:=(i:Int)) (by omega) (by omega);revert hm;generalize q:(aH (T:=GD) l (i:Int))=z;intro hm;refine ar (Ha w _ z (h2 z hm)) λb hb=>?_
  refine cQ (λ_=>ai λh=>(by cases h)) λh=>ai ?_
  dsimp only;refine ⟨fk (by omega),rfl,λk hk=>?_⟩;rcases bM k i with h1|h1
  .exact e3 k h1
  .rw[show k=i by omega,q];exact hb h
 .rintro⟨a,x⟩ ⟨e1,e2,e3⟩;dsimp only at e1 e2 e3;subst e1;subst e2;refine aR (λg=>(by dsimp only[aj]at g;omega)) λ_=>ai λ_=>⟨hv,hl,ii (T:=GD) (p:=VT) e3⟩
abbrev TT:Type:=Int×η×Y η×Int
structure TL (E:Nat) (l:η):Prop where
 a:xG l
 m:∀y∈l,0<=y/\y<(E:Int)
theorem TL.len {E:Nat} {l:η} (h:TL E l):l.length<=E:=by
 have:=G4 l 0 E h.a h.m;omega
theorem TL.nil (E:Nat):TL E []:=⟨trivial,λy d=>(by cases d)⟩
theorem TL.uni {E:Nat} {a b:η} (q:TL E a) (hb:TL E b):TL E (qA a b):=
 ⟨Ow a b,λy d=>by
   rcases Ov.1 d with h|h
   .exact q.m y h
   .exact hb.m y h⟩
theorem TL.mono {E F:Nat} {l:η} (h:TL E l) (hf:E<=F):TL F l:=⟨h.a,λy d=>⟨(h.m y d).1,by have:=(h.m y d).2;omega⟩⟩
structure TH (E:Nat) (s:TT):Prop where
 r:s.2.1.length<=32
 t:s.2.2.1.length<=32
 l:∀l∈s.2.2.1,TL E l
 e0:0<=s.2.2.2
 e1:s.2.2.2<=(E:Int)
theorem TH.zero (E:Nat):TH E (0,[],[],0):=⟨by simp,by simp,λl hl=>(by cases hl),by simp,by simp⟩
theorem TH.mono {E F:Nat} {s:TT} (h:TH E s) (hf:E<=F):TH F s:=⟨h.r,h.t,λl hl=>(h.l l hl).mono hf,h.e0,by have:=h.e1;omega⟩
theorem c6 (s:TT) (E:Nat) (A:E<=100000) (h:TH E s):cg s=Z ((s.1,s.2.2.2),s.2.1,s.2.2.1):=by
 obtain⟨h1,h2,h3,h4,D⟩:=h;refine bX ?_;unfold cg aX bh bk bn cC bx bp bF aY cH aB ct;refine a_ (by simp;omega) (by omega) ?_;refine cf s.2.2.1.length (λi x=>x.1=(i:Int)/\x.2.1=s/\x.2.2.2.1=(s.1,s.2.2.2)/\x.2.2.2.2.1=s.2.1/\x.2.2.2.2.2=s.2.2.1.take i) ?_ ?_ ⟨rfl,rfl,rfl,rfl,rfl⟩
 .rintro i ⟨a,b,c,d,e,f⟩ hi ⟨e1,e2,e3,e4,q⟩;dsimp only at e1 e2 e3 e4 q;subst e1;subst e2;subst q;refine aR (λ_=>?_) λg=>(by dsimp only[aj]at g;omega)
  refine aK (by dsimp only;omega) (by dsimp only;omega) (aV ?_);have z:=(h3 _ (bH (T:=.sl (.int .i64)) (xs:=b.2.2.1) (j:=(i:Int)) (by omega) (by omega))).len;refine a_ (by simp only[jW,bL];exact cW z (by omega)) (by omega) ?_;refine a_ (by simp;omega) (by omega) (ai ?_);dsimp only;refine ⟨fk (by omega),rfl,e3,e4,?_⟩;rw[pN (T:=.sl (.int .i64)) hi];rfl
 .rintro⟨a,b,c,d,e,f⟩ ⟨e1,e2,e3,e4,q⟩;dsimp only at e1 e2 e3 e4 q;subst e1;subst e2;subst q;refine aR (λg=>(by dsimp only[aj]at g;omega)) λ_=>ai ?_
  show (d,e,_)=_;rw[e3,e4,bQ]
theorem uX (b:Bool):Ok (fD b) λ_=>True:=by
 unfold fD;with_reducible repeat' first|(refine OS.ok ?_;constructor)|refine IM.mk λ_=>?_
 all_goals trivial
theorem EA (n:Int):Ok (mb n) λ_=>True:=by
 unfold mb bx aB;with_reducible repeat' first|(refine OS.ok ?_;constructor)|refine IM.mk λ_=>?_
 all_goals trivial
theorem ZK (x:Γ):Ok (tm x) λ_=>True:=by
 unfold tm bi;refine aF (λ_=>ai trivial) λ_=>aF (λ_=>?_) λ_=>ai trivial
 exact ar (uX _) λ_ _=>ai trivial
theorem XG (x:ν):Ok (rP x) λ_=>True:=by
 unfold rP bi iA bp aB;have t1:∀b,Ok (av (fD b) λy=>Z (y,M)) λ_=>True:=λb=>ar (uX _) λ_ _=>ai trivial
 refine aF (λ_=>ai trivial) λ_=>aF (λ_=>ai trivial) λ_=>aF (λ_=>ai trivial) λ_=>?_
 refine aF (λ_=>aF (λ_=>ai trivial) λh=>u_ h (ai trivial)) λ_=>?_
 refine aF (λ_=>aF (λ_=>ai trivial) λh=>u_ h (ai trivial)) λ_=>?_
 refine aF (λ_=>t1 _) λ_=>aF (λ_=>t1 _) λ_=>aF (λ_=>t1 _) λ_=>aF (λ_=>t1 _) λ_=>aF (λ_=>t1 _) λ_=>aF (λ_=>t1 _) λ_=>?_
 refine aF (λ_=>aW (λ_=>True) (bW (λ_=>ar (uX _) λ_ _=>ai trivial) λ_=>ar (uX _) λ_ _=>ai trivial) λ_ _=>ai trivial) λ_=>?_
 exact aF (λ_=>aW (λ_=>True) (bW (λ_=>ar (uX _) λ_ _=>ai trivial) λ_=>ar (uX _) λ_ _=>ai trivial) λ_ _=>ai trivial) λ_=>ai trivial
theorem VJ (E:Nat) (hE:E<=100000) (i:IT) (p:Γ) (R:η) (T:Y η) (hr:∀j∈sI i,0<=j/\j<(R.length:Int)) (o1:1<=i.1) (o2:i.1<=5) (hR:R.length<=32) (q:T.length=R.length) (hl:∀l∈T,TL E l):Ok (vh ((i,p),R,T)) λy=>y.1.1.2=p.2/\y.2.1.length=R.length/\y.2.2.length=T.length/\∀l∈y.2.2,TL E l:=by
 unfold vh aX bh bk ck bi bx bp bF kF aY cH aB ct;refine aQ (wU i) ?_;have h3:=Hh i;refine cf (sI i).length (λj x=>x.1=(j:Int)/\x.2.1=R/\x.2.2.1=T/\x.2.2.2.1=i/\x.2.2.2.2.1=p) ?_ ?_ ⟨rfl,rfl,rfl,rfl,rfl⟩
 .rintro j ⟨a,b,c,d,e⟩ hj ⟨e1,e2,e3,e4,z⟩;dsimp only at e1 e2 e3 e4 z;subst e1;subst e2;subst e3;subst e4;refine aR (λ_=>?_) λg=>(by dsimp only[aj]at g;omega)
  have hz:=hr _ (bH (T:=.int .i64) (xs:=sI d) (j:=(j:Int)) (by omega) (by omega));refine aW (λx=>x.2=(b,c,d,e)/\x.1=aa) ?_ ?_
  .refine aK (by dsimp only;omega) (by dsimp only;omega) (aV ?_);refine aR (λg=>?_) λ_=>?_
   .dsimp only at g;omega
   refine aK (by dsimp only;omega) (by dsimp only;omega) (aV (ai ⟨rfl,?_⟩));dsimp only;rw[kV];exact hz.2
  rintro⟨b',x⟩ ⟨D,A⟩;dsimp only at D A;subst D;subst A;refine aJ (λh=>(by cases h)) λ_=>ai ?_
  dsimp only;exact⟨fk (by omega),rfl,rfl,rfl,z⟩
 .rintro⟨a,b,c,d,e⟩ ⟨e1,e2,e3,e4,z⟩;dsimp only at e1 e2 e3 e4 z;subst e1;subst e2;subst e3;subst e4;refine aR (λg=>(by dsimp only[aj]at g;omega)) λ_=>?_
  obtain⟨e,e'⟩:=e;dsimp only at z;subst z;refine ar (P:=λy=>y.1.1.2=e.2/\y.2.1.length=b.length/\y.2.2.length=c.length/\∀l∈y.2.2,TL E l) ?_ λr hr=>ai hr
  have hA:d.1≠5->0<=d.2.1/\d.2.1<(b.length:Int):=λh5=>hr _ (by
   unfold sI;(repeat' split)<;>simp<;>omega)
  have hB:2<=d.1->d.1≠5->0<=d.2.2.1/\d.2.2.1<(b.length:Int):=λh2 h5=>hr _ (by
   unfold sI;(repeat' split)<;>simp<;>omega)
  have hC:d.1=4->0<=d.2.2.2.1/\d.2.2.2.1<(b.length:Int):=λh5=>hr _ (by
   unfold sI;(repeat' split)<;>simp<;>omega)
  have hg:∀{j:Int},0<=j->j<(b.length:Int)->TL E (aH (T:=.sl (.int .i64)) c j):=λh0 h1=>hl _ (bH (T:=.sl (.int .i64)) (xs:=c) h0 (by rw[q];exact h1))
  refine aW (λx=>x.2.1=b/\x.2.2.1=c/\x.2.2.2.1=d/\x.2.2.2.2.1=e/\TL E x.1.2.2/\d.1≠5) ?_ ?_
  .refine aF (λ_=>ai ⟨rfl,rfl,rfl,hl⟩) λs=>?_
   refine aF (λ_=>ai ⟨rfl,rfl,rfl,rfl,TL.nil E,s⟩) λn1=>?_
   dsimp only at n1 s;obtain⟨b0,b1⟩:=hB (by omega) s;refine aF (λ_=>?_) λn2=>?_
   .refine aK b0 b1 (aK b0 b1 (aV ?_));refine aK b0 (by dsimp only;rw[q];exact b1) (aK b0 (by dsimp only;rw[q];exact b1) (aV ?_));exact ai ⟨rfl,rfl,rfl,rfl,hg b0 b1,s⟩
   refine aF (λ_=>?_) λn3=>?_
   .refine ar (EA _) λy _=>?_
    refine aK b0 b1 (aK b0 b1 (aV ?_));refine ar (ZK _) λy _=>?_
    refine aK b0 (by dsimp only;rw[q];exact b1) (aK b0 (by dsimp only;rw[q];exact b1) (aV ?_));exact ai ⟨rfl,rfl,rfl,rfl,hg b0 b1,s⟩
   dsimp only at n2 n3;obtain⟨I,F⟩:=hC (by omega);refine ar (EA _) λy _=>?_
   refine aK b0 b1 (aK b0 b1 (aV ?_));refine aK I F (aK I F (aV ?_));refine ar (XG _) λy _=>?_
   refine aK b0 (by dsimp only;rw[q];exact b1) (aK b0 (by dsimp only;rw[q];exact b1) (aV ?_));refine aK I (by dsimp only;rw[q];exact F) (aK I (by dsimp only;rw[q];exact F) (aV ?_));have g1:=hg b0 b1;have g2:=hg I F;refine aQ (Rj _ _ (cW g1.len (by omega)) (cW g2.len (by omega))) ?_;exact ai ⟨rfl,rfl,rfl,rfl,g1.uni g2,s⟩
  rintro⟨⟨v,ok,tn⟩,b',c',d',e',e''⟩ ⟨D,A,f3,f4,L,f6⟩;dsimp only at D A f3 f4 L f6;subst D;subst A;subst f3;subst f4;obtain⟨a0,a1⟩:=hA f6;have ht:=L.len;refine a_ (by simp;omega) (by omega) ?_;refine aK a0 a1 (aK a0 a1 (aK a0 (by dsimp only;rw[q];exact a1) (aK a0 (by dsimp only;rw[q];exact a1) (ai ?_))));refine ⟨rfl,cM ..,cM ..,λl hm=>?_⟩;rcases Bv hm with h|h
  .exact hl l h
  .rw[h];exact L
theorem Xg (E:Nat) (I:E<=100000) (c:Int×Y IT) (hc:c.2.length<=1000000) (hv:VT c) (s:TT) (h:TH E s):Ok (m6 (c,s)) λy=>TH E y.1:=by
 unfold m6 aX bh bk bn cI cC bi bx ja iA bp bF aY cH aB ct;have q:=h;obtain⟨h1,h2,h3,h4,h5⟩:=h;refine aW (λx=>x.2.1=c/\x.2.2.1=s/\(x.1=aa->(s.2.1.length:Int)=c.1/\(s.2.2.1.length:Int)=c.1)) ?_ ?_
 .refine bW (λ_=>ai ⟨rfl,rfl,λh=>(by cases h)⟩) λg=>ai ⟨rfl,rfl,λh=>?_⟩
  simp at h;exact⟨g,h⟩
 rintro⟨b,c',s',z⟩ ⟨e1,e2,e3⟩;dsimp only at e1 e2 e3;subst e1;subst e2;refine aJ (λ_=>ai (TH.zero E)) λhb=>?_
 obtain⟨q1,q2⟩:=e3 hb;refine aQ (c6 s' E I q) ?_;refine ml (λx=>((c'.2.length:Int)+1-x.1).toNat) (λx=>0<=x.1/\x.1<=(c'.2.length:Int)+1/\x.2.1=c'/\x.2.2.1.2=s'.2.2.2/\x.2.2.2.2.1.length=s'.2.1.length/\x.2.2.2.2.2.length=s'.2.2.1.length/\∀l∈x.2.2.2.2.2,TL E l) ?_ ⟨by dsimp only;omega,by dsimp only;omega,rfl,rfl,rfl,rfl,h3⟩;rintro⟨(n:Int),c,⟨(d:Int),ev⟩,z',R,T⟩ ⟨n0,n1,e1,e2,e3,e4,A⟩;dsimp only at n0 n1 e1 e2 e3 e4 A;subst e1;subst e2;refine dT (λg=>?_) λ_=>ai (TH.zero E)
 dsimp only[aj]at g;refine aW (λx=>x.2=(c,(d,s'.2.2.2),z',R,T)/\(x.1=aa->0<=d/\d<(c.2.length:Int))) ?_ ?_
 .refine aR (λ_=>ai ⟨rfl,λh=>(by cases h)⟩) λL=>ai ⟨rfl,λh=>?_⟩
  dsimp only at L h;rw[kV]at h;exact⟨L,h⟩
 rintro⟨b',x⟩ ⟨f1,f2⟩;dsimp only at f1 f2;subst f1;refine aJ (λ_=>ai (TH.zero E)) λhb=>?_
 obtain⟨p0,p1⟩:=f2 hb;refine aK p0 p1 (aV ?_);have hi:=hv.i _ (bH (T:=UB) (xs:=c.2) (j:=d) p0 p1);revert hi;generalize (aH (T:=UB) _ _)=i;intro hi;refine aQ (Ms _) ?_;refine bW (λ_=>ai ⟨by dsimp only;omega,by dsimp only;omega,A,h4,h5⟩) λhsil=>?_
 refine aF (λ_=>ai (TH.zero E)) λhn=>?_
 dsimp only[aj]at hn;refine ar (VJ E I i (d,s'.2.2.2) R T (λj hj=>by have:=hi.r j hj;omega) hsil.1 hsil.2 (by omega) (by omega) A) λy hy=>?_
 obtain⟨⟨⟨pc',ev'⟩,ok⟩,R',T'⟩:=y;obtain⟨k1,k2,F,D⟩:=hy;dsimp only at k1 k2 F D;refine cR (lG F.symm (cR (lG k2.symm (zP ?_))));refine cQ (λ_=>ai (TH.zero E)) λ_=>ai ?_
 dsimp only;rw[gF (by omega) (by omega)];exact⟨⟨by omega,by omega,rfl,k1,by omega,by omega,D⟩,by omega⟩
abbrev ST:Type:=SY×η×η×Y TT
structure TF (c:Int×List IT) (t:TT):Prop where
 p0:0<=t.1
 p1:t.1<(c.2.length:Int)
 r:(t.2.1.length:Int)=c.1
 t:(t.2.2.1.length:Int)=c.1
structure FSx (c:CT) (s:ST):Prop where
 vc:VC c
 cd:∀d∈c.1.2.2.1,0<=d.2/\d.2<(c.1.2.1.length:Int)
 e3:s.1.2.2.2.length=c.1.2.2.2.2.1.length
 ce:s.2.1.length=c.1.1.length
 fu:s.2.2.1.length=c.1.2.2.2.1.length
 th:s.2.2.2.length=c.2.length
 t:∀k:Nat,k<c.2.length->TF (aH (T:=GD) c.2 (k:Int)) (aH (T:=Et) s.2.2.2 (k:Int))
structure SV (n:Nat) (s:ST):Prop where
 sb:SB n s.1
 t:∀t∈s.2.2.2,TH n t
theorem abt (c:CT) (s:ST) (hc:CB c):Ok (vg (c,s)) λb=>b=M->FSx c s:=by
 unfold vg aX bh cI cC bx ja iA bF aY cH aB ct;refine aW (λx=>x.2=(c,s)/\(x.1=aa->VC c/\(∀d∈c.1.2.2.1,0<=d.2/\d.2<(c.1.2.1.length:Int))/\s.1.2.2.2.length=c.1.2.2.2.2.1.length/\s.2.1.length=c.1.1.length/\s.2.2.1.length=c.1.2.2.2.1.length/\s.2.2.2.length=c.2.length)) ?_ ?_
 .refine ar (JL c hc) λb hb=>?_
  refine cQ (λ_=>ai ⟨rfl,λh=>(by cases h)⟩) λh=>?_
  have hv:=hb h;refine ar (Oi c.1 s.1 (by have:=hv.vl.d;omega)) λb2 q=>?_
  refine cQ (λ_=>ai ⟨rfl,λh=>(by cases h)⟩) λh2=>?_
  obtain⟨z,_,_,F⟩:=q h2;refine bW (λ_=>ai ⟨rfl,λh=>(by cases h)⟩) λk1=>?_
  refine bW (λ_=>ai ⟨rfl,λh=>(by cases h)⟩) λk2=>ai ⟨rfl,λD=>⟨hv,z,F,?_,?_,?_⟩⟩
  .dsimp only[aj]at k1;omega
  .dsimp only[aj]at k2;omega
  .simp at D;omega
 rintro⟨b,x⟩ ⟨e,hb⟩;dsimp only at e hb;subst e;refine aJ (λ_=>ai λh=>(by cases h)) λh=>?_
 obtain⟨hv,hcd,h3,hce,hfu,hth⟩:=hb h;have hcl:=hc.th;refine cf c.2.length (λi x=>x.1=(i:Int)/\x.2=(c,s)/\∀k:Nat,k<i->TF (aH (T:=GD) c.2 (k:Int)) (aH (T:=Et) s.2.2.2 (k:Int))) ?_ ?_ ⟨rfl,rfl,λk hk=>by omega⟩
 .rintro i ⟨a,x⟩ hi ⟨e1,e2,e3⟩;dsimp only at e1 e2 e3;subst e1;subst e2;refine aR (λ_=>?_) λg=>(by dsimp only[aj]at g;omega)
  have hin:((i:Nat):Int)<(c.2.length:Int):=by omega
  refine aK (by dsimp only;omega) (by dsimp only;omega) (aV ?_);refine aW (λx=>x.2=(c,s)/\(x.1=aa->TF (aH (T:=GD) c.2 (i:Int)) (aH (T:=Et) s.2.2.2 (i:Int)))) ?_ ?_
  .refine aR (λ_=>ai ⟨rfl,λh=>(by cases h)⟩) λL=>?_
   refine aK (by dsimp only;omega) hin (aV ?_);refine dT (λ_=>ai ⟨rfl,λh=>(by cases h)⟩) λz=>?_
   refine aK (by dsimp only;omega) hin (aV ?_);refine bW (λ_=>ai ⟨rfl,λh=>(by cases h)⟩) λI=>?_
   refine aK (by dsimp only;omega) hin (aV (ai ⟨rfl,λA=>⟨L,z,I,?_⟩⟩));simp at A;exact A
  rintro⟨b,x⟩ ⟨e,hb⟩;dsimp only at e hb;subst e;refine aJ (λ_=>ai λh=>(by cases h)) λh=>ai ?_
  dsimp only;refine ⟨fk (by omega),rfl,λk hk=>?_⟩;rcases bM k i with h1|h1
  .exact e3 k h1
  .rw[show k=i by omega];exact hb h
 .rintro⟨a,x⟩ ⟨e1,e2,e3⟩;dsimp only at e1 e2 e3;subst e1;subst e2;refine aR (λg=>(by dsimp only[aj]at g;omega)) λ_=>ai λ_=>⟨hv,hcd,h3,hce,hfu,hth,e3⟩
theorem adq {i:IT} (h:i.1=6\/i.1=7\/i.1=27\/i.1=10):i.2.1∈sI i:=by
 unfold sI;(repeat' split)<;>simp<;>omega
theorem adp {i:IT} (h:i.1=8\/i.1=9\/i.1=26):i.2.2.1∈sI i:=by
 unfold sI;(repeat' split)<;>simp<;>omega
theorem ahl {i:IT} (h:i.1=7\/i.1=9):i.2.2.2.1∈sI i:=by
 unfold sI;(repeat' split)<;>simp<;>omega
structure KD (op k:Int):Prop where
 ld:k=3->op=6\/op=7
 st:k=4->op=8\/op=9
 br:k=5->op=10
 se:k=22->op=26
 ge:k=23->op=27
theorem abb (op:Int):Ok (vb op) λk=>KD op k:=by
 unfold vb bx kF aB;refine aW (λx=>x.2=[3,3,4,4,5,6,7,8,9,10,11,12,13,14,15,16,18,19,20,21,22,23,2]/\(x.1=aa->6<=op/\op<=28)) ?_ ?_
 .refine aR (λ_=>ai ⟨rfl,λh=>(by cases h)⟩) λg=>ai ⟨rfl,λh=>?_⟩
  dsimp only at h;rw[fy]at h;exact⟨g,h⟩
 rintro⟨b,x⟩ ⟨e,hb⟩;dsimp only at e hb;subst e;refine aJ (λ_=>ai ⟨λh=>(by cases h),λh=>(by cases h),λh=>(by cases h),λh=>(by cases h),λh=>(by cases h)⟩) λh=>?_
 obtain⟨h1,h2⟩:=hb h;dsimp only;rw[gF (n:=op-6) (by omega) (by omega)];refine aK (by omega) (by simp;omega) (aK (by omega) (by simp;omega) (aV (ai ?_)));have:op=6\/op=7\/op=8\/op=9\/op=10\/op=11\/op=12\/op=13\/op=14\/op=15\/op=16\/op=17\/op=18\/op=19\/op=20\/op=21\/op=22\/op=23\/op=24\/op=25\/op=26\/op=27\/op=28:=by omega
 rcases this with rfl|rfl|rfl|rfl|rfl|rfl|rfl|rfl|rfl|rfl|rfl|rfl|rfl|rfl|rfl|rfl|rfl|rfl|rfl|rfl|rfl|rfl|rfl;all_goals exact⟨by decide,by decide,by decide,by decide,by decide⟩
theorem Rt (a n:Int):Ok (qP (a,n)) λ_=>True:=by
 unfold qP bx bp aB;refine aR (λ_=>ai trivial) λh=>?_
 dsimp only at h;refine u_ (by dsimp only;omega) ?_;refine aW (λ_=>True) (aR (λ_=>ai trivial) λ_=>ai trivial) λ_ _=>ai trivial
theorem O0 (i:IT) (t:TT) (hr:∀j∈sI i,0<=j/\j<(t.2.1.length:Int)):Ok (rO (i,t)) λ_=>True:=by
 unfold rO aX bh bk bi bF aB;have d:i.1=7\/i.1=9->0<=i.2.2.2.1/\i.2.2.2.1<(t.2.1.length:Int):=λh=>hr _ (by
  unfold sI;(repeat' split)<;>simp<;>omega)
 refine aW (λx=>x.2=(i,t)) (aF (λ_=>ai rfl) λ_=>ai rfl) ?_;rintro⟨b,x⟩ e;dsimp only at e;subst e;refine aJ (λ_=>ai trivial) λ_=>?_
 refine aF (λh=>?_) λ_=>?_
 .exact aK (d (.inl h)).1 (d (.inl h)).2 (aV (ar (Rt _ _) λ_ _=>ai trivial))
 refine aF (λh=>?_) λ_=>?_
 .exact aK (d (.inr h)).1 (d (.inr h)).2 (aV (ar (Rt _ _) λ_ _=>ai trivial))
 refine aW (λ_=>True) ?_ λx _=>aJ (λ_=>ai trivial) λ_=>ai trivial
 with_reducible repeat' first|(refine OS.ok ?_;constructor)|refine IM.mk λ_=>?_
 all_goals trivial
structure PE (n:Nat) (c:CT) (s:ST) (t:Int) (e:ET):Prop where
 fs:FSx c s
 t0:0<=t
 t1:t<(c.2.length:Int)
 et:e.1=t
 d:e.2.2.2.2.2.1.length<=n
 f:e.2.2.2.2.2.2.length<=n
 a:e.2.1=3\/e.2.1=23\/e.2.1=5->0<=(aH (T:=UB) (aH (T:=GD) c.2 t).2 (aH (T:=Et) s.2.2.2 t).1).2.1/\(aH (T:=UB) (aH (T:=GD) c.2 t).2 (aH (T:=Et) s.2.2.2 t).1).2.1<((aH (T:=Et) s.2.2.2 t).2.1.length:Int)
 b:e.2.1=4\/e.2.1=22->0<=(aH (T:=UB) (aH (T:=GD) c.2 t).2 (aH (T:=Et) s.2.2.2 t).1).2.2.1/\(aH (T:=UB) (aH (T:=GD) c.2 t).2 (aH (T:=Et) s.2.2.2 t).1).2.2.1<((aH (T:=Et) s.2.2.2 t).2.1.length:Int)
theorem Uo (n:Nat) (hn:n<=100000) (c:CT) (s:ST) (hc:CB c) (hs:SV n s) (t:Int):Ok (nz (c,s,t)) λy=>y.2=M->PE n c s t y.1:=by
 unfold nz aX bh bk bn cI cC bi bx bp bF aY aB;refine aW (λx=>x.2.1=c/\x.2.2.1=s/\(x.1=aa->FSx c s/\0<=t/\t<(c.2.length:Int))) ?_ ?_
 .refine ar (abt c s hc) λb hb=>?_
  refine cQ (λ_=>ai ⟨rfl,rfl,λh=>(by cases h)⟩) λh=>?_
  refine aR (λ_=>ai ⟨rfl,rfl,λh=>(by cases h)⟩) λg0=>ai ⟨rfl,rfl,λI=>?_⟩
  dsimp only at g0 I;rw[kV]at I;exact⟨hb h,g0,I⟩
 rintro⟨b,c',s',z⟩ ⟨e1,e2,hb⟩;dsimp only at e1 e2 hb;subst e1;subst e2;refine aJ (λ_=>ai λh=>(by cases h)) λh=>?_
 obtain⟨hf,t0,t1⟩:=hb h;have hk:((t.toNat:Nat):Int)=t:=by omega
 have htf:=hf.t t.toNat (by omega);rw[hk]at htf;have hvt:=hf.vc.t _ (bH (T:=GD) (xs:=c'.2) (j:=t) t0 t1);have hth:=hs.t _ (bH (T:=Et) (xs:=s'.2.2.2) (j:=t) t0 (by rw[hf.th];exact t1));have key:∀e:ET,e.1=t->e.2.2.2.2.2.1.length<=n->e.2.2.2.2.2.2.length<=n->(e.2.1=1\/e.2.1=17\/KD (aH (T:=UB) (aH (T:=GD) c'.2 t).2 (aH (T:=Et) s'.2.2.2 t).1).1 e.2.1)->PE n c' s' t e:=by
  intro e h1 h2 h3 h4;have hi:=hvt.i _ (bH (T:=UB) (xs:=(aH (T:=GD) c'.2 t).2) (j:=(aH (T:=Et) s'.2.2.2 t).1) htf.p0 htf.p1);refine ⟨hf,t0,t1,h1,h2,h3,λF=>?_,λF=>?_⟩
  .rw[htf.r];rcases h4 with h4|h4|h4
   .omega
   .omega
   .refine hi.r _ ?_;have a1:=h4.ld;have a2:=h4.ge;have a3:=h4.br;revert a1 a2 a3 F;generalize (aH (T:=UB) (aH (T:=GD) c'.2 t).2 (aH (T:=Et) s'.2.2.2 t).1)=i;intro F a1 a2 a3;exact adq (by omega)
  .rw[htf.r];rcases h4 with h4|h4|h4
   .omega
   .omega
   .refine hi.r _ ?_;have a1:=h4.st;have a2:=h4.se;revert a1 a2 F;generalize (aH (T:=UB) (aH (T:=GD) c'.2 t).2 (aH (T:=Et) s'.2.2.2 t).1)=i;intro F a1 a2;exact adp (by omega)
 have hir:=(hvt.i _ (bH (T:=UB) (xs:=(aH (T:=GD) c'.2 t).2) (j:=(aH (T:=Et) s'.2.2.2 t).1) htf.p0 htf.p1)).r;rw[<- htf.r]at hir;refine aK t0 (by dsimp only;rw[hf.th];exact t1) (aV ?_);refine aK t0 t1 (aV ?_);refine aK htf.p0 htf.p1 (aV ?_);have t4:t<(s'.1.2.2.2.length:Int):=by rw[hf.e3,<-hf.vc.tl];exact t1
 have A:(aH (T:=Et) s'.2.2.2 t).2.2.1.length=(aH (T:=Et) s'.2.2.2 t).2.1.length:=by have:=htf.r;have:=htf.t;omega
 refine aK t0 t4 (aV ?_);refine aF (λ_=>ai λ_=>key _ rfl (oF _) (oF _) (.inl rfl)) λ_=>?_
 refine aF (λ_=>aK t0 t4 (aV (ai λ_=>key _ rfl (oF _) (oF _) (.inr (.inl rfl))))) λ_=>?_
 refine aF (λ_=>?_) λ_=>ai λh=>(by cases h)
 refine ar (abb _) λk q=>?_
 refine ar (O0 _ _ hir) λo _=>?_
 refine aF (λ_=>ai λh=>(by cases h)) λ_=>?_
 revert key htf hvt hth hir A q;dsimp only;generalize (aH (T:=Et) s'.2.2.2 t)=th;generalize (aH (T:=UB) _ th.1)=i;intro htf hvt hth key hir A q;have hlen:∀{j:Int},0<=j->j<(th.2.2.1.length:Int)->(aH (T:=.sl (.int .i64)) th.2.2.1 j).length<=n:=λh0 h1=>(hth.l _ (bH (T:=.sl (.int .i64)) (xs:=th.2.2.1) h0 h1)).len
 have hA:i.1=10->0<=i.2.1/\i.2.1<(th.2.2.1.length:Int):=λh=>by
  rw[A];exact hir _ (adq (.inr (.inr (.inr h))))
 have hB:i.1=8\/i.1=9\/i.1=26->0<=i.2.2.1/\i.2.2.1<(th.2.2.1.length:Int):=λh=>by
  rw[A];exact hir _ (adp (h))
 have hC:i.1=7\/i.1=9->0<=i.2.2.2.1/\i.2.2.2.1<(th.2.2.1.length:Int):=λh=>by
  rw[A];exact hir _ (ahl (h))
 refine aW (λx=>x.2.1=th/\x.2.2.1=i/\x.2.2.2.1.1=t/\x.2.2.2.1.2.1=k/\x.2.2.2.2.length<=n) ?_ ?_
 .refine aF (λh=>?_) λ_=>?_
  .obtain⟨a0,a1⟩:=hA h;refine aK a0 a1 (aV ?_);have:=hlen a0 a1;exact a_ (cW this (by omega)) (by omega) (ai ⟨rfl,rfl,rfl,rfl,this⟩)
  refine aW (λx=>x.2.2.1=th/\x.2.2.2.1=i/\x.2.2.2.2.1=t/\x.2.2.2.2.2.1=k/\(x.1=M->i.1=7\/i.1=9)) ?_ ?_
  .refine aF (λh=>ai ⟨rfl,rfl,rfl,rfl,λ_=>.inl h⟩) λ_=>ai ⟨rfl,rfl,rfl,rfl,λh=>.inr (ba h)⟩
  rintro⟨b,z0,th',D,t',k',L⟩ ⟨e1,e2,e3,e4,d⟩;dsimp only at e1 e2 e3 e4 d;subst e1;subst e2;subst e3;subst e4;refine aJ (λh=>?_) λ_=>ai ⟨rfl,rfl,rfl,rfl,oF _⟩
  obtain⟨a0,a1⟩:=hC (d h);refine aK a0 a1 (aV ?_);have:=hlen a0 a1;exact a_ (cW this (by omega)) (by omega) (ai ⟨rfl,rfl,rfl,rfl,this⟩)
 rintro⟨z0,th',D,⟨t',k',L⟩,ds⟩ ⟨e1,e2,e3,e4,hd⟩;dsimp only at e1 e2 e3 e4 hd;subst e1;subst e2;subst e3;subst e4;refine aW (λx=>x.2.1.1=t'/\x.2.1.2.1=k'/\x.2.2.1.length<=n/\x.2.2.2.length<=n) ?_ ?_
 .refine aW (λx=>x.2=(z0,th',D,(t',k',L),ds)/\(x.1=M->D.1=8\/D.1=9\/D.1=26)) ?_ ?_
  .exact aF (λh=>ai ⟨rfl,λ_=>.inl h⟩) λ_=>aF (λh=>ai ⟨rfl,λ_=>.inr (.inl h)⟩) λ_=>ai ⟨rfl,λh=>.inr (.inr (ba h))⟩
  rintro⟨b,x⟩ ⟨e,d⟩;dsimp only at e d;subst e;refine aJ (λh=>?_) λ_=>ai ⟨rfl,rfl,hd,oF _⟩
  obtain⟨a0,a1⟩:=hB (d h);refine aK a0 a1 (aV ?_);have:=hlen a0 a1;exact a_ (cW this (by omega)) (by omega) (ai ⟨rfl,rfl,hd,this⟩)
 rintro⟨z2,⟨t2,k2,z3⟩,d2,f2⟩ ⟨e1,e2,h1,h2⟩;dsimp only at e1 e2 h1 h2;subst e1;subst e2;exact ai λ_=>key _ rfl h1 h2 (.inr (.inr q))
theorem SV.zero (n:Nat) (hn:n<=100000):SV n (([],0,[],[]),[],[],[]):=⟨⟨hn,by simp,λl hl=>(by cases hl),by simp,by simp⟩,λt ht=>(by cases ht)⟩
theorem Um (c:CT) (hc:CB c):Ok (tf c) λs=>SV 0 s:=by
 unfold tf aX bh bk bS bn cI cC dI bx mF bp bF aY cH aB ct;refine ar (JL c hc) λb hb=>?_
 refine cQ (λ_=>ai (SV.zero 0 (by omega))) λh=>?_
 have hv:=hb h;obtain⟨vc,vl,I,F,_,D,_⟩:=id hv.vl;have htl:=hv.tl;refine ar (Un c.1 hv.vl) λy A=>?_
 refine cf c.1.1.length (λi x=>x.1=(i:Int)/\x.2.1=c/\x.2.2.2.1=y/\x.2.2.2.2.length=i) ?_ ?_ ⟨rfl,rfl,rfl,rfl⟩
 .rintro i ⟨a,c',z,q,l⟩ hi ⟨e1,e2,e3,e4⟩;dsimp only at e1 e2 e3 e4;subst e1;subst e2;subst e3;refine aR (λ_=>?_) λg=>(by dsimp only[aj]at g;omega)
  refine aK (by dsimp only;omega) (by dsimp only;omega) (aV (a_ (by simp;omega) (by omega) (ai ?_)));dsimp only;exact⟨fk (by omega),rfl,rfl,by simp;omega⟩
 rintro⟨a,c',z,q,l⟩ ⟨e1,e2,e3,e4⟩;dsimp only at e1 e2 e3 e4;subst e1;subst e2;subst e3;refine aR (λg=>(by dsimp only[aj]at g;omega)) λ_=>?_
 refine ar (P:=SV 0) ?_ λr hr=>ai hr
 refine cf c'.1.2.2.2.1.length (λi x=>x.1=(i:Int)/\x.2.1=c'/\x.2.2.2.1=q/\x.2.2.2.2.2.length=i) ?_ ?_ ⟨rfl,rfl,rfl,rfl⟩
 .rintro i ⟨a,c,z,y,l,f⟩ hi ⟨e1,e2,e3,e4⟩;dsimp only at e1 e2 e3 e4;subst e1;subst e2;subst e3;refine aR (λ_=>?_) λg=>(by dsimp only[aj]at g;omega)
  refine a_ (by simp;omega) (by omega) (ai ?_);dsimp only;exact⟨fk (by omega),rfl,rfl,by simp;omega⟩
 rintro⟨a,c,z,y,l,f⟩ ⟨e1,e2,e3,e4⟩;dsimp only at e1 e2 e3 e4;subst e1;subst e2;subst e3;refine aR (λg=>(by dsimp only[aj]at g;omega)) λ_=>?_
 refine ar (P:=SV 0) ?_ λr hr=>ai hr
 refine cf c.2.length (λi x=>x.1=(i:Int)/\x.2.1=c/\x.2.2.2.1=y/\x.2.2.2.2.2.2.length=i/\∀t∈x.2.2.2.2.2.2,TH 0 t) ?_ ?_ ⟨rfl,rfl,rfl,rfl,λt ht=>(by cases ht)⟩
 .rintro i ⟨a,c,z,y,l,f,th⟩ hi ⟨e1,e2,e3,e4,d⟩;dsimp only at e1 e2 e3 e4 d;subst e1;subst e2;subst e3;refine aR (λ_=>?_) λg=>(by dsimp only[aj]at g;omega)
  have hin:((i:Nat):Int)<(c.2.length:Int):=by omega
  have hvt:=hv.t _ (bH (T:=GD) (xs:=c.2) (j:=(i:Int)) (by omega) hin);have q0:=hvt.r0;have q1:=hvt.r1;refine aK (by dsimp only;omega) hin (aV ?_);refine cR (cR (du q0 (du (gN _) (a_ (by dsimp only;omega) (by omega) ?_))));refine aK (by dsimp only;omega) hin (aV ?_);refine cR (cR (du q0 (du (gN _) (a_ (by dsimp only;omega) (by omega) ?_))));refine a_ (by simp;omega) (by omega) (ai ?_);dsimp only;refine ⟨fk (by omega),rfl,rfl,by simp;omega,λt ht=>?_⟩;rcases bN.1 ht with h|h
  .exact d t h
  .rw[aI]at h;subst h;refine ⟨?_,?_,λl hl=>?_,gN _,gN _⟩
   .dsimp only;rw[cK];omega
   .dsimp only;rw[cK];omega
   .rw[List.eq_of_mem_replicate hl];exact TL.nil 0
 .rintro⟨a,c,z,y,l,f,th⟩ ⟨e1,e2,e3,e4,d⟩;dsimp only at e1 e2 e3 e4 d;subst e1;subst e2;subst e3;refine aR (λg=>(by dsimp only[aj]at g;omega)) λ_=>ai ?_
  exact⟨A,d⟩
theorem kr {α R:Type} (o:J α):av o (λ_=>(U:J R))=U:=by cases o<;>rfl
theorem oA {R:Type} (b:Bool):chk b (λ_=>(U:J R))=U:=by cases b<;>rfl
theorem rA {α R:Type} (x:α):lt x (λ_=>(U:J R))=U:=rfl
def Oo {R:Type} (o:J R) (Q:R->Prop):Prop:=o=U\/Ok o Q
theorem Oo.or {R:Type} {a b:J R} {Q:R->Prop} (d:Oo a Q) (hb:Oo b Q):Oo (orE a b) Q:=by
 rcases d with rfl|⟨y,rfl,h⟩
 .exact hb
 .exact .inr ⟨y,rfl,h⟩
theorem Ok.orL {R:Type} {a b:J R} {Q:R->Prop} (d:Ok a Q):Ok (orE a b) Q:=by
 obtain⟨y,rfl,h⟩:=d;exact⟨y,rfl,h⟩
theorem Oo.orR {R:Type} {a b:J R} {Q:R->Prop} (d:Oo a Q) (hb:Ok b Q):Ok (orE a b) Q:=by
 rcases d with rfl|⟨y,rfl,h⟩
 .exact hb
 .exact⟨y,rfl,h⟩
def SQ (n:Nat) (c:CT) (y:ST×ET×Bool):Prop:=y.2.2=M->SV (n+1) y.1/\EvF c.1 y.2.1/\Uv y.2.1
theorem Hd {n:Nat} (hn:n+1<=100000) {c:CT} {s:ST} {t u:Int} (hc:CB c) (hs:SV n s) (G:J (ST×ET×Bool)->Prop) (D:∀y,SQ n c y->G (Z y)) (k:ET×Bool->SY×Int×Bool->J (ST×ET×Bool))
 (hk:∀e v sy,PE n c s t e->EN c.1 s.1 t e.2.1 e.2.2.1->AP n s.1 sy->G (k (e,M) (sy,v,M))):
 G (av (nz (c,s,t)) λq=>aE (!q.2) (Z ((([],0,[],[]),[],[],[]),(0,0,0,0,0,[],[]),aa)) (av (pf (c.1,s.1,t,q.1.2.1,q.1.2.2.1,u)) λz=>aE (!z.2.2) (Z ((([],0,[],[]),[],[],[]),(0,0,0,0,0,[],[]),aa)) (k q z))):=by
 have A:=D ((([],0,[],[]),[],[],[]),(0,0,0,0,0,[],[]),aa) λh=>(by cases h)
 obtain⟨⟨e,b⟩,h1,h2⟩:=Uo n (by omega) c s hc hs t;rw[h1,RL];cases b with
 |false=>exact A
 |true=>
  have hp:=h2 rfl;have hcd:c.1.2.2.1.length<=1000:=by have:=hp.fs.vc.vl.d;omega
  obtain⟨⟨sy,v,b⟩,h3,h4,_,_⟩:=J1 c.1 s.1 hs.sb hcd t e.2.1 e.2.2.1 u;have e0:∀{R:Type} (a b:J R),aE (!M) a b=b:=λ_ _=>rfl
  rw[e0,h3,RL];cases b with
  |false=>exact A
  |true=>exact hk e v sy hp (h4 rfl).1 (h4 rfl).2.2.1
theorem XE {E:Nat} (sy:SY) (ce fu:η) (a:TT) (h:SV E (sy,ce,fu,[a])) (hce:ce.length<=1000) (hfu:fu.length<=1000):mZ (sy,ce,fu,[a])=Z ((sy.2.1,sy.1,sy.2.2.1,sy.2.2.2).1,(sy.2.1,sy.1,sy.2.2.1,sy.2.2.2).2.1,(sy.2.1,sy.1,sy.2.2.1,sy.2.2.2).2.2.1,(sy.2.1,sy.1,sy.2.2.1,sy.2.2.2).2.2.2,(([]:η)++ce),(([]:η)++fu),((a.1,a.2.2.2),a.2.1,a.2.2.1)):=by
 have q:=h.sb.n1;have d:=h.t a (by simp);refine bX ?_;unfold mZ aX bn bx bp bF aY;refine aQ (qv sy h.sb) ?_;refine a_ (by simp;omega) (by omega) (a_ (by simp;omega) (by omega) ?_);refine eL rfl (a8 rfl (aV (aQ (c6 a E q d) ?_)));exact jz rfl (ai rfl)
theorem RH (sy:SY) (ce fu:η) (l:Y TT) (h0:l.length<=4) (h:l.length≠1):mZ (sy,ce,fu,l)=U:=by
 unfold mZ aX bn bx bp bF aY;rcases l with _|⟨a,_|⟨b,_|⟨c,_|⟨d,_|⟨e,l⟩⟩⟩⟩⟩;all_goals first|(simp at h;done)|(exfalso;simp only[ca]at h0;omega)|simp[fI,kr,oA,rA,bcT,Zw]
theorem XD {E:Nat} (sy:SY) (ce fu:η) (a b:TT) (h:SV E (sy,ce,fu,[a,b])) (hce:ce.length<=1000) (hfu:fu.length<=1000):mY (sy,ce,fu,[a,b])=Z ((sy.2.1,sy.1,sy.2.2.1,sy.2.2.2).1,(sy.2.1,sy.1,sy.2.2.1,sy.2.2.2).2.1,(sy.2.1,sy.1,sy.2.2.1,sy.2.2.2).2.2.1,(sy.2.1,sy.1,sy.2.2.1,sy.2.2.2).2.2.2,(([]:η)++ce),(([]:η)++fu),(((a.1,a.2.2.2),a.2.1,a.2.2.1).1.1,((a.1,a.2.2.2),a.2.1,a.2.2.1).1.2,((b.1,b.2.2.2),b.2.1,b.2.2.1).1.1,((b.1,b.2.2.2),b.2.1,b.2.2.1).2.1,((b.1,b.2.2.2),b.2.1,b.2.2.1).2.2,((b.1,b.2.2.2),b.2.1,b.2.2.1).1.2),((a.1,a.2.2.2),a.2.1,a.2.2.1).2):=by
 have d:=h.sb.n1;have q:=h.t a (by simp);have hb:=h.t b (by simp);refine bX ?_;unfold mY aX bn bx bp bF aY;refine aQ (qv sy h.sb) ?_;refine a_ (by simp;omega) (by omega) (a_ (by simp;omega) (by omega) ?_);refine eL rfl (a8 rfl (aV (aQ (c6 a E d q) ?_)));refine eL rfl (a8 rfl (aV (aQ (c6 b E d hb) ?_)));exact jz rfl (ai rfl)
theorem RG (sy:SY) (ce fu:η) (l:Y TT) (h0:l.length<=4) (h:l.length≠2):mY (sy,ce,fu,l)=U:=by
 unfold mY aX bn bx bp bF aY;rcases l with _|⟨a,_|⟨b,_|⟨c,_|⟨d,_|⟨e,l⟩⟩⟩⟩⟩;all_goals first|(simp at h;done)|(exfalso;simp only[ca]at h0;omega)|simp[fI,kr,oA,rA,bcT,Zw]
theorem XC {E:Nat} (sy:SY) (ce fu:η) (a b:TT) (h:SV E (sy,ce,fu,[a,b])) (hce:ce.length<=1000) (hfu:fu.length<=1000):mX (sy,ce,fu,[a,b])=Z ((sy.2.1,sy.1,sy.2.2.1,sy.2.2.2).1,(sy.2.1,sy.1,sy.2.2.1,sy.2.2.2).2.1,(sy.2.1,sy.1,sy.2.2.1,sy.2.2.2).2.2.1,(sy.2.1,sy.1,sy.2.2.1,sy.2.2.2).2.2.2,(([]:η)++ce),(([]:η)++fu),((((a.1,a.2.2.2),a.2.1,a.2.2.1).1.1,((a.1,a.2.2.2),a.2.1,a.2.2.1).2.1,((a.1,a.2.2.2),a.2.1,a.2.2.1).2.2,((a.1,a.2.2.2),a.2.1,a.2.2.1).1.2),((b.1,b.2.2.2),b.2.1,b.2.2.1).1),((b.1,b.2.2.2),b.2.1,b.2.2.1).2):=by
 have d:=h.sb.n1;have q:=h.t a (by simp);have hb:=h.t b (by simp);refine bX ?_;unfold mX aX bn bx bp bF aY;refine aQ (qv sy h.sb) ?_;refine a_ (by simp;omega) (by omega) (a_ (by simp;omega) (by omega) ?_);refine eL rfl (a8 rfl (aV (aQ (c6 a E d q) ?_)));refine eL rfl (a8 rfl (aV (aQ (c6 b E d hb) ?_)));exact jz rfl (ai rfl)
theorem RF (sy:SY) (ce fu:η) (l:Y TT) (h0:l.length<=4) (h:l.length≠2):mX (sy,ce,fu,l)=U:=by
 unfold mX aX bn bx bp bF aY;rcases l with _|⟨a,_|⟨b,_|⟨c,_|⟨d,_|⟨e,l⟩⟩⟩⟩⟩;all_goals first|(simp at h;done)|(exfalso;simp only[ca]at h0;omega)|simp[fI,kr,oA,rA,bcT,Zw]
theorem XB {E:Nat} (sy:SY) (ce fu:η) (a b c:TT) (h:SV E (sy,ce,fu,[a,b,c])) (hce:ce.length<=1000) (hfu:fu.length<=1000):mW (sy,ce,fu,[a,b,c])=Z ((sy.2.1,sy.1,sy.2.2.1,sy.2.2.2).1,(sy.2.1,sy.1,sy.2.2.1,sy.2.2.2).2.1,(sy.2.1,sy.1,sy.2.2.1,sy.2.2.2).2.2.1,(sy.2.1,sy.1,sy.2.2.1,sy.2.2.2).2.2.2,(([]:η)++ce),(([]:η)++fu),(((a.1,a.2.2.2),a.2.1,a.2.2.1).1.1,((a.1,a.2.2.2),a.2.1,a.2.2.1).1.2,(((b.1,b.2.2.2),b.2.1,b.2.2.1).1.1,((b.1,b.2.2.2),b.2.1,b.2.2.1).2.1,((b.1,b.2.2.2),b.2.1,b.2.2.1).2.2,((b.1,b.2.2.2),b.2.1,b.2.2.1).1.2),((c.1,c.2.2.2),c.2.1,c.2.2.1).1.1,((c.1,c.2.2.2),c.2.1,c.2.2.1).2.1,((c.1,c.2.2.2),c.2.1,c.2.2.1).2.2,((c.1,c.2.2.2),c.2.1,c.2.2.1).1.2),((a.1,a.2.2.2),a.2.1,a.2.2.1).2):=by
 have d:=h.sb.n1;have q:=h.t a (by simp);have hb:=h.t b (by simp);have hc:=h.t c (by simp);refine bX ?_;unfold mW aX bn bx bp bF aY;refine aQ (qv sy h.sb) ?_;refine a_ (by simp;omega) (by omega) (a_ (by simp;omega) (by omega) ?_);refine eL rfl (a8 rfl (aV (aQ (c6 a E d q) ?_)));refine eL rfl (a8 rfl (aV (aQ (c6 b E d hb) ?_)));refine eL rfl (a8 rfl (aV (aQ (c6 c E d hc) ?_)));exact jz rfl (ai rfl)
theorem RE (sy:SY) (ce fu:η) (l:Y TT) (h0:l.length<=4) (h:l.length≠3):mW (sy,ce,fu,l)=U:=by
 unfold mW aX bn bx bp bF aY;rcases l with _|⟨a,_|⟨b,_|⟨c,_|⟨d,_|⟨e,l⟩⟩⟩⟩⟩;all_goals first|(simp at h;done)|(exfalso;simp only[ca]at h0;omega)|simp[fI,kr,oA,rA,bcT,Zw]
theorem XA {E:Nat} (sy:SY) (ce fu:η) (a b c:TT) (h:SV E (sy,ce,fu,[a,b,c])) (hce:ce.length<=1000) (hfu:fu.length<=1000):mV (sy,ce,fu,[a,b,c])=Z ((sy.2.1,sy.1,sy.2.2.1,sy.2.2.2).1,(sy.2.1,sy.1,sy.2.2.1,sy.2.2.2).2.1,(sy.2.1,sy.1,sy.2.2.1,sy.2.2.2).2.2.1,(sy.2.1,sy.1,sy.2.2.1,sy.2.2.2).2.2.2,(([]:η)++ce),(([]:η)++fu),((((a.1,a.2.2.2),a.2.1,a.2.2.1).1.1,((a.1,a.2.2.2),a.2.1,a.2.2.1).2.1,((a.1,a.2.2.2),a.2.1,a.2.2.1).2.2,((a.1,a.2.2.2),a.2.1,a.2.2.1).1.2),((b.1,b.2.2.2),b.2.1,b.2.2.1).1.1,((b.1,b.2.2.2),b.2.1,b.2.2.1).1.2,((c.1,c.2.2.2),c.2.1,c.2.2.1).1.1,((c.1,c.2.2.2),c.2.1,c.2.2.1).2.1,((c.1,c.2.2.2),c.2.1,c.2.2.1).2.2,((c.1,c.2.2.2),c.2.1,c.2.2.1).1.2),((b.1,b.2.2.2),b.2.1,b.2.2.1).2):=by
 have d:=h.sb.n1;have q:=h.t a (by simp);have hb:=h.t b (by simp);have hc:=h.t c (by simp);refine bX ?_;unfold mV aX bn bx bp bF aY;refine aQ (qv sy h.sb) ?_;refine a_ (by simp;omega) (by omega) (a_ (by simp;omega) (by omega) ?_);refine eL rfl (a8 rfl (aV (aQ (c6 a E d q) ?_)));refine eL rfl (a8 rfl (aV (aQ (c6 b E d hb) ?_)));refine eL rfl (a8 rfl (aV (aQ (c6 c E d hc) ?_)));exact jz rfl (ai rfl)
theorem RD (sy:SY) (ce fu:η) (l:Y TT) (h0:l.length<=4) (h:l.length≠3):mV (sy,ce,fu,l)=U:=by
 unfold mV aX bn bx bp bF aY;rcases l with _|⟨a,_|⟨b,_|⟨c,_|⟨d,_|⟨e,l⟩⟩⟩⟩⟩;all_goals first|(simp at h;done)|(exfalso;simp only[ca]at h0;omega)|simp[fI,kr,oA,rA,bcT,Zw]
theorem Xz {E:Nat} (sy:SY) (ce fu:η) (a b c:TT) (h:SV E (sy,ce,fu,[a,b,c])) (hce:ce.length<=1000) (hfu:fu.length<=1000):mU (sy,ce,fu,[a,b,c])=Z ((sy.2.1,sy.1,sy.2.2.1,sy.2.2.2).1,(sy.2.1,sy.1,sy.2.2.1,sy.2.2.2).2.1,(sy.2.1,sy.1,sy.2.2.1,sy.2.2.2).2.2.1,(sy.2.1,sy.1,sy.2.2.1,sy.2.2.2).2.2.2,(([]:η)++ce),(([]:η)++fu),((((a.1,a.2.2.2),a.2.1,a.2.2.1).1.1,((a.1,a.2.2.2),a.2.1,a.2.2.1).2.1,((a.1,a.2.2.2),a.2.1,a.2.2.1).2.2,((a.1,a.2.2.2),a.2.1,a.2.2.1).1.2),(((b.1,b.2.2.2),b.2.1,b.2.2.1).1.1,((b.1,b.2.2.2),b.2.1,b.2.2.1).2.1,((b.1,b.2.2.2),b.2.1,b.2.2.1).2.2,((b.1,b.2.2.2),b.2.1,b.2.2.1).1.2),((c.1,c.2.2.2),c.2.1,c.2.2.1).1),((c.1,c.2.2.2),c.2.1,c.2.2.1).2):=by
 have d:=h.sb.n1;have q:=h.t a (by simp);have hb:=h.t b (by simp);have hc:=h.t c (by simp);refine bX ?_;unfold mU aX bn bx bp bF aY;refine aQ (qv sy h.sb) ?_;refine a_ (by simp;omega) (by omega) (a_ (by simp;omega) (by omega) ?_);refine eL rfl (a8 rfl (aV (aQ (c6 a E d q) ?_)));refine eL rfl (a8 rfl (aV (aQ (c6 b E d hb) ?_)));refine eL rfl (a8 rfl (aV (aQ (c6 c E d hc) ?_)));exact jz rfl (ai rfl)
theorem RC (sy:SY) (ce fu:η) (l:Y TT) (h0:l.length<=4) (h:l.length≠3):mU (sy,ce,fu,l)=U:=by
 unfold mU aX bn bx bp bF aY;rcases l with _|⟨a,_|⟨b,_|⟨c,_|⟨d,_|⟨e,l⟩⟩⟩⟩⟩;all_goals first|(simp at h;done)|(exfalso;simp only[ca]at h0;omega)|simp[fI,kr,oA,rA,bcT,Zw]
theorem Xy {E:Nat} (sy:SY) (ce fu:η) (a b c d:TT) (h:SV E (sy,ce,fu,[a,b,c,d])) (hce:ce.length<=1000) (hfu:fu.length<=1000):mT (sy,ce,fu,[a,b,c,d])=Z ((sy.2.1,sy.1,sy.2.2.1,sy.2.2.2).1,(sy.2.1,sy.1,sy.2.2.1,sy.2.2.2).2.1,(sy.2.1,sy.1,sy.2.2.1,sy.2.2.2).2.2.1,(sy.2.1,sy.1,sy.2.2.1,sy.2.2.2).2.2.2,(([]:η)++ce),(([]:η)++fu),(((a.1,a.2.2.2),a.2.1,a.2.2.1).1.1,((a.1,a.2.2.2),a.2.1,a.2.2.1).1.2,(((b.1,b.2.2.2),b.2.1,b.2.2.1).1.1,((b.1,b.2.2.2),b.2.1,b.2.2.1).2.1,((b.1,b.2.2.2),b.2.1,b.2.2.1).2.2,((b.1,b.2.2.2),b.2.1,b.2.2.1).1.2),(((c.1,c.2.2.2),c.2.1,c.2.2.1).1.1,((c.1,c.2.2.2),c.2.1,c.2.2.1).2.1,((c.1,c.2.2.2),c.2.1,c.2.2.1).2.2,((c.1,c.2.2.2),c.2.1,c.2.2.1).1.2),((d.1,d.2.2.2),d.2.1,d.2.2.1).1.1,((d.1,d.2.2.2),d.2.1,d.2.2.1).2.1,((d.1,d.2.2.2),d.2.1,d.2.2.1).2.2,((d.1,d.2.2.2),d.2.1,d.2.2.1).1.2),((a.1,a.2.2.2),a.2.1,a.2.2.1).2):=by
 have q:=h.sb.n1;have s:=h.t a (by simp);have hb:=h.t b (by simp);have hc:=h.t c (by simp);have hd:=h.t d (by simp);refine bX ?_;unfold mT aX bn bx bp bF aY;refine aQ (qv sy h.sb) ?_;refine a_ (by simp;omega) (by omega) (a_ (by simp;omega) (by omega) ?_);refine eL rfl (a8 rfl (aV (aQ (c6 a E q s) ?_)));refine eL rfl (a8 rfl (aV (aQ (c6 b E q hb) ?_)));refine eL rfl (a8 rfl (aV (aQ (c6 c E q hc) ?_)));refine eL rfl (a8 rfl (aV (aQ (c6 d E q hd) ?_)));exact jz rfl (ai rfl)
theorem RB (sy:SY) (ce fu:η) (l:Y TT) (h0:l.length<=4) (h:l.length≠4):mT (sy,ce,fu,l)=U:=by
 unfold mT aX bn bx bp bF aY;rcases l with _|⟨a,_|⟨b,_|⟨c,_|⟨d,_|⟨e,l⟩⟩⟩⟩⟩;all_goals first|(simp at h;done)|(exfalso;simp only[ca]at h0;omega)|simp[fI,kr,oA,rA,bcT,Zw]
theorem Xx {E:Nat} (sy:SY) (ce fu:η) (a b c d:TT) (h:SV E (sy,ce,fu,[a,b,c,d])) (hce:ce.length<=1000) (hfu:fu.length<=1000):mS (sy,ce,fu,[a,b,c,d])=Z ((sy.2.1,sy.1,sy.2.2.1,sy.2.2.2).1,(sy.2.1,sy.1,sy.2.2.1,sy.2.2.2).2.1,(sy.2.1,sy.1,sy.2.2.1,sy.2.2.2).2.2.1,(sy.2.1,sy.1,sy.2.2.1,sy.2.2.2).2.2.2,(([]:η)++ce),(([]:η)++fu),((((a.1,a.2.2.2),a.2.1,a.2.2.1).1.1,((a.1,a.2.2.2),a.2.1,a.2.2.1).2.1,((a.1,a.2.2.2),a.2.1,a.2.2.1).2.2,((a.1,a.2.2.2),a.2.1,a.2.2.1).1.2),((b.1,b.2.2.2),b.2.1,b.2.2.1).1.1,((b.1,b.2.2.2),b.2.1,b.2.2.1).1.2,(((c.1,c.2.2.2),c.2.1,c.2.2.1).1.1,((c.1,c.2.2.2),c.2.1,c.2.2.1).2.1,((c.1,c.2.2.2),c.2.1,c.2.2.1).2.2,((c.1,c.2.2.2),c.2.1,c.2.2.1).1.2),((d.1,d.2.2.2),d.2.1,d.2.2.1).1.1,((d.1,d.2.2.2),d.2.1,d.2.2.1).2.1,((d.1,d.2.2.2),d.2.1,d.2.2.1).2.2,((d.1,d.2.2.2),d.2.1,d.2.2.1).1.2),((b.1,b.2.2.2),b.2.1,b.2.2.1).2):=by
 have q:=h.sb.n1;have s:=h.t a (by simp);have hb:=h.t b (by simp);have hc:=h.t c (by simp);have hd:=h.t d (by simp);refine bX ?_;unfold mS aX bn bx bp bF aY;refine aQ (qv sy h.sb) ?_;refine a_ (by simp;omega) (by omega) (a_ (by simp;omega) (by omega) ?_);refine eL rfl (a8 rfl (aV (aQ (c6 a E q s) ?_)));refine eL rfl (a8 rfl (aV (aQ (c6 b E q hb) ?_)));refine eL rfl (a8 rfl (aV (aQ (c6 c E q hc) ?_)));refine eL rfl (a8 rfl (aV (aQ (c6 d E q hd) ?_)));exact jz rfl (ai rfl)
theorem RA (sy:SY) (ce fu:η) (l:Y TT) (h0:l.length<=4) (h:l.length≠4):mS (sy,ce,fu,l)=U:=by
 unfold mS aX bn bx bp bF aY;rcases l with _|⟨a,_|⟨b,_|⟨c,_|⟨d,_|⟨e,l⟩⟩⟩⟩⟩;all_goals first|(simp at h;done)|(exfalso;simp only[ca]at h0;omega)|simp[fI,kr,oA,rA,bcT,Zw]
theorem Xw {E:Nat} (sy:SY) (ce fu:η) (a b c d:TT) (h:SV E (sy,ce,fu,[a,b,c,d])) (hce:ce.length<=1000) (hfu:fu.length<=1000):mR (sy,ce,fu,[a,b,c,d])=Z ((sy.2.1,sy.1,sy.2.2.1,sy.2.2.2).1,(sy.2.1,sy.1,sy.2.2.1,sy.2.2.2).2.1,(sy.2.1,sy.1,sy.2.2.1,sy.2.2.2).2.2.1,(sy.2.1,sy.1,sy.2.2.1,sy.2.2.2).2.2.2,(([]:η)++ce),(([]:η)++fu),((((a.1,a.2.2.2),a.2.1,a.2.2.1).1.1,((a.1,a.2.2.2),a.2.1,a.2.2.1).2.1,((a.1,a.2.2.2),a.2.1,a.2.2.1).2.2,((a.1,a.2.2.2),a.2.1,a.2.2.1).1.2),(((b.1,b.2.2.2),b.2.1,b.2.2.1).1.1,((b.1,b.2.2.2),b.2.1,b.2.2.1).2.1,((b.1,b.2.2.2),b.2.1,b.2.2.1).2.2,((b.1,b.2.2.2),b.2.1,b.2.2.1).1.2),((c.1,c.2.2.2),c.2.1,c.2.2.1).1.1,((c.1,c.2.2.2),c.2.1,c.2.2.1).1.2,((d.1,d.2.2.2),d.2.1,d.2.2.1).1.1,((d.1,d.2.2.2),d.2.1,d.2.2.1).2.1,((d.1,d.2.2.2),d.2.1,d.2.2.1).2.2,((d.1,d.2.2.2),d.2.1,d.2.2.1).1.2),((c.1,c.2.2.2),c.2.1,c.2.2.1).2):=by
 have q:=h.sb.n1;have s:=h.t a (by simp);have hb:=h.t b (by simp);have hc:=h.t c (by simp);have hd:=h.t d (by simp);refine bX ?_;unfold mR aX bn bx bp bF aY;refine aQ (qv sy h.sb) ?_;refine a_ (by simp;omega) (by omega) (a_ (by simp;omega) (by omega) ?_);refine eL rfl (a8 rfl (aV (aQ (c6 a E q s) ?_)));refine eL rfl (a8 rfl (aV (aQ (c6 b E q hb) ?_)));refine eL rfl (a8 rfl (aV (aQ (c6 c E q hc) ?_)));refine eL rfl (a8 rfl (aV (aQ (c6 d E q hd) ?_)));exact jz rfl (ai rfl)
theorem Rz (sy:SY) (ce fu:η) (l:Y TT) (h0:l.length<=4) (h:l.length≠4):mR (sy,ce,fu,l)=U:=by
 unfold mR aX bn bx bp bF aY;rcases l with _|⟨a,_|⟨b,_|⟨c,_|⟨d,_|⟨e,l⟩⟩⟩⟩⟩;all_goals first|(simp at h;done)|(exfalso;simp only[ca]at h0;omega)|simp[fI,kr,oA,rA,bcT,Zw]
theorem Xv {E:Nat} (sy:SY) (ce fu:η) (a b c d:TT) (h:SV E (sy,ce,fu,[a,b,c,d])) (hce:ce.length<=1000) (hfu:fu.length<=1000):mQ (sy,ce,fu,[a,b,c,d])=Z ((sy.2.1,sy.1,sy.2.2.1,sy.2.2.2).1,(sy.2.1,sy.1,sy.2.2.1,sy.2.2.2).2.1,(sy.2.1,sy.1,sy.2.2.1,sy.2.2.2).2.2.1,(sy.2.1,sy.1,sy.2.2.1,sy.2.2.2).2.2.2,(([]:η)++ce),(([]:η)++fu),((((a.1,a.2.2.2),a.2.1,a.2.2.1).1.1,((a.1,a.2.2.2),a.2.1,a.2.2.1).2.1,((a.1,a.2.2.2),a.2.1,a.2.2.1).2.2,((a.1,a.2.2.2),a.2.1,a.2.2.1).1.2),(((b.1,b.2.2.2),b.2.1,b.2.2.1).1.1,((b.1,b.2.2.2),b.2.1,b.2.2.1).2.1,((b.1,b.2.2.2),b.2.1,b.2.2.1).2.2,((b.1,b.2.2.2),b.2.1,b.2.2.1).1.2),(((c.1,c.2.2.2),c.2.1,c.2.2.1).1.1,((c.1,c.2.2.2),c.2.1,c.2.2.1).2.1,((c.1,c.2.2.2),c.2.1,c.2.2.1).2.2,((c.1,c.2.2.2),c.2.1,c.2.2.1).1.2),((d.1,d.2.2.2),d.2.1,d.2.2.1).1),((d.1,d.2.2.2),d.2.1,d.2.2.1).2):=by
 have q:=h.sb.n1;have s:=h.t a (by simp);have hb:=h.t b (by simp);have hc:=h.t c (by simp);have hd:=h.t d (by simp);refine bX ?_;unfold mQ aX bn bx bp bF aY;refine aQ (qv sy h.sb) ?_;refine a_ (by simp;omega) (by omega) (a_ (by simp;omega) (by omega) ?_);refine eL rfl (a8 rfl (aV (aQ (c6 a E q s) ?_)));refine eL rfl (a8 rfl (aV (aQ (c6 b E q hb) ?_)));refine eL rfl (a8 rfl (aV (aQ (c6 c E q hc) ?_)));refine eL rfl (a8 rfl (aV (aQ (c6 d E q hd) ?_)));exact jz rfl (ai rfl)
theorem Ry (sy:SY) (ce fu:η) (l:Y TT) (h0:l.length<=4) (h:l.length≠4):mQ (sy,ce,fu,l)=U:=by
 unfold mQ aX bn bx bp bF aY;rcases l with _|⟨a,_|⟨b,_|⟨c,_|⟨d,_|⟨e,l⟩⟩⟩⟩⟩;all_goals first|(simp at h;done)|(exfalso;simp only[ca]at h0;omega)|simp[fI,kr,oA,rA,bcT,Zw]
theorem kdx (k:Int):k=1\/k=16\/k=2\/k=3\/k=23\/k=4\/k=22\/k=5\/((k=1)=False/\(k=16)=False/\(k=2)=False/\(k=3)=False/\(k=23)=False/\(k=4)=False/\(k=22)=False/\(k=5)=False):=by
 by_cases h:k=1\/k=16\/k=2\/k=3\/k=23\/k=4\/k=22\/k=5
 .omega
 .repeat (first|exact⟨eq_false (by omega),eq_false (by omega),eq_false (by omega),eq_false (by omega),eq_false (by omega),eq_false (by omega),eq_false (by omega),eq_false (by omega)⟩|refine Or.inr ?_)
def KR {g:Type} (n:Nat) (d:CT) (i:Nat) (u:Int) (l:Y TT) (z:g) (k:Int->(CT×SY×(Γ)×Int×(υ)×ET×(Γ)×(η)×(η)×g×(η)×Y η)->J (ST×ET×Bool)):Prop:=
 ∀(p:Int) (sy:SY) (kd o v q:Int) (ds fs ce fu R:η) (T:Y η) (ev:Int),
  (kd≠16->kd≠2->Ok (m6 (aH (T:=GD) d.2 (i:Int),(p,R,T,aZ .i64 (ev+1)))) λy=>TH (n+1) y.1)->
  (kd=16\/kd=2->TH (n+1) (p,R,T,aZ .i64 (ev+1)))->
  (∀t',TH (n+1) t'->SQ n d ((sy,ce,fu,l.set i t'),((i:Int),kd,o,v,q,ds,fs),M))->(i:Int)<(d.2.length:Int)->
  ∀s,Ok (k p (d,sy,((i:Int),u),0,(0,0,0,0,0),((i:Int),kd,o,v,q,ds,fs),(s,ev),ce,fu,z,R,T)) (SQ n d)
theorem An {g:Type} (N i:Nat) {D:SY×(η)×(η)×Y TT->J (Int×(Y (Int×η))×(θ)×(Y (Int×Int×Bool))×(η)×(η)×g×(η)×Y η)} {pc ev:g->Int} {k:Int->(CT×SY×(Γ)×Int×(υ)×ET×(Γ)×(η)×(η)×g×(η)×Y η)->J (ST×ET×Bool)} {n:Nat} (hn:n+1<=100000) (q:CT) (s:ST) (t u:Int) (hc:CB q) (hs:SV n s)
 (h0:∀sy ce fu (l:Y TT),l.length<=4->l.length≠N->D (sy,ce,fu,l)=U)
 (h1:∀sy ce fu (l:Y TT),SV n (sy,ce,fu,l)->ce.length<=1000->fu.length<=1000->l.length=N->i<N/\∃y,D (sy,ce,fu,l)=Z y/\y.2.2.2.2.1=ce/\y.2.2.2.2.2.1=fu/\y.2.2.2.2.2.2.2.1=(aH (T:=Et) l (i:Int)).2.1/\y.2.2.2.2.2.2.2.2=(aH (T:=Et) l (i:Int)).2.2.1/\pc y.2.2.2.2.2.2.1=(aH (T:=Et) l (i:Int)).1/\ev y.2.2.2.2.2.2.1=(aH (T:=Et) l (i:Int)).2.2.2/\KR n q i u l y.2.2.2.2.2.2.1 k):
 Oo (SG (i:Int) D pc ev k (q,s,t,u)) (SQ n q)/\(s.2.2.2.length=N->t=(i:Int)->Ok (SG (i:Int) D pc ev k (q,s,t,u)) (SQ n q)):=by
 by_cases hz:s.2.2.2.length=N/\t=(i:Int)
 .obtain⟨I,rfl⟩:=hz;suffices h:Ok (SG (i:Int) D pc ev k (q,s,(i:Int),u)) (SQ n q) from ⟨.inr h,λ_ _=>h⟩
  unfold SG yS J2 Prod.p12 aX bh bk bS da ip ug yR Prod.q10 Prod.q11 Prod.q13 bn cI gG Prod.q9 ck bi bF kF aB;refine Hd hn hc hs (λo=>Ok o (SQ n q)) (λy h=>ai h) _ λe v sy hp he ha=>?_
  obtain⟨sy0,ce,fu,l⟩:=s;dsimp only at I he ha;have hE:=hs.sb.n1;have vl:=hp.fs.vc.vl;have hce:=hp.fs.ce;have hfu:=hp.fs.fu;dsimp only at hce hfu;obtain⟨hiN,⟨q1,q2,q3,q4,ce',fu',z,R0,T0⟩,hcp,g1,g2,g3,g4,hpc,hve,hk⟩:=h1 sy0 ce fu l hs (by have:=vl.c;omega) (by have:=vl.f;omega) I;dsimp only at g1 g2 g3 g4 hpc hve hk;rw[g1,g2,g3,g4]at hcp;have hsb:=ha.toSB hs.sb hn;obtain⟨_,_,nmce,_,_,_,nmfu⟩:=id he.nm;have hev:EvF q.1 e:=⟨he.nm,hp.et▸hp.t0,by rw[hp.et,<-hp.fs.vc.tl];exact hp.t1,he.cd⟩
  have hes:Uv e:=⟨cW hp.d (by omega),cW hp.f (by omega)⟩
  have t1:(i:Int)<(q.2.length:Int):=hp.t1;have htf:TF (aH (T:=GD) q.2 (i:Int)) (aH (T:=Et) l (i:Int)):=hp.fs.t i (by omega);have hA:=hp.a;have F:=hp.b;dsimp only at hA F;have hvt:=hp.fs.vc.t _ (bH (T:=GD) (xs:=q.2) (j:=(i:Int)) (by omega) t1);have hci:=hc.ins _ (bH (T:=GD) (xs:=q.2) (j:=(i:Int)) (by omega) t1);have hth:TH n (aH (T:=Et) l (i:Int)):=hs.t _ (bH (T:=Et) (xs:=l) (j:=(i:Int)) (by omega) (by omega));have hl:=hs.t;dsimp only at hl;clear g3 g4;generalize aH (T:=Et) l (i:Int)=th at hcp hpc hve htf hA F hth;obtain⟨e1,kd,o,e4,site,ds,fs⟩:=e;have het:=hp.et;dsimp only at het nmce nmfu hA F;subst het;refine aQ hcp ?_;dsimp only;rw[hpc,hve];refine eL (bc rfl) ?_;refine aK (by omega) t1 (aV (aK htf.p0 htf.p1 (aV ?_)));have htz:th.2.2.1.length=th.2.1.length:=by have:=htf.r;have:=htf.t;omega
  have fin:∀(p:Int) (R:η) (T:Y η),R.length=th.2.1.length->T.length=th.2.2.1.length->(∀x∈T,TL (n+1) x)->Ok (m6 (aH (T:=GD) q.2 (i:Int),(p,R,T,aZ .i64 (th.2.2.2+1)))) λy=>TH (n+1) y.1:=λp R T h1 h2 h3=>by
   have a1:=hth.e0;have a2:=hth.e1;have a3:=hth.r;have a4:=hth.t;rw[gF (n:=th.2.2.2+1) (by omega) (by omega)];exact Xg (n+1) hn _ hci hvt _ ⟨by dsimp only;omega,by dsimp only;omega,h3,by dsimp only;omega,by dsimp only;omega⟩
  have keep:∀x∈th.2.2.1,TL (n+1) x:=λx L=>(hth.l x L).mono (by omega)
  have mark:∀j:Int,∀x∈cJ th.2.2.1 j [th.2.2.2],TL (n+1) x:=λj x L=>by
   rcases Bv L with h|h
   .exact keep x h
   .rw[h];exact⟨⟨λy hy=>(by cases hy),trivial⟩,λy hy=>by rw[aI]at hy;have:=hth.e0;have:=hth.e1;rw[hy];exact⟨by omega,by omega⟩⟩
  have nopark:TH (n+1) (th.1,th.2.1,th.2.2.1,aZ .i64 (th.2.2.2+1)):=by
   have a1:=hth.e0;have a2:=hth.e1;rw[gF (n:=th.2.2.2+1) (by omega) (by omega)];exact⟨hth.r,hth.t,keep,by dsimp only;omega,by dsimp only;omega⟩
  have done:∀(ce' fu':η) (v':Int) (t':TT),TH (n+1) t'->SQ n q ((sy,ce',fu',l.set i t'),((i:Int),kd,o,v',site,ds,fs),M):=λce' fu' v' t' ht' _=>⟨⟨hsb,λx L=>(Lm L).elim (λh=>(hl x h).mono (by omega)) λh=>h▸ht'⟩,⟨hev.nm,hev.t0,hev.t1,hev.cd⟩,hes⟩
  clear hp hs hc h0 h1 hcp g1 g2;generalize (aH (T:=UB) (aH (T:=GD) q.2 (i:Int)).2 th.1)=ins at hA F ⊢;rcases kdx kd with rfl|rfl|rfl|rfl|rfl|rfl|rfl|rfl|⟨k1,k2,k3,k4,k5,k6,k7,k8⟩
  case inr.inr.inr.inr.inr.inr.inr.inr=>
   simp only[k1,k2,k3,k4,k5,k6,k7,k8,aN,aS,kD];exact hk _ _ _ _ _ _ _ _ _ _ _ _ _ (λ_ _=>fin _ _ _ rfl rfl keep) (λh=>by rw[k2,k3]at h;exact (h.elim id id).elim) (done _ _ _) t1 _
  all_goals simp only[aN,aS,kD]
  .exact hk _ _ _ _ _ _ _ _ _ _ _ _ _ (λ_ _=>fin _ _ _ rfl rfl keep) (λh=>by omega) (done _ _ _) t1 _
  .exact hk _ _ _ _ _ _ _ _ _ _ _ _ _ (λh _=>(h rfl).elim) (λ_=>nopark) (done _ _ _) t1 _
  .exact hk _ _ _ _ _ _ _ _ _ _ _ _ _ (λ_ h=>(h rfl).elim) (λ_=>nopark) (done _ _ _) t1 _
  .obtain⟨A,o1⟩:=nmce (.inl rfl);rw[<- hce]at o1;obtain⟨a0,a1⟩:=hA (.inl rfl);have a2:ins.2.1<(th.2.2.1.length:Int):=by rw[htz];exact a1
   refine fw (aK A o1 (aK A o1 (ai ?_)));simp only[aN,aS,kD];refine fw (aK a0 a1 (aK a0 a1 (aK a0 a2 (aK a0 a2 (ai ?_)))));exact hk _ _ _ _ _ _ _ _ _ _ _ _ _ (λ_ _=>fin _ _ _ (cM ..) (cM ..) (mark _)) (λh=>by omega) (done _ _ _) t1 _
  .obtain⟨A,o1⟩:=nmfu (.inr rfl);rw[<- hfu]at o1;obtain⟨a0,a1⟩:=hA (.inr (.inl rfl));have a2:ins.2.1<(th.2.2.1.length:Int):=by rw[htz];exact a1
   refine fw (aK A o1 (aK A o1 (ai ?_)));simp only[aN,aS,kD];refine fw (aK a0 a1 (aK a0 a1 (aK a0 a2 (aK a0 a2 (ai ?_)))));exact hk _ _ _ _ _ _ _ _ _ _ _ _ _ (λ_ _=>fin _ _ _ (cM ..) (cM ..) (mark _)) (λh=>by omega) (done _ _ _) t1 _
  .obtain⟨A,o1⟩:=nmce (.inr rfl);rw[<- hce]at o1;obtain⟨a0,a1⟩:=F (.inl rfl);refine fw (aK a0 a1 (aK a0 a1 (aK A o1 (aK A o1 (ai ?_)))));simp only[aN,aS,kD];exact hk _ _ _ _ _ _ _ _ _ _ _ _ _ (λ_ _=>fin _ _ _ rfl rfl keep) (λh=>by omega) (done _ _ _) t1 _
  .obtain⟨A,o1⟩:=nmfu (.inl rfl);rw[<- hfu]at o1;obtain⟨a0,a1⟩:=F (.inr rfl);refine fw (aK a0 a1 (aK a0 a1 (aK A o1 (aK A o1 (ai ?_)))));simp only[aN,aS,kD];exact hk _ _ _ _ _ _ _ _ _ _ _ _ _ (λ_ _=>fin _ _ _ rfl rfl keep) (λh=>by omega) (done _ _ _) t1 _
  .obtain⟨a0,a1⟩:=hA (.inr (.inr rfl));refine fw (aK a0 a1 (aK a0 a1 (aF (λ_=>ai ?_) λ_=>ai ?_)));all_goals
    simp only[aN,aS,kD];exact hk _ _ _ _ _ _ _ _ _ _ _ _ _ (λ_ _=>fin _ _ _ rfl rfl keep) (λh=>by omega) (done _ _ _) t1 _
 .refine ⟨?_,λh1 h2=>(hz ⟨h1,h2⟩).elim⟩;unfold SG yS J2 Prod.p12 aX bh bk bS da ip ug yR Prod.q10 Prod.q11 Prod.q13 bn cI gG Prod.q9 ck bi bF kF aB;refine Hd hn hc hs (λo=>Oo o (SQ n q)) (λy h=>.inr (ai h)) _ λe v sy hp he ha=>.inl ?_
  obtain⟨sy0,ce,fu,l⟩:=s;have vl:=hp.fs.vc.vl;by_cases hl:l.length=N
  .have ht:¬t=(i:Int):=λh=>hz ⟨hl,h⟩
   dsimp only;cases D (sy0,ce,fu,l) with
   |none=>rfl
   |some y=>rw[RL,bD ht];rfl
  .show av (D (sy0,ce,fu,l)) _=U;rw[h0 sy0 ce fu l (by have h1:l.length=q.2.length:=hp.fs.th;have:=hp.fs.vc.tl;have:=vl.t;omega) hl];rfl
theorem Ao {g W V:Type} {n:Nat} {s:CT} {i:Nat} {u:Int} {l:Y TT} {z:g} {t1:g->η->Y η->W} {q:W->V} {d:V->TT->Y TT} (h3:∀R T t',d (q (t1 z R T)) t'=l.set i t'):KR n s i u l z (KG (i:Int) t1 q d):=by
 intro p sy kd o v A ds fs ce fu R T ev fin park done ht F;unfold KG yS aX bh bk bS da ip ug yR Prod.q10 Prod.q11 nl bi iA bF aB ct;dsimp only;have done:∀t',TH (n+1) t'->SQ n s ((sy,ce,fu,d (q (t1 z R T)) t'),((i:Int),kd,o,v,A,ds,fs),M):=λt' h=>by rw[h3];exact done t' h
 by_cases h1:kd=16
 .subst h1;exact fw (fw (jz rfl (ai (jz rfl (ai (eL (bc rfl) (ai (done _ (park (.inl rfl))))))))))
 by_cases h2:kd=2
 .subst h2;exact fw (fw (eL rfl (ai (jz rfl (ai (eL (bc rfl) (ai (done _ (park (.inr rfl))))))))))
 rw[bD h1,bD h2];exact fw (fw (eL rfl (ai (eL rfl (aK (ep i) ht (aV (ar (fin h1 h2) λy D=>ai (eL (bc rfl) (ai (done _ D))))))))))
theorem W8 {n:Nat} (hn:n+1<=100000) (q:CT) (s:ST) (t u:Int) (hc:CB q) (hs:SV n s):Oo (mP (q,s,t,u)) (SQ n q)/\(s.2.2.2.length=4->t=0->Ok (mP (q,s,t,u)) (SQ n q)):=by
 refine An 4 0 hn q s t u hc hs RB λsy ce fu l hs hce hfu hl=>⟨by decide,?_⟩
 obtain⟨a,b,c,d,rfl⟩:∃a b c d,l=[a,b,c,d]:=by
  rcases l with _|⟨a,_|⟨b,_|⟨c,_|⟨d,_|⟨e,l⟩⟩⟩⟩⟩;all_goals first|exact⟨_,_,_,_,rfl⟩|(simp at hl;done)|(exfalso;simp only[ca]at hl;omega)
 refine ⟨_,Xy sy ce fu a b c d hs hce hfu,rfl,rfl,rfl,rfl,rfl,rfl,Ao λR T t'=>rfl⟩
theorem W7 {n:Nat} (hn:n+1<=100000) (q:CT) (s:ST) (t u:Int) (hc:CB q) (hs:SV n s):Oo (mO (q,s,t,u)) (SQ n q)/\(s.2.2.2.length=4->t=1->Ok (mO (q,s,t,u)) (SQ n q)):=by
 refine An 4 1 hn q s t u hc hs RA λsy ce fu l hs hce hfu hl=>⟨by decide,?_⟩
 obtain⟨a,b,c,d,rfl⟩:∃a b c d,l=[a,b,c,d]:=by
  rcases l with _|⟨a,_|⟨b,_|⟨c,_|⟨d,_|⟨e,l⟩⟩⟩⟩⟩;all_goals first|exact⟨_,_,_,_,rfl⟩|(simp at hl;done)|(exfalso;simp only[ca]at hl;omega)
 refine ⟨_,Xx sy ce fu a b c d hs hce hfu,rfl,rfl,rfl,rfl,rfl,rfl,Ao λR T t'=>rfl⟩
theorem W6 {n:Nat} (hn:n+1<=100000) (q:CT) (s:ST) (t u:Int) (hc:CB q) (hs:SV n s):Oo (lm (q,s,t,u)) (SQ n q)/\(s.2.2.2.length=4->t=2->Ok (lm (q,s,t,u)) (SQ n q)):=by
 refine An 4 2 hn q s t u hc hs Rz λsy ce fu l hs hce hfu hl=>⟨by decide,?_⟩
 obtain⟨a,b,c,d,rfl⟩:∃a b c d,l=[a,b,c,d]:=by
  rcases l with _|⟨a,_|⟨b,_|⟨c,_|⟨d,_|⟨e,l⟩⟩⟩⟩⟩;all_goals first|exact⟨_,_,_,_,rfl⟩|(simp at hl;done)|(exfalso;simp only[ca]at hl;omega)
 refine ⟨_,Xw sy ce fu a b c d hs hce hfu,rfl,rfl,rfl,rfl,rfl,rfl,Ao λR T t'=>rfl⟩
theorem W5 {n:Nat} (hn:n+1<=100000) (q:CT) (s:ST) (t u:Int) (hc:CB q) (hs:SV n s):Oo (kh (q,s,t,u)) (SQ n q)/\(s.2.2.2.length=4->t=3->Ok (kh (q,s,t,u)) (SQ n q)):=by
 refine An 4 3 hn q s t u hc hs Ry λsy ce fu l hs hce hfu hl=>⟨by decide,?_⟩
 obtain⟨a,b,c,d,rfl⟩:∃a b c d,l=[a,b,c,d]:=by
  rcases l with _|⟨a,_|⟨b,_|⟨c,_|⟨d,_|⟨e,l⟩⟩⟩⟩⟩;all_goals first|exact⟨_,_,_,_,rfl⟩|(simp at hl;done)|(exfalso;simp only[ca]at hl;omega)
 refine ⟨_,Xv sy ce fu a b c d hs hce hfu,rfl,rfl,rfl,rfl,rfl,rfl,Ao λR T t'=>rfl⟩
theorem Xa {n:Nat} (hn:n+1<=100000) (q:CT) (s:ST) (t u:Int) (hc:CB q) (hs:SV n s):Oo (jm (q,s,t,u)) (SQ n q)/\(s.2.2.2.length=3->t=0->Ok (jm (q,s,t,u)) (SQ n q)):=by
 refine An 3 0 hn q s t u hc hs RE λsy ce fu l hs hce hfu hl=>⟨by decide,?_⟩
 obtain⟨a,b,c,rfl⟩:∃a b c,l=[a,b,c]:=by
  rcases l with _|⟨a,_|⟨b,_|⟨c,_|⟨d,_|⟨e,l⟩⟩⟩⟩⟩;all_goals first|exact⟨_,_,_,rfl⟩|(simp at hl;done)|(exfalso;simp only[ca]at hl;omega)
 refine ⟨_,XB sy ce fu a b c hs hce hfu,rfl,rfl,rfl,rfl,rfl,rfl,Ao λR T t'=>rfl⟩
theorem W_ {n:Nat} (hn:n+1<=100000) (q:CT) (s:ST) (t u:Int) (hc:CB q) (hs:SV n s):Oo (iB (q,s,t,u)) (SQ n q)/\(s.2.2.2.length=3->t=1->Ok (iB (q,s,t,u)) (SQ n q)):=by
 refine An 3 1 hn q s t u hc hs RD λsy ce fu l hs hce hfu hl=>⟨by decide,?_⟩
 obtain⟨a,b,c,rfl⟩:∃a b c,l=[a,b,c]:=by
  rcases l with _|⟨a,_|⟨b,_|⟨c,_|⟨d,_|⟨e,l⟩⟩⟩⟩⟩;all_goals first|exact⟨_,_,_,rfl⟩|(simp at hl;done)|(exfalso;simp only[ca]at hl;omega)
 refine ⟨_,XA sy ce fu a b c hs hce hfu,rfl,rfl,rfl,rfl,rfl,rfl,Ao λR T t'=>rfl⟩
theorem W9 {n:Nat} (hn:n+1<=100000) (q:CT) (s:ST) (t u:Int) (hc:CB q) (hs:SV n s):Oo (gT (q,s,t,u)) (SQ n q)/\(s.2.2.2.length=3->t=2->Ok (gT (q,s,t,u)) (SQ n q)):=by
 refine An 3 2 hn q s t u hc hs RC λsy ce fu l hs hce hfu hl=>⟨by decide,?_⟩
 obtain⟨a,b,c,rfl⟩:∃a b c,l=[a,b,c]:=by
  rcases l with _|⟨a,_|⟨b,_|⟨c,_|⟨d,_|⟨e,l⟩⟩⟩⟩⟩;all_goals first|exact⟨_,_,_,rfl⟩|(simp at hl;done)|(exfalso;simp only[ca]at hl;omega)
 refine ⟨_,Xz sy ce fu a b c hs hce hfu,rfl,rfl,rfl,rfl,rfl,rfl,Ao λR T t'=>rfl⟩
theorem Xc {n:Nat} (hn:n+1<=100000) (q:CT) (s:ST) (t u:Int) (hc:CB q) (hs:SV n s):Oo (gu (q,s,t,u)) (SQ n q)/\(s.2.2.2.length=2->t=0->Ok (gu (q,s,t,u)) (SQ n q)):=by
 refine An 2 0 hn q s t u hc hs RG λsy ce fu l hs hce hfu hl=>⟨by decide,?_⟩
 obtain⟨a,b,rfl⟩:∃a b,l=[a,b]:=by
  rcases l with _|⟨a,_|⟨b,_|⟨c,_|⟨d,_|⟨e,l⟩⟩⟩⟩⟩;all_goals first|exact⟨_,_,rfl⟩|(simp at hl;done)|(exfalso;simp only[ca]at hl;omega)
 refine ⟨_,XD sy ce fu a b hs hce hfu,rfl,rfl,rfl,rfl,rfl,rfl,Ao λR T t'=>rfl⟩
theorem Xb {n:Nat} (hn:n+1<=100000) (q:CT) (s:ST) (t u:Int) (hc:CB q) (hs:SV n s):Oo (fK (q,s,t,u)) (SQ n q)/\(s.2.2.2.length=2->t=1->Ok (fK (q,s,t,u)) (SQ n q)):=by
 refine An 2 1 hn q s t u hc hs RF λsy ce fu l hs hce hfu hl=>⟨by decide,?_⟩
 obtain⟨a,b,rfl⟩:∃a b,l=[a,b]:=by
  rcases l with _|⟨a,_|⟨b,_|⟨c,_|⟨d,_|⟨e,l⟩⟩⟩⟩⟩;all_goals first|exact⟨_,_,rfl⟩|(simp at hl;done)|(exfalso;simp only[ca]at hl;omega)
 refine ⟨_,XC sy ce fu a b hs hce hfu,rfl,rfl,rfl,rfl,rfl,rfl,Ao λR T t'=>rfl⟩
theorem Xd {n:Nat} (hn:n+1<=100000) (q:CT) (s:ST) (t u:Int) (hc:CB q) (hs:SV n s):Oo (fM (q,s,t,u)) (SQ n q)/\(s.2.2.2.length=1->t=0->Ok (fM (q,s,t,u)) (SQ n q)):=by
 refine An 1 0 hn q s t u hc hs RH λsy ce fu l hs hce hfu hl=>⟨by decide,?_⟩
 obtain⟨a,rfl⟩:∃a,l=[a]:=by
  rcases l with _|⟨a,_|⟨b,_|⟨c,_|⟨d,_|⟨e,l⟩⟩⟩⟩⟩;all_goals first|exact⟨_,rfl⟩|(simp at hl;done)|(exfalso;simp only[ca]at hl;omega)
 refine ⟨_,XE sy ce fu a hs hce hfu,rfl,rfl,rfl,rfl,rfl,rfl,Ao λR T t'=>rfl⟩
theorem Xe {n:Nat} (hn:n+1<=100000) (c:CT) (s:ST) (t u:Int) (hc:CB c) (hs:SV n s):Ok (za (c,s,t,u)) (SQ n c):=by
 unfold za;have d:=W8 hn c s t u hc hs;have q:=W7 hn c s t u hc hs;have z:=W6 hn c s t u hc hs;have A:=W5 hn c s t u hc hs;have D:=Xa hn c s t u hc hs;have F:=W_ hn c s t u hc hs;have I:=W9 hn c s t u hc hs;have L:=Xc hn c s t u hc hs;have a21:=Xb hn c s t u hc hs;have a10:=Xd hn c s t u hc hs;by_cases hz:s.2.2.2.length<=4/\0<=t/\t<(s.2.2.2.length:Int)
 .obtain⟨h1,h2,h3⟩:=hz;have:(s.2.2.2.length=4/\t=0)\/(s.2.2.2.length=4/\t=1)\/(s.2.2.2.length=4/\t=2)\/(s.2.2.2.length=4/\t=3)\/(s.2.2.2.length=3/\t=0)\/(s.2.2.2.length=3/\t=1)\/(s.2.2.2.length=3/\t=2)\/(s.2.2.2.length=2/\t=0)\/(s.2.2.2.length=2/\t=1)\/(s.2.2.2.length=1/\t=0):=by omega
  rcases this with h|h|h|h|h|h|h|h|h|h
  .exact (d.2 h.1 h.2).orL
  .exact d.1.orR (q.2 h.1 h.2).orL
  .exact d.1.orR (q.1.orR (z.2 h.1 h.2).orL)
  .exact d.1.orR (q.1.orR (z.1.orR (A.2 h.1 h.2).orL))
  .exact d.1.orR (q.1.orR (z.1.orR (A.1.orR (D.2 h.1 h.2).orL)))
  .exact d.1.orR (q.1.orR (z.1.orR (A.1.orR (D.1.orR (F.2 h.1 h.2).orL))))
  .exact d.1.orR (q.1.orR (z.1.orR (A.1.orR (D.1.orR (F.1.orR (I.2 h.1 h.2).orL)))))
  .exact d.1.orR (q.1.orR (z.1.orR (A.1.orR (D.1.orR (F.1.orR (I.1.orR (L.2 h.1 h.2).orL))))))
  .exact d.1.orR (q.1.orR (z.1.orR (A.1.orR (D.1.orR (F.1.orR (I.1.orR (L.1.orR (a21.2 h.1 h.2).orL)))))))
  .exact d.1.orR (q.1.orR (z.1.orR (A.1.orR (D.1.orR (F.1.orR (I.1.orR (L.1.orR (a21.1.orR (a10.2 h.1 h.2)))))))))
 .refine Ok.orL ?_;unfold mP aX bh cI;refine Hd hn hc hs (λo=>Ok o (SQ n c)) (λy h=>ai h) _ λe v sy hp he ha=>(hz ?_).elim
  have h1:s.2.2.2.length=c.2.length:=hp.fs.th;have h2:c.2.length=c.1.2.2.2.2.1.length:=hp.fs.vc.tl;have h3:c.1.2.2.2.2.1.length<=4:=hp.fs.vc.vl.t;have h4:0<=t:=hp.t0;have h5:t<(c.2.length:Int):=hp.t1;exact⟨by omega,h4,by omega⟩
theorem abs (c:CT) (s:ST) (l:Y Γ) (hc:CB c) (hs:SV 0 s) (hl:l.length<=9223372036854775806):Ok (ve (c,s,l)) λy=>y.1.length<=400/\∀e∈y.1,EvF c.1 e/\Uv e:=by
 unfold ve aX bh cI bx bp bF aY cH aB ct;refine ml (λx=>((l.length:Int)-x.1).toNat) (λx=>0<=x.1/\x.2.2.1=c/\SV x.2.1.length x.2.2.2.1/\x.2.1.length<=400/\∀e∈x.2.1,EvF c.1 e/\Uv e) ?_ ⟨gN _,rfl,hs,by simp,λe he=>(by cases he)⟩;rintro⟨(i:Int),es,c',s',z⟩ ⟨A,e1,e2,e3,e4⟩;dsimp only at A e1 e2 e3 e4;subst e1;refine aW (λx=>x.2=(es,c',s',z)/\(x.1=M->i<(l.length:Int)/\es.length<400)) ?_ ?_
 .refine aR (λg=>ai ⟨rfl,λh=>⟨g,?_⟩⟩) λ_=>ai ⟨rfl,λh=>(by cases h)⟩
  dsimp only at h;rw[mm]at h;dsimp only[aj]at h;omega
 rintro⟨b,x⟩ ⟨F,D⟩;dsimp only at F D;subst F;refine aJ (λh=>?_) λ_=>ai ⟨e3,e4⟩
 obtain⟨L,g2⟩:=D h;refine aW (λx=>x.2.1=c'/\SV x.1.length x.2.2.1/\x.1.length<=400/\∀e∈x.1,EvF c'.1 e/\Uv e) ?_ ?_
 .refine aK A L (aV ?_);refine ar (Xe (n:=es.length) (by omega) c' s' _ _ hc e2) λy I=>?_
  refine aJ (λh=>?_) λ_=>ai ⟨rfl,e2,e3,e4⟩
  obtain⟨h1,h2,h3⟩:=I h;refine a_ (by simp;omega) (by omega) (ai ⟨rfl,?_,by simp;omega,λe he=>?_⟩)
  .dsimp only;rw[bY,cP];exact h1
  .rcases bN.1 he with he|he
   .exact e4 e he
   .rw[aI]at he;subst he;exact⟨h2,h3⟩
 rintro⟨es',c2,s2,z2⟩ ⟨k1,k2,q,d⟩;dsimp only at k1 k2 q d;subst k1;refine ai ?_;dsimp only;rw[gF (n:=i+1) (by omega) (by omega)];exact⟨⟨by omega,rfl,k2,q,d⟩,by omega⟩
theorem afs (c:CT) (l:Y Γ) (hc:CB c) (hl:l.length<=9223372036854775806):Ok (xS (c,l)) λy=>TR y.1:=by
 unfold xS;refine ar (JL c hc) λb hb=>?_
 refine cQ (λ_=>ai ⟨by simp,λe he=>(by cases he)⟩) λh=>?_
 have hv:=hb h;refine ar (Um c hc) λs hs=>?_
 refine ar (abs c s l hc hs hl) λy d=>ai ?_
 exact⟨by have:=d.1;dsimp only;omega,λe he=>(d.2 e he).2⟩
theorem Ux (l:η) (hl:l.length<=1000000):Ok (ou l) λy=>y.length=l.length:=by
 unfold ou bx bp bF aY cH aB ct;refine cf l.length (λi x=>x.1=(i:Int)/\x.2.length=i) ?_ ?_ ⟨rfl,rfl⟩
 .rintro i ⟨a,b⟩ hi ⟨e1,e2⟩;dsimp only at e1 e2;subst e1;refine aR (λ_=>?_) λg=>(by dsimp only[aj]at g;omega)
  refine aK (by dsimp only;omega) (by dsimp only;omega) (aV (aK (by dsimp only;omega) (by dsimp only;omega) (aV (a_ (by simp;omega) (by omega) (ai ?_)))));dsimp only;exact⟨fk (by omega),by simp;omega⟩
 .rintro⟨a,b⟩ ⟨e1,e2⟩;dsimp only at e1 e2;subst e1;exact aR (λg=>(by dsimp only[aj]at g;omega)) λ_=>ai e2
theorem eV (e:Xp):d8 (Xp.op e,Xp.n e,Xp.name e,Xp.l e)=e:=by cases e;rfl
theorem xL (s:Sx):ov (Sx.op s,Sx.line s,Sx.name s,Sx.arg s,Sx.index s,Sx.expr s,Sx.body s,Sx.els s)=s:=by cases s;rfl
def GE:Nat->Xp->Prop
 |0,_=>False
 |d+1,e=>(e.op=3->e.name=[113])/\(e.op≠1->e.op≠2->1<=e.l.length)/\e.l.length<=2/\∀x∈e.l,GE d x
theorem GE.mono:∀{d:Nat} {e:Xp},GE d e->GE (d+1) e
 |0,_,h=>h.elim
 |_+1,_,h=>⟨h.1,h.2.1,h.2.2.1,λx q=>(h.2.2.2 x q).mono⟩
theorem GE.le {d k:Nat} {e:Xp} (h:GE d e) (hk:d<=k):GE k e:=by
 induction hk with
 |refl=>exact h
 |step _ q=>exact q.mono
theorem MX (n:Int):qT n=Z (.mk 1 n [] []):=rfl
theorem GI (s:ζ):pj s=Z (.mk 2 0 s []):=rfl
theorem Ea (o:Int) (a b:Xp):nD (o,a,b)=Z (.mk o 0 [] [a,b]):=by
 cases a;cases b;rfl
theorem s7 (s:ζ) (e:Xp):jk (s,e)=Z (.mk 1 0 s [] [] e [] []):=by
 cases e;rfl
abbrev MK:Type:=Int×Int×Bool×Bool×Bool×Bool
abbrev N_:Type:=η×Int
abbrev HD:Type:=Bool×Y ζ
theorem GE.num (n:Int) (d:Nat):GE (d+1) (.mk 1 n [] []):=⟨λh=>(by cases h),λh=>(h rfl).elim,by simp[Xp.l],λx q=>(by cases q)⟩
theorem GE.nm (s:ζ) (d:Nat):GE (d+1) (.mk 2 0 s []):=⟨λh=>(by cases h),λ_ h=>(h rfl).elim,by simp[Xp.l],λx q=>(by cases q)⟩
theorem GE.bin {o:Int} {a b:Xp} {d:Nat} (s:o≠3) (z:GE d a) (hb:GE d b):GE (d+1) (.mk o 0 [] [a,b]):=
 ⟨λh=>(s h).elim,λ_ _=>by simp[Xp.l],by simp[Xp.l],λx q=>by
   simp only[Xp.l,bu,cA,gE]at q;rcases q with rfl|rfl
   .exact z
   .exact hb⟩
theorem GE.ix {a:Xp} {d:Nat} (s:GE d a):GE (d+1) (.mk 3 0 [113] [a]):=
 ⟨λ_=>rfl,λ_ _=>by simp[Xp.l],by simp[Xp.l],λx q=>by
   simp only[Xp.l,bu,cA,gE]at q;rw[q];exact s⟩
theorem Cb:∀(n d:Nat),d<n->d<=10->∀(m:MK) (t:N_) (h:HD),TP t->Ok (ig n ((d:Int),m,t,h)) λy=>GE (d+1) y.1/\y.2.1=m/\ud t y.2.2.1/\y.2.2.2=h
 |0,d,hd,_,_,_,_,_=>by omega
 |n+1,d,hd,h10,m,t,h,ht=>by
  rw[xD];unfold nL aX bh bn cI cC bi bx bp kF aY aB;refine ar (gi 10 t ht) λy q=>?_
  obtain⟨k,t1⟩:=y;obtain⟨s1,k0,k1,_⟩:=q;have k1:=k1 (by decide);dsimp only at s1 k0 k1;refine aW (λx=>x.2=(m,t1,h,(0,0,[]),[[97],[98],[120],[121],[118],[120],[121]])/\(x.1=aa->2<=k/\(d=0->k<7))) ?_ ?_
  .refine aR (λ_=>ai ⟨rfl,λh=>(by cases h)⟩) λg=>aF (λI=>ai ⟨rfl,λF=>⟨g,λ_=>?_⟩⟩) λI=>ai ⟨rfl,λ_=>⟨g,λh=>(I (by dsimp only;omega)).elim⟩⟩
   dsimp only at F;rw[kV]at F;exact F
  rintro⟨b,x⟩ ⟨e,hb⟩;dsimp only at e hb;subst e;refine aJ (λ_=>?_) λg=>?_
  .refine ar (gi 4 t1 s1.p) λy q=>?_
   refine aQ (MX _) (ai ?_);exact⟨GE.num _ _,rfl,s1.trans q.1,rfl⟩
  obtain⟨q0,q1⟩:=hb g;refine aR (λg=>?_) λg=>?_
  .refine ar (gi _ t1 s1.p) λy q=>?_
   obtain⟨D,A,s,_⟩:=q;have s:=s (show (1:Int)<=7 by decide);refine aK A s (aK A s (aV ?_));refine aQ (GI _) (ai ?_);exact⟨GE.nm _ _,rfl,s1.trans D,rfl⟩
  dsimp only at g;have hd0:d≠0:=λh=>by have:=q1 h;omega
  obtain⟨d,rfl⟩:∃k,d=k+1:=⟨d-1,by omega⟩
  refine aF (λg=>?_) λg=>?_
  .refine ar (Cb n 0 (by omega) (by omega) m t1 h s1.p) λy q=>?_
   obtain⟨e,m',t',h'⟩:=y;obtain⟨v1,v2,v3,v4⟩:=q;dsimp only at v1 v2 v3 v4;subst v2;subst v4;refine a8 (by simp) (ai ?_);dsimp only;rw[eV];exact⟨(GE.ix (v1.le (by omega):GE (d+1) e)),rfl,s1.trans v3,rfl⟩
  .refine ar (gi _ t1 s1.p) λy q=>?_
   obtain⟨k2,t2⟩:=y;obtain⟨D,A,s,_⟩:=q;have s:=s (by decide);dsimp only at D A s;refine aK A s (aK A s (aV ?_));have ho:aH (T:=.int .i64) [6,7,8,11,13,17] k2≠(3:Int):=by
    have h1:=bH (T:=.int .i64) (xs:=([6,7,8,11,13,17]:η)) A s;have:∀z:Int,z∈([6,7,8,11,13,17]:η)->z≠3:=by decide
    exact this _ h1
   have ew:aZ .i64 (((d+1:Nat):Int)-1)=(d:Int):=by rw[gF (by omega) (by omega)];omega
   dsimp only;rw[ew];refine ar (Cb n d (by omega) (by omega) m t2 h D.p) λy q=>?_
   obtain⟨e,m',t',h'⟩:=y;obtain⟨v1,v2,v3,v4⟩:=q;dsimp only at v1 v2 v3 v4;subst v2;subst v4;refine a8 (by simp) ?_;refine ar (Cb n d (by omega) (by omega) m' t' h' v3.p) λy q=>?_
   obtain⟨e2,m2,L,h2⟩:=y;obtain⟨w1,w2,w3,w4⟩:=q;dsimp only at w1 w2 w3 w4;subst w2;subst w4;refine a8 (by simp) ?_;refine aQ (Ea _ _ _) (ai ?_);dsimp only;rw[eV];exact⟨GE.bin ho v1 w1,rfl,s1.trans (D.trans (v3.trans w3)),rfl⟩
theorem Yy (d:Nat) (hd:d<=10) (m:MK) (t:N_) (h:HD) (ht:TP t):Ok (eU ((d:Int),m,t,h)) λy=>GE (d+1) y.1/\y.2.1=m/\ud t y.2.2.1/\y.2.2.2=h:=Cb fuel d (by rw[qi];omega) hd m t h ht
def NE (op:Int):Prop:=op=1\/op=2\/op=3\/op=14
def ZE (e:Xp):Prop:=GE 4 e\/e= .mk 0 0 [] []
def GS:Nat->Sx->Prop
 |0,_=>False
 |d+1,s=>(s.index≠[]->s.name=[113])/\s.index.length<=1/\(∀e∈s.index,GE 4 e)/\(NE s.op->GE 4 s.expr)/\ZE s.expr/\s.body.length<=8/\s.els.length<=8/\(∀x∈s.body,GS d x)/\(∀x∈s.els,GS d x)
theorem GS.mono:∀{d:Nat} {s:Sx},GS d s->GS (d+1) s
 |0,_,h=>h.elim
 |_+1,_,⟨a,b,c,e,f,g,i,j,k⟩=>⟨a,b,c,e,f,g,i,λx q=>(j x q).mono,λx q=>(k x q).mono⟩
theorem GS.le {d k:Nat} {s:Sx} (h:GS d s) (hk:d<=k):GS k s:=by
 induction hk with
 |refl=>exact h
 |step _ q=>exact q.mono
theorem GS.asg {d:Nat} (s:ζ) {e:Xp} (h:GE 4 e):GS (d+1) (.mk 1 0 s [] [] e [] []):=
 ⟨λh=>(h rfl).elim,by simp[Sx.index],λe he=>(by cases he),λ_=>h,.inl h,by simp[Sx.body],by simp[Sx.els],λx q=>(by cases q),λx q=>(by cases q)⟩
theorem GS.aix {d:Nat} {i e:Xp} (hi:GE 4 i) (h:GE 4 e):GS (d+1) (.mk 1 0 [113] [] [i] e [] []):=
 ⟨λ_=>rfl,by simp[Sx.index],λe he=>(by simp only[Sx.index,aI]at he;rw[he];exact hi),λ_=>h,.inl h,by simp[Sx.body],by simp[Sx.els],λx q=>(by cases q),λx q=>(by cases q)⟩
theorem GS.we {d:Nat} {op:Int} {s a:ζ} {e:Xp} {b l:Y Sx} (h:GE 4 e) (hb:b.length<=8) (hl:l.length<=8) (q:∀x∈b,GS d x) (gl:∀x∈l,GS d x):GS (d+1) (.mk op 0 s a [] e b l):=
 ⟨λh=>(h rfl).elim,by simp[Sx.index],λe he=>(by cases he),λ_=>h,.inl h,hb,hl,q,gl⟩
theorem GS.wo {d:Nat} {op q:Int} {s a:ζ} {b:Y Sx} (D:4<=op/\op≠14) (hb:b.length<=8) (A:∀x∈b,GS d x):GS (d+1) (.mk op q s a [] (.mk 0 0 [] []) b []):=
 ⟨λh=>(h rfl).elim,by simp[Sx.index],λe he=>(by cases he),λh=>(by have h:op=1\/op=2\/op=3\/op=14:=h;omega),.inr rfl,hb,by simp[Sx.els],A,λx z=>(by cases z)⟩
def QS (d:Nat) (n:Int) (t:N_) (h:HD) (y:MK×N_×HD×Y Sx):Prop:=(y.2.2.2.length:Int)<=max 0 n/\(∀s∈y.2.2.2,GS (d+1) s)/\ud t y.2.1/\y.2.2.1.2=h.2
def QT (d:Nat) (t:N_) (h:HD) (y:Sx×MK×N_×HD):Prop:=GS (d+1) y.1/\ud t y.2.2.1/\y.2.2.2.2=h.2
def QB (d:Nat) (t:N_) (h:HD) (y:Y Sx×MK×N_×HD):Prop:=y.1.length<=2/\(∀s∈y.1,GS (d+1) s)/\ud t y.2.2.1/\y.2.2.2.2=h.2
abbrev RS:Type:=(Γ×MK×N_×HD)->J (MK×N_×HD×Y Sx)
abbrev RT:Type:=(Int×MK×N_×HD)->J (Sx×MK×N_×HD)
abbrev RBk:Type:=((ζ×Int)×MK×N_×HD)->J (Y Sx×MK×N_×HD)
def SpS (rs:RS) (d:Nat):Prop:=∀(n:Int) (m:MK) (t:N_) (h:HD),n<=3->TP t->h.2.length+d<=100->Ok (rs (((d:Int),n),m,t,h)) (QS d n t h)
def SpT (q:RT) (d:Nat):Prop:=∀(m:MK) (t:N_) (h:HD),TP t->h.2.length+d<=100->Ok (q ((d:Int),m,t,h)) (QT d t h)
def SpB (q:RBk) (d:Nat):Prop:=∀(s:ζ) (m:MK) (t:N_) (h:HD),TP t->h.2.length+1+d<=100->Ok (q ((s,(d:Int)),m,t,h)) (QB d t h)
theorem Wh (rs:RS) (z:RT) (I:RBk) (d:Nat) (ht:SpT z d):SpS (mw rs z I) d:=by
 intro n m t h hn hp hh;unfold mw aX bh bk bn cI cC bi bx bp cH aB ct dW;refine ml (λx=>(n-x.1).toNat) (λx=>0<=x.1/\(x.1<=n\/x.1=0)/\ud t x.2.2.1/\(x.2.2.2.1.length:Int)<=x.1/\(∀s∈x.2.2.2.1,GS (d+1) s)/\x.2.2.2.2.2=h.2) ?_ ⟨gN _,.inr rfl,ud.refl hp,by simp,λs hs=>(by cases hs),rfl⟩;rintro⟨(i:Int),m',t',l,h'⟩ ⟨i0,L,e1,e2,e3,e4⟩;dsimp only at i0 L e1 e2 e3 e4;refine aW (λx=>x.2=(m',t',l,h')/\(x.1=M->i<n)) ?_ ?_
 .refine aR (λg=>aF (λ_=>ai ⟨rfl,λ_=>g⟩) λ_=>ai ⟨rfl,λ_=>g⟩) λ_=>ai ⟨rfl,λh=>(by cases h)⟩
 rintro⟨b,x⟩ ⟨F,D⟩;dsimp only at F D;subst F;refine aJ (λhb=>?_) λ_=>ai ⟨by dsimp only;omega,e3,e1,e4⟩
 have g:=D hb;refine ar (ht m' t' h' e1.p (by rw[e4];exact hh)) λy hy=>?_
 obtain⟨s,m2,t2,h2⟩:=y;obtain⟨k1,k2,A⟩:=hy;dsimp only at k1 k2 A;refine a8 (by simp) (a_ (by simp;omega) (by omega) (ai ?_));dsimp only;rw[eV,xL,gF (n:=i+1) (by omega) (by omega)];refine ⟨⟨by omega,by omega,e1.trans k2,by simp;omega,λx q=>?_,A.trans e4⟩,by omega⟩;rcases bN.1 q with q|q
 .exact e3 x q
 .rw[aI]at q;subst q;exact k1
theorem Wj (rs:RS) (L:RT) (rb:RBk) (d:Nat) (hs:SpS rs d):SpB (my rs L rb) d:=by
 intro s m t h hp hh;unfold my aX bh bn cI bp aY;refine a_ (by simp;omega) (by omega) ?_;refine ar (gi 2 t hp) λy A=>?_
 obtain⟨k,t1⟩:=y;obtain⟨z,I,q,_⟩:=A;have q:=q (by decide);dsimp only at z I q;have ew:aZ .i64 (1+k)=1+k:=gF (by omega) (by omega);dsimp only;rw[ew];refine ar (hs (1+k) m t1 (h.1,h.2++[s]) (by omega) z.p (by simp;omega)) λy A=>?_
 obtain⟨m2,t2,h2,l⟩:=y;obtain⟨k1,k2,F,D⟩:=A;dsimp only at k1 k2 F D;refine a8 (by simp) ?_;dsimp only;rw[D];have el:aZ .i64 ((aT (h.2++[s]).length)-1)=(h.2.length:Int):=by
  rw[bY,cP,gF (by simp<;>omega) (by simp<;>omega)];simp<;>omega
 rw[el];refine cR (du (by omega) (rx (by simp;omega) (ai ?_)));refine ⟨by dsimp only;omega,k2,z.trans F,?_⟩;show dh (aP (h.2.length:Int)) (h.2++[s])=h.2;simp
theorem BZ (s:ζ) (m:MK) (t:N_) (h:HD) (hh:h.2.length<=100):Ok (eB (s,m,t,h)) λy=>y.2=(m,t,h):=by
 unfold eB cI;exact ar (Ar h.2 s (by omega)) λy _=>ai rfl
theorem Y2 (rs:RS) (rt:RT) (rb:RBk) (d:Nat) (hd:d<=5) (h0:1<=d->SpS rs 0) (hS:1<=d->SpS rs (d-1)) (hB:1<=d->SpB rb (d-1)):SpT (nK rs rt rb) d:=by
 intro m t h hp hh;unfold nK aX bh bk bn cI cC bi bx bp kF aB dW;refine ar (gi 18 t hp) λy A=>?_
 obtain⟨k,t1⟩:=y;obtain⟨s1,k0,k1,_⟩:=A;have k1:=k1 (by decide);dsimp only at s1 k0 k1;have hE:∀(j:Nat) (m':MK) (t':N_) (h':HD),j<=1->TP t'->Ok (eU ((j:Int),m',t',h')) λy=>GE 4 y.1/\y.2.1=m'/\ud t' y.2.2.1/\y.2.2.2=h':=λj m' t' h' hj ht'=>(Yy j (by omega) m' t' h' ht').mono λy A=>⟨A.1.le (by omega),A.2⟩
 have ed:aZ .i64 ((d:Int)-1)=(d:Int)-1:=gF (by omega) (by omega);have ed1:1<=d->(d:Int)-1=((d-1:Nat):Int):=λ_=>by omega
 refine aW (λx=>x.2=((m.1,aZ .i64 (m.2.1-1),m.2.2),t1,(0,0,[],[],0,0,[]),h)/\(x.1=M->1<=d)) ?_ ?_
 .refine aR (λg=>aV (aR (λ_=>ai ⟨rfl,λ_=>?_⟩) λ_=>ai ⟨rfl,λh=>(by cases h)⟩)) λ_=>ai ⟨rfl,λh=>(by cases h)⟩
  dsimp only at g;omega
 generalize ((m.1,aZ .i64 (m.2.1-1),m.2.2):MK)=I;rintro⟨nest,x⟩ ⟨e,hn⟩;dsimp only at e hn;subst e;refine aR (λ_=>?_) λg4=>?_
 .refine aK k0 (by dsimp only[ah];omega) (aK k0 (by dsimp only[ah];omega) (aV ?_));refine ar (hE 1 I t1 h (by omega) s1.p) λy A=>?_
  obtain⟨e,m2,t2,h2⟩:=y;obtain⟨v1,v2,v3,v4⟩:=A;dsimp only at v1 v2 v3 v4;subst v2;subst v4;refine a8 (by simp) (aQ (s7 _ _) (ai ?_));dsimp only;rw[eV,xL];exact⟨GS.asg _ v1,s1.trans v3,rfl⟩
 dsimp only at g4;refine aF (λ_=>?_) λg5=>?_
 .refine ar (gi 2 t1 s1.p) λy A=>?_
  obtain⟨u1,u2,u3,_⟩:=A;have u3:=u3 (by decide);refine aK u2 u3 (aK u2 u3 (aV ?_));refine ar (hE 1 I y.2 h (by omega) u1.p) λz D=>?_
  obtain⟨e,m2,t2,h2⟩:=z;obtain⟨v1,v2,v3,v4⟩:=D;dsimp only at v1 v2 v3 v4;subst v2;subst v4;refine a8 (by simp) (aQ (s7 _ _) (ai ?_));dsimp only;rw[eV,xL];exact⟨GS.asg _ v1,s1.trans (u1.trans v3),rfl⟩
 dsimp only at g5;refine aF (λ_=>?_) λg6=>?_
 .refine ar (hE 0 I t1 h (by omega) s1.p) λz D=>?_
  obtain⟨e,m2,t2,h2⟩:=z;obtain⟨v1,v2,v3,v4⟩:=D;dsimp only at v1 v2 v3 v4;subst v2;subst v4;refine a8 (by simp) ?_;refine ar (hE 1 m2 t2 h2 (by omega) v3.p) λz D=>?_
  obtain⟨e',m3,t3,h3⟩:=z;obtain⟨w1,w2,w3,w4⟩:=D;dsimp only at w1 w2 w3 w4;subst w2;subst w4;refine a8 (by simp) (ai ?_);dsimp only;rw[eV,eV];exact⟨GS.aix v1 w1,s1.trans (v3.trans w3),rfl⟩
 dsimp only at g6;have D:∀(c:Prop),c->c:=λ_ h=>h
 have dd:1<=d->d-1+1=d:=λ_=>by omega
 have w8:8<=k->aZ .i64 (k-8)=k-8:=λ_=>gF (by omega) (by omega)
 refine aW (λx=>x.2=(I,t1,(0,0,[],[],0,0,[]),h)/\(x.1=M->1<=d)) ?_ ?_
 .refine aF (λ_=>ai ⟨rfl,λg=>?_⟩) λ_=>ai ⟨rfl,λh=>(by cases h)⟩
  dsimp only at g;rw[mm]at g;omega
 rintro⟨b,x⟩ ⟨e,hb⟩;dsimp only at e hb;subst e;refine aJ (λq=>?_) λ_=>?_
 .have d1:=hb q;refine ar (hE 1 I t1 h (by omega) s1.p) λz D=>?_
  obtain⟨e,m2,t2,h2⟩:=z;obtain⟨v1,v2,v3,v4⟩:=D;dsimp only at v1 v2 v3 v4;subst v2;subst v4;refine a8 (by simp) ?_;dsimp only;rw[ed,ed1 d1];refine ar (hS d1 1 m2 t2 h2 (by omega) v3.p (by omega)) λz D=>?_
  obtain⟨m3,t3,h3,l⟩:=z;obtain⟨w1,w2,w3,w4⟩:=D;dsimp only at w1 w2 w3 w4;rw[dd d1]at w2;refine a8 (by simp) ?_;refine aW (λx=>x.2.2.2.1=(2,0,[],[],e.op,e.n,e.name,e.l)/\ud t1 x.2.1/\x.2.2.2.2.1.2=h2.2/\x.2.2.2.2.2.1=l/\x.2.2.2.2.2.2.length<=8/\∀s∈x.2.2.2.2.2.2,GS d s) ?_ ?_
  .refine ar (gi 2 t3 w3.p) λy A=>?_
   refine aF (λ_=>?_) λ_=>ai ⟨rfl,v3.trans (w3.trans A.1),w4,rfl,by simp,λs hs=>(by cases hs)⟩
   dsimp only;refine ar (hS d1 1 m3 y.2 h3 (by omega) A.1.p (by rw[w4];omega)) λz D=>?_
   obtain⟨m4,t4,h4,l2⟩:=z;obtain⟨x1,x2,x3,x4⟩:=D;dsimp only at x1 x2 x3 x4;rw[dd d1]at x2;exact a8 (by simp) (ai ⟨rfl,v3.trans (w3.trans (A.1.trans x3)),x4.trans w4,rfl,by dsimp only;omega,x2⟩)
  rintro⟨m5,t5,z5,e5,h5,l5,l6⟩ ⟨x1,x2,x3,x4,x5,x6⟩;dsimp only at x1 x2 x3 x4 x5 x6;subst x1;subst x4;refine ai ?_;dsimp only;rw[eV];exact⟨GS.we v1 (by first|omega|(dsimp only;omega)) x5 w2 x6,s1.trans x2,x3⟩
 refine aW (λx=>x.2=(I,t1,(0,0,[],[],0,0,[]),h)/\(x.1=M->1<=d)) ?_ ?_
 .refine aF (λ_=>ai ⟨rfl,λg=>?_⟩) λ_=>ai ⟨rfl,λh=>(by cases h)⟩
  dsimp only at g;rw[mm]at g;omega
 rintro⟨b,x⟩ ⟨e,hb⟩;dsimp only at e hb;subst e;refine aJ (λq=>?_) λ_=>?_
 .have d1:=hb q;refine aQ (GI _) (aQ (MX _) (aQ (Ea _ _ _) ?_));dsimp only;rw[ed,ed1 d1];refine ar (hS d1 1 _ t1 h (by omega) s1.p (by omega)) λz D=>?_
  obtain⟨m3,t3,h3,l⟩:=z;obtain⟨w1,w2,w3,w4⟩:=D;dsimp only at w1 w2 w3 w4;rw[dd d1]at w2;refine a8 (by simp) ?_;refine aQ (GI _) (aQ (MX _) (aQ (Ea _ _ _) (aQ (s7 _ _) ?_)));refine a_ (by simp;omega) (by omega) (ai ?_);dsimp only;rw[eV,eV,xL];refine ⟨GS.we (GE.bin (by omega) (GE.nm _ 2) (GE.num _ 2)) (by simp;omega) (by simp) (λx F=>?_) (λx F=>(by cases F)),s1.trans w3,w4⟩;rcases bN.1 F with F|F
  .exact w2 x F
  .rw[aI]at F;subst F;rw[<- dd d1];exact GS.asg _ (GE.bin (by omega) (GE.nm _ 2) (GE.num _ 2))
 refine aW (λx=>x.2=(I,t1,(0,0,[],[],0,0,[]),h)/\(x.1=M->nest=M/\(k=8\/k=9))) ?_ ?_
 .refine aF (λg=>aJ (λL=>?_) λ_=>ai ⟨rfl,λh=>(by cases h)⟩) λ_=>aF (λg=>aJ (λL=>?_) λ_=>ai ⟨rfl,λh=>(by cases h)⟩) λ_=>ai ⟨rfl,λh=>(by cases h)⟩
  all_goals
   dsimp only at g ⊢;rw[w8 (by omega)];refine aK (by omega) (by simp;omega) (aK (by omega) (by simp;omega) (aV ?_));refine ar (BZ _ I t1 h (by omega)) λy A=>?_
   obtain⟨yb,y2⟩:=y;dsimp only at A;subst A;exact a8 (by simp) (ai ⟨rfl,λ_=>⟨L,by omega⟩⟩)
 rintro⟨b,x⟩ ⟨e,hb⟩;dsimp only at e hb;subst e;refine aJ (λq=>?_) λ_=>?_
 .obtain⟨q1,q2⟩:=hb q;have d1:=hn q1;dsimp only;rw[w8 (by omega),ed,ed1 d1];refine aK (by omega) (by simp;omega) (aK (by omega) (by simp;omega) (aV ?_));refine ar (hB d1 _ I t1 h s1.p (by omega)) λz D=>?_
  obtain⟨l,m3,t3,h3⟩:=z;obtain⟨w1,w2,w3,w4⟩:=D;dsimp only at w1 w2 w3 w4;rw[dd d1]at w2;exact a8 (by simp) (ai ⟨GS.wo (by omega) (by first|omega|(dsimp only;omega)) w2,s1.trans w3,w4⟩)
 refine aW (λx=>x.2=(I,t1,(0,0,[],[],0,0,[]),h)/\(x.1=M->nest=M/\(k=10\/k=11))) ?_ ?_
 .refine aF (λg=>aJ (λL=>?_) λ_=>ai ⟨rfl,λh=>(by cases h)⟩) λ_=>aF (λg=>aJ (λL=>?_) λ_=>ai ⟨rfl,λh=>(by cases h)⟩) λ_=>ai ⟨rfl,λh=>(by cases h)⟩
  all_goals
   dsimp only at g ⊢;refine ar (BZ _ I t1 h (by omega)) λy A=>?_
   obtain⟨yb,y2⟩:=y;dsimp only at A;subst A;exact a8 (by simp) (ai ⟨rfl,λ_=>⟨L,by omega⟩⟩)
 rintro⟨b,x⟩ ⟨e,hb⟩;dsimp only at e hb;subst e;refine aJ (λq=>?_) λ_=>?_
 .obtain⟨q1,q2⟩:=hb q;have d1:=hn q1;dsimp only;rw[ed,ed1 d1,gF (n:=k-10) (by omega) (by omega),gF (n:=k-10+5) (by omega) (by omega)];refine ar (hB d1 _ I t1 h s1.p (by omega)) λz D=>?_
  obtain⟨l,m3,t3,h3⟩:=z;obtain⟨w1,w2,w3,w4⟩:=D;dsimp only at w1 w2 w3 w4;rw[dd d1]at w2;exact a8 (by simp) (ai ⟨GS.wo (by omega) (by first|omega|(dsimp only;omega)) w2,s1.trans w3,w4⟩)
 refine aW (λx=>x.2=(I,t1,(0,0,[],[],0,0,[]),h)/\(x.1=M->nest=M)) ?_ ?_
 .exact aF (λ_=>ai ⟨rfl,λg=>g⟩) λ_=>ai ⟨rfl,λh=>(by cases h)⟩
 rintro⟨b,x⟩ ⟨e,hb⟩;dsimp only at e hb;subst e;refine aJ (λq=>?_) λ_=>?_
 .have d1:=hn (hb q);refine ar (gi 2 t1 s1.p) λy A=>?_
  obtain⟨u1,u2,u3,_⟩:=A;have u3:=u3 (by decide);dsimp only;rw[gF (n:=1+y.1) (by omega) (by omega)];refine ar (h0 d1 (1+y.1) _ y.2 h (by omega) u1.p (by omega)) λz D=>?_
  obtain⟨m3,t3,h3,l⟩:=z;obtain⟨w1,w2,w3,w4⟩:=D;dsimp only at w1 w2 w3 w4;exact a8 (by simp) (ai ⟨GS.wo (by omega) (by first|omega|(dsimp only;omega)) (λx F=>(w2 x F).le (by omega)),s1.trans (u1.trans w3),w4⟩)
 refine aW (λx=>x.2=(I,t1,(0,0,[],[],0,0,[]),h)/\(x.1=M->nest=M)) ?_ ?_
 .exact aF (λ_=>aJ (λL=>ai ⟨rfl,λ_=>L⟩) λ_=>ai ⟨rfl,λh=>(by cases h)⟩) λ_=>ai ⟨rfl,λh=>(by cases h)⟩
 rintro⟨b,x⟩ ⟨e,hb⟩;dsimp only at e hb;subst e;refine aJ (λq=>?_) λ_=>?_
 .have d1:=hn (hb q);dsimp only;rw[ed,ed1 d1];refine ar (hS d1 2 _ t1 h (by omega) s1.p (by omega)) λz D=>?_
  obtain⟨m3,t3,h3,l⟩:=z;obtain⟨w1,w2,w3,w4⟩:=D;dsimp only at w1 w2 w3 w4;rw[dd d1]at w2;exact a8 (by simp) (ai ⟨GS.wo (by omega) (by first|omega|(dsimp only;omega)) w2,s1.trans w3,w4⟩)
 refine aW (λx=>x.2=(I,t1,(0,0,[],[],0,0,[]),h)/\(x.1=M->nest=M)) ?_ ?_
 .refine aF (λ_=>aJ (λL=>aJ (λ_=>?_) λ_=>ai ⟨rfl,λh=>(by cases h)⟩) λ_=>ai ⟨rfl,λh=>(by cases h)⟩) λ_=>ai ⟨rfl,λh=>(by cases h)⟩
  refine ar (BZ _ I t1 h (by omega)) λy A=>?_
  obtain⟨yb,y2⟩:=y;dsimp only at A;subst A;exact a8 (by simp) (ai ⟨rfl,λ_=>L⟩)
 rintro⟨b,x⟩ ⟨e,hb⟩;dsimp only at e hb;subst e;refine aJ (λq=>?_) λ_=>?_
 .have d1:=hn (hb q);refine aQ (GI _) (aQ (s7 _ _) (ai ?_));dsimp only;rw[eV,xL];refine ⟨GS.wo (by omega) (by simp) (λx F=>?_),s1,rfl⟩;simp only[bu,cA,gE]at F;rw[<- dd d1];rcases F with rfl|rfl
  .exact GS.wo (by omega) (by simp) (λx F=>(by cases F))
  .exact GS.asg _ (GE.nm _ 3)
 refine aW (λx=>x.2=(I,t1,(0,0,[],[],0,0,[]),h)/\(x.1=M->nest=M)) ?_ ?_
 .refine aF (λ_=>aJ (λL=>?_) λ_=>ai ⟨rfl,λh=>(by cases h)⟩) λ_=>ai ⟨rfl,λh=>(by cases h)⟩
  refine ar (BZ _ I t1 h (by omega)) λy A=>?_
  obtain⟨yb,y2⟩:=y;dsimp only at A;subst A;exact a8 (by simp) (ai ⟨rfl,λ_=>L⟩)
 rintro⟨b,x⟩ ⟨e,hb⟩;dsimp only at e hb;subst e;refine aJ (λq=>?_) λ_=>?_
 .have d1:=hn (hb q);refine ar (gi 2 t1 s1.p) λy A=>ai ?_
  obtain⟨u1,u2,u3,_⟩:=A;have u3:=u3 (by decide);dsimp only;rw[gF (n:=10+y.1) (by omega) (by omega)];refine ⟨GS.wo (by omega) (by simp) (λx F=>?_),s1.trans u1,rfl⟩;simp only[bu,cA,gE]at F;rw[F,<-dd d1];exact GS.wo (by omega) (by simp) (λx F=>(by cases F))
 refine aW (λx=>x.2=(I,t1,(0,0,[],[],0,0,[]),h)) ?_ ?_
 .exact aF (λ_=>aJ (λ_=>aJ (λ_=>ai rfl) λ_=>ai rfl) λ_=>ai rfl) λ_=>ai rfl
 rintro⟨b,x⟩ e;dsimp only at e;subst e;refine aJ (λq=>?_) λ_=>?_
 .refine ar (hE 1 _ t1 h (by omega) s1.p) λz D=>?_
  obtain⟨e,m2,t2,h2⟩:=z;obtain⟨v1,v2,v3,v4⟩:=D;dsimp only at v1 v2 v3 v4;subst v2;subst v4;refine a8 (by simp) (ai ?_);dsimp only;rw[eV];exact⟨GS.we v1 (by simp) (by simp) (λx F=>(by cases F)) (λx F=>(by cases F)),s1.trans v3,rfl⟩
 refine aW (λx=>x.2.1=I/\ud t1 x.2.2.1/\x.2.2.2.2=h) ?_ ?_
 .refine aF (λ_=>aJ (λ_=>?_) λ_=>ai ⟨rfl,ud.refl s1.p,rfl⟩) λ_=>ai ⟨rfl,ud.refl s1.p,rfl⟩
  exact ar (gi 2 t1 s1.p) λy A=>ai ⟨rfl,A.1,rfl⟩
 rintro⟨b,m9,t9,z9,h9⟩ ⟨e1,e2,e3⟩;dsimp only at e1 e2 e3;subst e1;subst e3;refine aJ (λq=>?_) λ_=>?_
 .exact ai ⟨GS.wo (by omega) (by simp) (λx F=>(by cases F)),s1.trans e2,rfl⟩
 refine ar (hE 1 _ t9 h9 (by omega) e2.p) λz D=>?_
 obtain⟨e,m2,t2,h2⟩:=z;obtain⟨v1,v2,v3,v4⟩:=D;dsimp only at v1 v2 v3 v4;subst v2;subst v4;refine a8 (by simp) (aQ (s7 _ _) (ai ?_));dsimp only;rw[eV,xL];exact⟨GS.asg _ v1,s1.trans (e2.trans v3),rfl⟩
theorem LX:∀(n:Nat),(∀d:Nat,d<=5->3*d+1<=n->SpT (em n) d)/\(∀d:Nat,d<=5->3*d+2<=n->SpS (dC n) d)/\(∀d:Nat,d<=5->3*d+3<=n->SpB (dU n) d)
 |0=>⟨λd _ h=>by omega,λd _ h=>by omega,λd _ h=>by omega⟩
 |n+1=>by
  obtain⟨s,q,z⟩:=LX n;refine ⟨λd h1 h2=>?_,λd h1 h2=>?_,λd h1 h2=>?_⟩
  .exact Y2 (dC n) (em n) (dU n) d h1 (λh=>q 0 (by omega) (by omega)) (λh=>q (d-1) (by omega) (by omega)) (λh=>z (d-1) (by omega) (by omega))
  .exact Wh (dC n) (em n) (dU n) d (s d h1 (by omega))
  .exact Wj (dC n) (em n) (dU n) d (q d h1 (by omega))
theorem VX (d:Nat) (hd:d<=5):SpS p_ d:=(LX fuel).2.1 d hd (by rw[qi];omega)
def GX:Nat->Xp->Prop
 |0,_=>False
 |d+1,e=>e.l.length<=2/\∀x∈e.l,GX d x
theorem GE.x:∀{d:Nat} {e:Xp},GE d e->GX d e
 |0,_,h=>h.elim
 |_+1,_,h=>⟨h.2.2.1,λx q=>(h.2.2.2 x q).x⟩
theorem ZE.x {e:Xp} (h:ZE e):GX 4 e:=by
 rcases h with h|rfl
 .exact h.x
 .exact⟨by simp[Xp.l],λx d=>(by cases d)⟩
def GT:Nat->Sx->Prop
 |0,_=>False
 |d+1,s=>s.index.length<=1/\(∀e∈s.index,GX 4 e)/\GX 4 s.expr/\s.body.length<=8/\s.els.length<=8/\(∀x∈s.body,GT d x)/\(∀x∈s.els,GT d x)
theorem GS.t:∀{d:Nat} {s:Sx},GS d s->GT d s
 |0,_,h=>h.elim
 |_+1,_,⟨_,b,c,_,f,g,i,j,k⟩=>⟨b,λe he=>(c e he).x,f.x,g,i,λx q=>(j x q).t,λx q=>(k x q).t⟩
theorem xC (s:Sx):ov (Sx.op s,Sx.line s,Sx.name s,Sx.arg s,Sx.index s,d8 (Xp.op (Sx.expr s),Xp.n (Sx.expr s),Xp.name (Sx.expr s),Xp.l (Sx.expr s)),Sx.body s,Sx.els s)=s:=by
 rw[eV,xL]
theorem Rl (k:Int):Ok (om k) λ_=>True:=by
 unfold om bi ja aB;with_reducible repeat' first|(refine OS.ok ?_;constructor)|refine IM.mk λ_=>?_
 all_goals trivial
theorem qp (e:Xp):Ok (qQ e) λ_=>True:=by
 unfold qQ bi aB;with_reducible repeat' first|(refine OS.ok ?_;constructor)|refine IM.mk λ_=>?_
 all_goals trivial
theorem yo:∀(n d:Nat) (e:Xp),d<n->GX d e->Ok (i_ n e) λ_=>True
 |0,_,_,h,_=>by omega
 |n+1,0,_,_,h=>h.elim
 |n+1,d+1,e,hn,h=>by
  obtain⟨h1,h2⟩:=h;rw[yk];unfold oR bi bx iA bF cH aB ct;refine aW (λx=>x.2=e) (aF (λ_=>ai (eV e)) λ_=>ai (eV e)) ?_;rintro⟨b,x⟩ s;dsimp only at s;subst s;refine aW (λy=>y.2=x) ?_ ?_
  .refine ar (Rl _) λ_ _=>?_
   with_reducible repeat' first|refine bW (λ_=>?_) λ_=>?_|refine aR (λ_=>?_) λ_=>?_|refine cQ (λ_=>?_) λ_=>?_|refine aJ (λ_=>?_) λ_=>?_|exact ai (eV x)|refine ar (ik _) λ_ _=>?_
  rintro⟨A,y⟩ q;dsimp only at q;subst q;refine aJ (λ_=>ai trivial) λ_=>?_
  refine cf y.l.length (λi x=>x.1=(i:Int)/\x.2=y) ?_ ?_ ⟨rfl,eV y⟩
  .rintro i ⟨a,z⟩ hi ⟨e1,e2⟩;dsimp only at e1 e2;subst e1;subst e2;refine aR (λ_=>?_) λg=>(by dsimp only[aj]at g;omega)
   refine aK (by dsimp only;omega) (by dsimp only;omega) (aV ?_);refine ar (yo n d _ (by omega) (h2 _ (bH (T:=.ex) (xs:=z.l) (j:=(i:Int)) (by omega) (by omega)))) λ_ _=>?_
   refine cQ (λ_=>ai trivial) λ_=>ai ?_
   dsimp only;exact⟨fk (by omega),eV z⟩
  .rintro⟨a,z⟩ ⟨e1,e2⟩;dsimp only at e1 e2;subst e1;subst e2;exact aR (λg=>(by dsimp only[aj]at g;omega)) λ_=>ai trivial
theorem fY (e:Xp) (h:GX 4 e):Ok (j7 e) λ_=>True:=yo fuel 4 e (by rw[qi];omega) h
theorem Kf (d:Int×Int×ζ×Int×Int×ζ):Ok (lX d) λ_=>True:=by
 unfold lX aX bh bS dI bi bx iA aB;refine aW (λ_=>True) ?_ λx _=>aJ (λ_=>ai trivial) λ_=>?_
 .with_reducible repeat' first|refine bW (λ_=>?_) λ_=>?_|refine aR (λ_=>?_) λ_=>?_|refine cQ (λ_=>?_) λ_=>?_|exact ai trivial|refine ar (ik _) λ_ _=>?_
 refine aW (λ_=>True) ?_ λx _=>aJ (λ_=>ai trivial) λ_=>?_
 .with_reducible repeat' first|refine bW (λ_=>?_) λ_=>?_|refine aF (λ_=>?_) λ_=>?_|refine cQ (λ_=>?_) λ_=>?_|exact ai trivial|refine ar (ik _) λ_ _=>?_
 with_reducible repeat' first|(refine OS.ok ?_;constructor)|refine IM.mk λ_=>?_
 all_goals trivial
theorem F1 (d:Sx->J Bool) (rs:Y Sx->J Bool) (l:Y Sx) (hl:l.length<=1000) (h:∀s∈l,Ok (d s) λ_=>True):Ok (nJ d rs l) λ_=>True:=by
 unfold nJ bx mF aY cH aB ct;refine cf l.length (λi x=>x=(i:Int)) ?_ ?_ rfl
 .rintro i x hi rfl;refine aR (λ_=>?_) λg=>(by dsimp only[aj]at g;omega)
  refine aK (by omega) (by omega) ?_;refine ar (h _ (bH (T:=.sm) (xs:=l) (j:=(i:Int)) (by omega) (by omega))) λ_ _=>?_
  exact cQ (λ_=>ai trivial) λ_=>ai (fk (by omega))
 .rintro x rfl;exact aR (λg=>(by dsimp only[aj]at g;omega)) λ_=>ai trivial
theorem Il (q:Sx->J Bool) (rs:Y Sx->J Bool) (s:Sx) (h1:∀e∈s.index,GX 4 e) (h2:GX 4 s.expr) (hb:Ok (rs s.body) λ_=>True) (he:Ok (rs s.els) λ_=>True):Ok (oQ q rs s) λ_=>True:=by
 unfold oQ bi bx ja iA bF aB dW;refine aW (λx=>x.2=s) ?_ ?_
 .with_reducible repeat' first|refine bW (λ_=>?_) λ_=>?_|refine aF (λ_=>?_) λ_=>?_|refine aR (λ_=>?_) λ_=>?_|refine dT (λ_=>?_) λ_=>?_|refine cQ (λ_=>?_) λ_=>?_|refine aJ (λ_=>?_) λ_=>?_|exact ai (xC _)|refine ar (ik _) λ_ _=>?_|refine ar (qp _) λ_ _=>?_|refine ar (fY _ h2x) λ_ _=>?_
 rintro⟨b,x⟩ d;dsimp only at d;have d:=d.symm;subst d;refine aJ (λ_=>ai trivial) λ_=>?_
 refine aW (λx=>x.2=s) ?_ ?_
 .with_reducible repeat' first|refine bW (λ_=>?_) λ_=>?_|refine aF (λ_=>?_) λ_=>?_|refine aR (λ_=>?_) λ_=>?_|refine dT (λ_=>?_) λ_=>?_|refine cQ (λ_=>?_) λ_=>?_|refine aJ (λ_=>?_) λ_=>?_|exact ai (xC _)|refine ar (ik _) λ_ _=>?_|refine ar (qp _) λ_ _=>?_|refine ar (fY _ h2x) λ_ _=>?_
 rintro⟨b,x⟩ d;dsimp only at d;have d:=d.symm;subst d;refine aW (λx=>x.2=s) ?_ ?_
 .with_reducible repeat' first|refine bW (λ_=>?_) λ_=>?_|refine aF (λ_=>?_) λ_=>?_|refine aR (λ_=>?_) λ_=>?_|refine dT (λ_=>?_) λ_=>?_|refine cQ (λ_=>?_) λ_=>?_|refine aJ (λ_=>?_) λ_=>?_|exact ai (xC _)|refine ar (ik _) λ_ _=>?_|refine ar (qp _) λ_ _=>?_|refine ar (fY _ h2x) λ_ _=>?_
 rintro⟨b,x⟩ d;dsimp only at d;have d:=d.symm;subst d;refine aJ (λ_=>ai trivial) λ_=>?_
 refine aW (λx=>x.2=s) ?_ ?_
 .with_reducible repeat' first|refine bW (λ_=>?_) λ_=>?_|refine aF (λ_=>?_) λ_=>?_|refine aR (λ_=>?_) λ_=>?_|refine dT (λ_=>?_) λ_=>?_|refine cQ (λ_=>?_) λ_=>?_|refine aJ (λ_=>?_) λ_=>?_|exact ai (xC _)|refine ar (ik _) λ_ _=>?_|refine ar (qp _) λ_ _=>?_|refine ar (fY _ h2x) λ_ _=>?_
 rintro⟨b,x⟩ d;dsimp only at d;have d:=d.symm;subst d;refine aJ (λ_=>ai trivial) λ_=>?_
 refine aW (λx=>x.2=s) ?_ ?_
 .with_reducible repeat' first|refine bW (λ_=>?_) λ_=>?_|refine aF (λ_=>?_) λ_=>?_|refine aR (λ_=>?_) λ_=>?_|refine dT (λ_=>?_) λ_=>?_|refine cQ (λ_=>?_) λ_=>?_|refine aJ (λ_=>?_) λ_=>?_|exact ai (xC _)|refine ar (ik _) λ_ _=>?_|refine ar (qp _) λ_ _=>?_|refine ar (fY _ h2x) λ_ _=>?_
  all_goals
   rename_i g;dsimp only[aj]at g;refine aK (by omega) (by dsimp only;omega) (aV ?_);refine ar (fY _ (h1 _ (bH (T:=.ex) (xs:=Sx.index _) (j:=0) (by omega) (by omega)))) λ_ _=>ai (xC _)
 rintro⟨b,x⟩ d;dsimp only at d;have d:=d.symm;subst d;refine aJ (λ_=>ai trivial) λ_=>?_
 refine aW (λx=>x.2=s) ?_ ?_
 .with_reducible repeat' first|refine bW (λ_=>?_) λ_=>?_|refine aF (λ_=>?_) λ_=>?_|refine aR (λ_=>?_) λ_=>?_|refine dT (λ_=>?_) λ_=>?_|refine cQ (λ_=>?_) λ_=>?_|refine aJ (λ_=>?_) λ_=>?_|exact ai (xC _)|refine ar (ik _) λ_ _=>?_|refine ar (qp _) λ_ _=>?_|refine ar (fY _ h2x) λ_ _=>?_
 rintro⟨b,x⟩ d;dsimp only at d;have d:=d.symm;subst d;refine aW (λx=>x.2=s) ?_ ?_
 .have h2x:GX 4 (d8 (Xp.op (Sx.expr s),Xp.n (Sx.expr s),Xp.name (Sx.expr s),Xp.l (Sx.expr s))):=by rw[eV];exact h2
  with_reducible repeat' first|refine bW (λ_=>?_) λ_=>?_|refine aF (λ_=>?_) λ_=>?_|refine aR (λ_=>?_) λ_=>?_|refine dT (λ_=>?_) λ_=>?_|refine cQ (λ_=>?_) λ_=>?_|refine aJ (λ_=>?_) λ_=>?_|exact ai (xC _)|refine ar (ik _) λ_ _=>?_|refine ar (qp _) λ_ _=>?_|refine ar (fY _ h2x) λ_ _=>?_
 rintro⟨b,x⟩ d;dsimp only at d;have d:=d.symm;subst d;refine aJ (λ_=>ai trivial) λ_=>?_
 refine aW (λx=>x.2=s) ?_ ?_
 .with_reducible repeat' first|refine bW (λ_=>?_) λ_=>?_|refine aF (λ_=>?_) λ_=>?_|refine aR (λ_=>?_) λ_=>?_|refine dT (λ_=>?_) λ_=>?_|refine cQ (λ_=>?_) λ_=>?_|refine aJ (λ_=>?_) λ_=>?_|exact ai (xC _)|refine ar (ik _) λ_ _=>?_|refine ar (qp _) λ_ _=>?_|refine ar (fY _ h2x) λ_ _=>?_
 rintro⟨b,x⟩ d;dsimp only at d;have d:=d.symm;subst d;refine aW (λx=>x.2=s) ?_ ?_
 .with_reducible repeat' first|refine bW (λ_=>?_) λ_=>?_|refine aF (λ_=>?_) λ_=>?_|refine aR (λ_=>?_) λ_=>?_|refine dT (λ_=>?_) λ_=>?_|refine cQ (λ_=>?_) λ_=>?_|refine aJ (λ_=>?_) λ_=>?_|exact ai (xC _)|refine ar (ik _) λ_ _=>?_|refine ar (qp _) λ_ _=>?_|refine ar (fY _ h2x) λ_ _=>?_
 rintro⟨b,x⟩ d;dsimp only at d;have d:=d.symm;subst d;refine aJ (λ_=>ai trivial) λ_=>?_
 refine aW (λ_=>True) ?_ λ_ _=>ai trivial
 refine ar hb λ_ _=>aJ (λ_=>ar he λ_ _=>ai trivial) λ_=>ai trivial
theorem Ir:∀(n:Nat),(∀(d:Nat) (s:Sx),2*d<n->GT d s->Ok (gV n s) λ_=>True)/\(∀(d:Nat) (l:Y Sx),2*d+1<n->l.length<=1000->(∀s∈l,GT d s)->Ok (fq n l) λ_=>True)
 |0=>⟨λd _ h=>by omega,λd _ h=>by omega⟩
 |n+1=>by
  obtain⟨z,q⟩:=Ir n;refine ⟨λd s hd h=>?_,λd l hd hl h=>?_⟩
  .cases d with
   |zero=>exact h.elim
   |succ d=>
    obtain⟨_,I,F,g4,L,D,A⟩:=h;exact Il (gV n) (fq n) s I F (q d _ (by omega) (by omega) D) (q d _ (by omega) (by omega) A)
  .exact F1 (gV n) (fq n) l hl λs hs=>z d s (by omega) (h s hs)
theorem JO (d:Nat) (hd:d<=100) (l:Y Sx) (hl:l.length<=1000) (h:∀s∈l,GT d s):Ok (qR l) λ_=>True:=(Ir fuel).2 d l (by rw[qi];omega) hl h
end
end Go.Proofs.YtiaemgcbndhkfaaGreatDoor.AI
