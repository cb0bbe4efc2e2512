/-
  Texts of the proof, part 2 of 6: what is used to prove the statement. No condition.
-/
import Derived.Test.YtloaobgmjdjhhaaGreatDoorEpochFirstQ0
namespace Go.Proofs.YtloaobgmjdjhhaaGreatDoor.AI
open Go.RowKit
set_option maxRecDepth 100000
set_option maxHeartbeats 4000000
set_option linter.unusedVariables false
set_option linter.unusedSimpArgs false
open _root_.Bool renaming true→J,false→af
open _root_.Int renaming ofNat_eq_natCast→ak,ofNat→aM,toNat→aQ,reduceEq→aU,reduceNeg→bp,toNat_natCast→bO
open _root_.List renaming length→ai,replicate→aA,length_cons→cg,range→cq,length_singleton→cX,take→dQ,cons_append→fR,length_nil→gE,take_succ_cons→wL,foldl_cons→xR
open _root_.Nat renaming beq→aB,blt→gF
open _root_.Option renaming some→M,none→D,map_some→ct,getD_some→vL
open _root_.Prod renaming p2→aY,p3→bi,p4→bx,q3→bP,p5→cI,q5→cY,q4→dG,p6→dY,q6→fG,q7→kA,p7→lh,q8→qH,p8→AM,p9→Db,p10→E6
open _root_.Sum renaming inr→bS,inl→oh
noncomputable section
abbrev Kd0:Ty:=(.st (.pr vx (.pr vx (.pr vx (.pr vx (.pr vx (.pr vx (.pr (.sl aL) (.pr vx (.sl aL))))))))))
abbrev Kd1:Ty:=(.st (.pr .bool .bool))
abbrev Yd0:=((Y η)×(Y η)×(Y η)×(Y η)×(Y η)×(Y η)×(η)×(Y η)×η)
abbrev Yd1:=(η×(Y η)×(Y η)×(Y η)×(Y η)×(Y η)×(Y η)×(Y η)×(η)×η)
abbrev Yd2:=(Int×jC×(θ)×Y eA)
abbrev Yd3:=(Int×oK×ng×(Y j9)×dA×dA×Y π)
abbrev Yd4:=(fk×Int×Int×Int×Int×Int×(η)×η)
abbrev Yd5:=(Y ν)
abbrev Yd6:=(Int×(θ)×Y eA)
def NP {α R:Type} [DecidableEq α] (a b:α) (r:I R):I R:=if a=b then r else D
theorem RG {α R:Type} [DecidableEq α] (a b:α) (r:I R):NP a b r=same a b r:=by unfold NP same;by_cases h:a=b<;>simp[h]
theorem RF {α R:Type} [DecidableEq α] {a b:α} (h:a=b) (r:I R):NP a b r=r:=by unfold NP;rw[aC h]
def gR (x:η×Int):I (Int):=
 (jn (bw x.2 0 (aD J) (aD (c_ (aX x.1) x.2))) λa=>(aF a (M 0) (wQ x.2 x.1 (M (aJ (T:=aL) x.1 x.2)))))
def v7 (it:zG) (x:η×η):I η:=
 (bB (c_ 0 (fJ (aX x.1) (aX x.2))&&c_ (fJ (aX x.1) (aX x.2)) (fJ (aX x.1) (aX x.2))&&a8 (aQ (fJ (aX x.1) (aX x.2))) 8) (it (Int×η) _ (λa=>(bw a.1 (aM (ai (aA (aQ (fJ (aX x.1) (aX x.2))) (0:Int)))) (au (gR (x.1,a.1)) λz=>(au (gR (x.2,a.1)) λs=>(ck (e9 a.1 (ai a.2)) (cQ ((cJ a.1),(cL a.2 a.1 (fJ z s))))))) (aD a.2))) (0,(aA (aQ (fJ (aX x.1) (aX x.2))) (0:Int)))))
def zU (x:η×η):I η:=v7 @iter x
def kJ (x:η×η):I η:=v7 @gA x
def yd (x:η×Int):I (Int):=
 (jn (bw x.2 0 (aD J) (aD (c_ (aX x.1) x.2))) λa=>(aF a (M 0) (wQ x.2 x.1 (M (aJ (T:=aL) x.1 x.2)))))
def FL (it:zG) (x:η×η):I η:=
 (bB (c_ 0 (fJ (aX x.1) (aX x.2))&&c_ (fJ (aX x.1) (aX x.2)) (fJ (aX x.1) (aX x.2))&&a8 (aQ (fJ (aX x.1) (aX x.2))) 8) (it (Int×η) _ (λa=>(bw a.1 (aM (ai (aA (aQ (fJ (aX x.1) (aX x.2))) (0:Int)))) (au (yd (x.1,a.1)) λz=>(au (yd (x.2,a.1)) λs=>(ck (e9 a.1 (ai a.2)) (cQ ((cJ a.1),(cL a.2 a.1 (fJ z s))))))) (aD a.2))) (0,(aA (aQ (fJ (aX x.1) (aX x.2))) (0:Int)))))
def Fm (x:η×η):I η:=FL @iter x
def qm (x:η×η):I η:=FL @gA x
def PD (x:η):I η:=
 (aF (aB (ai x) 0) (Gg (M ([]:η)) (bB (a8 (ai ([]:η)+ai x) 8) (M (([]:η)++x)))) (bB (a8 (ai ([]:η)+ai x) 8) (M (([]:η)++x))))
def CH (x:η):I η:=chk (a8 (ai x) 8) λ_=>M x
def yk (it:zG) (x:Y η):I (Y η):=
 (bB (c_ 0 (aX x)&&c_ (aX x) (aX x)&&a8 (aQ (aX x)) 24) (it (Int×Y η) _ (λa=>(bw a.1 (aX x) (wQ a.1 x (au (CH (aJ (T:=(.sl aL)) x a.1)) λs=>(ck (e9 a.1 (ai a.2)) (cQ ((cJ a.1),(cL a.2 a.1 s)))))) (aD a.2))) (0,(aA (aQ (aX x)) ([]:η)))))
def Cy (x:Y η):I (Y η):=yk @iter x
def iG (x:Y η):I (Y η):=yk @gA x
def JM (x:η):I η:=
 (aF (aB (ai x) 0) (Gg (M ([]:η)) (bB (a8 (ai ([]:η)+ai x) 8) (M (([]:η)++x)))) (bB (a8 (ai ([]:η)+ai x) 8) (M (([]:η)++x))))
def py (x:η):I η:=chk (a8 (ai x) 8) λ_=>M x
def uW (x:(Y η)×(Y η)×(Y η)×(Y η)×(Y η)×(Y η)×(η)×(Y η)×η):I (η×(Y η)×(Y η)×(Y η)×(Y η)×(Y η)×(Y η)×(Y η)×η):=
 (au (iG x.1) λy1=>(au (iG x.2.1) λy2=>(au (iG x.p2) λZ=>(au (iG x.p3) λU=>(au (iG x.p4) λL=>(au (iG x.p5) λA=>(au (py x.p6) λz=>(au (iG x.p7) λs=>(au (py x.q8) λa=>(M (z,y1,y2,Z,U,L,A,s,a)))))))))))
def ux (x:Int×Y η):I (η×Y η):=
 (jn (bw x.1 0 (aD (J,x.2)) (aD ((c_ (aX x.2) x.1),x.2))) λa=>(aF a.1 (M (([]:η),a.2)) (ck (e9 x.1 (ai a.2)) (M ((aJ (T:=(.sl aL)) a.2 x.1),a.2)))))
def uX (x:ja×(η)×fk×(Y η)×(Y η)×(Y η)×(Y η)×(Y η)×(Y η)×(Y η)×η):I ((Y η)×ja×(η)×fk×(Y η)×(Y η)×(Y η)×(Y η)×(Y η)×(Y η)×(Y η)×η):=
 (bg x.1.2.1 1 (ck (e9 x.1.1 (ai x.p4)) (M ([(aJ (T:=(.sl aL)) x.p4 x.1.1)],(x.1.1,x.1.2.1,x.1.p2,x.1.p3,x.1.p4,x.1.p5,x.1.q6),x.2.1,(x.p2.1,x.p2.2.1,x.p2.p2,x.p2.p3,x.p2.p4,x.p2.q5),x.p3,x.p4,x.p5,x.p6,x.p7,x.p8,x.p9,x.q10))) (bg x.1.2.1 21 (ck (e9 x.1.p2 (ai x.p3)) (M ([(aJ (T:=(.sl aL)) x.p3 x.1.p2)],(x.1.1,x.1.2.1,x.1.p2,x.1.p3,x.1.p4,x.1.p5,x.1.q6),x.2.1,(x.p2.1,x.p2.2.1,x.p2.p2,x.p2.p3,x.p2.p4,x.p2.q5),x.p3,x.p4,x.p5,x.p6,x.p7,x.p8,x.p9,x.q10))) (jn (bg x.1.2.1 6 (aD ((decide ((x.1.2.1:Int)=6)),(x.1.1,x.1.2.1,x.1.p2,x.1.p3,x.1.p4,x.1.p5,x.1.q6),x.2.1,(x.p2.1,x.p2.2.1,x.p2.p2,x.p2.p3,x.p2.p4,x.p2.q5),x.p3,x.p4,x.p5,x.p6,x.p7,x.p8,x.p9,x.q10)) (aD ((decide ((x.1.2.1:Int)=10)),(x.1.1,x.1.2.1,x.1.p2,x.1.p3,x.1.p4,x.1.p5,x.1.q6),x.2.1,(x.p2.1,x.p2.2.1,x.p2.p2,x.p2.p3,x.p2.p4,x.p2.q5),x.p3,x.p4,x.p5,x.p6,x.p7,x.p8,x.p9,x.q10))) λa=>(aF a.1 (ck (e9 a.2.1.p2 (ai a.p6)) (ck (e9 a.2.1.p2 (ai a.p7)) (M ([(aJ (T:=(.sl aL)) a.p6 a.2.1.p2),(aJ (T:=(.sl aL)) a.p7 a.2.1.p2)],(a.2.1.1,a.2.1.2.1,a.2.1.p2,a.2.1.p3,a.2.1.p4,a.2.1.p5,a.2.1.q6),a.p2,(a.p3.1,a.p3.2.1,a.p3.p2,a.p3.p3,a.p3.p4,a.p3.q5),a.p4,a.p5,a.p6,a.p7,a.p8,a.p9,a.p10,a.q11)))) (bg x.1.2.1 8 (ck (e9 a.2.1.p2 (ai a.p6)) (M ([(aJ (T:=(.sl aL)) a.p6 a.2.1.p2)],(a.2.1.1,a.2.1.2.1,a.2.1.p2,a.2.1.p3,a.2.1.p4,a.2.1.p5,a.2.1.q6),a.p2,(a.p3.1,a.p3.2.1,a.p3.p2,a.p3.p3,a.p3.p4,a.p3.q5),a.p4,a.p5,a.p6,a.p7,a.p8,a.p9,a.p10,a.q11))) (bg x.1.2.1 17 (wQ a.2.1.p2 a.p3.p2 (au (ux ((aJ (T:=mw) a.p3.p2 a.2.1.p2).2,a.p6)) λz=>(bB (aB (ai a.p6) (ai z.2)&&J) (au (ux ((aJ (T:=mw) a.p3.p2 a.2.1.p2).2,a.p7)) λs=>(bB (aB (ai a.p7) (ai s.2)&&J) (ck (e9 a.2.1.1 (ai a.p10)) (M ([z.1,s.1,(aJ (T:=(.sl aL)) a.p10 a.2.1.1)],(a.2.1.1,a.2.1.2.1,a.2.1.p2,a.2.1.p3,a.2.1.p4,a.2.1.p5,a.2.1.q6),a.p2,(a.p3.1,a.p3.2.1,a.p3.p2,a.p3.p3,a.p3.p4,a.p3.q5),a.p4,a.p5,z.2,s.2,a.p8,a.p9,a.p10,a.q11)))))))) (bg x.1.2.1 3 (ck (e9 a.2.1.p2 (ai a.p8)) (M ([(aJ (T:=(.sl aL)) a.p8 a.2.1.p2)],(a.2.1.1,a.2.1.2.1,a.2.1.p2,a.2.1.p3,a.2.1.p4,a.2.1.p5,a.2.1.q6),a.p2,(a.p3.1,a.p3.2.1,a.p3.p2,a.p3.p3,a.p3.p4,a.p3.q5),a.p4,a.p5,a.p6,a.p7,a.p8,a.p9,a.p10,a.q11))) (bg x.1.2.1 23 (ck (e9 a.2.1.p2 (ai a.p9)) (M ([(aJ (T:=(.sl aL)) a.p9 a.2.1.p2)],(a.2.1.1,a.2.1.2.1,a.2.1.p2,a.2.1.p3,a.2.1.p4,a.2.1.p5,a.2.1.q6),a.p2,(a.p3.1,a.p3.2.1,a.p3.p2,a.p3.p3,a.p3.p4,a.p3.q5),a.p4,a.p5,a.p6,a.p7,a.p8,a.p9,a.p10,a.q11))) (bg x.1.2.1 12 (M ([a.p2],(a.2.1.1,a.2.1.2.1,a.2.1.p2,a.2.1.p3,a.2.1.p4,a.2.1.p5,a.2.1.q6),a.p2,(a.p3.1,a.p3.2.1,a.p3.p2,a.p3.p3,a.p3.p4,a.p3.q5),a.p4,a.p5,a.p6,a.p7,a.p8,a.p9,a.p10,a.q11)) (M (([]:Y η),(a.2.1.1,a.2.1.2.1,a.2.1.p2,a.2.1.p3,a.2.1.p4,a.2.1.p5,a.2.1.q6),a.p2,(a.p3.1,a.p3.2.1,a.p3.p2,a.p3.p3,a.p3.p4,a.p3.q5),a.p4,a.p5,a.p6,a.p7,a.p8,a.p9,a.p10,a.q11)))))))))))
def Bb (it:zG) (x:oK×ng×(Y j9)×dA×dA×Y π):I Yd0:=
 (ck (c_ 0 (aX x.p4)&&c_ (aX x.p4) (aX x.p4)&&a8 (aQ (aX x.p4)) 24) (ck (c_ 0 (aX x.2.1)&&c_ (aX x.2.1) (aX x.2.1)&&a8 (aQ (aX x.2.1)) 24) (bB (c_ 0 (aX x.1)&&c_ (aX x.1) (aX x.1)&&a8 (aQ (aX x.1)) 24) (bB (c_ 0 (aX x.p3)&&c_ (aX x.p3) (aX x.p3)&&a8 (aQ (aX x.p3)) 24) (bB (c_ 0 (aX x.p4)&&c_ (aX x.p4) (aX x.p4)&&a8 (aQ (aX x.p4)) 24) (bB (c_ 0 (aX x.p4)&&c_ (aX x.p4) (aX x.p4)&&a8 (aQ (aX x.p4)) 8) (it (Int×(Y η)×(Y η)×(Y η)×(Y η)×(Y η)×(Y η)×(Y η)×η) _ (λa=>(bw a.1 (aM (ai (aA (aQ (aX x.p4)) (0:Int)))) (ck (e9 a.1 (ai a.q8)) (cQ ((cJ a.1),a.2.1,a.p2,a.p3,a.p4,a.p5,a.p6,a.p7,(cL a.q8 a.1 (-1))))) (aD (a.2.1,a.p2,a.p3,a.p4,a.p5,a.p6,([]:η),a.p7,a.q8)))) (0,(aA (aQ (aX x.p4)) ([]:η)),(aA (aQ (aX x.p4)) ([]:η)),(aA (aQ (aX x.2.1)) ([]:η)),(aA (aQ (aX x.2.1)) ([]:η)),(aA (aQ (aX x.1)) ([]:η)),(aA (aQ (aX x.p3)) ([]:η)),(aA (aQ (aX x.p4)) ([]:η)),(aA (aQ (aX x.p4)) (0:Int))))))))))
def Fp (x:oK×ng×(Y j9)×dA×dA×Y π):I Yd0:=Bb @iter x
def qu (x:oK×ng×(Y j9)×dA×dA×Y π):I Yd0:=Bb @gA x
def s_ (x:η×Int):I η:=
 (jn (iZ 0 x.2 (aD (fP x.2 4)) (aD af)) λz=>(jn (aF z (aD (fJ (aX x.1) (cJ x.2))) (aD (aX x.1))) λa=>(bB (c_ 0 a&&c_ a a&&a8 (aQ a) 8) (jn (jn (aF z (ck (e9 x.2 (ai (OR (aA (aQ a) (0:Int)) x.1))) (aD ((fP (aJ (T:=aL) (OR (aA (aQ a) (0:Int)) x.1) x.2) 9223372036854775807),(OR (aA (aQ a) (0:Int)) x.1)))) (aD (af,(OR (aA (aQ a) (0:Int)) x.1)))) λs=>(aF s.1 (ck (e9 x.2 (ai s.2)) (ck (e9 x.2 (ai s.2)) (aD (cL s.2 x.2 (bl .i64 ((aJ (T:=aL) s.2 x.2)+1)))))) (aD s.2))) λA=>(M A)))))
def xi (x:η):I (η×η):=
 (bB (a8 (ai ([]:η)+ai x) 8) (M ((([]:η)++x),x)))
def vS (x:η):I η:=au (xi x) λy=>NP y.2 x (M y.1)
def I0 (it:zG) (x:η×η):I (η×η):=
 (bB (c_ 0 (fJ (aX x.1) (aX x.2))&&c_ (fJ (aX x.1) (aX x.2)) (fJ (aX x.1) (aX x.2))&&a8 (aQ (fJ (aX x.1) (aX x.2))) 8) (it (Int×(η)×η) _ (λa=>(bw a.1 (aM (ai (aA (aQ (fJ (aX x.1) (aX x.2))) (0:Int)))) (au (gR (x.1,a.1)) λz=>(au (gR (a.2.1,a.1)) λs=>(ck (e9 a.1 (ai a.2.2)) (cQ ((cJ a.1),a.2.1,(cL a.2.2 a.1 (fJ z s))))))) (aD (a.2.2,a.2.1)))) (0,x.2,(aA (aQ (fJ (aX x.1) (aX x.2))) (0:Int)))))
def Px (x:η×η):I (η×η):=I0 @iter x
def uj (x:η×η):I (η×η):=I0 @gA x
def CG (x:η×η):I η:=au (uj x) λy=>NP y.2 x.2 (M y.1)
def ml (x:Int×(Y η)×η):I ((Y η)×η):=
 (jn (iZ 0 x.1 (aD ((fP x.1 (aX x.2.1)),x.2.1,x.2.2)) (aD (af,x.2.1,x.2.2))) λa=>(aF a.1 (ck (e9 x.1 (ai a.2.1)) (au (CG ((aJ (T:=(.sl aL)) a.2.1 x.1),a.2.2)) λs=>(ck (e9 x.1 (ai a.2.1)) (M ((cL a.2.1 x.1 s),a.2.2))))) (M (a.2.1,a.2.2))))
def xf (x:Int×(η)×(Y η)×(Y η)×(Y η)×(Y η)×(Y η)×(Y η)×(Y η)×(η)×η):I Yd1:=
 (au (vS x.q10) λa=>(ck (e9 x.1 (ai x.p8)) (ck (e9 x.1 (ai x.p9)) (M (x.2.1,x.p2,x.p3,x.p4,x.p5,x.p6,x.p7,(cL x.p8 x.1 a),(cL x.p9 x.1 (-1)),x.q10)))))
def Ba (it:zG) (x:Yd4×(η)×(Y η)×(Y η)×(Y η)×(Y η)×(Y η)×(Y η)×(Y η)×(η)×η):I Yd1:=
 (au (vS x.q10) λy1=>(ck (e9 x.1.2.1 (ai x.p2)) (jn (α:=(η)×(Y η)×(Y η)×(Y η)×(Y η)×(Y η)×(Y η)×(Y η)×(η)×η) (bg x.1.p2 20 (au (vS x.q10) λy3=>(ck (e9 x.1.p3 (ai x.p3)) (aD (x.2.1,(cL x.p2 x.1.2.1 y1),(cL x.p3 x.1.p3 y3),x.p4,x.p5,x.p6,x.p7,x.p8,x.p9,x.q10)))) (jn (bg x.1.p2 7 (aD ((decide ((x.1.p2:Int)=7)),x.2.1,(cL x.p2 x.1.2.1 y1),x.p3,x.p4,x.p5,x.p6,x.p7,x.p8,x.p9,x.q10,(x.1.1.1,x.1.1.2.1,x.1.1.p2,x.1.1.p3,x.1.1.p4,x.1.1.q5),x.1.2.1,x.1.p2,x.1.p3,x.1.p4,x.1.p5,x.1.p6,x.1.q7)) (aD ((decide ((x.1.p2:Int)=11)),x.2.1,(cL x.p2 x.1.2.1 y1),x.p3,x.p4,x.p5,x.p6,x.p7,x.p8,x.p9,x.q10,(x.1.1.1,x.1.1.2.1,x.1.1.p2,x.1.1.p3,x.1.1.p4,x.1.1.q5),x.1.2.1,x.1.p2,x.1.p3,x.1.p4,x.1.p5,x.1.p6,x.1.q7))) λa=>(aF a.1 (au (ml (a.p14,a.p4,a.p10)) λy5=>(bB (aB (ai a.p10) (ai y5.2)&&(aB (ai a.p4) (ai y5.1)&&J)) (aD (a.2.1,a.p2,a.p3,y5.1,a.p5,a.p6,a.p7,a.p8,a.p9,y5.2)))) (bg x.1.p2 9 (au (ml (a.p14,a.p5,a.p10)) λy6=>(bB (aB (ai a.p10) (ai y6.2)&&(aB (ai a.p5) (ai y6.1)&&J)) (aD (a.2.1,a.p2,a.p3,a.p4,y6.1,a.p6,a.p7,a.p8,a.p9,y6.2)))) (bg x.1.p2 16 (ck (e9 a.p12 (ai a.p9)) (wQ a.p14 a.p11.p2 (au (ml ((aJ (T:=mw) a.p11.p2 a.p14).2,a.p4,a.p10)) λy7=>(bB (aB (ai a.p10) (ai y7.2)&&(aB (ai a.p4) (ai y7.1)&&J)) (aD (a.2.1,a.p2,a.p3,y7.1,a.p5,a.p6,a.p7,a.p8,(cL a.p9 a.p12 a.p14),y7.2)))))) (bg x.1.p2 4 (wQ a.p14 a.p11.1 (aF (((((aJ (T:=k_) a.p11.1 a.p14).2).2).2).1) (au (ml (a.p14,a.p6,a.p10)) λy8=>(bB (aB (ai a.p10) (ai y8.2)&&(aB (ai a.p6) (ai y8.1)&&J)) (aD (a.2.1,a.p2,a.p3,a.p4,a.p5,y8.1,a.p7,a.p8,a.p9,y8.2)))) (aD (a.2.1,a.p2,a.p3,a.p4,a.p5,a.p6,a.p7,a.p8,a.p9,a.p10)))) (bg x.1.p2 22 (au (ml (a.p14,a.p7,a.p10)) λy9=>(bB (aB (ai a.p10) (ai y9.2)&&(aB (ai a.p7) (ai y9.1)&&J)) (aD (a.2.1,a.p2,a.p3,a.p4,a.p5,a.p6,y9.1,a.p8,a.p9,y9.2)))) (bg x.1.p2 13 (au (CG (a.2.1,a.p10)) λy10=>(aD (y10,a.p2,a.p3,a.p4,a.p5,a.p6,a.p7,a.p8,a.p9,a.p10))) (bg x.1.p2 18 (jn (iZ 0 a.p15 (aD ((fP a.p15 (aX a.p8)),a.2.1,a.p2,a.p3,a.p4,a.p5,a.p6,a.p7,a.p8,a.p9,a.p10,a.p12,a.p13,a.p14,a.p15,a.p16,a.p17,a.q18)) (aD (af,a.2.1,a.p2,a.p3,a.p4,a.p5,a.p6,a.p7,a.p8,a.p9,a.p10,a.p12,a.p13,a.p14,a.p15,a.p16,a.p17,a.q18))) λz=>(aF z.1 (au (xf (z.p14,z.2.1,z.p2,z.p3,z.p4,z.p5,z.p6,z.p7,z.p8,z.p9,z.p10)) λL=>(bB (aB (ai z.p10) (ai L.q9)&&(aB (ai z.p9) (ai L.p8)&&(aB (ai z.p8) (ai L.p7)&&(aB (ai z.p7) (ai L.p6)&&(aB (ai z.p6) (ai L.p5)&&(aB (ai z.p5) (ai L.p4)&&(aB (ai z.p4) (ai L.p3)&&(aB (ai z.p3) (ai L.p2)&&(aB (ai z.p2) (ai L.2.1)&&J))))))))) (aD (L.1,L.2.1,L.p2,L.p3,L.p4,L.p5,L.p6,L.p7,L.p8,L.q9)))) (aD (z.2.1,z.p2,z.p3,z.p4,z.p5,z.p6,z.p7,z.p8,z.p9,z.p10)))) (bg x.1.p2 19 (it (Int×(η)×(Y η)×(Y η)×(Y η)×(Y η)×(Y η)×(Y η)×(Y η)×(η)×(η)×Int×Int×Int×Int×Int×(η)×η) _ (λs=>(bw s.1 (aX a.p9) (jn (ck (e9 s.1 (ai s.p9)) (bg (aJ (T:=aL) s.p9 s.1) s.p13 (au (xf (s.1,s.2.1,s.p2,s.p3,s.p4,s.p5,s.p6,s.p7,s.p8,s.p9,s.p10)) λA=>(bB (aB (ai s.p10) (ai A.q9)&&(aB (ai s.p9) (ai A.p8)&&(aB (ai s.p8) (ai A.p7)&&(aB (ai s.p7) (ai A.p6)&&(aB (ai s.p6) (ai A.p5)&&(aB (ai s.p5) (ai A.p4)&&(aB (ai s.p4) (ai A.p3)&&(aB (ai s.p3) (ai A.p2)&&(aB (ai s.p2) (ai A.2.1)&&J))))))))) (aD (A.1,A.2.1,A.p2,A.p3,A.p4,A.p5,A.p6,A.p7,A.p8,A.q9,s.p11,s.p12,s.p13,s.p14,s.p15,s.p16,s.q17)))) (aD (s.2.1,s.p2,s.p3,s.p4,s.p5,s.p6,s.p7,s.p8,s.p9,s.p10,s.p11,s.p12,s.p13,s.p14,s.p15,s.p16,s.q17)))) λU=>(cQ ((cJ s.1),U.1,U.2.1,U.p2,U.p3,U.p4,U.p5,U.p6,U.p7,U.p8,U.p9,U.p10,U.p11,U.p12,U.p13,U.p14,U.p15,U.q16))) (aD (bS (s.2.1,s.p2,s.p3,s.p4,s.p5,s.p6,s.p7,s.p8,s.p9,s.p10))))) (0,a.2.1,a.p2,a.p3,a.p4,a.p5,a.p6,a.p7,a.p8,a.p9,a.p10,a.p12,a.p13,a.p14,a.p15,a.p16,a.p17,a.q18)) (aD (a.2.1,a.p2,a.p3,a.p4,a.p5,a.p6,a.p7,a.p8,a.p9,a.p10)))))))))))) λZ=>(M (Z.1,Z.2.1,Z.p2,Z.p3,Z.p4,Z.p5,Z.p6,Z.p7,Z.p8,Z.q9)))))
def Fo (x:Yd4×(η)×(Y η)×(Y η)×(Y η)×(Y η)×(Y η)×(Y η)×(Y η)×(η)×η):I Yd1:=Ba @iter x
def sa (x:Yd4×(η)×(Y η)×(Y η)×(Y η)×(Y η)×(Y η)×(Y η)×(Y η)×(η)×η):I Yd1:=Ba @gA x
def DX (it:zG) (x:fk×Yd0×Int×Int×Int×Int×Int×(η)×η):I (Yd0×η):=
 (au (uW (x.2.1.1,x.2.1.2.1,x.2.1.p2,x.2.1.p3,x.2.1.p4,x.2.1.p5,x.2.1.p6,x.2.1.p7,x.2.1.q8)) λA=>(ck (e9 x.p2 (ai A.2.1)) (au (uX ((x.p2,x.p3,x.p4,x.p5,x.p6,x.p7,x.q8),A.1,(x.1.1,x.1.2.1,x.1.p2,x.1.p3,x.1.p4,x.1.q5),A.2.1,A.p2,A.p3,A.p4,A.p5,A.p6,A.p7,A.q8)) λs=>(bB (aB (ai A.q8) (ai s.q11)&&(aB (ai A.p7) (ai s.p10)&&(aB (ai A.p6) (ai s.p9)&&(aB (ai A.p5) (ai s.p8)&&(aB (ai A.p4) (ai s.p7)&&(aB (ai A.p3) (ai s.p6)&&(aB (ai A.p2) (ai s.p5)&&(aB (ai A.2.1) (ai s.p4)&&J)))))))) (it (Int×fk×ja×(η)×(η)×(Y η)×(Y η)×(Y η)×(Y η)×(Y η)×(Y η)×(Y η)×η) _ (λa=>(bw a.1 (aX s.1) (wQ a.1 s.1 (au (kJ (a.p4,(aJ (T:=(.sl aL)) s.1 a.1))) λU=>(cQ ((cJ a.1),(a.2.1.1,a.2.1.2.1,a.2.1.p2,a.2.1.p3,a.2.1.p4,a.2.1.q5),(a.p2.1,a.p2.2.1,a.p2.p2,a.p2.p3,a.p2.p4,a.p2.p5,a.p2.q6),a.p3,U,a.p5,a.p6,a.p7,a.p8,a.p9,a.p10,a.p11,a.q12)))) (au (au (s_ (a.p4,a.p2.1)) λL=>(au (sa (((a.2.1.1,a.2.1.2.1,a.2.1.p2,a.2.1.p3,a.2.1.p4,a.2.1.q5),a.p2.1,a.p2.2.1,a.p2.p2,a.p2.p3,a.p2.p4,a.p2.p5,a.p2.q6),a.p3,a.p5,a.p6,a.p7,a.p8,a.p9,a.p10,a.p11,a.q12,L)) λz=>(bB (aB (ai L) (ai z.q9)&&(aB (ai a.q12) (ai z.p8)&&(aB (ai a.p11) (ai z.p7)&&(aB (ai a.p10) (ai z.p6)&&(aB (ai a.p9) (ai z.p5)&&(aB (ai a.p8) (ai z.p4)&&(aB (ai a.p7) (ai z.p3)&&(aB (ai a.p6) (ai z.p2)&&(aB (ai a.p5) (ai z.2.1)&&J))))))))) (M ((z.2.1,z.p2,z.p3,z.p4,z.p5,z.p6,z.1,z.p7,z.p8),z.q9))))) λr=>M (bS r)))) (0,(s.p3.1,s.p3.2.1,s.p3.p2,s.p3.p3,s.p3.p4,s.p3.q5),(s.2.1.1,s.2.1.2.1,s.2.1.p2,s.2.1.p3,s.2.1.p4,s.2.1.p5,s.2.1.q6),s.p2,(aJ (T:=(.sl aL)) A.2.1 x.p2),s.p4,s.p5,s.p6,s.p7,s.p8,s.p9,s.p10,s.q11))))))
def JH (x:fk×Yd0×Int×Int×Int×Int×Int×(η)×η):I (Yd0×η):=DX @iter x
def s9 (x:fk×Yd0×Int×Int×Int×Int×Int×(η)×η):I (Yd0×η):=DX @gA x
def uN (x:η):I η:=
 (bB (a8 (ai (x:η)) 8) (M x))
def A_ (it:zG) (x:η×Int):I η:=
 (au (uN x.1) λz=>(jn (bw x.2 0 (aD (J,z)) (aD ((c_ 4 x.2),z))) λs=>(aF s.1 (M s.2) (it η _ (λa=>(iZ (aX a) x.2 (bB (a8 (ai a+ai ([0])) 8) (cQ (a++([0])))) (au (jn (ck (e9 x.2 (ai a)) (bw (aJ (T:=aL) a x.2) 9223372036854775807 (ck (e9 x.2 (ai a)) (ck (e9 x.2 (ai a)) (aD (cL a x.2 (bl .i64 ((aJ (T:=aL) a x.2)+1)))))) (aD a))) λA=>(M A)) λr=>M (bS r)))) s.2))))
def Fl (x:η×Int):I η:=A_ @iter x
def ql (x:η×Int):I η:=A_ @gA x
def Ki (it:zG) (x:η×η):I (Bool):=
 (it (Int) _ (λa=>(bw a (fJ (aX x.1) (aX x.2)) (au (yd (x.1,a)) λz=>(au (yd (x.2,a)) λs=>(bw s z (aD af) (cQ (cJ a))))) (aD J))) 0)
def JG (x:η×η):I (Bool):=Ki @iter x
def wY (x:η×η):I (Bool):=Ki @gA x
def Fq (x:η×η):I (Bool):=
 (jn (au (wY (x.1,x.2)) λs=>(aF s (au (wY (x.2,x.1)) λa=>(aD a)) (aD af))) λz=>(M z))
def rT (x:fk×Int):I (Int):=
 (jn (bw x.2 0 (aD (J,x.1.1,x.1.2.1,x.1.p2,x.1.p3,x.1.p4,x.1.q5)) (aD ((c_ (aX x.1.p2) x.2),x.1.1,x.1.2.1,x.1.p2,x.1.p3,x.1.p4,x.1.q5))) λa=>(aF a.1 (M (-1)) (wQ x.2 a.p3 (M ((aJ (T:=mw) a.p3 x.2).2)))))
def pd (x:fk×Int×Int×Int×Int×Int×(η)×η):I (Int×Bool):=
 (jn (bg x.p2 6 (aD ((decide ((x.p2:Int)=6)),(x.1.1,x.1.2.1,x.1.p2,x.1.p3,x.1.p4,x.1.q5),x.2.1,x.p2,x.p3,x.p4,x.p5,x.p6,x.q7)) (aD ((decide ((x.p2:Int)=10)),(x.1.1,x.1.2.1,x.1.p2,x.1.p3,x.1.p4,x.1.q5),x.2.1,x.p2,x.p3,x.p4,x.p5,x.p6,x.q7))) λa=>(aF a.1 (M (a.p4,af)) (bg x.p2 8 (M (a.p4,J)) (bg x.p2 17 (au (rT ((a.2.1.1,a.2.1.2.1,a.2.1.p2,a.2.1.p3,a.2.1.p4,a.2.1.q5),a.p4)) λs=>(M (s,af))) (M ((-1),af))))))
def o_ (x:fk×Int×Int×Int×Int×Int×(η)×η):I (Int×Bool):=
 (jn (bg x.p2 7 (aD ((decide ((x.p2:Int)=7)),(x.1.1,x.1.2.1,x.1.p2,x.1.p3,x.1.p4,x.1.q5),x.2.1,x.p2,x.p3,x.p4,x.p5,x.p6,x.q7)) (aD ((decide ((x.p2:Int)=11)),(x.1.1,x.1.2.1,x.1.p2,x.1.p3,x.1.p4,x.1.q5),x.2.1,x.p2,x.p3,x.p4,x.p5,x.p6,x.q7))) λa=>(aF a.1 (M (a.p4,af)) (bg x.p2 9 (M (a.p4,J)) (bg x.p2 16 (au (rT ((a.2.1.1,a.2.1.2.1,a.2.1.p2,a.2.1.p3,a.2.1.p4,a.2.1.q5),a.p4)) λs=>(M (s,af))) (M ((-1),af))))))
def sq (it:zG) (x:ζ):I (Bool):=
 (lt (aJ (T:=(.st (.pr .str (.pr .str (.pr .str (.pr .str (.pr .str (.pr .str (.pr .str (.pr .str (.pr .str (.pr .str (.pr .str (.pr .str (.pr .str (.pr .str (.pr .str (.pr .str (.pr .str (.pr .str (.pr .str (.pr .str (.pr .str .str))))))))))))))))))))))) ([kwV]) 0) λa=>(it (Int) _ (λs=>(bw s 22 (bB (c_ 0 s&&fP s 22) (lt (aJ (T:=.str) [a.1,a.2.1,a.p2,a.p3,a.p4,a.p5,a.p6,a.p7,a.p8,a.p9,a.p10,a.p11,a.p12,a.p13,a.p14,a.p15,a.p16,a.p17,a.p18,a.p19,a.p20,a.q21] s) λz=>(aF (decide ((x:ζ)=z)) (aD J) (cQ (cJ s))))) (aD af))) 0))
def rS (x:ζ):I (Bool):=sq @iter x
def lD (x:ζ):I (Bool):=sq @gA x
def wE (it:zG) (x:ζ):I (Bool):=
 (jn (bw (aX x) 1 (aD J) (bw 12 (aX x) (aD J) (au (lD x) λA=>(aD A)))) λU=>(aF U (M af) (it (Y (j9×Unit)) _ (λa=>(aF (gF (PI a) (ai (Rl a))) (bB (fP (Bk (Rl a) (aM (PI a))) 128) (jn (α:=Y (j9×Unit)) (jn (α:=Bool×Y (j9×Unit)) (iZ 97 (Bk (Rl a) (aM (PI a))) (iZ (Bk (Rl a) (aM (PI a))) 122 (aD (J,[(((Rl a),(aM ((PI a)+1))),())])) (iZ 65 (Bk (Rl a) (aM (PI a))) (aD ((c_ (Bk (Rl a) (aM (PI a))) 90),[(((Rl a),(aM ((PI a)+1))),())])) (aD (af,[(((Rl a),(aM ((PI a)+1))),())])))) (iZ 65 (Bk (Rl a) (aM (PI a))) (aD ((c_ (Bk (Rl a) (aM (PI a))) 90),[(((Rl a),(aM ((PI a)+1))),())])) (aD (af,[(((Rl a),(aM ((PI a)+1))),())])))) λs=>(aF s.1 (aD s.2) (jn (bw 0 (aM (PI a)) (bg (Bk (Rl a) (aM (PI a))) 95 (aD (J,s.2)) (iZ 48 (Bk (Rl a) (aM (PI a))) (aD ((c_ (Bk (Rl a) (aM (PI a))) 57),s.2)) (aD (af,s.2)))) (aD (af,s.2))) λz=>(aF z.1 (aD z.2) (cQ (bS af)))))) λL=>(cQ L))) (aD J))) ([((x,0),())]))))
def ww (x:ζ):I (Bool):=wE @iter x
def o8 (x:ζ):I (Bool):=wE @gA x
def yq (it:zG) (x:η×Int):I (Int):=
 (it (Int) _ (λa=>(bw a (aX x.1) (bC aL x.1 a λs=>(bg x.2 s (aD a) (cQ (cJ a)))) (aD (-1)))) 0)
def CC (x:η×Int):I (Int):=yq @iter x
def sd (x:η×Int):I (Int):=yq @gA x
def kU (x:η×Int):I (Bool):=
 (au (sd x) λa=>(M (c_ 0 a)))
def eT (x:η×Int×Int):I (Bool):=
 (au (gR (x.1,x.2.2)) λa=>(M (c_ x.2.1 a)))
def tK (x:ν):I (Bool):=
 (jn (iZ 0 x.1 (aD (fP x.1 x.2)) (aD af)) λa=>(M a))
def tL (x:fk×Int×Bool):I (Bool):=
 (jn (au (tK (x.2.1,(aX x.1.2.1))) λs=>(aF s (bC sC x.1.2.1 x.2.1 λa=>(aD ((a.2==x.2.2) !=af))) (aD af))) λz=>(M z))
def oY (it:zG) (x:Y UH):I (dA×Bool):=
 (it (Int×Y ζ) _ (λz=>(bw z.1 (aX x) (jn (α:=Int×Y ζ) (bC k_ x z.1 λa=>(bB (a8 (ai z.2+ai ([a.1])) 16) (bg a.p2 0 (jk a.2.1 0 (cQ (bS (([]:Y ζ),af))) (aD ((cJ z.1),(z.2++([a.1]))))) (jn (α:=Bool×dA×(ζ)×Int×Int×Bool×Int) (bw a.p2 1 (aD (J,(z.2++([a.1])),a)) (bw 4 a.p2 (aD (J,(z.2++([a.1])),a)) (aF a.p3 (aD (J,(z.2++([a.1])),a)) (aD ((fP (bl .i64 ((aX x)-z.1)) a.p2),(z.2++([a.1])),a))))) λL=>(aF L.1 (cQ (bS (([]:Y ζ),af))) (it (Int×dA×(ζ)×Int×Int×Bool×Int) _ (λs=>(bw s.1 L.p4 (bC k_ x (bl .i64 (z.1+s.1)) λA=>(aF (Rm (.pr .str (.pr aL (.pr aL (.pr .bool (.pr aL .un))))) (A.1,A.2.1,A.p2,A.p3,A.q4,()) (s.p2,s.1,s.p4,s.p5,s.q6,()) !=J) (aD (oh (bS (([]:Y ζ),af)))) (cQ ((cJ s.1),s.2.1,s.p2,s.1,s.q4)))) (aD (bS ((bl .i64 (z.1+s.p4)),s.2.1))))) (0,L.2))))))) λU=>(cQ U)) (aD (z.2,J)))) (0,([]:Y ζ)))
def oU (x:Y UH):I (dA×Bool):=oY @iter x
def ii (x:Y UH):I (dA×Bool):=oY @gA x
def oX (it:zG) (x:fk×Y ζ):I (Bool):=
 (bB (a8 (ai (x.2:Y ζ)) 16) (it (Int×fk×Y ζ) _ (λs=>(bw s.1 (aX x.1.2.1) (bC sC x.1.2.1 s.1 λZ=>(bB (a8 (ai s.2.2+ai ([Z.1])) 16) (cQ ((cJ s.1),s.2.1,(s.2.2++([Z.1])))))) (au (it (Int×fk×Y ζ) _ (λa=>(bw a.1 (aX s.2.1.p2) (bC mw s.2.1.p2 a.1 λU=>(bB (a8 (ai a.2.2+ai ([U.1])) 16) (cQ ((cJ a.1),a.2.1,(a.2.2++([U.1])))))) (au (bB (a8 (ai a.2.2+ai a.2.1.p3) 16) (bB (a8 (ai (a.2.2++a.2.1.p3)+ai a.2.1.p4) 16) (it (Int×ng×Y ζ) _ (λz=>(bw z.1 (aM (ai ((a.2.2++a.2.1.p3)++a.2.1.p4))) (kZ (.str) z.2.2 z.1 λA=>(jn (au (o8 A) λy8=>(aF (!y8) (aD (J,z.2)) (aD ((R5 (K:=.str) (V:=.bool) A z.2.1 af),z.2)))) λL=>(aF L.1 (aD af) (cQ ((cJ z.1),(VV (K:=.str) (V:=.bool) A J L.2.1),L.2.2))))) (aD J))) (0,([]:Y (ζ×Bool)),((a.2.2++a.2.1.p3)++a.2.1.p4))))) λr=>M (bS r)))) (0,s.2)) λr=>M (bS r)))) (0,x)))
def oS (x:fk×Y ζ):I (Bool):=oX @iter x
def dV (x:fk×Y ζ):I (Bool):=oX @gA x
def lw (it:zG) (x:oK×ng×(Y j9)×dA×dA×Y π):I (Bool):=
 (it (π×oK×ng×(Y j9)×dA×dA×Y π) _ (λa=>(bw a.1.2.2 (aX x.q5) (bC qe x.q5 a.1.2.2 λA=>(jn (bw A.1 a.1.1 (aD (J,a.2,A)) (aD ((c_ (aX a.p5) A.1),a.2,A))) λz=>(aF z.1 (aD af) (jn (α:=(ν)×fk×Int×Int×Int) (bw a.1.1 z.p2 (aD ((z.p2,0),z.2)) (aD ((a.1.1,a.1.2.1),z.2))) λs=>(jk s.p3 s.1.2 (aD af) (cQ ((s.1.1,(cJ s.1.2),(cJ a.1.2.2)),s.2.1))))))) (aD J))) ((0,0,0),x))
def oR (x:oK×ng×(Y j9)×dA×dA×Y π):I (Bool):=lw @iter x
def gj (x:oK×ng×(Y j9)×dA×dA×Y π):I (Bool):=lw @gA x
def lx (it:zG) (x:oK×ng×(Y j9)×dA×dA×Y π):I (Bool):=
 (jn (bw 12 (aX x.1) (aD (J,x)) (bw 4 (aX x.2.1) (aD (J,x)) (bw 2 (aX x.p2) (aD (J,x)) (bw 2 (aX x.p3) (aD (J,x)) (aD ((fP 60 (aX x.q5)),x)))))) λz=>(aF z.1 (M af) (jn (bw (aX z.p5) 1 (aD (J,z.2)) (aD ((fP 4 (aX z.p5)),z.2))) λs=>(aF s.1 (M af) (au (ii s.2.1) λL=>(jn (aF (!L.2) (aD (J,s.2)) (au (dV (s.2,L.1)) λy5=>(aD ((!y5),s.2)))) λA=>(aF A.1 (M af) (it Yd3 _ (λa=>(bw a.1 (aX A.p3) (bC mw A.p3 a.1 λU=>(au (tL (a.2,U.2,af)) λy8=>(aF (!y8) (aD af) (cQ ((cJ a.1),a.2))))) (au (au (gj a.2) λZ=>(M Z)) λr=>M (bS r)))) (0,A.2)))))))))
def oV (x:oK×ng×(Y j9)×dA×dA×Y π):I (Bool):=lx @iter x
def dW (x:oK×ng×(Y j9)×dA×dA×Y π):I (Bool):=lx @gA x
def wF (it:zG) (x:oK×ng×(Y j9)×dA×dA×Y π):I tH:=
 (bB (c_ 0 (aX x.2.1)&&c_ (aX x.2.1) (aX x.2.1)&&a8 (aQ (aX x.2.1)) 32) (bB (c_ 0 (aX x.p3)&&c_ (aX x.p3) (aX x.p3)&&a8 (aQ (aX x.p3)) 1) (bB (c_ 0 (aX x.p4)&&c_ (aX x.p4) (aX x.p4)&&a8 (aQ (aX x.p4)) 24) (it (Int×Int×Int×jC×(θ)×Y eA) _ (λa=>(bw a.1 (aM (ai (aA (aQ (aX x.2.1)) ((0,[]):Int×η)))) (ck (e9 a.1 (ai a.p3)) (cQ ((cJ a.1),a.2.1,a.p2,(cL a.p3 a.1 ((-1),(aJ (T:=eB) a.p3 a.1).2)),a.q4))) (au (jn (α:=Int×Int×jC×(θ)×Y eA) (bw 0 (aX a.q5) (ck (e9 0 (ai a.q5)) (aD (a.2.1,a.p2,a.p3,a.p4,(cL a.q5 0 (1,(aJ (T:=iu) a.q5 0).2))))) (aD a.2)) λs=>(M (s.p2,s.2.1,s.q3))) λr=>M (bS r)))) (0,0,(-1),(aA (aQ (aX x.2.1)) ((0,[]):Int×η)),(aA (aQ (aX x.p3)) (af:Bool)),(aA (aQ (aX x.p4)) ((0,(0,af)):Int×Int×Bool)))))))
def wz (x:oK×ng×(Y j9)×dA×dA×Y π):I tH:=wF @iter x
def pf (x:oK×ng×(Y j9)×dA×dA×Y π):I tH:=wF @gA x
def rh (it:zG) (x:oK×ng×(Y j9)×dA×dA×Y π):I gx:=
 (au (pf x) λz=>(bB (c_ 0 0&&c_ 0 (aX x.1)&&a8 (aQ (aX x.1)) 8) (bB (c_ 0 (aX x.p3)&&c_ (aX x.p3) (aX x.p3)&&a8 (aQ (aX x.p3)) 8) (bB (c_ 0 (aX x.p4)&&c_ (aX x.p4) (aX x.p4)&&a8 (aQ (aX x.p4)) 8) (it (Int×Int×tH×(η)×(η)×η) _ (λa=>(bw a.1 (aX x.1) (bC k_ x.1 a.1 λs=>(bB (a8 (ai a.p3+ai ([s.q4])) 8) (cQ ((cJ a.1),a.2.1,a.p2,(a.p3++([s.q4])),a.q4)))) (aD a.2.2))) (0,0,z,(aA (aQ 0) (0:Int)),(aA (aQ (aX x.p3)) (0:Int)),(aA (aQ (aX x.p4)) (0:Int))))))))
def qM (x:oK×ng×(Y j9)×dA×dA×Y π):I gx:=rh @iter x
def dC (x:oK×ng×(Y j9)×dA×dA×Y π):I gx:=rh @gA x
def kM (it:zG) (x:θ×Int×Int×Int×Int×Int×(η)×η):I (Bool):=
 (it (Int) _ (λa=>(bw a 2 (bB (c_ 0 a&&fP a 2) (lt (aJ (T:=(.sl aL)) [x.p6,x.q7] a) λA=>(it (Int) _ (λz=>(bw z (aX A) (bC aL A z λs=>(jn (bw s 0 (aD J) (iZ (aX x.1) s (aD J) (bC (.bool) x.1 s λL=>(aD (!L))))) λU=>(aF U (aD (bS af)) (cQ (cJ z))))) (aD (oh (cJ a))))) 0))) (aD J))) 0)
def nD (x:θ×Int×Int×Int×Int×Int×(η)×η):I (Bool):=kM @iter x
def cu (x:θ×Int×Int×Int×Int×Int×(η)×η):I (Bool):=kM @gA x
def fm (x:ν):I (Bool):=
 (jn (iZ 0 x.1 (aD (fP x.1 x.2)) (aD af)) λa=>(M a))
def mC (x:fk×Int×Int):I (Bool):=
 (jn (bg x.2.1 1 (aD ((decide ((x.2.1:Int)=1)),x.1)) (bg x.2.1 2 (aD ((decide ((x.2.1:Int)=2)),x.1)) (bg x.2.1 5 (aD ((decide ((x.2.1:Int)=5)),x.1)) (bg x.2.1 12 (aD ((decide ((x.2.1:Int)=12)),x.1)) (bg x.2.1 13 (aD ((decide ((x.2.1:Int)=13)),x.1)) (bg x.2.1 14 (aD ((decide ((x.2.1:Int)=14)),x.1)) (aD ((decide ((x.2.1:Int)=15)),x.1)))))))) λx1=>(aF x1.1 (M (decide ((x.2.2:Int)=(-1)))) (jn (bg x.2.1 3 (aD ((decide ((x.2.1:Int)=3)),x1.2)) (aD ((decide ((x.2.1:Int)=4)),x1.2))) λU=>(aF U.1 (au (fm (x.2.2,(aX U.2.1))) λy3=>(M y3)) (jn (bg x.2.1 6 (aD ((decide ((x.2.1:Int)=6)),U.2)) (aD ((decide ((x.2.1:Int)=7)),U.2))) λA=>(aF A.1 (jn (au (fm (x.2.2,(aX A.p2))) λy6=>(aF y6 (bC sC A.p2 x.2.2 λz7=>(aD (!z7.2))) (aD af))) λx5=>(M x5)) (jn (bg x.2.1 8 (aD ((decide ((x.2.1:Int)=8)),A.2)) (bg x.2.1 9 (aD ((decide ((x.2.1:Int)=9)),A.2)) (bg x.2.1 10 (aD ((decide ((x.2.1:Int)=10)),A.2)) (aD ((decide ((x.2.1:Int)=11)),A.2))))) λz=>(aF z.1 (jn (au (fm (x.2.2,(aX z.p2))) λy10=>(aF y10 (bC sC z.p2 x.2.2 λZ=>(aD Z.2)) (aD af))) λx9=>(M x9)) (jn (bg x.2.1 16 (aD ((decide ((x.2.1:Int)=16)),z.2)) (bg x.2.1 17 (aD ((decide ((x.2.1:Int)=17)),z.2)) (bg x.2.1 18 (aD ((decide ((x.2.1:Int)=18)),z.2)) (aD ((decide ((x.2.1:Int)=19)),z.2))))) λs=>(aF s.1 (au (fm (x.2.2,(aX s.p3))) λy13=>(M y13)) (jn (bg x.2.1 20 (aD ((decide ((x.2.1:Int)=20)),s.2)) (aD ((decide ((x.2.1:Int)=21)),s.2))) λa=>(aF a.1 (au (fm (x.2.2,(aX a.p5))) λy15=>(M y15)) (jn (bg x.2.1 22 (aD ((decide ((x.2.1:Int)=22)),a.2)) (aD ((decide ((x.2.1:Int)=23)),a.2))) λL=>(aF L.1 (au (fm (x.2.2,(aX L.p4))) λy17=>(M y17)) (M af)))))))))))))))
def ul (it:zG) (x:fk×jC×Int×(θ)×Y eA):I (Bool):=
 (jn (jk (aX x.2.1) (aX x.1.2.1) (aD (J,x.1)) (jk (aX x.p3) (aX x.1.p3) (aD (J,x.1)) (aD ((!decide (((aX x.q4):Int)=(aX x.1.p4))),x.1)))) λs=>(aF s.1 (M af) (it Yd3 _ (λa=>(bw a.1 (aX s.p3) (bC mw s.p3 a.1 λz=>(au (fm (z.2,(aX a.p2))) λA=>(aF (!A) (aD af) (cQ ((cJ a.1),a.2))))) (aD J))) (0,s.2))))
def ya (x:fk×jC×Int×(θ)×Y eA):I (Bool):=ul @iter x
def kF (x:fk×jC×Int×(θ)×Y eA):I (Bool):=ul @gA x
def pe (x:fk×tH×Int×Int×Int):I (Bool):=
 (bg x.p3 6 (bC eB x.2.1.1 x.q4 λz1=>(M (decide ((z1.1:Int)=(-1))))) (bg x.p3 10 (jn (α:=Bool) (bC eB x.2.1.1 x.q4 λz3=>(bg z3.1 (-1) (bC eB x.2.1.1 x.q4 λz4=>(aD (decide (((aX z4.2):Int)=0)))) (aD af))) λx2=>(M x2)) (bg x.p3 8 (jn (α:=Bool) (bC eB x.2.1.1 x.q4 λz6=>(bg z6.1 (-1) (bC eB x.2.1.1 x.q4 λz7=>(au (kU (z7.2,x.p2)) λy8=>(aD (!y8)))) (aD af))) λx5=>(M x5)) (jn (bg x.p3 7 (aD ((decide ((x.p3:Int)=7)),x.1,x.2.1)) (aD ((decide ((x.p3:Int)=11)),x.1,x.2.1))) λs=>(aF s.1 (bC eB s.p2 x.q4 λz10=>(M (decide ((z10.1:Int)=x.p2)))) (bg x.p3 9 (bC eB s.p2 x.q4 λz11=>(au (kU (z11.2,x.p2)) λy12=>(M y12))) (bg x.p3 12 (M (decide ((s.p3:Int)=(-1)))) (bg x.p3 13 (M (decide ((s.p3:Int)=x.p2))) (bg x.p3 14 (bC iu s.q5 x.p2 λz13=>(M (!z13.2.2))) (bg x.p3 15 (bC iu s.q5 x.p2 λz14=>(M z14.2.2)) (jn (bg x.p3 16 (aD ((decide ((x.p3:Int)=16)),s.2)) (bg x.p3 18 (aD ((decide ((x.p3:Int)=18)),s.2)) (aD ((decide ((x.p3:Int)=19)),s.2)))) λa=>(aF a.1 (bC mw a.2.1.p2 x.q4 λz16=>(bC eB a.p2 z16.2 λZ=>(M (decide ((Z.1:Int)=x.p2))))) (bg x.p3 20 (jn (jk x.q4 x.p2 (bC iu a.q5 x.q4 λU=>(aD (decide ((U.1:Int)=0)))) (aD af)) λx18=>(M x18)) (bg x.p3 21 (jn (jk x.q4 x.p2 (bC iu a.q5 x.q4 λL=>(aD (decide ((L.1:Int)=5)))) (aD af)) λx20=>(M x20)) (bg x.p3 22 (bC (.bool) a.p4 x.q4 λA=>(M (!A))) (bg x.p3 23 (bC (.bool) a.p4 x.q4 λz=>(M z)) (M J)))))))))))))))))
def jv (x:fk×tH×Int×Int×Int):I (Bool):=
 (jn (au (kF (x.1,x.2.1)) λy2=>(aF (!y2) (aD (J,x.1,x.2.1)) (au (fm (x.p2,(aX x.1.p4))) λZ=>(aF (!Z) (aD (J,x.1,x.2.1)) (au (mC (x.1,x.q3)) λU=>(aD ((!U),x.1,x.2.1))))))) λa=>(aF a.1 (M af) (bC iu a.q5 x.p2 λs=>(bg x.p3 1 (M (decide ((s.1:Int)=1))) (bg x.p3 17 (jn (α:=Bool) (bg s.1 4 (bg s.2.1 x.q4 (bC mw a.2.1.p2 x.q4 λL=>(bC eB a.p2 L.2 λA=>(aD (decide ((A.1:Int)=(-1)))))) (aD af)) (aD af)) λx6=>(M x6)) (jn (bg s.1 2 (au (pe (a.2.1,a.2.2,x.2.2)) λz=>(aD z)) (aD af)) λx9=>(M x9)))))))
def lB (x:fk×tH×(η)×(η)×η):I (Bool):=
 (jn (au (kF (x.1,x.2.1)) λa=>(aF a (bg (aX x.p2) (aX x.1.1) (bg (aX x.p3) (aX x.1.p3) (aD (decide (((aX x.q4):Int)=(aX x.1.p4)))) (aD af)) (aD af)) (aD af))) λs=>(M s))
def jQ (x:fk×Int×Int×Int×Int×Int×(η)×η):I (Bool):=
 (jn (bg x.p2 1 (aD (J,x)) (aD ((decide ((x.p2:Int)=2)),x))) λa=>(aF a.1 (M (decide ((a.p6:Int)=(-1)))) (jn (iZ 0 a.p6 (bw a.p6 (aX a.2.1.q5) (bC qe a.2.1.q5 a.p6 λs=>(aD (decide ((s.1:Int)=a.p2)))) (aD af)) (aD af)) λz=>(M z))))
def jH (it:zG) (x:fk×gx×Int×Int×Int×Int×Int×(η)×η):I (Bool):=
 (jn (bg x.p3 3 (bC k_ x.1.1 x.p4 λz2=>(aD ((!decide ((z2.2.2.1:Int)=0)),x.2))) (bg x.p3 4 (bC k_ x.1.1 x.p4 λz3=>(aD ((!decide ((z3.2.2.1:Int)=0)),x.2))) (aD (af,x.2)))) λa=>(jn (bg a.p3 5 (bg a.p3 4 (aD (a.2.1,a.2.2,J,J)) (aD (a.2.1,a.2.2,J,(decide ((a.p3:Int)=22))))) (bg a.p3 4 (aD (a.2.1,a.2.2,a.1,J)) (aD (a.2.1,a.2.2,a.1,(decide ((a.p3:Int)=22)))))) λx4=>(it (Int×gx×ja×Bool×Bool) _ (λs=>(bw s.1 2 (bB (c_ 0 s.1&&fP s.1 2) (lt (aJ (T:=(.sl aL)) [x4.2.1.p5,x4.2.1.q6] s.1) λU=>(jn (α:=Bool×gx×ja×Bool×Bool) (bw 0 (aX U) (bB (c_ 0 s.1&&fP s.1 2) (bB (e9 s.1 2) (lt (aJ (T:=.bool) [s.p3,s.q4] s.1) λz8=>(aD ((!z8),s.2))))) (aD (af,s.2))) λx7=>(aF x7.1 (aD af) (it (ν×gx×ja×Bool×Bool) _ (λz=>(bw z.1.2 (aX U) (bC aL U z.1.2 λA=>(jn (iZ A z.1.1 (aD (J,z.2)) (bC aL z.2.1.q3 z.p2.1 λZ=>(aD ((c_ Z A),z.2)))) λL=>(aF L.1 (aD (bS af)) (cQ ((A,(cJ z.1.2)),L.2))))) (aD (oh ((cJ s.1),z.2))))) ((0,0),x7.2)))))) (aD J))) (0,x4))))
def mh (x:fk×gx×Int×Int×Int×Int×Int×(η)×η):I (Bool):=jH @iter x
def fd (x:fk×gx×Int×Int×Int×Int×Int×(η)×η):I (Bool):=jH @gA x
def mn (it:zG) (x:gx×Int×Int×Int×Int×Int×(η)×η):I (Bool):=
 (bg x.p2 3 (bC aL x.1.2.1 x.p3 λz1=>(M (decide ((x.p4:Int)=z1)))) (bg x.p2 23 (bC aL x.1.p2 x.p3 λz2=>(M (decide ((x.p4:Int)=z2)))) (bg x.p2 5 (jn (bg x.p4 0 (aD J) (aD (decide ((x.p4:Int)=1)))) λx3=>(M x3)) (jn (bg x.p2 4 (aD ((decide ((x.p2:Int)=4)),x)) (aD ((decide ((x.p2:Int)=22)),x))) λz=>(aF z.1 (M J) (bg x.p2 18 (it ((Int×Bool×Int)×Int×Int×Int×Int×Int×(η)×η) _ (λs=>(bw s.1.2.2 (aX z.2.1.1.q3) (jn (bC iu z.2.1.1.q3 s.1.2.2 λz7=>(jn (bg z7.1 3 (aD ((decide ((z7.2.1:Int)=s.p3)),s.2)) (aD (af,s.2))) λU=>(aF U.1 (aF s.1.2.1 (aD (((cJ s.1.1),J),U.2)) (aD (((cJ s.1.1),(decide ((U.p4:Int)=s.1.2.2))),U.2))) (aD ((s.1.1,s.1.2.1),U.2))))) λx6=>(cQ ((x6.1.1,x6.1.2,(cJ s.1.2.2)),x6.2))) (au (jn (α:=Bool) (aF s.1.2.1 (aD J) (bg s.1.1 0 (aD (decide ((s.p4:Int)=(-1)))) (aD af))) λx9=>(M x9)) λr=>M (bS r)))) ((0,af,0),z.2.2)) (bg x.p2 19 (it (ν×Int×Int×Int×Int×Int×(η)×η) _ (λa=>(bw a.1.2 (aX z.2.1.1.q3) (jn (bC iu z.2.1.1.q3 a.1.2 λL=>(jn (bg L.1 3 (aD ((decide ((L.2.1:Int)=a.p3)),a.2)) (aD (af,a.2))) λA=>(aF A.1 (aD ((cJ a.1.1),A.2)) (aD (a.1.1,A.2))))) λZ=>(cQ ((Z.1,(cJ a.1.2)),Z.2))) (aD (decide ((a.p4:Int)=a.1.1))))) ((0,0),z.2.2)) (M (decide ((z.p5:Int)=0))))))))))
def pJ (x:gx×Int×Int×Int×Int×Int×(η)×η):I (Bool):=mn @iter x
def gK (x:gx×Int×Int×Int×Int×Int×(η)×η):I (Bool):=mn @gA x
def mP (x:eA×Int):I (Bool):=
 (jn (bg x.1.1 3 (aD (decide ((x.1.2.1:Int)=x.2))) (aD af)) λa=>(M a))
def JO (x:θ):I θ:=
 (aF (aB (ai x) 0) (Gg (M ([]:θ)) (bB (a8 (ai ([]:θ)+ai x) 1) (M (([]:θ)++x)))) (bB (a8 (ai ([]:θ)+ai x) 1) (M (([]:θ)++x))))
def PC (x:θ):I θ:=chk (a8 (ai x) 1) λ_=>M x
def Fu (x:θ):I θ:=
 (aF (aB (ai x) 0) (Gg (M ([]:θ)) (bB (a8 (ai ([]:θ)+ai x) 1) (M (([]:θ)++x)))) (bB (a8 (ai ([]:θ)+ai x) 1) (M (([]:θ)++x))))
def JN (x:θ):I θ:=chk (a8 (ai x) 1) λ_=>M x
def JL (x:Y eA):I (Y eA):=
 (aF (aB (ai x) 0) (Gg (M ([]:Y eA)) (bB (a8 (ai ([]:Y eA)+ai x) 24) (M (([]:Y eA)++x)))) (bB (a8 (ai ([]:Y eA)+ai x) 24) (M (([]:Y eA)++x))))
def PA (x:Y eA):I (Y eA):=chk (a8 (ai x) 24) λ_=>M x
def Fs (x:Y eA):I (Y eA):=
 (aF (aB (ai x) 0) (Gg (M ([]:Y eA)) (bB (a8 (ai ([]:Y eA)+ai x) 24) (M (([]:Y eA)++x)))) (bB (a8 (ai ([]:Y eA)+ai x) 24) (M (([]:Y eA)++x))))
def JK (x:Y eA):I (Y eA):=chk (a8 (ai x) 24) λ_=>M x
def Ft (x:η):I η:=
 (aF (aB (ai x) 0) (Gg (M ([]:η)) (bB (a8 (ai ([]:η)+ai x) 8) (M (([]:η)++x)))) (bB (a8 (ai ([]:η)+ai x) 8) (M (([]:η)++x))))
def zY (x:η):I η:=chk (a8 (ai x) 8) λ_=>M x
def sQ (it:zG) (x:jC×Int×(θ)×Y eA):I Yd2:=
 (bB (c_ 0 (aX x.1)&&c_ (aX x.1) (aX x.1)&&a8 (aQ (aX x.1)) 32) (it (Int×tH×Int×Y (Int×η)) _ (λa=>(bw a.1 (aX x.1) (bC eB x.1 a.1 λs=>(au (CH s.2) λL=>(ck (e9 a.1 (ai a.q3)) (cQ ((cJ a.1),a.2.1,a.p2,(cL a.q3 a.1 (s.1,L))))))) (au (au (JN a.2.1.p2) λA=>(au (JK a.2.1.q3) λz=>(M (a.2.1.2.1,a.q3,A,z)))) λr=>M (bS r)))) (0,x,0,(aA (aQ (aX x.1)) ((0,[]):Int×η)))))
def wy (x:jC×Int×(θ)×Y eA):I Yd2:=sQ @iter x
def kT (x:jC×Int×(θ)×Y eA):I Yd2:=sQ @gA x
def rk (it:zG) (x:π×jC×(θ)×Y eA):I Yd2:=
 (it (ν×jC×(θ)×(Y eA)×Int) _ (λa=>(bw a.1.2 (aX x.q3) (jn (kZ iu a.p3 a.1.2 λA=>(jn (au (mP (A,x.1.2.1)) λL=>(aF L (bw a.1.1 0 (aD (J,a.2)) (aD ((decide ((a.1.2:Int)=x.1.2.2)),a.2))) (aD (af,a.2)))) λs=>(aF s.1 (aD (a.1.2,s.2)) (aD (a.1.1,s.2))))) λz=>(cQ ((z.1,(cJ a.1.2)),z.2))) (au (jn (α:=jC×(θ)×Y eA) (iZ 0 a.1.1 (ck (e9 a.1.1 (ai a.p3)) (aD (a.2.1,a.p2,(cL a.p3 a.1.1 (4,(aJ (T:=iu) a.p3 a.1.1).2))))) (aD (a.2.1,a.p2,a.p3))) λU=>(M (a.1.1,U))) λr=>M (bS r)))) (((-1),0),x.2.1,x.p2,x.q3,x.1.1))
def uI (x:π×jC×(θ)×Y eA):I Yd2:=rk @iter x
def jV (x:π×jC×(θ)×Y eA):I Yd2:=rk @gA x
def mZ (it:zG) (x:ν×jC×(θ)×Y eA):I Yd2:=
 (it (ν×jC×(θ)×(Y eA)×Int) _ (λa=>(bw a.1.2 (aX x.q3) (jn (α:=Int×jC×(θ)×(Y eA)×Int) (kZ iu a.p3 a.1.2 λz=>(au (mP (z,x.1.2)) λA=>(aF A (ck (e9 a.1.2 (ai a.p3)) (aD ((cJ a.1.1),a.2.1,a.p2,(cL a.p3 a.1.2 (4,(aJ (T:=iu) a.p3 a.1.2).2)),a.q4))) (aD (a.1.1,a.2))))) λs=>(cQ ((s.1,(cJ a.1.2)),s.2))) (aD (a.1.1,a.2.1,a.p2,a.p3)))) ((0,0),x.2.1,x.p2,x.q3,x.1.1))
def qN (x:ν×jC×(θ)×Y eA):I Yd2:=mZ @iter x
def h_ (x:ν×jC×(θ)×Y eA):I Yd2:=mZ @gA x
def qY (x:Int):I (Bool):=
 (M (!decide ((x:Int)=x)))
def wB (x:ν):I (Bool):=
 (jn (au (qY x.1) λs=>(aF s (au (qY x.2) λa=>(aF (!a) (aD J) (aD (fP x.1 x.2)))) (aD (fP x.1 x.2)))) λz=>(M z))
def r9 (x:Int):I (Int):=
 (iZ 4294967296 x D (iZ 65536 x D (iZ 256 x D (wQ (bl .u8 x) ([0,1,2,2,3,3,3,3,4,4,4,4,4,4,4,4,5,5,5,5,5,5,5,5,5,5,5,5,5,5,5,5,6,6,6,6,6,6,6,6,6,6,6,6,6,6,6,6,6,6,6,6,6,6,6,6,6,6,6,6,6,6,6,6,7,7,7,7,7,7,7,7,7,7,7,7,7,7,7,7,7,7,7,7,7,7,7,7,7,7,7,7,7,7,7,7,7,7,7,7,7,7,7,7,7,7,7,7,7,7,7,7,7,7,7,7,7,7,7,7,7,7,7,7,7,7,7,7,8,8,8,8,8,8,8,8,8,8,8,8,8,8,8,8,8,8,8,8,8,8,8,8,8,8,8,8,8,8,8,8,8,8,8,8,8,8,8,8,8,8,8,8,8,8,8,8,8,8,8,8,8,8,8,8,8,8,8,8,8,8,8,8,8,8,8,8,8,8,8,8,8,8,8,8,8,8,8,8,8,8,8,8,8,8,8,8,8,8,8,8,8,8,8,8,8,8,8,8,8,8,8,8,8,8,8,8,8,8,8,8,8,8,8,8,8,8,8,8,8,8,8,8,8,8,8,8]) (M (bl .i64 (0+(bl .i64 (Bk ([0,1,2,2,3,3,3,3,4,4,4,4,4,4,4,4,5,5,5,5,5,5,5,5,5,5,5,5,5,5,5,5,6,6,6,6,6,6,6,6,6,6,6,6,6,6,6,6,6,6,6,6,6,6,6,6,6,6,6,6,6,6,6,6,7,7,7,7,7,7,7,7,7,7,7,7,7,7,7,7,7,7,7,7,7,7,7,7,7,7,7,7,7,7,7,7,7,7,7,7,7,7,7,7,7,7,7,7,7,7,7,7,7,7,7,7,7,7,7,7,7,7,7,7,7,7,7,7,8,8,8,8,8,8,8,8,8,8,8,8,8,8,8,8,8,8,8,8,8,8,8,8,8,8,8,8,8,8,8,8,8,8,8,8,8,8,8,8,8,8,8,8,8,8,8,8,8,8,8,8,8,8,8,8,8,8,8,8,8,8,8,8,8,8,8,8,8,8,8,8,8,8,8,8,8,8,8,8,8,8,8,8,8,8,8,8,8,8,8,8,8,8,8,8,8,8,8,8,8,8,8,8,8,8,8,8,8,8,8,8,8,8,8,8,8,8,8,8,8,8,8,8,8,8,8,8]) (bl .u8 x))))))))))
def uV (x:Int):I (Int):=
 (au (r9 x) λa=>(M a))
def kq (it:zG) (x:ν×η):I η:=
 (it (Int×η) _ (λz=>(bw z.1 x.1.2 (it (Int×η) _ (λa=>(jn (bw x.1.1 a.1 (kZ aL a.2 a.1 λZ=>(kZ aL a.2 (bl .i64 (a.1-1)) λU=>(au (wB (Z,U)) λy6=>(aD (y6,a.2))))) (aD (af,a.2))) λs=>(aF s.1 (kZ aL s.2 (bl .i64 (a.1-1)) λA=>(kZ aL s.2 a.1 λL=>(ck (e9 a.1 (ai s.2)) (ck (e9 (bl .i64 (a.1-1)) (ai (cL s.2 a.1 A))) (cQ ((bl .i64 (a.1-1)),(cL (cL s.2 a.1 A) (bl .i64 (a.1-1)) L))))))) (aD (oh ((cJ z.1),s.2)))))) z) (aD z.2))) ((cJ x.1.1),x.2))
def ko (x:ν×η):I η:=kq @iter x
def gg (x:ν×η):I η:=kq @gA x
def oW (it:zG) (x:π×η):I η:=
 (it ((Int×Int×Int×Bool×Bool)×η) _ (λa=>(iZ (bl .i64 (a.1.2.1-a.1.1)) 12 (au (gg ((a.1.1,a.1.2.1),a.2)) λs=>(bB (aB (ai a.2) (ai s)&&J) (aD s))) (bg a.1.p2 0 D (aF (!a.1.p3) D D)))) ((x.1.1,x.1.2.1,x.1.2.2,J,J),x.2))
def oP (x:π×η):I η:=oW @iter x
def jA (x:π×η):I η:=oW @gA x
def xh (x:η):I η:=
 (au (uV (bl .u64 (aX x))) λs=>(au (jA ((0,(aX x),s),x)) λa=>(bB (aB (ai x) (ai a)&&J) (M a))))
def yr (it:zG) (x:η):I η:=
 (bw (aX x) 2 (M x) (it (Int×η) _ (λa=>(bw a.1 (aX a.2) (kZ aL a.2 a.1 λz=>(kZ aL a.2 (bl .i64 (a.1-1)) λs=>(bg z s (bB (c_ 0 a.1&&fP a.1 (ai a.2)) D) (cQ ((cJ a.1),a.2))))) (aD a.2))) (1,x)))
def yc (x:η):I η:=yr @iter x
def mm (x:η):I η:=yr @gA x
def px (x:ν):I (Bool×Int):=
 (M ((decide ((x.1:Int)=x.2)),x.2))
def vj (it:zG) (x:η×Int):I (Int×(η)×Int):=
 (it (Int×(η)×Int) _ (λa=>(bw a.1 (aX x.1) (kZ aL a.2.1 a.1 λz=>(au (px (z,a.2.2)) λs=>(aF s.1 (aD (a.1,a.2.1,s.2)) (cQ ((cJ a.1),a.2.1,s.2))))) (aD ((-1),a.2)))) (0,x))
def uJ (x:η×Int):I (Int×(η)×Int):=vj @iter x
def nX (x:η×Int):I (Int×(η)×Int):=vj @gA x
def tO (it:zG) (x:η×Int):I (Int×η):=
 (au (nX x) λs=>(bB (aB (ai x.1) (ai s.2.1)&&J) (bg s.1 (-1) D (it (ν×(η)×Int) _ (λa=>(bw a.1.2 (aX a.2.1) (jn (kZ aL a.2.1 a.1.2 λA=>(au (px (A,a.2.2)) λz=>(aF (!z.1) (ck (e9 a.1.1 (ai a.2.1)) (aD ((cJ a.1.1),(cL a.2.1 a.1.1 A),z.2))) (aD (a.1.1,a.2.1,z.2))))) λL=>(cQ ((L.1,(cJ a.1.2)),L.2))) (au (ck (c_ 0 a.1.1&&fP a.1.1 (ai a.2.1)) (bB (c_ 0 a.1.1&&fP a.1.1 (ai (dQ (aQ a.1.1) a.2.1++aA (ai a.2.1-aQ a.1.1) (0:Int)))) (M (a.2.2,(dQ (aQ a.1.1) (dQ (aQ a.1.1) a.2.1++aA (ai a.2.1-aQ a.1.1) (0:Int))))))) λr=>M (bS r)))) ((s.1,(cJ s.1)),s.2)))))
def tJ (x:η×Int):I (Int×η):=tO @iter x
def jw (x:η×Int):I (Int×η):=tO @gA x
def ia (x:fk×tH×Int×Int×Int×Int):I (tH×Int×Bool):=
 (au (jv (x.1,x.2.1,x.p2,x.p3,x.p4)) λy1=>(aF (!y1) (M ((([]:Y (Int×η)),0,([]:θ),([]:Y eA)),0,af)) (au (kT x.2.1) λs=>(jn (α:=Int×Int×Int×jC×(θ)×Y eA) (bg x.p3 1 (ck (e9 x.p2 (ai s.q3)) (aD (0,s.1,0,s.2.1,s.p2,(cL s.q3 x.p2 (2,(aJ (T:=iu) s.q3 x.p2).2))))) (bg x.p3 2 (ck (e9 x.p2 (ai s.q3)) (aD (0,s.1,0,s.2.1,s.p2,(cL s.q3 x.p2 (5,(aJ (T:=iu) s.q3 x.p2).2))))) (jn (α:=Bool×fk×Int×Int×Int×jC×(θ)×Y eA) (bg x.p3 6 (aD ((decide ((x.p3:Int)=6)),x.1,s.1,x.p2,0,s.2)) (aD ((decide ((x.p3:Int)=10)),x.1,s.1,x.p2,0,s.2))) λL=>(aF L.1 (ck (e9 x.p4 (ai L.p5)) (aD (0,L.p2,L.p4,(cL L.p5 x.p4 (L.p3,(aJ (T:=eB) L.p5 x.p4).2)),L.q6))) (jn (bg x.p3 7 (aD ((decide ((x.p3:Int)=7)),L.2)) (aD ((decide ((x.p3:Int)=11)),L.2))) λa=>(aF a.1 (ck (e9 x.p4 (ai a.p5)) (aD (0,a.p2,a.p4,(cL a.p5 x.p4 ((-1),(aJ (T:=eB) a.p5 x.p4).2)),a.q6))) (bg x.p3 8 (kZ eB a.p5 x.p4 λz6=>D) (bg x.p3 9 (kZ eB a.p5 x.p4 λz7=>D) (bg x.p3 12 (aD (0,a.q3)) (bg x.p3 13 (aD (0,(-1),a.q4)) (bg x.p3 14 (ck (e9 a.p3 (ai a.q7)) (aD (0,a.p2,a.p4,a.p5,a.p6,(cL a.q7 a.p3 ((aJ (T:=iu) a.q7 a.p3).1,((aJ (T:=iu) a.q7 a.p3).2).1,J))))) (bg x.p3 15 (ck (e9 a.p3 (ai a.q7)) (aD (0,a.p2,a.p4,a.p5,a.p6,(cL a.q7 a.p3 ((aJ (T:=iu) a.q7 a.p3).1,((aJ (T:=iu) a.q7 a.p3).2).1,af))))) (bg x.p3 16 (bC mw a.2.1.p2 x.p4 λz8=>(ck (e9 z8.2 (ai a.p5)) (ck (e9 a.p3 (ai a.q7)) (ck (e9 a.p3 (ai (cL a.q7 a.p3 (3,(aJ (T:=iu) a.q7 a.p3).2)))) (aD (0,a.p2,a.p4,(cL a.p5 z8.2 ((-1),(aJ (T:=eB) a.p5 z8.2).2)),a.p6,(cL (cL a.q7 a.p3 (3,(aJ (T:=iu) a.q7 a.p3).2)) a.p3 ((aJ (T:=iu) (cL a.q7 a.p3 (3,(aJ (T:=iu) a.q7 a.p3).2)) a.p3).1,x.p4,((aJ (T:=iu) (cL a.q7 a.p3 (3,(aJ (T:=iu) a.q7 a.p3).2)) a.p3).2).2)))))))) (bg x.p3 17 (bC mw a.2.1.p2 x.p4 λZ=>(ck (e9 Z.2 (ai a.p5)) (ck (e9 a.p3 (ai a.q7)) (ck (e9 a.p3 (ai (cL a.q7 a.p3 (2,(aJ (T:=iu) a.q7 a.p3).2)))) (aD (0,a.p2,a.p4,(cL a.p5 Z.2 (a.p3,(aJ (T:=eB) a.p5 Z.2).2)),a.p6,(cL (cL a.q7 a.p3 (2,(aJ (T:=iu) a.q7 a.p3).2)) a.p3 ((aJ (T:=iu) (cL a.q7 a.p3 (2,(aJ (T:=iu) a.q7 a.p3).2)) a.p3).1,0,((aJ (T:=iu) (cL a.q7 a.p3 (2,(aJ (T:=iu) a.q7 a.p3).2)) a.p3).2).2)))))))) (bg x.p3 18 (au (jV ((a.p2,x.q4),a.q5)) λA=>(bB (aB (ai a.q7) (ai A.q3)&&(aB (ai a.p6) (ai A.p2)&&(aB (ai a.p5) (ai A.2.1)&&J))) (aD (A.1,a.p2,a.p4,A.2)))) (bg x.p3 19 (au (h_ ((a.p2,x.p4),a.q5)) λz=>(bB (aB (ai a.q7) (ai z.q3)&&(aB (ai a.p6) (ai z.p2)&&(aB (ai a.p5) (ai z.2.1)&&J))) (aD (z.1,a.p2,a.p4,z.2)))) (bg x.p3 20 (ck (e9 x.p4 (ai a.q7)) (aD (0,a.p2,a.p4,a.p5,a.p6,(cL a.q7 x.p4 (1,(aJ (T:=iu) a.q7 x.p4).2))))) (bg x.p3 22 (ck (e9 x.p4 (ai a.p6)) (aD (0,a.p2,a.p4,a.p5,(cL a.p6 x.p4 J),a.q7))) (aD (0,a.p2,a.q4)))))))))))))))))))) λU=>(M ((U.p3,U.2.1,U.q4),U.1,J))))))
def nW (x:jC×Int×(θ)×Y eA):I (Yd6×(π)×(η)×(η)×η):=
 (bB (c_ 0 (aX x.1)&&c_ (aX x.1) (aX x.1)&&a8 (aQ (aX x.1)) 32&&decide (((aX x.1):Int)=3)) (jn (α:=tH×Int×(π)×(η)×(η)×η) (bw 0 (aX x.1) (bC eB x.1 0 λa=>(au (py a.2) λA=>(bw 1 (aX x.1) (bC eB x.1 1 λz=>(au (py z.2) λy5=>(bw 2 (aX x.1) (bC eB x.1 2 λZ=>(au (py Z.2) λy7=>(bw 3 (aX x.1) (bC eB x.1 3 λz8=>(au (py z8.2) λy9=>D)) (aD (x,0,(a.1,z.1,Z.1),A,y5,y7))))) (aD (x,0,(a.1,z.1,0),A,y5,([]:η)))))) (aD (x,0,(a.1,0,0),A,([]:η),([]:η)))))) (aD (x,0,(0,0,0),([]:η),([]:η),([]:η)))) λs=>(au (PC s.1.p2) λU=>(au (PA s.1.q3) λL=>(M ((s.1.2.1,U,L),s.2.2))))))
def lH (x:fk×tH×Int×Int×Int×Int):I (tH×Int×Bool):=
 (au (jv (x.1,x.2.1,x.p2,x.p3,x.p4)) λy1=>(aF (!y1) (M ((([]:Y (Int×η)),0,([]:θ),([]:Y eA)),0,af)) (au (nW x.2.1) λz=>(jn (α:=Int×Yd6×Int×((Int×η)×(Int×η)×Int)×Bool×η) (bg x.p3 1 (wQ x.p2 z.1.2.2 D) (bg x.p3 2 (wQ x.p2 z.1.2.2 D) (jn (α:=Bool×fk×Yd6×Int×Int×(π)×(η)×(η)×η) (bg x.p3 6 (aD ((decide ((x.p3:Int)=6)),x.1,z.1,x.p2,0,z.2)) (aD ((decide ((x.p3:Int)=10)),x.1,z.1,x.p2,0,z.2))) λs=>(aF s.1 D (jn (bg x.p3 7 (aD ((decide ((x.p3:Int)=7)),s.2.1,s.p2,s.p3,s.p4,(s.p5.1,s.p6,s.p5.2.1,s.p7,s.p5.2.2),s.q8)) (aD ((decide ((x.p3:Int)=11)),s.2.1,s.p2,s.p3,s.p4,(s.p5.1,s.p6,s.p5.2.1,s.p7,s.p5.2.2),s.q8))) λa=>(aF a.1 D (bg x.p3 8 (bg x.p4 0 D (bg x.p4 1 D (bg x.p4 2 (bB (a8 (ai a.q6+ai ([a.p3])) 8) (au (xh (a.q6++([a.p3]))) λL=>(bB (aB (ai (a.q6++([a.p3]))) (ai L)&&J) (au (mm L) λU=>(bB (aB (ai L) (ai U)&&J) (aD (0,a.p2,a.p4,((a.p5.1,a.p5.2.1),(a.p5.p2,a.p5.p3),a.p5.q4),J,U))))))) D))) (bg x.p3 9 (bg x.p4 0 D (bg x.p4 1 D (bg x.p4 2 (au (jw (a.q6,a.p3)) λZ=>(bB (aB (ai a.q6) (ai a.q6)&&J) (aD (0,a.p2,a.p4,((a.p5.1,a.p5.2.1),(a.p5.p2,a.p5.p3),a.p5.q4),af,Z.2)))) D))) (bg x.p3 12 (aD (0,(a.p3,a.p2.2),a.p4,((a.p5.1,a.p5.2.1),(a.p5.p2,a.p5.p3),a.p5.q4),J,a.q6)) (bg x.p3 13 (aD (0,((-1),a.p2.2),a.p4,((a.p5.1,a.p5.2.1),(a.p5.p2,a.p5.p3),a.p5.q4),J,a.q6)) (bg x.p3 14 (wQ a.p3 a.p2.2.2 D) (bg x.p3 15 (wQ a.p3 a.p2.2.2 D) (bg x.p3 16 D (bg x.p3 17 D (bg x.p3 18 D (bg x.p3 19 D (bg x.p3 20 (wQ x.p4 a.p2.2.2 D) (bg x.p3 22 (wQ x.p4 a.p2.2.1 D) (aD (0,a.p2,a.p4,((a.p5.1,a.p5.2.1),(a.p5.p2,a.p5.p3),a.p5.q4),J,a.q6)))))))))))))))))))) λA=>(M (([A.p3.1,A.p3.2.1,(A.p3.2.2,A.q5)],A.2.1),A.1,J))))))
def sJ (x:fk×tH×Int×Int×Int×Int):I (tH×Int×Bool):=orE (ia x) (lH x)
def gd (x:fk×gx×Int×Int×Int×Int×Int×(η)×η):I (gx×Bool):=
 (jn (α:=Bool×fk×gx×ja×Int) (au (lB (x.1,x.2.1)) λy2=>(aF (!y2) (aD (J,x.1,x.2.1,x.2.2,0)) (bw x.p2 0 (aD (J,x.1,x.2.1,x.2.2,0)) (iZ (aX x.1.p4) x.p2 (aD (J,x.1,x.2.1,x.2.2,0)) (bw x.p3 1 (aD (J,x.1,x.2.1,x.2.2,0)) (aD ((fP 23 x.p3),x.1,x.2.1,x.2.2,0))))))) λz=>(aF z.1 (M (((([]:Y (Int×η)),0,([]:θ),([]:Y eA)),([]:η),([]:η),([]:η)),af)) (jn (au (jv (z.2.1,z.p2.1,z.p3.1,z.p3.2.1,z.p3.p2)) λy4=>(aF (!y4) (aD (J,z.2)) (au (jQ (z.2.1,z.p3)) λy5=>(aF (!y5) (aD (J,z.2)) (au (fd (z.2.1,z.p2,z.p3)) λy6=>(aF (!y6) (aD (J,z.2)) (au (gK (z.p2,z.p3)) λy7=>(aD ((!y7),z.2))))))))) λZ=>(aF Z.1 (M (((([]:Y (Int×η)),0,([]:θ),([]:Y eA)),([]:η),([]:η),([]:η)),af)) (jn (α:=Int×fk×gx×ja×Int) (bg Z.p3.2.1 18 (aD (Z.p3.p3,Z.2)) (aD ((-1),Z.2))) λa=>(au (sJ (a.2.1,a.p2.1,a.p3.1,a.p3.2.1,a.p3.p2,a.1)) λy9=>(aF (!y9.2.2) (M (((([]:Y (Int×η)),0,([]:θ),([]:Y eA)),([]:η),([]:η),([]:η)),af)) (au (zY a.p2.2.1) λL=>(au (zY a.p2.p2) λA=>(au (py a.p2.q3) λU=>(jn (bg a.p3.2.1 4 (ck (e9 a.p3.p2 (ai L)) (aD (a.p3,a.q4,y9.1,(cL L a.p3.p2 a.p3.p3),A,U))) (bg a.p3.2.1 22 (ck (e9 a.p3.p2 (ai A)) (aD (a.p3,a.q4,y9.1,L,(cL A a.p3.p2 a.p3.p3),U))) (aD (a.p3,a.q4,y9.1,L,A,U)))) λs=>(kZ aL s.q5 s.1.1 λz14=>(ck (e9 s.1.1 (ai s.q5)) (M ((s.p2,s.p3,s.p4,(cL s.q5 s.1.1 (cJ z14))),J)))))))))))))))
def mo (it:zG) (x:fk×Y ja):I ν:=
 (bw 400 (aX x.2) (M (0,2)) (au (dW x.1) λy1=>(aF (!y1) (M (0,1)) (au (dC x.1) λZ=>(bB (c_ 0 (aX x.1.p4)&&c_ (aX x.1.p4) (aX x.1.p4)&&a8 (aQ (aX x.1.p4)) 24&&decide (((aX x.1.p4):Int)=1)) (it (Int×(fk×Y ja)×gx×θ) _ (λs=>(bw s.1 (aX x.2) (bC gH x.2 s.1 λz=>(au (gd (s.2.1.1,s.p2,z)) λA=>(jn (α:=Bool×(fk×Y ja)×gx×ja×gx×θ) (bg z.1 0 (aF (!A.2) (aD (J,s.2.1,s.p2,(0,z.2),A.1,s.q3)) (au (cu (s.q3,0,z.2)) λU=>(aD ((!U),s.2.1,s.p2,(0,z.2),A.1,s.q3)))) D) λa=>(aF a.1 (aD (s.1,12)) (jn (α:=(fk×Y ja)×gx×gx×θ) (bg a.p3.1 0 (bg a.p3.2.1 3 (bB (a8 (ai a.q5+ai ([J])) 1) (aD (a.2.1,a.p2,a.p4,(a.q5++([J]))))) (bB (a8 (ai a.q5+ai ([(decide ((a.p3.2.1:Int)=23))])) 1) (aD (a.2.1,a.p2,a.p4,(a.q5++([(decide ((a.p3.2.1:Int)=23))])))))) D) λL=>(cQ ((cJ s.1),L.1,L.2.2))))))) (aD (0,0)))) (0,x,Z,([]:θ))))))))
def pO (x:fk×Y ja):I ν:=mo @iter x
def eH (x:fk×Y ja):I ν:=mo @gA x
def j6 (it:zG) (x:fk×Y ja):I ν:=
 (bw 400 (aX x.2) (M (0,2)) (au (dW x.1) λy1=>(aF (!y1) (M (0,1)) (au (dC x.1) λy2=>(bB (c_ 0 (aX x.1.p4)&&c_ (aX x.1.p4) (aX x.1.p4)&&a8 (aQ (aX x.1.p4)) 24&&decide (((aX x.1.p4):Int)=2)) (it (Int×(fk×Y ja)×gx×(θ)×θ) _ (λs=>(bw s.1 (aX x.2) (bC gH x.2 s.1 λz=>(au (gd (s.2.1.1,s.p2,z)) λA=>(jn (α:=Bool×(fk×Y ja)×gx×ja×gx×(θ)×θ) (bg z.1 0 (aF (!A.2) (aD (J,s.2.1,s.p2,(0,z.2),A.1,s.q3)) (au (cu (s.p3,0,z.2)) λZ=>(aD ((!Z),s.2.1,s.p2,(0,z.2),A.1,s.q3)))) (bg z.1 1 (aF (!A.2) (aD (J,s.2.1,s.p2,(1,z.2),A.1,s.q3)) (au (cu (s.q4,1,z.2)) λU=>(aD ((!U),s.2.1,s.p2,(1,z.2),A.1,s.q3)))) D)) λa=>(aF a.1 (aD (s.1,12)) (jn (α:=(fk×Y ja)×gx×gx×(θ)×θ) (bg a.p3.1 0 (bg a.p3.2.1 3 (bB (a8 (ai a.p5+ai ([J])) 1) (aD (a.2.1,a.p2,a.p4,(a.p5++([J])),a.q6))) (bB (a8 (ai a.p5+ai ([(decide ((a.p3.2.1:Int)=23))])) 1) (aD (a.2.1,a.p2,a.p4,(a.p5++([(decide ((a.p3.2.1:Int)=23))])),a.q6)))) (bg a.p3.1 1 (bg a.p3.2.1 3 (bB (a8 (ai a.q6+ai ([J])) 1) (aD (a.2.1,a.p2,a.p4,a.p5,(a.q6++([J]))))) (bB (a8 (ai a.q6+ai ([(decide ((a.p3.2.1:Int)=23))])) 1) (aD (a.2.1,a.p2,a.p4,a.p5,(a.q6++([(decide ((a.p3.2.1:Int)=23))])))))) D)) λL=>(cQ ((cJ s.1),L.1,L.2.2))))))) (aD (0,0)))) (0,x,y2,([]:θ),([]:θ))))))))
def pN (x:fk×Y ja):I ν:=j6 @iter x
def dD (x:fk×Y ja):I ν:=j6 @gA x
def jZ (it:zG) (x:fk×Y ja):I ν:=
 (bw 400 (aX x.2) (M (0,2)) (au (dW x.1) λy1=>(aF (!y1) (M (0,1)) (au (dC x.1) λy2=>(bB (c_ 0 (aX x.1.p4)&&c_ (aX x.1.p4) (aX x.1.p4)&&a8 (aQ (aX x.1.p4)) 24&&decide (((aX x.1.p4):Int)=3)) (it (Int×(fk×Y ja)×gx×(θ)×(θ)×θ) _ (λs=>(bw s.1 (aX x.2) (bC gH x.2 s.1 λz=>(au (gd (s.2.1.1,s.p2,z)) λA=>(jn (α:=Bool×(fk×Y ja)×gx×ja×gx×(θ)×(θ)×θ) (bg z.1 0 (aF (!A.2) (aD (J,s.2.1,s.p2,(0,z.2),A.1,s.q3)) (au (cu (s.p3,0,z.2)) λy7=>(aD ((!y7),s.2.1,s.p2,(0,z.2),A.1,s.q3)))) (bg z.1 1 (aF (!A.2) (aD (J,s.2.1,s.p2,(1,z.2),A.1,s.q3)) (au (cu (s.p4,1,z.2)) λZ=>(aD ((!Z),s.2.1,s.p2,(1,z.2),A.1,s.q3)))) (bg z.1 2 (aF (!A.2) (aD (J,s.2.1,s.p2,(2,z.2),A.1,s.q3)) (au (cu (s.q5,2,z.2)) λU=>(aD ((!U),s.2.1,s.p2,(2,z.2),A.1,s.q3)))) D))) λa=>(aF a.1 (aD (s.1,12)) (jn (α:=(fk×Y ja)×gx×gx×(θ)×(θ)×θ) (bg a.p3.1 0 (bg a.p3.2.1 3 (bB (a8 (ai a.p5+ai ([J])) 1) (aD (a.2.1,a.p2,a.p4,(a.p5++([J])),a.q6))) (bB (a8 (ai a.p5+ai ([(decide ((a.p3.2.1:Int)=23))])) 1) (aD (a.2.1,a.p2,a.p4,(a.p5++([(decide ((a.p3.2.1:Int)=23))])),a.q6)))) (bg a.p3.1 1 (bg a.p3.2.1 3 (bB (a8 (ai a.p6+ai ([J])) 1) (aD (a.2.1,a.p2,a.p4,a.p5,(a.p6++([J])),a.q7))) (bB (a8 (ai a.p6+ai ([(decide ((a.p3.2.1:Int)=23))])) 1) (aD (a.2.1,a.p2,a.p4,a.p5,(a.p6++([(decide ((a.p3.2.1:Int)=23))])),a.q7)))) (bg a.p3.1 2 (bg a.p3.2.1 3 (bB (a8 (ai a.q7+ai ([J])) 1) (aD (a.2.1,a.p2,a.p4,a.p5,a.p6,(a.q7++([J]))))) (bB (a8 (ai a.q7+ai ([(decide ((a.p3.2.1:Int)=23))])) 1) (aD (a.2.1,a.p2,a.p4,a.p5,a.p6,(a.q7++([(decide ((a.p3.2.1:Int)=23))])))))) D))) λL=>(cQ ((cJ s.1),L.1,L.2.2))))))) (aD (0,0)))) (0,x,y2,([]:θ),([]:θ),([]:θ))))))))
def pM (x:fk×Y ja):I ν:=jZ @iter x
def dT (x:fk×Y ja):I ν:=jZ @gA x
def jY (it:zG) (x:fk×Y ja):I ν:=
 (bw 400 (aX x.2) (M (0,2)) (au (dW x.1) λy1=>(aF (!y1) (M (0,1)) (au (dC x.1) λy2=>(bB (c_ 0 (aX x.1.p4)&&c_ (aX x.1.p4) (aX x.1.p4)&&a8 (aQ (aX x.1.p4)) 24&&decide (((aX x.1.p4):Int)=4)) (it (Int×(fk×Y ja)×gx×(θ)×(θ)×(θ)×θ) _ (λs=>(bw s.1 (aX x.2) (bC gH x.2 s.1 λz=>(au (gd (s.2.1.1,s.p2,z)) λA=>(jn (α:=Bool×(fk×Y ja)×gx×ja×gx×(θ)×(θ)×(θ)×θ) (bg z.1 0 (aF (!A.2) (aD (J,s.2.1,s.p2,(0,z.2),A.1,s.q3)) (au (cu (s.p3,0,z.2)) λy7=>(aD ((!y7),s.2.1,s.p2,(0,z.2),A.1,s.q3)))) (bg z.1 1 (aF (!A.2) (aD (J,s.2.1,s.p2,(1,z.2),A.1,s.q3)) (au (cu (s.p4,1,z.2)) λy8=>(aD ((!y8),s.2.1,s.p2,(1,z.2),A.1,s.q3)))) (bg z.1 2 (aF (!A.2) (aD (J,s.2.1,s.p2,(2,z.2),A.1,s.q3)) (au (cu (s.p5,2,z.2)) λZ=>(aD ((!Z),s.2.1,s.p2,(2,z.2),A.1,s.q3)))) (bg z.1 3 (aF (!A.2) (aD (J,s.2.1,s.p2,(3,z.2),A.1,s.q3)) (au (cu (s.q6,3,z.2)) λU=>(aD ((!U),s.2.1,s.p2,(3,z.2),A.1,s.q3)))) D)))) λa=>(aF a.1 (aD (s.1,12)) (jn (α:=(fk×Y ja)×gx×gx×(θ)×(θ)×(θ)×θ) (bg a.p3.1 0 (bg a.p3.2.1 3 (bB (a8 (ai a.p5+ai ([J])) 1) (aD (a.2.1,a.p2,a.p4,(a.p5++([J])),a.q6))) (bB (a8 (ai a.p5+ai ([(decide ((a.p3.2.1:Int)=23))])) 1) (aD (a.2.1,a.p2,a.p4,(a.p5++([(decide ((a.p3.2.1:Int)=23))])),a.q6)))) (bg a.p3.1 1 (bg a.p3.2.1 3 (bB (a8 (ai a.p6+ai ([J])) 1) (aD (a.2.1,a.p2,a.p4,a.p5,(a.p6++([J])),a.q7))) (bB (a8 (ai a.p6+ai ([(decide ((a.p3.2.1:Int)=23))])) 1) (aD (a.2.1,a.p2,a.p4,a.p5,(a.p6++([(decide ((a.p3.2.1:Int)=23))])),a.q7)))) (bg a.p3.1 2 (bg a.p3.2.1 3 (bB (a8 (ai a.p7+ai ([J])) 1) (aD (a.2.1,a.p2,a.p4,a.p5,a.p6,(a.p7++([J])),a.q8))) (bB (a8 (ai a.p7+ai ([(decide ((a.p3.2.1:Int)=23))])) 1) (aD (a.2.1,a.p2,a.p4,a.p5,a.p6,(a.p7++([(decide ((a.p3.2.1:Int)=23))])),a.q8)))) (bg a.p3.1 3 (bg a.p3.2.1 3 (bB (a8 (ai a.q8+ai ([J])) 1) (aD (a.2.1,a.p2,a.p4,a.p5,a.p6,a.p7,(a.q8++([J]))))) (bB (a8 (ai a.q8+ai ([(decide ((a.p3.2.1:Int)=23))])) 1) (aD (a.2.1,a.p2,a.p4,a.p5,a.p6,a.p7,(a.q8++([(decide ((a.p3.2.1:Int)=23))])))))) D)))) λL=>(cQ ((cJ s.1),L.1,L.2.2))))))) (aD (0,0)))) (0,x,y2,([]:θ),([]:θ),([]:θ),([]:θ))))))))
def pK (x:fk×Y ja):I ν:=jY @iter x
def eE (x:fk×Y ja):I ν:=jY @gA x
def mW (x:fk×Y ja):I ν:=orE (eE x) (orE (dT x) (orE (dD x) (eH x)))
def yl (it:zG) (x:fk×Y ja):I ((Y η)×Int):=
 (au (mW x) λL=>(jk L.2 0 (M (([]:Y η),12)) (au (qu x.1) λA=>(bB (c_ 0 (aX x.2)&&c_ (aX x.2) (aX x.2)&&a8 (aQ (aX x.2)) 24) (it (Int×(fk×Y ja)×Yd0×Y η) _ (λa=>(bw a.1 (aX x.2) (bC gH x.2 a.1 λz=>(au (s9 (a.2.1.1,a.p2,z)) λs=>(ck (e9 a.1 (ai a.q3)) (cQ ((cJ a.1),a.2.1,s.1,(cL a.q3 a.1 s.2)))))) (aD (a.q3,0)))) (0,x,A,(aA (aQ (aX x.2)) ([]:η))))))))
def Cz (x:fk×Y ja):I ((Y η)×Int):=yl @iter x
def p_ (x:fk×Y ja):I ((Y η)×Int):=yl @gA x
def wR:Nat:=1000000000
def jl (a b:η):η:=(cq (max a.length b.length)).map λi=>fJ (a.getD i 0) (b.getD i 0)
theorem qx (a b:η):(jl a b).length=max a.length b.length:=by simp[jl]
theorem wC (a b:η) (i:Nat):(jl a b).getD i 0=fJ (a.getD i 0) (b.getD i 0):=by
 unfold jl;simp only[av,bd];by_cases h:i<max a.length b.length
 .rw[wN h];rfl
 .rw[bF (by simp only[eK];omega),bF (l:=a) (by omega),bF (l:=b) (by omega)];rfl
theorem yN (c:η) (i:Nat):gR (c,(i:Int))=M (c.getD i 0):=by
 unfold gR bw wQ aX aD;simp only[];rw[xo (by omega)];simp only[c7,jB];by_cases h:i<c.length
 .rw[Ob (by simp;omega)];simp only[c7];rw[cE (c4 h),tj];rfl
 .rw[re (by simp;omega)];simp only[c6];rw[av,bF (by omega)];rfl
theorem ahi:qm=kJ:=rfl
theorem Zq (a b:η) (L:a.length<=wR) (hb:b.length<=wR):kJ (a,b)=M (jl a b):=by
 unfold wR at L hb;unfold kJ v7 ck bw bB aX cQ aD cJ;have hm:max a.length b.length<=1000000000:=by omega
 rw[cE (by simp only[q_];rw[re (by omega),re (by omega),ud (by simp;omega) (by simp;omega)];rfl)];simp only[q_,bO,bW];have:=xl (σ:=Int×η) (R:=η) (max a.length b.length) (by omega) (λi=>((i:Int),(cq (max a.length b.length)).map λk=>if k<i then fJ (a.getD k 0) (b.getD k 0) else 0)) (f:=(λs=>(aF (fP s.1 (aM (max a.length b.length))) (au (gR (a,s.1)) λA=>(au (gR (b,s.1)) λz=>(chk (e9 s.1 (ai s.2)) λ_=>(chk (e9 s.1 (ai s.2)) λ_=>(M (oh ((bl .i64 (s.1+1)),(cL s.2 s.1 (fJ A z))))))))) (M (bS s.2))))) (r:=jl a b) ?_ ?_
 .refine Eq.trans ?_ this;congr 1;simp only[Int.natCast_zero,xP,ec,aE,Ci];apply dl<;>simp
 .intro i hi;simp only[];rw[vW (by simp;omega),c6,yN,yN,cZ,cZ,cE (c4 (by simpa using hi)),cE (c4 (by simpa using hi)),rM hi (by omega),dR];congr 3;apply dl
  .simp
  .intro k h1 h2;simp only[bQ,eK]at h2;simp only[nk,kW,jy];by_cases e:i=k
   .subst e;simp
   .by_cases h:k<i
    .rw[aw e,aC h,aC (by omega)]
    .rw[aw e,aw h,aw (by omega)]
 .simp only[];rw[xo (by simp),c7];congr 2;unfold jl;apply iL;intro k hk;rw[aC (lU.1 hk)]
theorem abt (a b:η) (L:a.length<=wR) (hb:b.length<=wR):uj (a,b)=M (jl a b,b):=by
 unfold wR at L hb;unfold uj I0 ck bw bB aX cQ aD cJ;have hm:max a.length b.length<=1000000000:=by omega
 rw[cE (by simp only[q_];rw[re (by omega),re (by omega),ud (by simp;omega) (by simp;omega)];rfl)];simp only[q_,bO,bW];have:=xl (σ:=Int×η×η) (R:=η×η) (max a.length b.length) (by omega) (λi=>((i:Int),b,(cq (max a.length b.length)).map λk=>if k<i then fJ (a.getD k 0) (b.getD k 0) else 0)) (f:=(λs=>(aF (fP s.1 (aM (max a.length b.length))) (au (gR (a,s.1)) λA=>(au (gR (s.2.1,s.1)) λz=>(chk (e9 s.1 (ai s.2.2)) λ_=>(chk (e9 s.1 (ai s.2.2)) λ_=>(M (oh ((bl .i64 (s.1+1)),s.2.1,(cL s.2.2 s.1 (fJ A z))))))))) (M (bS (s.2.2,s.2.1)))))) (r:=(jl a b,b)) ?_ ?_
 .refine Eq.trans ?_ this;congr 1;simp only[Int.natCast_zero,xP,ec,aE,Ci];apply dl<;>simp
 .intro i hi;simp only[];rw[vW (by simp;omega),c6,yN,yN,cZ,cZ,cE (c4 (by simpa using hi)),cE (c4 (by simpa using hi)),rM hi (by omega),dR];congr 4;apply dl
  .simp
  .intro k h1 h2;simp only[bQ,eK]at h2;simp only[nk,kW,jy];by_cases e:i=k
   .subst e;simp
   .by_cases h:k<i
    .rw[aw e,aC h,aC (by omega)]
    .rw[aw e,aw h,aw (by omega)]
 .simp only[];rw[xo (by simp),c7];congr 3;unfold jl;apply iL;intro k hk;rw[aC (lU.1 hk)]
theorem UU (a b:η) (s:a.length<=wR) (hb:b.length<=wR):CG (a,b)=M (jl a b):=by
 unfold CG;rw[abt a b s hb,cZ];exact RF rfl _
def tk (c:η) (t:Nat):η:=(c++aA (t+1-c.length) 0).set t (c.getD t 0+1)
theorem NH (c:η) (t:Nat):(tk c t).length=max c.length (t+1):=by simp[tk];omega
theorem am6 (c:η) (n i:Nat):(c++aA n 0).getD i 0=c.getD i 0:=by
 simp only[av];by_cases h:i<c.length
 .rw[bU h]
 .rw[cj (by omega),bF (l:=c) (by omega),jD];split<;>rfl
theorem Jh (c:η) (t i:Nat):(tk c t).getD i 0=if i=t then c.getD t 0+1 else c.getD i 0:=by
 unfold tk;rw[av,kc];by_cases h:t=i
 .subst h;rw[aC rfl,aC (by simp;omega),aC rfl];rfl
 .rw[aw h,aw (λe=>h e.symm),<-av,am6]
theorem LA (c:η) (n:Nat) (h:c.length<=n):OR (aA n 0) c=c++aA (n-c.length) 0:=by
 unfold OR;rw[bW,gk h,List.drop_replicate]
theorem ajh (c:η) (t:Nat) (hc:c.length<=wR) (ht:t<4) (h0:0<=c.getD t 0) (h1:c.getD t 0<9223372036854775807):s_ (c,(t:Int))=M (tk c t):=by
 unfold wR at hc;unfold s_ ck iZ bB aX aD cJ;simp only[];rw[re (by omega),c6,jB,vW (by omega)];simp only[c6,jB];have e1:fJ (aM c.length) (bl .i64 ((t:Int)+1))=((max c.length (t+1):Nat):Int):=by
  rw[rM ht (by omega)];exact q_ _ _
 rw[e1];rw[cE (by rw[re (by omega),re (by omega),ud (by simp;omega) (by simp;omega)];rfl)];rw[bO];have e2:OR (aA (max c.length (t+1)) (0:Int)) c=c++aA (t+1-c.length) 0:=by
  rw[LA c _ (by omega)];rw[show max c.length (t+1)-c.length=t+1-c.length from by omega]
 rw[e2];have hl:t<(c++aA (t+1-c.length) (0:Int)).length:=by simp;omega
 rw[cE (c4 hl),cE (c4 hl),jB];have e3:aJ (T:=.int .i64) (c++aA (t+1-c.length) (0:Int)) (t:Int)=c.getD t 0:=by
  rw[tj];exact am6 c _ t
 simp only[];rw[e3,vW h1,c6,cE (c4 hl),cE (c4 hl),cE (c4 hl),cE (c4 hl),jB,aci (by omega) (by omega),dR];rfl
theorem agm (c:η) (hc:c.length<=wR):uN c=M c:=by
 unfold wR at hc;unfold uN bB;rw[cE (ud (by omega) (by omega))]
theorem U_ (c:η) (hc:c.length<=wR):CH c=M c:=by
 unfold wR at hc;unfold CH;rw[cE (ud (by omega) (by omega))]
theorem O2 (c:η) (hc:c.length<=wR):vS c=M c:=by
 unfold wR at hc;unfold vS xi bB;rw[cE (ud (by simp;omega) (by simp;omega)),cZ];exact RF rfl _
theorem O3 (c:η) (hc:c.length<=wR):py c=M c:=U_ c hc
theorem VH (c:η) (t:Nat) (hc:c.length<=wR) (ht:t<4) (h0:0<=c.getD t 0) (h1:c.getD t 0<9223372036854775807):ql (c,(t:Int))=M (tk c t):=by
 unfold wR at hc;unfold ql A_ ck bw iZ bB aX cQ aD;simp only[];rw[agm c (by unfold wR;omega),cZ,xo (by omega),c7,jB,Ob (by omega)];simp only[c7];have:=xl (σ:=η) (R:=η) (t+1-c.length) (by omega) (λi=>c++aA i 0) (f:=(λa=>(aF (c_ (aM (ai a)) (t:Int)) (chk (a8 (ai a+ai ([(0:Int)])) 8) λ_=>(M (oh (a++([0]))))) (au (jn (α:=η) (chk (e9 (t:Int) (ai a)) λ_=>(chk (e9 (t:Int) (ai a)) λ_=>(aF (fP (aJ (T:=(.int .i64)) a (t:Int)) 9223372036854775807) (chk (e9 (t:Int) (ai a)) λ_=>(chk (e9 (t:Int) (ai a)) λ_=>(chk (e9 (t:Int) (ai a)) λ_=>(chk (e9 (t:Int) (ai a)) λ_=>(M (bS (cL a (t:Int) (bl .i64 ((aJ (T:=(.int .i64)) a (t:Int))+1))))))))) (M (bS a))))) λs=>(M s)) λr=>M (bS r))))) (r:=tk c t) ?_ ?_
 .simpa using this
 .intro i hi;rw[re (by simp;omega),c6,cE (ud (by simp;omega) (by simp;omega)),gV,<-vz]
 .have hl:t<(c++aA (t+1-c.length) (0:Int)).length:=by simp;omega
  have e3:aJ (T:=.int .i64) (c++aA (t+1-c.length) (0:Int)) (t:Int)=c.getD t 0:=by
   rw[tj];exact am6 c _ t
  rw[Ob (by simp;omega),c7,cE (c4 hl),cE (c4 hl),e3,vW h1,c6,cE (c4 hl),cE (c4 hl),cE (c4 hl),cE (c4 hl),jB,cZ,aci (by omega) (by omega),dR];rfl
def GL (l:Y η):Prop:=l.length<=wR/\∀c∈l,c.length<=wR
abbrev HTp:Type:=Y η×Y η×Y η×Y η×Y η×Y η×η×Y η×η
def GH (h:HTp):Prop:=GL h.1/\GL h.2.1/\GL h.2.2.1/\GL h.2.2.2.1/\GL h.2.2.2.2.1/\GL h.2.2.2.2.2.1/\h.2.2.2.2.2.2.1.length<=wR/\GL h.2.2.2.2.2.2.2.1/\h.2.2.2.2.2.2.2.2.length<=wR
theorem Kn {l:Y η} {i:Nat} (h:i<l.length):l.getD i []∈l:=by
 rw[av,ay h];exact vN h
theorem GL.at {l:Y η} (h:GL l) (i:Nat):(l.getD i []).length<=wR:=by
 by_cases hi:i<l.length
 .exact h.2 _ (Kn hi)
 .rw[av,bF (by omega)];simp
theorem aap (g:η->I η) (l:Y η) (hl:l.length<=wR) (hg:∀c∈l,g c=M c):
 gA (σ:=Int×Y η) (λa=>(aF (fP a.1 (aM (ai l))) (chk (e9 a.1 (ai l)) λ_=>(au (g (aJ (T:=(.sl (.int .i64))) l a.1)) λs=>(chk (e9 a.1 (ai a.2)) λ_=>(chk (e9 a.1 (ai a.2)) λ_=>(M (oh ((bl .i64 (a.1+1)),(cL a.2 a.1 s)))))))) (M (bS a.2)))) (0,(aA (aQ (aM (ai l))) ([]:η)))=M l:=by
 unfold wR at hl;have:=xl (σ:=Int×Y η) (R:=Y η) l.length (by omega) (λi=>((i:Int),(cq l.length).map λk=>if k<i then l.getD k [] else [])) (f:=(λa=>(aF (fP a.1 (aM (ai l))) (chk (e9 a.1 (ai l)) λ_=>(au (g (aJ (T:=(.sl (.int .i64))) l a.1)) λs=>(chk (e9 a.1 (ai a.2)) λ_=>(chk (e9 a.1 (ai a.2)) λ_=>(M (oh ((bl .i64 (a.1+1)),(cL a.2 a.1 s)))))))) (M (bS a.2))))) (r:=l) ?_ ?_
 .refine Eq.trans ?_ this;congr 1;simp only[Int.natCast_zero,xP,ec,aE,Ci,ak,bO];apply dl<;>simp
 .intro i hi;simp only[];rw[vW (by simp;omega),c6,cE (c4 hi),tj,show (l.getD i (Ty.zero (.sl (.int .i64))))=l.getD i [] from rfl,hg _ (Kn hi),cZ,cE (c4 (by simpa using hi)),cE (c4 (by simpa using hi)),rM hi (by omega),dR];congr 3;apply dl
  .simp
  .intro k h1 h2;simp only[bQ,eK]at h2;simp only[nk,kW,jy];by_cases e:i=k
   .subst e;simp
   .by_cases h:k<i
    .rw[aw e,aC h,aC (by omega)]
    .rw[aw e,aw h,aw (by omega)]
 .simp only[];rw[xo (by simp),c7];congr 2;apply dl
  .simp
  .intro k h1 h2;simp only[kW,jy];rw[aC h2,av,ay h2];rfl
theorem sA (l:Y η) (h:GL l):iG l=M l:=by
 have hl:=h.1;unfold wR at hl;unfold iG yk ck bw wQ bB aX cQ aD cJ;rw[cE (by rw[re (by simp),re (by omega),ud (by simp;omega) (by simp;omega)];rfl)];exact aap CH l h.1 λc hc=>U_ c (h.2 c hc)
theorem aaq (h:HTp) (g:GH h):uW h=M (h.2.2.2.2.2.2.1,h.1,h.2.1,h.2.2.1,h.2.2.2.1,h.2.2.2.2.1,h.2.2.2.2.2.1,h.2.2.2.2.2.2.2.1,h.2.2.2.2.2.2.2.2):=by
 obtain⟨g1,g2,Z,U,L,A,z,s,a⟩:=g;unfold uW aY bi bx cI dY lh qH;rw[sA _ g1,cZ,sA _ g2,cZ,sA _ Z,cZ,sA _ U,cZ,sA _ L,cZ,sA _ A,cZ,O3 _ z,cZ,sA _ s,cZ,O3 _ a,cZ]
abbrev vG:Type:=Y (ζ×Int×Int×Bool×Int)×Y (ζ×Bool)×Y (ζ×Int)×Y ζ×Y ζ×Y π
def h0 (w:vG):HTp:=(aA w.2.2.2.2.1.length [],aA w.2.2.2.2.1.length [],aA w.2.1.length [],aA w.2.1.length [],aA w.1.length [],aA w.2.2.2.1.length [],[],aA w.2.2.2.2.1.length [],aA w.2.2.2.2.1.length (-1))
theorem ag1 (w:vG) (h1:w.1.length<=wR) (h2:w.2.1.length<=wR) (z:w.2.2.2.1.length<=wR) (s:w.2.2.2.2.1.length<=wR):qu w=M (h0 w):=by
 unfold wR at h1 h2 z s;have c:∀n b:Nat,n<=1000000000->b<=24->(c_ 0 (aM n)&&c_ (aM n) (aM n)&&a8 (aQ (aM n)) b)=J:=λn b hn hb=>by
  have:n*b<=n*24:=Nat.mul_le_mul_left n hb;rw[re (by simp),re (by omega),ud (by simp;omega) (by simp;omega)];rfl
 unfold qu Bb aY bi bx cI dY lh qH ck bw bB aX cQ aD cJ;rw[cE (c _ 24 s (by omega)),cE (c _ 24 s (by omega)),cE (c _ 24 h2 (by omega)),cE (c _ 24 h2 (by omega)),cE (c _ 24 h1 (by omega)),cE (c _ 24 z (by omega)),cE (c _ 24 s (by omega)),cE (c _ 8 s (by omega))];simp only[ak,bO,bW];have:=xl (σ:=Int×(Y η)×(Y η)×(Y η)×(Y η)×(Y η)×(Y η)×(Y η)×η) (R:=HTp) w.2.2.2.2.1.length (by omega) (λi=>((i:Int),aA w.2.2.2.2.1.length [],aA w.2.2.2.2.1.length [],aA w.2.1.length [],aA w.2.1.length [],aA w.1.length [],aA w.2.2.2.1.length [],aA w.2.2.2.2.1.length [],(cq w.2.2.2.2.1.length).map λk=>if k<i then -1 else 0)) (f:=(λa=>(aF (fP a.1 (w.2.2.2.2.1.length:Int)) (chk (e9 a.1 (ai a.2.2.2.2.2.2.2.2)) λ_=>(chk (e9 a.1 (ai a.2.2.2.2.2.2.2.2)) λ_=>(M (oh ((bl .i64 (a.1+1)),a.2.1,a.2.2.1,a.2.2.2.1,a.2.2.2.2.1,a.2.2.2.2.2.1,a.2.2.2.2.2.2.1,a.2.2.2.2.2.2.2.1,(cL a.2.2.2.2.2.2.2.2 a.1 (-1))))))) (M (bS (a.2.1,a.2.2.1,a.2.2.2.1,a.2.2.2.2.1,a.2.2.2.2.2.1,a.2.2.2.2.2.2.1,([]:η),a.2.2.2.2.2.2.2.1,a.2.2.2.2.2.2.2.2)))))) (r:=h0 w) ?_ ?_
 .refine Eq.trans ?_ this;congr 1;simp only[Int.natCast_zero,xP,ec,aE,Ci];apply dl<;>simp
 .intro i hi;simp only[];rw[vW (by omega),c6,cE (c4 (by simpa using hi)),cE (c4 (by simpa using hi)),rM hi (by omega),dR];congr 3;simp only[aE,Ci];apply dl
  .simp
  .intro k h1 h2;simp only[bQ,eK]at h2;simp only[nk,kW,jy];by_cases e:i=k
   .subst e;simp
   .by_cases h:k<i
    .rw[aw e,aC h,aC (by omega)]
    .rw[aw e,aw h,aw (by omega)]
 .simp only[];rw[xo (by omega),c7];unfold h0;congr 3;simp only[aE,Ci];apply dl
  .simp
  .intro k h1 h2;simp only[bW]at h2;simp only[kW,jy,List.getElem_replicate];rw[aC h2]
theorem rc (x y:Int):fJ x y=max x y:=by
 unfold fJ;by_cases h:x<y
 .rw[vW h,aC rfl];omega
 .rw[xo (by omega)];simp;omega
theorem V7 (a b c:Int):fJ (fJ a b) c=fJ a (fJ b c):=by
 simp only[rc];omega
theorem xk {a b:η} (hl:a.length=b.length) (h:∀i,a.getD i 0=b.getD i 0):a=b:=by
 apply dl hl;intro i h1 h2;have:=h i;simpa[av,ay h1,ay h2] using this
theorem qZ (a b c:η):jl (jl a b) c=jl a (jl b c):=
 xk (by simp only[qx];omega) λi=>by simp only[wC,V7]
def En (n:Int) (c:η):Prop:=c.length<=4/\∀i,0<=c.getD i 0/\c.getD i 0<=n
theorem En.nil {n:Int} (h:0<=n):En n []:=⟨by simp,λi=>by simp;exact h⟩
theorem En.mono {n m:Int} {c:η} (h:En n c) (hm:n<=m):En m c:=⟨h.1,λi=>⟨(h.2 i).1,Int.le_trans (h.2 i).2 hm⟩⟩
theorem En.jl {n:Int} {a b:η} (s:En n a) (hb:En n b):En n (jl a b):=⟨by rw[qx];have:=s.1;have:=hb.1;omega,λi=>by
 rw[wC];obtain⟨h1,h2⟩:=s.2 i;obtain⟨A,z⟩:=hb.2 i;unfold fJ;split<;>exact⟨by assumption,by assumption⟩⟩
theorem En.tk {n:Int} {c:η} {t:Nat} (h:En n c) (ht:t<4):En (n+1) (tk c t):=⟨by rw[NH];have:=h.1;omega,λi=>by
 rw[Jh];obtain⟨h1,h2⟩:=h.2 i;obtain⟨s,a⟩:=h.2 t;split<;>omega⟩
theorem mT {n:Int} {c:η} (h:En n c):jl c []=c:=xk (by simp[qx]) λi=>by
 rw[wC,rc];have:=(h.2 i).1;simp only[List.getD_nil];omega
theorem am8 {n:Int} {c:η} (h:En n c):jl [] c=c:=xk (by simp[qx]) λi=>by
 rw[wC,rc];have:=(h.2 i).1;simp only[List.getD_nil];omega
def Ce (n:Int) (l:Y η):Prop:=∀i,En n (l.getD i [])
theorem Ce.mono {n m:Int} {l:Y η} (h:Ce n l) (hm:n<=m):Ce m l:=λi=>(h i).mono hm
theorem Ce.set {n:Int} {l:Y η} (h:Ce n l) {c:η} (hc:En n c) (j:Nat):Ce n (l.set j c):=λi=>by
 rw[av,kc];by_cases e:j=i
 .subst e;rw[aC rfl];split
  .exact hc
  .have:=h j;simp only[av]at this;rename_i hj;rw[bF (by omega)]at this;exact this
 .rw[aw e,<-av];exact h i
theorem Ce.repl {n:Int} (h:0<=n) (k:Nat):Ce n (aA k []):=λi=>by
 rw[av,jD];split<;>exact En.nil h
structure HS where
 T:List η
 S:List η
 L:List η
 R:List η
 C:List η
 F:List η
 X:η
 N:List η
 W:η
def HS.t (h:HS):HTp:=(h.T,h.S,h.L,h.R,h.C,h.F,h.X,h.N,h.W)
structure EV where
 th:Nat
 k:Nat
 ob:Nat
 va:Int
abbrev WTc:=Y (ζ×Int)
def Py (a:WTc) (o:Nat):Nat:=((a.getD o ([],0)).2).toNat
def rQ (a:Y (ζ×Int×Int×Bool×Int)) (o:Nat):Bool:=(a.getD o ([],0,0,af,0)).2.2.2.1
def ub (w:vG) (h:HS) (e:EV):Y η:=
 if e.k=1 then [h.S.getD e.th []]
 else if e.k=21 then [h.T.getD e.ob []]
 else if e.k=6\/e.k=10 then [h.L.getD e.ob [],h.R.getD e.ob []]
 else if e.k=8 then [h.L.getD e.ob []]
 else if e.k=17 then [h.L.getD (Py w.2.2.1 e.ob) [],h.R.getD (Py w.2.2.1 e.ob) [],h.N.getD e.th []]
 else if e.k=3 then [h.C.getD e.ob []]
 else if e.k=23 then [h.F.getD e.ob []]
 else if e.k=12 then [h.X]
 else []
def Ga (w:vG) (h:HS) (e:EV):η:=tk ((ub w h e).foldl jl (h.T.getD e.th [])) e.th
def jat (l:Y η) (i:Nat) (c:η):Y η:=l.set i (jl (l.getD i []) c)
def Df (p:Nat->Bool) (c:η) (h:HS):HS:={h with N:=h.N.mapIdx λu x=>if p u then c else x,W:=h.W.mapIdx λu x=>if p u then -1 else x}
def j8 (w:vG) (h:HS) (e:EV) (c:η):HS:=
 let h:={h with T:=h.T.set e.th c}
 if e.k=20 then {h with S:=h.S.set e.ob c}
 else if e.k=7\/e.k=11 then {h with L:=jat h.L e.ob c}
 else if e.k=9 then {h with R:=jat h.R e.ob c}
 else if e.k=16 then {h with L:=jat h.L (Py w.2.2.1 e.ob) c,W:=h.W.set e.th e.ob}
 else if e.k=4 then (if rQ w.1 e.ob then {h with C:=jat h.C e.ob c} else h)
 else if e.k=22 then {h with F:=jat h.F e.ob c}
 else if e.k=13 then {h with X:=jl h.X c}
 else if e.k=18 then (if 0<=e.va/\e.va<h.N.length then {h with N:=h.N.set e.va.toNat c,W:=h.W.set e.va.toNat (-1)} else h)
 else if e.k=19 then Df (λu=>decide (h.W.getD u 0=(e.ob:Int))) c h
 else h
def Rw (w:vG) (h:HS) (e:EV):HS×η:=(j8 w h e (Ga w h e),Ga w h e)
structure EOK (w:vG) (h:HS) (e:EV):Prop where
 th4:e.th<4
 th:e.th<h.T.length
 k1:1<=e.k
 k2:e.k<=23
 sp:e.k=20\/e.k=21->e.ob<h.T.length
 lk:6<=e.k/\e.k<=11->e.ob<h.L.length
 cd:e.k=16\/e.k=17->e.ob<w.2.2.1.length/\0<=(w.2.2.1.getD e.ob ([],0)).2/\Py w.2.2.1 e.ob<h.L.length
 ce:e.k=3\/e.k=4->e.ob<h.C.length/\e.ob<w.1.length
 fu:e.k=22\/e.k=23->e.ob<h.F.length
structure Vf (n:Int) (h:HS):Prop where
 n0:0<=n
 n1:n<=1000000
 T:Ce n h.T
 S:Ce n h.S
 L:Ce n h.L
 R:Ce n h.R
 C:Ce n h.C
 F:Ce n h.F
 X:En n h.X
 N:Ce n h.N
 lT:h.T.length<=1000
 lS:h.S.length=h.T.length
 lN:h.N.length=h.T.length
 lW:h.W.length=h.T.length
 lL:h.L.length<=1000
 lR:h.R.length=h.L.length
 lC:h.C.length<=1000
 lF:h.F.length<=1000
theorem En.lb {n:Int} {c:η} (h:En n c):c.length<=wR:=by have:=h.1;unfold wR;omega
theorem Ce.GL {n:Int} {l:Y η} (h:Ce n l) (hl:l.length<=1000):GL l:=⟨by unfold wR;omega,λc hc=>by
 obtain⟨i,hi⟩:=fw hc;have:=(h i).lb
 rwa [av,hi]at this⟩
theorem Vf.GH {n:Int} {h:HS} (o:Vf n h):GH h.t:=
 ⟨o.T.GL o.lT,o.S.GL (by rw[o.lS];exact o.lT),o.L.GL o.lL,o.R.GL (by rw[o.lR];exact o.lL),o.C.GL o.lC,o.F.GL o.lF,o.X.lb,o.N.GL (by rw[o.lN];exact o.lT),by show h.W.length<=wR;have:=o.lT;rw[o.lW];unfold wR;omega⟩
theorem En.join {n:Int} {a b:η} (s:En n a) (hb:En n b):kJ (a,b)=M (AI.jl a b):=Zq a b s.lb hb.lb
theorem Vq {n:Int} {w:vG} {h:HS} (o:Vf n h) (e:EV):∀c∈ub w h e,En n c:=by
 intro c hc;unfold ub at hc;repeat' (split at hc)
 all_goals simp only[bm,cF,gu]at hc
 .subst hc;exact o.S _
 .subst hc;exact o.T _
 .rcases hc with rfl|rfl
  .exact o.L _
  .exact o.R _
 .subst hc;exact o.L _
 .rcases hc with rfl|rfl|rfl
  .exact o.L _
  .exact o.R _
  .exact o.N _
 .subst hc;exact o.C _
 .subst hc;exact o.F _
 .subst hc;exact o.X
theorem D3 {n:Int}:∀(l:Y η) (c:η),En n c->(∀x∈l,En n x)->En n (l.foldl jl c)
 |[],_,hc,_=>hc
 |x::r,c,hc,h=>D3 r _ (hc.jl (h x (c9 ..))) λy a=>h y (cC _ a)
theorem QO {n:Int} {w:vG} {h:HS} (o:Vf n h) {e:EV} (he:e.th<4):En (n+1) (Ga w h e):=(D3 _ _ (o.T _) (Vq o e)).tk he
theorem Ce.jat {n:Int} {l:Y η} {c:η} (h:Ce n l) (hc:En n c) (i:Nat):Ce n (jat l i c):=h.set ((h i).jl hc) i
theorem Ce.mapIdx {n:Int} {l:Y η} {c:η} (h:Ce n l) (hc:En n c) (p:Nat->Bool):Ce n (l.mapIdx λu x=>if p u then c else x):=λi=>by
 rw[av,E7];have:=h i;rw[av]at this;cases a:l[i]? with
 |none=>rw[a]at this;exact this
 |some x=>
  rw[a]at this;simp only[ct,vL];split
  .exact hc
  .exact this
theorem aii {n:Int} {w:vG} {h:HS} (o:Vf n h) (hn:n+1<=1000000) {e:EV} {c:η} (hc:En (n+1) c):Vf (n+1) (j8 w h e c):=by
 have m:n<=n+1:=by omega
 have oT:Ce (n+1) (h.T.set e.th c):=(o.T.mono m).set hc _;have b:Vf (n+1) {h with T:=h.T.set e.th c}:=⟨by have:=o.n0;omega,hn,oT,o.S.mono m,o.L.mono m,o.R.mono m,o.C.mono m,o.F.mono m,o.X.mono m,o.N.mono m,by simpa using o.lT,by simpa using o.lS,by simpa using o.lN,by simpa using o.lW,o.lL,o.lR,o.lC,o.lF⟩
 unfold j8;simp only[];repeat' split
 .exact {b with S:=(o.S.mono m).set hc _,lS:=by simpa using b.lS}
 .exact {b with L:=(o.L.mono m).jat hc _,lL:=by simpa[jat] using b.lL,lR:=by simpa[jat] using b.lR}
 .exact {b with R:=(o.R.mono m).jat hc _,lR:=by simpa[jat] using b.lR}
 .exact {b with L:=(o.L.mono m).jat hc _,lL:=by simpa[jat] using b.lL,lR:=by simpa[jat] using b.lR,lW:=by simpa using b.lW}
 .exact {b with C:=(o.C.mono m).jat hc _,lC:=by simpa[jat] using b.lC}
 .exact b
 .exact {b with F:=(o.F.mono m).jat hc _,lF:=by simpa[jat] using b.lF}
 .exact {b with X:=(o.X.mono m).jl hc}
 .exact {b with N:=(o.N.mono m).set hc _,lN:=by simpa using b.lN,lW:=by simpa using b.lW}
 .exact b
 .exact {b with N:=(o.N.mono m).mapIdx hc _,lN:=by simpa[Df] using b.lN,lW:=by simpa[Df] using b.lW}
 .exact b
theorem acu {n:Int} {w:vG} {h:HS} (o:Vf n h) (hn:n+1<=1000000) {e:EV} (he:e.th<4):Vf (n+1) (Rw w h e).1:=aii o hn (QO o he)
theorem afi {a b:Nat} (h:a=b):aB a b=J:=by subst h;exact sF a
theorem Tj (l:Y η) (i:Nat) (h:i<l.length):ux ((i:Int),l)=M (l.getD i [],l):=by
 unfold ux ck bw aX aD;simp only[];rw[xo (by omega)];simp only[c7,jB];rw[Ob (by simp;omega)];simp only[c7];rw[cE (c4 h),cE (c4 h),rm]
theorem uz {n:Int} (l:Y η) (i:Nat) (c:η) (h:i<l.length) (hl:Ce n l) (hc:En n c):ml ((i:Int),l,c)=M (jat l i c,c):=by
 unfold ml ck iZ aX aD;simp only[];rw[re (by omega)];simp only[c6,jB];rw[vW (by simp;omega)];simp only[c6];rw[cE (c4 h),cE (c4 h),rm,UU _ _ (hl i).lb hc.lb,cZ,cE (c4 h),cE (c4 h),dR];rfl
theorem sj (l:Y η) (i:Nat) (c:η):(jat l i c).length=l.length:=by simp[jat]
theorem Yc {n:Int} (h:HS) (u:Nat) (c:η) (h1:u<h.N.length) (h2:u<h.W.length) (hc:En n c):xf ((u:Int),h.X,h.T,h.S,h.L,h.R,h.C,h.F,h.N,h.W,c)=M (h.X,h.T,h.S,h.L,h.R,h.C,h.F,h.N.set u c,h.W.set u (-1),c):=by
 unfold xf aY bi bx cI dY lh AM Db Prod.q10 ck;simp only[];rw[O2 c hc.lb,cZ,cE (c4 h1),cE (c4 h1),cE (c4 h2),cE (c4 h2),dR,dR]
theorem Qd (a:WTc) (i:Nat):aJ (T:=.st (.pr .str (.int .i64))) a (i:Int)=a.getD i ([],0):=tj (T:=.st (.pr .str (.int .i64))) a i
theorem Qc (a:Y (ζ×Int×Int×Bool×Int)) (i:Nat):aJ (T:=.st (.pr .str (.pr (.int .i64) (.pr (.int .i64) (.pr .bool (.int .i64)))))) a (i:Int)=a.getD i ([],0,0,af,0):=tj (T:=.st (.pr .str (.pr (.int .i64) (.pr (.int .i64) (.pr .bool (.int .i64)))))) a i
abbrev ETp:Type:=Int×Int×Int×Int×Int×η×η
structure EvT (e:EV) (x:ETp):Prop where
 th:x.1=(e.th:Int)
 k:x.2.1=(e.k:Int)
 ob:e.k∈[3,4,6,7,8,9,10,11,16,17,18,19,20,21,22,23]->x.2.2.1=(e.ob:Int)
 va:x.2.2.2.1=e.va
theorem IQ {k:Nat} {z:Int} (a:z=(k:Int)) (h1:1<=k) (h2:k<=23):(k=1/\z=1)\/(k=2/\z=2)\/(k=3/\z=3)\/(k=4/\z=4)\/(k=5/\z=5)\/(k=6/\z=6)\/(k=7/\z=7)\/(k=8/\z=8)\/(k=9/\z=9)\/(k=10/\z=10)\/(k=11/\z=11)\/(k=12/\z=12)\/(k=13/\z=13)\/(k=14/\z=14)\/(k=15/\z=15)\/(k=16/\z=16)\/(k=17/\z=17)\/(k=18/\z=18)\/(k=19/\z=19)\/(k=20/\z=20)\/(k=21/\z=21)\/(k=22/\z=22)\/(k=23/\z=23):=by
 have h:k=1\/k=2\/k=3\/k=4\/k=5\/k=6\/k=7\/k=8\/k=9\/k=10\/k=11\/k=12\/k=13\/k=14\/k=15\/k=16\/k=17\/k=18\/k=19\/k=20\/k=21\/k=22\/k=23:=by omega
 subst a;rcases h with rfl|rfl|rfl|rfl|rfl|rfl|rfl|rfl|rfl|rfl|rfl|rfl|rfl|rfl|rfl|rfl|rfl|rfl|rfl|rfl|rfl|rfl|rfl<;>simp
theorem XI (a:Nat):(aB a a&&J)=J:=by rw[afi rfl];rfl
theorem ag0 {n:Int} {w:vG} {h:HS} (o:Vf n h) {e:EV} (ok:EOK w h e) {x:ETp} (hx:EvT e x):uX (x,h.X,w,h.T,h.S,h.L,h.R,h.C,h.F,h.N,h.W)=M (ub w h e,x,h.X,w,h.T,h.S,h.L,h.R,h.C,h.F,h.N,h.W):=by
 obtain⟨x1,x2,z,x4,x5,x6,x7⟩:=x;obtain⟨w1,w2,A,w4,w5,w6⟩:=w;obtain⟨th,k,ob,va⟩:=e;obtain⟨q1,U,q3,q4⟩:=hx;simp only at q1 U q3 q4;subst q1 q4;have t1:=ok.th;simp only at t1;have fS:e9 (th:Int) h.S.length=J:=c4 (by rw[o.lS];exact t1);have fN:e9 (th:Int) h.N.length=J:=c4 (by rw[o.lN];exact t1);have fT:k=21->e9 (ob:Int) h.T.length=J/\z=(ob:Int):=λe=>by
  subst e;have:=ok.sp (.inr rfl);exact⟨c4 this,q3 (by decide)⟩
 have fL:(k=6\/k=10\/k=8)->e9 (ob:Int) h.L.length=J/\e9 (ob:Int) h.R.length=J/\z=(ob:Int):=λe=>by
  have h1:ob<h.L.length:=ok.lk (by rcases e with rfl|rfl|rfl<;>(simp only[];omega));exact⟨c4 h1,c4 (by rw[o.lR];exact h1),q3 (by rcases e with rfl|rfl|rfl<;>decide)⟩
 have fC:k=3->e9 (ob:Int) h.C.length=J/\z=(ob:Int):=λe=>by
  subst e;have:=(ok.ce (.inl rfl)).1;exact⟨c4 this,q3 (by decide)⟩
 have fF:k=23->e9 (ob:Int) h.F.length=J/\z=(ob:Int):=λe=>by
  subst e;have:=ok.fu (.inr rfl);exact⟨c4 this,q3 (by decide)⟩
 unfold uX ub E6 aY bi bx cI dY lh AM Db Prod.q10 Prod.q11 cY fG ck bg wQ bB aD;rcases IQ U ok.k1 ok.k2 with ⟨e,e'⟩|⟨e,e'⟩|⟨e,e'⟩|⟨e,e'⟩|⟨e,e'⟩|⟨e,e'⟩|⟨e,e'⟩|⟨e,e'⟩|⟨e,e'⟩|⟨e,e'⟩|⟨e,e'⟩|⟨e,e'⟩|⟨e,e'⟩|⟨e,e'⟩|⟨e,e'⟩|⟨e,e'⟩|⟨e,e'⟩|⟨e,e'⟩|⟨e,e'⟩|⟨e,e'⟩|⟨e,e'⟩|⟨e,e'⟩|⟨e,e'⟩<;>clear U<;>subst e<;>subst e'
 case inr.inr.inr.inr.inr.inr.inr.inr.inr.inr.inr.inr.inr.inr.inr.inr.inl=>
  have q3:=q3 (by decide);subst q3;obtain⟨d1,d2,Z⟩:=ok.cd (.inr rfl);simp only at d1 d2 Z;have d4:Py A ob<h.R.length:=by rw[o.lR];exact Z
  have e1:(A.getD ob ([],0)).2=((Py A ob:Nat):Int):=by unfold Py;omega
  simp only[aU,cK,cV,c6,c7,jB,cE,c4 d1,Qd,e1,Tj _ _ Z,Tj _ _ d4,cZ,XI,fN,rm];rfl
 case inr.inr.inl=>
  obtain⟨a,rfl⟩:=fC rfl;simp only[aU,cK,cV,c6,c7,jB,cE,a,rm];rfl
 case inr.inr.inr.inr.inr.inr.inr.inr.inr.inr.inr.inr.inr.inr.inr.inr.inr.inr.inr.inr.inr.inr=>
  obtain⟨a,rfl⟩:=fF rfl;simp only[aU,cK,cV,c6,c7,jB,cE,a,rm];rfl
 case inr.inr.inr.inr.inr.inr.inr.inr.inr.inr.inr.inr.inr.inr.inr.inr.inr.inr.inr.inr.inl=>
  obtain⟨a,rfl⟩:=fT rfl;simp only[aU,cK,cV,c6,c7,jB,cE,a,rm];rfl
 case inl=>
  simp only[aU,cK,cV,c6,c7,jB,cE,fS,rm];rfl
 case inr.inr.inr.inr.inr.inl=>
  obtain⟨a,s,rfl⟩:=fL (by decide);simp only[aU,cK,cV,c6,c7,jB,cE,a,s,rm];rfl
 case inr.inr.inr.inr.inr.inr.inr.inr.inr.inl=>
  obtain⟨a,s,rfl⟩:=fL (by decide);simp only[aU,cK,cV,c6,c7,jB,cE,a,s,rm];rfl
 case inr.inr.inr.inr.inr.inr.inr.inl=>
  obtain⟨a,s,rfl⟩:=fL (by decide);simp only[aU,cK,cV,c6,c7,jB,cE,a,s,rm];rfl
 all_goals
  simp only[aU,cK,cV,c6,c7,jB];rfl
theorem N' {σ R:Type} {f:σ->I (σ⊕R)} {x0:σ} {r:R} (n:Nat) (hn:n<18446744073709551616) (st:Nat->σ) (a:x0=st 0) (h0:∀i,i<n->f (st i)=M (.inl (st (i+1)))) (h1:f (st n)=M (.inr r)):gA f x0=M r:=by
 subst a;exact xl n hn st h0 h1
def Mj {α:Type} (p:Nat->Bool) (c:α) (u:Nat) (l:Y α):Y α:=l.mapIdx λk x=>if decide (k<u)&&p k then c else x
theorem ack {α:Type} (p:Nat->Bool) (c:α) (l:Y α):Mj p c 0 l=l:=by
 unfold Mj;apply dl
 .simp
 .intro i h1 h2;simp
theorem Je {α:Type} (p:Nat->Bool) (c:α) (u:Nat) (l:Y α):(Mj p c u l).length=l.length:=by simp[Mj]
theorem Rr {α:Type} (p:Nat->Bool) (c:α) (u:Nat) (l:Y α) (h:l.length<=u):Mj p c u l=l.mapIdx λk x=>if p k then c else x:=by
 unfold Mj;apply dl
 .simp
 .intro i h1 h2;simp only[List.length_mapIdx]at h1;simp only[List.getElem_mapIdx];rw[show decide (i<u)=J from aP (by omega)];rfl
theorem X8 {α:Type} (p:Nat->Bool) (c:α) (u:Nat) (l:Y α) (hp:p u=J):(Mj p c u l).set u c=Mj p c (u+1) l:=by
 unfold Mj;apply dl
 .simp
 .intro i h1 h2;simp only[nk,List.getElem_mapIdx];by_cases e:u=i
  .subst e;simp[hp]
  .rw[aw e];by_cases h:i<u
   .rw[aP h,aP (show i<u+1 by omega)]
   .rw[bt h,bt (show ¬i<u+1 by omega)]
theorem Rq {α:Type} (p:Nat->Bool) (c:α) (u:Nat) (l:Y α) (hp:p u=af):Mj p c u l=Mj p c (u+1) l:=by
 unfold Mj;apply dl
 .simp
 .intro i h1 h2;simp only[List.getElem_mapIdx];by_cases e:u=i
  .subst e;simp[hp]
  .by_cases h:i<u
   .rw[aP h,aP (show i<u+1 by omega)]
   .rw[bt h,bt (show ¬i<u+1 by omega)]
theorem alt (p:Nat->Bool) (c:Int) (u:Nat) (l:η):(Mj p c u l).getD u 0=l.getD u 0:=by
 unfold Mj;rw[av,E7,av];cases l[u]? with
 |none=>rfl
 |some x=>simp
def HS.e (h:HS) (c:η):η×Y η×Y η×Y η×Y η×Y η×Y η×Y η×η×η:=(h.X,h.T,h.S,h.L,h.R,h.C,h.F,h.N,h.W,c)
theorem aex {n:Int} {w:vG} {h:HS} (o:Vf n h) (hn:n+1<=1000000) {e:EV} (ok:EOK w h e) {x:ETp} (hx:EvT e x) {c:η} (hc:En (n+1) c):sa ((w,x),h.e c)=M ((j8 w h e c).e c):=by
 obtain⟨x1,x2,x3,a,x5,x6,x7⟩:=x;obtain⟨z,w2,A,w4,w5,w6⟩:=w;obtain⟨th,k,ob,va⟩:=e;obtain⟨q1,q2,q3,q4⟩:=hx;simp only at q1 q2 q3 q4;subst q1 q4;have t1:=ok.th;simp only at t1;have m:n<=n+1:=by omega
 have fT:e9 (th:Int) h.T.length=J:=c4 t1;have fW:e9 (th:Int) h.W.length=J:=c4 (by rw[o.lW];exact t1);have s:=O2 c hc.lb;unfold sa Ba HS.e E6 Prod.p11 Prod.p12 Prod.p13 Prod.p14 Prod.p15 Prod.p16 Prod.p17 aY bi bx cI dY lh AM Db Prod.q10 Prod.q16 Prod.q17 Prod.q18 cY kA Prod.q9 ck bg bw iZ wQ bB aX cQ aD cJ;rcases IQ q2 ok.k1 ok.k2 with ⟨e,e'⟩|⟨e,e'⟩|⟨e,e'⟩|⟨e,e'⟩|⟨e,e'⟩|⟨e,e'⟩|⟨e,e'⟩|⟨e,e'⟩|⟨e,e'⟩|⟨e,e'⟩|⟨e,e'⟩|⟨e,e'⟩|⟨e,e'⟩|⟨e,e'⟩|⟨e,e'⟩|⟨e,e'⟩|⟨e,e'⟩|⟨e,e'⟩|⟨e,e'⟩|⟨e,e'⟩|⟨e,e'⟩|⟨e,e'⟩|⟨e,e'⟩<;>clear q2<;>subst e<;>subst e'
 case inr.inr.inr.inr.inr.inr.inr.inr.inr.inr.inr.inr.inr.inr.inr.inr.inr.inr.inr.inl=>
  obtain rfl:=q3 (by decide);have f:e9 (ob:Int) h.S.length=J:=c4 (by rw[o.lS];exact ok.sp (.inl rfl));simp only[aU,cK,cV,c6,c7,jB,cZ,cE,s,fT,f,dR];rfl
 case inr.inr.inr.inr.inr.inr.inl=>
  obtain rfl:=q3 (by decide);have f:ob<h.L.length:=ok.lk (by simp only[];omega);simp only[aU,cK,cV,c6,c7,jB,cZ,cE,s,fT,dR,uz _ _ _ f (o.L.mono m) hc,sj,XI];rfl
 case inr.inr.inr.inr.inr.inr.inr.inr.inr.inr.inl=>
  obtain rfl:=q3 (by decide);have f:ob<h.L.length:=ok.lk (by simp only[];omega);simp only[aU,cK,cV,c6,c7,jB,cZ,cE,s,fT,dR,uz _ _ _ f (o.L.mono m) hc,sj,XI];rfl
 case inr.inr.inr.inr.inr.inr.inr.inr.inl=>
  obtain rfl:=q3 (by decide);have f:ob<h.R.length:=by rw[o.lR];exact ok.lk (by simp only[];omega)
  simp only[aU,cK,cV,c6,c7,jB,cZ,cE,s,fT,dR,uz _ _ _ f (o.R.mono m) hc,sj,XI];rfl
 case inr.inr.inr.inr.inr.inr.inr.inr.inr.inr.inr.inr.inr.inr.inr.inl=>
  obtain rfl:=q3 (by decide);obtain⟨Z,d2,d3⟩:=ok.cd (.inl rfl);simp only at Z d2 d3;have e1:(A.getD ob ([],0)).2=((Py A ob:Nat):Int):=by unfold Py;omega
  simp only[aU,cK,cV,c6,c7,jB,cZ,cE,s,fT,fW,dR,c4 Z,Qd,e1,uz _ _ _ d3 (o.L.mono m) hc,sj,XI];rfl
 case inr.inr.inr.inl=>
  obtain rfl:=q3 (by decide);obtain⟨Z,d2⟩:=ok.ce (.inr rfl);simp only at Z d2;simp only[aU,cK,cV,c6,c7,jB,cZ,cE,s,fT,dR,c4 d2,Qc];cases hv:(z.getD ob ([],0,0,af,0)).2.2.2.1 with
  |true=>
   simp only[c6,cZ,cE,uz _ _ _ Z (o.C.mono m) hc,sj,XI,jB];have U:j8 (z,w2,A,w4,w5,w6) h ⟨th,4,ob,a⟩ c=if rQ z ob then {h with T:=h.T.set th c,C:=jat h.C ob c} else {h with T:=h.T.set th c}:=rfl
   rw[U,show rQ z ob=J from hv];rfl
  |false=>
   simp only[c7,jB];have U:j8 (z,w2,A,w4,w5,w6) h ⟨th,4,ob,a⟩ c=if rQ z ob then {h with T:=h.T.set th c,C:=jat h.C ob c} else {h with T:=h.T.set th c}:=rfl
   rw[U,show rQ z ob=af from hv];rfl
 case inr.inr.inr.inr.inr.inr.inr.inr.inr.inr.inr.inr.inr.inr.inr.inr.inr.inr.inr.inr.inr.inl=>
  obtain rfl:=q3 (by decide);have f:ob<h.F.length:=ok.fu (.inl rfl);simp only[aU,cK,cV,c6,c7,jB,cZ,cE,s,fT,dR,uz _ _ _ f (o.F.mono m) hc,sj,XI];rfl
 case inr.inr.inr.inr.inr.inr.inr.inr.inr.inr.inr.inr.inl=>
  simp only[aU,cK,cV,c6,c7,jB,cZ,cE,s,fT,dR,UU _ _ (o.X.mono m).lb hc.lb];rfl
 case inr.inr.inr.inr.inr.inr.inr.inr.inr.inr.inr.inr.inr.inr.inr.inr.inr.inl=>
  simp only[aU,cK,cV,c6,c7,jB,cZ,cE,s,fT,dR];have U:j8 (z,w2,A,w4,w5,w6) h ⟨th,18,ob,a⟩ c=if 0<=a/\a<h.N.length then {h with T:=h.T.set th c,N:=h.N.set a.toNat c,W:=h.W.set a.toNat (-1)} else {h with T:=h.T.set th c}:=rfl
  rw[U];by_cases h0:0<=a
  .by_cases h1:a<h.N.length
   .rw[re h0];simp only[c6,jB];rw[vW (show a<aM h.N.length from h1)];obtain⟨v,rfl⟩:∃v:Nat,a=(v:Int):=⟨a.toNat,by omega⟩
    have v1:v<h.N.length:=by omega
    have v2:v<h.W.length:=by rw[o.lW,<-o.lN];exact v1
    have:=Yc {h with T:=h.T.set th c} v c v1 v2 hc;simp only[]at this;simp only[c6,this,cZ,ij,cE,afi rfl,jO,jB];rw[aC ⟨h0,h1⟩];rfl
   .rw[re h0];simp only[c6,jB];rw[xo (show aM h.N.length<=a from C8.1 h1)];simp only[c7,jB];rw[aw (λq=>h1 q.2)]
  .rw[Ob (by omega)];simp only[c7,jB];rw[aw (λq=>h0 q.1)]
 case inr.inr.inr.inr.inr.inr.inr.inr.inr.inr.inr.inr.inr.inr.inr.inr.inr.inr.inl=>
  obtain rfl:=q3 (by decide);simp only[aU,cK,cV,c6,c7,jB,cZ,cE,s,fT,dR];rw[N' (r:=bS (h.X,h.T.set th c,h.S,h.L,h.R,h.C,h.F,Mj (λu=>decide (h.W.getD u 0=(ob:Int))) c h.W.length h.N,Mj (λu=>decide (h.W.getD u 0=(ob:Int))) (-1) h.W.length h.W,c)) h.W.length (by have:=o.lW;have:=o.lT;omega)
   (λi=>((i:Int),h.X,h.T.set th c,h.S,h.L,h.R,h.C,h.F,Mj (λu=>decide (h.W.getD u 0=(ob:Int))) c i h.N,Mj (λu=>decide (h.W.getD u 0=(ob:Int))) (-1) i h.W,c,(th:Int),(19:Int),(ob:Int),a,x5,x6,x7)) ?_ ?_ ?_]
  .simp only[jB];rw[Rr _ _ _ h.W (bT _),Rr _ _ _ h.N (by rw[o.lN,o.lW];exact bT _)];rfl
  .simp only[ack];rfl
  .intro i hi;simp only[];have hN:i<(Mj (λu=>decide (h.W.getD u 0=(ob:Int))) c i h.N).length:=by rw[Je,o.lN,<-o.lW];exact hi
   have hW:i<(Mj (λu=>decide (h.W.getD u 0=(ob:Int))) (-1) i h.W).length:=by rw[Je];exact hi
   rw[vW (by simp;omega),c6,cE (c4 hW),cE (c4 hW),amd,alt];have ws:=rM hi (show h.W.length<=1099511627776 by have:=o.lW;have:=o.lT;omega);by_cases hp:h.W.getD i 0=(ob:Int)
   .rw[aP hp,c6];have:=Yc {h with T:=h.T.set th c,N:=Mj (λu=>decide (h.W.getD u 0=(ob:Int))) c i h.N,W:=Mj (λu=>decide (h.W.getD u 0=(ob:Int))) (-1) i h.W} i c hN hW hc;simp only[]at this;rw[this,cZ,cE (by simp only[ij,afi rfl,jO]),jB,ws,X8 _ _ _ _ (aP hp),X8 _ _ _ _ (aP hp)]
   .rw[bt hp,c7,jB,ws,<-Rq _ _ _ _ (bt hp),<-Rq _ _ _ _ (bt hp)]
  .simp only[];rw[xo (by simp),c7]
 all_goals
  simp only[aU,cK,cV,c6,c7,jB,cZ,cE,s,fT,dR];rfl
theorem WH (l:Y η) (c:η) (i:Nat) (hi:i<l.length):(l.take (i+1)).foldl jl c=jl ((l.take i).foldl jl c) (l.getD i []):=by
 rw[List.take_add_one,dz,ay hi,av,ay hi];rfl
theorem Rz (w:vG) (h:HS) (e:EV):(ub w h e).length<=3:=by
 unfold ub;repeat' split
 all_goals simp
theorem amn {n:Int} {w:vG} {h:HS} (o:Vf n h) (e:EV) (i:Nat):0<=((ub w h e).foldl jl (h.T.getD e.th [])).getD i 0/\((ub w h e).foldl jl (h.T.getD e.th [])).getD i 0<9223372036854775807:=by
 have:=(D3 _ _ (o.T e.th) (Vq (w:=w) o e)).2 i;have:=o.n1;omega
theorem G6 (w:vG) (h:HS) (e:EV) (c:η):(j8 w h e c).T.length=h.T.length/\(j8 w h e c).S.length=h.S.length/\(j8 w h e c).L.length=h.L.length/\(j8 w h e c).R.length=h.R.length/\(j8 w h e c).C.length=h.C.length/\(j8 w h e c).F.length=h.F.length/\(j8 w h e c).N.length=h.N.length/\(j8 w h e c).W.length=h.W.length:=by
 unfold j8;simp only[];repeat' split
 all_goals simp[jat,Df]
theorem ajk {n:Int} {w:vG} {h:HS} (o:Vf n h) (hn:n+1<=1000000) {e:EV} (ok:EOK w h e) {x:ETp} (hx:EvT e x):s9 (w,h.t,x)=M ((Rw w h e).1.t,(Rw w h e).2):=by
 have s2:=ag0 o ok hx;have hce:En (n+1) (Ga w h e):=QO o ok.th4;have en:=aex o hn ok hx hce;have cp:=aaq h.t o.GH;have sl:=Rz w h e;have sE:=Vq (w:=w) o e;have hlen:=G6 w h e (Ga w h e);obtain⟨x1,x2,x3,x4,x5,x6,x7⟩:=x;obtain⟨Z,U,A,z,s,a⟩:=w;have t1:=hx.th;simp only at t1;subst t1;unfold HS.t at cp;simp only[]at cp;have fT:e9 (e.th:Int) h.T.length=J:=c4 ok.th;unfold s9 DX HS.t E6 Prod.p11 aY bi bx cI dY lh AM Db Prod.q11 Prod.q12 cY fG qH Prod.q9 ck bw wQ bB aX cQ cJ;simp only[];rw[cp,cZ];simp only[];rw[cE fT,cE fT,s2,cZ];simp only[];rw[cE (by simp only[afi rfl,jO])];refine N' (ub (Z,U,A,z,s,a) h e).length (by omega) (λi=>((i:Int),(Z,U,A,z,s,a),((e.th:Int),x2,x3,x4,x5,x6,x7),h.X,((ub (Z,U,A,z,s,a) h e).take i).foldl jl (h.T.getD e.th []),h.T,h.S,h.L,h.R,h.C,h.F,h.N,h.W)) ?_ ?_ ?_
 .simp only[rm,List.take_zero,List.foldl_nil];rfl
 .intro i hi;simp only[];rw[vW (by simp;omega),c6,cE (c4 hi),rm,(D3 _ _ (o.T e.th) (λy hy=>sE y (gh hy))).join (sE _ (Kn hi)),cZ,rM hi (by omega),WH _ _ _ hi]
 .simp only[];rw[xo (by simp),c7,gk (bT _)];have hl:=amn (w:=(Z,U,A,z,s,a)) o e e.th;rw[ajh _ e.th (D3 _ _ (o.T e.th) sE).lb ok.th4 hl.1 hl.2,cZ];unfold HS.e at en;unfold Ga at en hlen;rw[en,cZ];simp only[];rw[cE (by rw[hlen.1,hlen.2.1,hlen.2.2.1,hlen.2.2.2.1,hlen.2.2.2.2.1,hlen.2.2.2.2.2.1,hlen.2.2.2.2.2.2.1,hlen.2.2.2.2.2.2.2];simp only[afi rfl,jO])];rfl
abbrev wP:Ty:=(.st (.pr (.int .i64) (.sl (.st (.pr (.int .i64) (.pr (.int .i64) (.pr (.int .i64) (.pr (.int .i64) (.pr (.int .i64) (.int .i64))))))))))
abbrev Cm:Ty:=(.st (.pr (.int .i64) (.pr (.int .i64) (.pr (.int .i64) (.pr (.int .i64) (.pr (.int .i64) (.int .i64)))))))
abbrev vB:Ty:=(.st (.pr (.int .i64) (.pr (.sl (.int .i64)) (.pr (.sl (.sl (.int .i64))) (.int .i64)))))
abbrev zJ:Ty:=(.st (.pr .str (.pr (.int .i64) (.pr (.sl .str) (.sl .sm)))))
abbrev tDc:Ty:=(.st (.pr (.int .i64) (.pr (.int .i64) (.pr .str (.pr (.int .i64) (.pr (.int .i64) .str))))))
abbrev tE:Ty:=(.st (.pr (.int .i64) (.pr (.int .i64) (.pr (.int .i64) (.pr (.int .i64) (.pr (.int .i64) (.pr (.sl (.int .i64)) (.sl (.int .i64)))))))))
abbrev Vo:Ty:=(.st (.pr .str .bool))
abbrev Pd:Ty:=(.st (.pr .str (.pr (.int .i64) (.pr (.int .i64) (.pr .bool (.int .i64))))))
abbrev yP:Ty:=(.st (.pr (.int .i64) (.pr (.int .i64) (.int .i64))))
abbrev Vc:Ty:=(.st (.pr .str (.int .i64)))
abbrev Bj:Ty:=(.st (.pr (.int .i64) (.sl (.int .i64))))
abbrev jP:Ty:=(.st (.pr (.int .i64) (.pr (.int .i64) .bool)))
def Ok {R:Type} (o:I R) (Q:R->Prop):Prop:=∃y,o=M y/\Q y
theorem Ok.mono {R:Type} {o:I R} {Q Q':R->Prop} (h:Ok o Q) (hq:∀y,Q y->Q' y):Ok o Q':=by obtain⟨y,h1,h2⟩:=h;exact⟨y,h1,hq y h2⟩
theorem aj {R:Type} {y:R} {Q:R->Prop} (h:Q y):Ok (M y) Q:=⟨y,rfl,h⟩
theorem akm {R:Type} {o:I R} {y:R} {Q:R->Prop} (e:o=M y) (h:Q y):Ok o Q:=⟨y,e,h⟩
theorem bh {R:Type} {b:Bool} {k:I R} {Q:R->Prop} (h:b=J) (hk:Ok k Q):Ok (chk b λ_=>k) Q:=by subst h;exact hk
theorem aN {R:Type} {b:Bool} {t f:I R} {Q:R->Prop} (ht:b=J->Ok t Q) (hf:b=af->Ok f Q):Ok (aF b t f) Q:=by
 cases b with
 |true=>exact ht rfl
 |false=>exact hf rfl
theorem fX {R:Type} {b:Bool} {t f:I R} {Q:R->Prop} (h:b=J) (ht:Ok t Q):Ok (aF b t f) Q:=by subst h;exact ht
theorem gf {R:Type} {b:Bool} {t f:I R} {Q:R->Prop} (h:b=af) (hf:Ok f Q):Ok (aF b t f) Q:=by subst h;exact hf
theorem ax {α R:Type} {o:I α} {k:α->I R} {P:α->Prop} {Q:R->Prop} (h:Ok o P) (hk:∀x,P x->Ok (k x) Q):Ok (au o k) Q:=by
 obtain⟨x,rfl,a⟩:=h;exact hk x a
theorem aS {α R:Type} {o:I α} {k:α->I R} {x:α} {Q:R->Prop} (h:o=M x) (hk:Ok (k x) Q):Ok (au o k) Q:=by subst h;exact hk
theorem aT {α R:Type} {x:α} {k:α->I R} {Q:R->Prop} (h:Ok (k x) Q):Ok (lt x k) Q:=h
theorem aV {α R:Type} {o:I (R⊕α)} {k:α->I R} {Q:R->Prop} (P:α->Prop) (h:Ok o λr=>match r with|.inl r=>Q r|.inr x=>P x) (hk:∀x,P x->Ok (k x) Q):Ok (jn o k) Q:=by
 obtain⟨r,rfl,hr⟩:=h;cases r with
 |inl r=>exact⟨r,rfl,hr⟩
 |inr x=>exact hk x hr
theorem gJ {α R:Type} {o:I (R⊕α)} {k:α->I R} {Q:R->Prop} (h:Ok o λr=>match r with|.inl r=>Q r|.inr x=>Ok (k x) Q):Ok (jn o k) Q:=aV (λx=>Ok (k x) Q) h λ_ h=>h
theorem ahq {α R:Type} {a b:α} {r:I R} {Q:R->Prop} (e:a=b) (h:Ok r Q):Ok (same a b r) Q:=by unfold same;rw[aC e];exact h
theorem qK {σ R:Type} {f:σ->I (σ⊕R)} {Q:R->Prop} (μ:σ->Nat) (z:σ->Prop) (h:∀x,z x->Ok (f x) λr=>match r with|.inl y=>z y/\μ y<μ x|.inr r=>Q r) {x:σ} (a:z x):Ok (iter f x) Q:=by
 have key:∀n x,μ x<n->z x->∃m r,iterN f m x=M r/\Q r:=by
  intro n;induction n with
  |zero=>intro x hm;omega
  |succ n s=>
   intro x hm a;obtain⟨r,h1,h2⟩:=h x a;cases r with
   |inl y=>
    obtain⟨m,r,L,A⟩:=s y (by have:=h2.2;omega) h2.1;exact⟨m+1,r,by rw[iterN,h1];exact L,A⟩
   |inr r=>exact⟨1,r,by rw[iterN,h1],h2⟩
 obtain⟨m,r,h1,h2⟩:=key (μ x+1) x (rE _) a;exact⟨r,z_ h1,h2⟩
theorem bZ {σ R:Type} {f:σ->I (σ⊕R)} {Q:R->Prop} (n:Nat) (z:Nat->σ->Prop) (h0:∀i x,i<n->z i x->Ok (f x) λr=>match r with|.inl y=>z (i+1) y|.inr r=>Q r) (h1:∀x,z n x->Ok (f x) λr=>match r with|.inl _=>False|.inr r=>Q r) {x:σ} (A:z 0 x):Ok (iter f x) Q:=by
 have key:∀m i x,i+m=n->z i x->∃k r,iterN f k x=M r/\Q r:=by
  intro m;induction m with
  |zero=>
   intro i x hi A;have:i=n:=by omega
   subst this;obtain⟨r,s,a⟩:=h1 x A;cases r with
   |inl y=>exact a.elim
   |inr r=>exact⟨1,r,by rw[iterN,s],a⟩
  |succ m L=>
   intro i x hi A;obtain⟨r,s,a⟩:=h0 i x (by omega) A;cases r with
   |inl y=>
    obtain⟨k,r,Z,U⟩:=L (i+1) y (by omega) a;exact⟨k+1,r,by rw[iterN,s];exact Z,U⟩
   |inr r=>exact⟨1,r,by rw[iterN,s],a⟩
 obtain⟨m,r,s,a⟩:=key n 0 x (by omega) A;exact⟨r,z_ s,a⟩
def itQ {σ R:Type} (f:σ->I (σ⊕R)) (Q:R->Prop):σ⊕R->Prop
 |.inl y=>Ok (iter f y) Q
 |.inr r=>Q r
def jnQ {α R:Type} (k:α->I R) (Q:R->Prop):R⊕α->Prop
 |.inl r=>Q r
 |.inr x=>Ok (k x) Q
theorem ahp {σ R:Type} {f:σ->I (σ⊕R)} {x:σ} {Q:R->Prop} (h:Ok (f x) (itQ f Q)):Ok (iter f x) Q:=by
 obtain⟨r,h1,h2⟩:=h;cases r with
 |inr r=>exact⟨r,z_ (n:=1) (by rw[iterN,h1]),h2⟩
 |inl y=>
  obtain⟨z,a,s⟩:=h2;unfold iter at a;split at a
  .exact⟨z,z_ (n:=_+1) (by rw[iterN,h1];exact a),s⟩
  .cases a
theorem YB {σ R:Type} {f:σ->I (σ⊕R)} {y:σ} {Q:R->Prop} (h:Ok (iter f y) Q):Ok (M (.inl y)) (itQ f Q):=⟨_,rfl,h⟩
theorem YA {σ R:Type} {f:σ->I (σ⊕R)} {r:R} {Q:R->Prop} (h:Ok (M r) Q):Ok (M (.inr r)) (itQ f Q):=by
 obtain⟨_,h1,h2⟩:=h;cases h1;exact⟨_,rfl,h2⟩
theorem Yy {α R:Type} {o:I (R⊕α)} {k:α->I R} {Q:R->Prop} (h:Ok o (jnQ k Q)):Ok (jn o k) Q:=by
 obtain⟨r,rfl,hr⟩:=h;cases r with
 |inl r=>exact⟨r,rfl,hr⟩
 |inr x=>exact hr
theorem Yz {α R:Type} {r:R} {k:α->I R} {Q:R->Prop} (h:Ok (M r) Q):Ok (M (.inl r)) (jnQ k Q):=by
 obtain⟨_,h1,h2⟩:=h;cases h1;exact⟨_,rfl,h2⟩
theorem Yx {α R:Type} {x:α} {k:α->I R} {Q:R->Prop} (h:Ok (k x) Q):Ok (M (.inr x)) (jnQ k Q):=⟨_,rfl,h⟩
def oQ {α R:Type} (k:α->I R) (Q:R->Prop) (x:α):Prop:=Ok (k x) Q
theorem RZ {α R:Type} {o:I α} {k:α->I R} {Q:R->Prop} (h:Ok o (oQ k Q)):Ok (au o k) Q:=ax h λ_ h=>h
theorem RY {α R:Type} {x:α} {k:α->I R} {Q:R->Prop} (h:Ok (k x) Q):Ok (M x) (oQ k Q):=⟨_,rfl,h⟩
theorem ai3 {j:Int} {n:Nat}:e9 j n=J↔0<=j/\j<n:=by simp[e9,c_,fP]
theorem PL {a b:Int}:c_ a b=J↔a<=b:=by simp[c_]
theorem sO {a b:Int}:fP a b=J↔a<b:=by simp[fP]
theorem gB {a b:Int}:fP a b=af↔b<=a:=by simp[fP]
theorem mE {a b:Int}:c_ a b=af↔b<a:=by simp[c_]
theorem Zz {n b:Nat}:a8 n b=J↔n<=1099511627776/\n*b<=1099511627776:=by simp[a8]
theorem cf {R:Type} {o:I R} {v:R} (h:Ok o (·=v)):o=M v:=by obtain⟨y,h1,h2⟩:=h;rw[h1,h2]
section steps
variable {R:Type} {k t f:I R} {Q:R->Prop}
theorem aR {j:Int} {n:Nat} (h0:0<=j) (h1:j<n) (hk:Ok k Q):Ok (chk (e9 j n) λ_=>k) Q:=bh (ai3.2 ⟨h0,h1⟩) hk
theorem be {n b:Nat} (h0:n<=1073741824) (h1:b<=1024) (hk:Ok k Q):Ok (chk (a8 n b) λ_=>k) Q:=
 bh (Zz.2 ⟨by omega,dy (Nat.mul_le_mul h0 h1) (by omega)⟩) hk
theorem dc {a b:Bool} (h:Ok (chk a λ_=>chk b λ_=>k) Q):Ok (chk (a&&b) λ_=>k) Q:=by
 cases a with
 |true=>exact h
 |false=>obtain⟨y,h,_⟩:=h;cases h
theorem dI {a b:Int} (h:a<=b) (hk:Ok k Q):Ok (chk (c_ a b) λ_=>k) Q:=bh (PL.2 h) hk
theorem AX {a b:Int} (h:a<b) (hk:Ok k Q):Ok (chk (fP a b) λ_=>k) Q:=bh (sO.2 h) hk
theorem YC {p:Prop} {i:Decidable p} (h:p) (hk:Ok k Q):Ok (chk (decide p) λ_=>k) Q:=bh (aP h) hk
theorem zR {p:Prop} {i:Decidable p} (h:¬p) (hk:Ok k Q):Ok (chk (!decide p) λ_=>k) Q:=bh (by simp[h]) hk
theorem mg {a b:Nat} (h:a=b) (hk:Ok k Q):Ok (chk (aB a b) λ_=>k) Q:=bh (by subst h;exact sF a) hk
theorem BE (hk:Ok k Q):Ok (chk J λ_=>k) Q:=hk
theorem bJ {a b:Int} (ht:a<b->Ok t Q) (hf:b<=a->Ok f Q):Ok (aF (fP a b) t f) Q:=aN (λh=>ht (sO.1 h)) (λh=>hf (gB.1 h))
theorem fc {a b:Int} (ht:a<=b->Ok t Q) (hf:b<a->Ok f Q):Ok (aF (c_ a b) t f) Q:=aN (λh=>ht (PL.1 h)) (λh=>hf (mE.1 h))
theorem aK {p:Prop} {i:Decidable p} (ht:p->Ok t Q) (hf:¬p->Ok f Q):Ok (aF (decide p) t f) Q:=aN (λh=>ht (ba h)) (λh=>hf (Cj h))
theorem ca {p:Prop} {i:Decidable p} (ht:¬p->Ok t Q) (hf:p->Ok f Q):Ok (aF (!decide p) t f) Q:=aN (λh=>ht (by simpa using h)) (λh=>hf (by simpa using h))
theorem em {b:Bool} (ht:b=af->Ok t Q) (hf:b=J->Ok f Q):Ok (aF (!b) t f) Q:=aN (λh=>ht (by simpa using h)) (λh=>hf (by simpa using h))
theorem uH (ht:Ok t Q):Ok (aF J t f) Q:=ht
theorem dF (hf:Ok f Q):Ok (aF af t f) Q:=hf
theorem b7 {j:Int} {n:Nat} (hk:Ok k Q) (h0:0<=j:=by first|omega|(dsimp only;omega)) (h1:j<n:=by first|omega|(dsimp only;omega)):Ok (chk (e9 j n) λ_=>k) Q:=aR h0 h1 hk
theorem dh {a b:Int} (ht:Ok t Q) (h:a<b:=by first|omega|(dsimp only[ak];omega)):Ok (aF (fP a b) t f) Q:=bJ (λ_=>ht) λg=>b8 h (C8.2 g)
theorem di {a b:Int} (hf:Ok f Q) (h:b<=a:=by first|omega|(dsimp only[ak];omega)):Ok (aF (fP a b) t f) Q:=bJ (λg=>b8 g (C8.2 h)) λ_=>hf
end steps
theorem rG:(∀(p:Prop) [Decidable p],(decide p=J)=p)/\(∀p:Prop,(True\/p)=True)/\(∀p:Prop,(p\/True)=True)/\(∀p:Prop,(True->p)=p)/\(∀p:Prop,(True/\p)=p)/\∀p:Prop,(p/\True)=p:=⟨λ_=>bc,true_or,or_true,λ_=>true_implies _,Ci,and_true⟩
theorem tX:(∀i:Decidable True,@decide True i=J)/\(∀i:Decidable False,@decide False i=af)/\(∀{R:Type} (t f:I R),aF J t f=t)/\(∀{R:Type} (t f:I R),aF af t f=f)/\(∀{α R:Type} (x:α) (k:α->I R),jn (M (.inr x)) k=k x)/\(∀{α R:Type} (r:R) (k:α->I R),jn (M (.inl r)) k=M r)/\(∀{α R:Type} (x:α) (k:α->I R),au (M x) k=k x)/\(∀{α R:Type} (x:α) (k:α->I R),lt x k=k x)/\(!J)=af/\(!af)=J:=⟨cV,cK,λ_ _=>rfl,λ_ _=>rfl,λ_ _=>rfl,λ_ _=>rfl,λ_ _=>rfl,λ_ _=>rfl,rfl,rfl⟩
structure IM (p q:Prop):Prop where
 h:p->q
inductive OS {R:Type}:Option R->(R->Prop)->Prop where
 |cand {a b:Bool} {k:Option R} {Q:R->Prop} (h:Ok (chk a λ_=>chk b λ_=>k) Q):OS (chk (a&&b) λ_=>k) Q
 |e9 {j:Int} {n:Nat} {k:Option R} {Q:R->Prop} (h0:0<=j) (h1:j<n) (hk:Ok k Q):OS (chk (e9 j n) λ_=>k) Q
 |room {n b:Nat} {k:Option R} {Q:R->Prop} (h0:n<=1073741824) (h1:b<=1024) (hk:Ok k Q):OS (chk (a8 n b) λ_=>k) Q
 |cile {a b:Int} {k:Option R} {Q:R->Prop} (h:a<=b) (hk:Ok k Q):OS (chk (c_ a b) λ_=>k) Q
 |cilt {a b:Int} {k:Option R} {Q:R->Prop} (h:a<b) (hk:Ok k Q):OS (chk (fP a b) λ_=>k) Q
 |cdec {p:Prop} {i:Decidable p} {k:Option R} {Q:R->Prop} (h:p) (hk:Ok k Q):OS (chk (decide p) λ_=>k) Q
 |cndec {p:Prop} {i:Decidable p} {k:Option R} {Q:R->Prop} (h:¬p) (hk:Ok k Q):OS (chk (!decide p) λ_=>k) Q
 |cbeq {a b:Nat} {k:Option R} {Q:R->Prop} (h:a=b) (hk:Ok k Q):OS (chk (aB a b) λ_=>k) Q
 |cT {k:Option R} {Q:R->Prop} (hk:Ok k Q):OS (chk J λ_=>k) Q
 |lt {α:Type} {x:α} {k:α->Option R} {Q:R->Prop} (h:Ok (k x) Q):OS (lt x k) Q
 |b1 {t f:Option R} {Q:R->Prop} (h:Ok t Q):OS (aF J t f) Q
 |b0 {t f:Option R} {Q:R->Prop} (h:Ok f Q):OS (aF af t f) Q
 |fP {a b:Int} {t f:Option R} {Q:R->Prop} (ht:IM (a<b) (Ok t Q)) (hf:IM (b<=a) (Ok f Q)):OS (aF (fP a b) t f) Q
 |c_ {a b:Int} {t f:Option R} {Q:R->Prop} (ht:IM (a<=b) (Ok t Q)) (hf:IM (b<a) (Ok f Q)):OS (aF (c_ a b) t f) Q
 |dec {p:Prop} {i:Decidable p} {t f:Option R} {Q:R->Prop} (ht:IM p (Ok t Q)) (hf:IM (¬p) (Ok f Q)):OS (aF (decide p) t f) Q
 |ndec {p:Prop} {i:Decidable p} {t f:Option R} {Q:R->Prop} (ht:IM (¬p) (Ok t Q)) (hf:IM p (Ok f Q)):OS (aF (!decide p) t f) Q
 |not {b:Bool} {t f:Option R} {Q:R->Prop} (ht:IM (b=af) (Ok t Q)) (hf:IM (b=J) (Ok f Q)):OS (aF (!b) t f) Q
 |aF {b:Bool} {t f:Option R} {Q:R->Prop} (ht:IM (b=J) (Ok t Q)) (hf:IM (b=af) (Ok f Q)):OS (aF b t f) Q
 |jc {α:Type} {o:Option (R⊕α)} {k:α->Option R} {Q:R->Prop} (h:Ok o λr=>match r with|.inl r=>Q r|.inr x=>Ok (k x) Q):OS (jn o k) Q
 |some {y:R} {Q:R->Prop} (h:Q y):OS (M y) Q
theorem OS.ok {R:Type} {o:I R} {Q:R->Prop} (h:OS o Q):Ok o Q:=by
 cases h with
 |cand h=>exact dc h
 |e9 a b h=>exact aR a b h
 |room a b h=>exact be a b h
 |cile a h=>exact dI a h
 |cilt a h=>exact AX a h
 |cdec a h=>exact YC a h
 |cndec a h=>exact zR a h
 |cbeq a h=>exact mg a h
 |cT h=>exact h
 |lt h=>exact h
 |b1 h=>exact h
 |b0 h=>exact h
 |fP a b=>exact bJ a.h b.h
 |c_ a b=>exact fc a.h b.h
 |dec a b=>exact aK a.h b.h
 |ndec a b=>exact ca a.h b.h
 |not a b=>exact em a.h b.h
 |aF a b=>exact aN a.h b.h
 |jc h=>
  obtain⟨r,e,h⟩:=h;exact gJ ⟨r,e,by cases r<;>exact h⟩
 |some h=>exact aj h
theorem bcT {R:Type} (t f:I R):aF J t f=t:=rfl
theorem bcF {R:Type} (t f:I R):aF af t f=f:=rfl
theorem jnr {α R:Type} (x:α) (k:α->I R):jn (M (.inr x)) k=k x:=rfl
theorem YD {α R:Type} (x:α) (k:α->I R):au (M x) k=k x:=rfl
theorem JU {k:Int}:k=1\/k=2\/k=3\/k=4\/k=5\/k=6\/k=7\/k=8\/k=9\/k=10\/k=11\/k=12\/k=13\/k=14\/k=15\/k=16\/k=17\/k=18\/k=19\/k=20\/k=21\/k=22\/k=23\/((∀j:Int,1<=j->j<=23->(k=j)=False)/\(k<1\/23<k)):=by
 by_cases h:1<=k/\k<=23
 .omega
 .have:(∀j:Int,1<=j->j<=23->(k=j)=False)/\(k<1\/23<k):=⟨λj h1 h2=>eq_false (by omega),by omega⟩
  repeat (first|exact this|refine Or.inr ?_)
theorem iw {n:Int} (h0: -9223372036854775808<=n) (h1:n<=9223372036854775807):bl .i64 n=n:=by
 rw[ID];unfold ND;simp[c_,h0,h1]
theorem gw {i:Nat} (h:i<9223372036854775807):bl .i64 ((i:Int)+1)=((i+1:Nat):Int):=by rw[iw (by omega) (by omega)];omega
theorem Ag {T:Ty} (xs:Y T.den) (i:Nat):aJ xs (i:Int)=xs.getD i T.zero:=by unfold aJ;simp
theorem Qe (xs:η) (i:Nat):aJ (T:=.int .i64) xs (i:Int)=xs.getD i 0:=Ag (T:=.int .i64) xs i
theorem bN {T:Ty} {xs:Y T.den} {j:Int} (h0:0<=j) (h1:j<xs.length):aJ xs j∈xs:=by
 unfold aJ;rw[av,ay (by omega)];exact vN _
theorem bY {α:Type} (xs:Y α) (j:Int) (x:α):(cL xs j x).length=xs.length:=by unfold cL;simp
theorem Dm {α:Type} {xs:Y α} {j:Int} {x y:α} (h:y∈cL xs j x):y∈xs\/y=x:=List.mem_or_eq_of_mem_set h
abbrev WT:Type:=Y (ζ×Int×Int×Bool×Int)×Y (ζ×Bool)×Y (ζ×Int)×Y ζ×Y ζ×Y π
abbrev SY:Type:=Y (Int×η)×Int×θ×Y (Int×Int×Bool)
theorem ae6 (a b:Int):qT (a,b)=M (decide (0<=a/\a<b)):=by
 refine cf ?_;unfold qT iZ aD;with_reducible repeat' first|(refine OS.ok ?_;constructor)|refine IM.mk λ_=>?_
 .by_cases h:a<b<;>simp[*,fP]
 .simp;omega
theorem X2 (l:η) (n:Int) (hl:l.length<=1000000):qU (l,n)=M (l.contains n):=by
 refine cf ?_;unfold qU bg bw bC aX cQ aD cJ;refine bZ l.length (λi x=>x=(i:Int)/\∀k,k<i->l.getD k 0≠n) ?_ ?_ ⟨rfl,λk hk=>by omega⟩
 .rintro i x hi ⟨rfl,a⟩;with_reducible repeat' first|(refine OS.ok ?_;constructor)|refine IM.mk λ_=>?_
  all_goals try simp only[ak,rG] at*
  .omega
  .omega
  .rename_i h;rw[Qe]at h;show J=_
   symm
   rw[tU,<-h,av,ay hi];exact vN _
  .rename_i h;rw[Qe]at h;refine ⟨gw (by omega),λk hk=>?_⟩;rcases ci k i with h1|h1
   .exact a k h1
   .rw[show k=i by omega];exact h
  .omega
 .rintro x ⟨rfl,a⟩;with_reducible repeat' first|(refine OS.ok ?_;constructor)|refine IM.mk λ_=>?_
  all_goals try simp only[ak,rG] at*
  .omega
  .omega
  .omega
  .omega
  .symm
   rw[O8];intro hc;rw[tU]at hc;obtain⟨k,hk,he⟩:=List.getElem_of_mem hc;exact a k hk (by rw[av,ay hk];exact he)
theorem iI {T:Ty} {xs:Y T.den} {p:T.den->Prop} (h:∀k:Nat,k<ai xs->p (aJ xs (k:Int))):∀c∈xs,p c:=λc hc=>by
 obtain⟨k,hk,he⟩:=List.getElem_of_mem hc;have:=h k hk;rw[Ag,av,ay hk,vL,he]at this;exact this
theorem Rh (w:WT) (s:SY) (hw:w.2.2.1.length<=1000000):Ok (rX (w,s)) λb=>b=J->(∀c∈w.2.2.1,0<=c.2/\c.2<w.2.1.length)/\s.1.length=w.2.1.length/\s.2.2.1.length=w.2.2.2.1.length/\s.2.2.2.length=w.2.2.2.2.1.length:=by
 unfold rX aY bi bx cY bg bw bC aX cQ aD cJ;refine bZ w.2.2.1.length (λi x=>x.1=(i:Int)/\x.2=(w,s)/\∀k:Nat,k<i->0<=(aJ (T:=Vc) w.2.2.1 (k:Int)).2/\(aJ (T:=Vc) w.2.2.1 (k:Int)).2<w.2.1.length) ?_ ?_ ⟨rfl,rfl,λk hk=>by omega⟩
 .rintro i ⟨U,L⟩ hi ⟨z,a,A⟩;dsimp only at z a;subst z;subst a;with_reducible repeat' first|(refine OS.ok ?_;constructor)|refine IM.mk λ_=>?_
  all_goals try simp only[ak,rG] at*
  all_goals first|omega|skip
  .intro h;cases h
  .intro h;cases h
  .refine ⟨gw (by omega),λk hk=>?_⟩;rcases ci k i with h1|h1
   .exact A k h1
   .rename_i h2 Z;rw[show k=i by omega];exact⟨h2,Z⟩
 .rintro⟨U,L⟩ ⟨z,a,A⟩;dsimp only at z a;subst z;subst a;with_reducible repeat' first|(refine OS.ok ?_;constructor)|refine IM.mk λ_=>?_
  all_goals try simp only[ak,rG] at*
  all_goals first|omega|skip
  refine ax (P:=λb=>b=J->s.1.length=w.2.1.length/\s.2.2.1.length=w.2.2.2.1.length/\s.2.2.2.length=w.2.2.2.2.1.length) ?_ ?_
  .with_reducible repeat' first|(refine OS.ok ?_;constructor)|refine IM.mk λ_=>?_
   all_goals try simp only[ak,rG] at*
   .intro h;omega
   .intro h;cases h
   .intro h;cases h
  .intro b hb;with_reducible repeat' first|(refine OS.ok ?_;constructor)|refine IM.mk λ_=>?_
   exact λh=>⟨iI (T:=Vc) A,hb h⟩
structure NM (w:WT) (k o:Int):Prop where
 k1:1<=k
 k2:k<=23
 ce:k=3\/k=4->0<=o/\o<w.1.length
 lk:6<=k/\k<=11->0<=o/\o<w.2.1.length
 cd:16<=k/\k<=19->0<=o/\o<w.2.2.1.length
 th:k=20\/k=21->0<=o/\o<w.2.2.2.2.1.length
 fu:k=22\/k=23->0<=o/\o<w.2.2.2.1.length
 no:k=1\/k=2\/k=5\/(12<=k/\k<=15)->o= -1
 mu:k=6\/k=7->(aJ (T:=Vo) w.2.1 o).2=af
 rw:8<=k/\k<=11->(aJ (T:=Vo) w.2.1 o).2=J
theorem ado (w:WT) (k o:Int):Ok (uR (w,k,o)) λb=>b=J->NM w k o:=by
 unfold uR aY bi bx cI bg bC aX aD;rcases @JU k with rfl|rfl|rfl|rfl|rfl|rfl|rfl|rfl|rfl|rfl|rfl|rfl|rfl|rfl|rfl|rfl|rfl|rfl|rfl|rfl|rfl|rfl|rfl|⟨hk,a⟩
 case inr.inr.inr.inr.inr.inr.inr.inr.inr.inr.inr.inr.inr.inr.inr.inr.inr.inr.inr.inr.inr.inr.inr=>
  simp only[hk 1 (by decide) (by decide),hk 2 (by decide) (by decide),hk 3 (by decide) (by decide),hk 4 (by decide) (by decide),hk 5 (by decide) (by decide),hk 6 (by decide) (by decide),hk 7 (by decide) (by decide),hk 8 (by decide) (by decide),hk 9 (by decide) (by decide),hk 10 (by decide) (by decide),hk 11 (by decide) (by decide),hk 12 (by decide) (by decide),hk 13 (by decide) (by decide),hk 14 (by decide) (by decide),hk 15 (by decide) (by decide),hk 16 (by decide) (by decide),hk 17 (by decide) (by decide),hk 18 (by decide) (by decide),hk 19 (by decide) (by decide),hk 20 (by decide) (by decide),hk 21 (by decide) (by decide),hk 22 (by decide) (by decide),hk 23 (by decide) (by decide),aU,bp,tX];exact aj λh=>by cases h
 all_goals simp only[aU,bp,tX,ae6]
 all_goals with_reducible repeat' first|(refine OS.ok ?_;constructor)|refine IM.mk λ_=>?_
 all_goals try simp only[ak,rG] at*
 all_goals first|omega|(intro h;cases h;done)|(intro h;constructor<;>first|omega|(intro h2;first|omega|(simpa using h)))
structure SB (n:Nat) (s:SY):Prop where
 n1:n<=100000
 lk:s.1.length<=1000
 rd:∀l∈s.1,l.2.length<=n
 dn:s.2.2.1.length<=1000
 th:s.2.2.2.length<=1000
structure EN (w:WT) (s:SY) (t k o:Int):Prop where
 nm:NM w k o
 t0:0<=t
 t1:t<w.2.2.2.2.1.length
 cd:∀c∈w.2.2.1,0<=c.2/\c.2<w.2.1.length
 e1:s.1.length=w.2.1.length
 e2:s.2.2.1.length=w.2.2.2.1.length
 e3:s.2.2.2.length=w.2.2.2.2.1.length
structure XX (w:WT) (s:SY) (t k o:Int):Prop where
 b:k=1->(aJ (T:=jP) s.2.2.2 t).1=1
 wk:k=17->(aJ (T:=jP) s.2.2.2 t).1=4/\(aJ (T:=jP) s.2.2.2 t).2.1=o/\(aJ (T:=Bj) s.1 (aJ (T:=Vc) w.2.2.1 o).2).1= -1
 r:k≠1->k≠17->(aJ (T:=jP) s.2.2.2 t).1=2
 aq:k=6\/k=8\/k=10->(aJ (T:=Bj) s.1 o).1= -1
 wr:k=10->(aJ (T:=Bj) s.1 o).2.length=0
 ra:k=8->(aJ (T:=Bj) s.1 o).2.contains t=af
 rl:k=7\/k=11->(aJ (T:=Bj) s.1 o).1=t
 rr:k=9->(aJ (T:=Bj) s.1 o).2.contains t=J
 xb:k=12->s.2.1= -1
 xe:k=13->s.2.1=t
 ab:k=14->(aJ (T:=jP) s.2.2.2 t).2.2=af
 ae:k=15->(aJ (T:=jP) s.2.2.2 t).2.2=J
 nt:k=16\/k=18\/k=19->(aJ (T:=Bj) s.1 (aJ (T:=Vc) w.2.2.1 o).2).1=t
 sp:k=20->¬o=t/\(aJ (T:=jP) s.2.2.2 o).1=0
 jo:k=21->¬o=t/\(aJ (T:=jP) s.2.2.2 o).1=5
 se:k=22->aJ (T:=.bool) s.2.2.1 o=af
 ge:k=23->aJ (T:=.bool) s.2.2.1 o=J
theorem Ma {n:Nat} (w:WT) (s:SY) (hs:SB n s) (hw:w.2.2.1.length<=1000) (t k o:Int):Ok (kD (w,s,t,k,o)) λb=>b=J->EN w s t k o/\XX w s t k o:=by
 unfold kD aY bi bx bP dG cY bg jk bC aX aD;refine aV (λx=>x.2=(w,s)/\(x.1=af->EN w s t k o)) ?_ ?_
 .refine ax (Rh w s (by omega)) λb hb=>?_
  with_reducible repeat' first|(refine OS.ok ?_;constructor)|refine IM.mk λ_=>?_
  .exact⟨rfl,λh=>by cases h⟩
  .simp only[ae6,YD];with_reducible repeat' first|(refine OS.ok ?_;constructor)|refine IM.mk λ_=>?_
   .exact⟨rfl,λh=>by cases h⟩
   .refine ax (ado w k o) λc hc=>?_
    with_reducible repeat' first|(refine OS.ok ?_;constructor)|refine IM.mk λ_=>?_
    all_goals try simp only[ak,rG] at*
    rename_i h1 h2;obtain⟨f1,Z,f3,U⟩:=hb h1;exact λh=>⟨hc (by simpa using h),by omega,by omega,f1,Z,f3,U⟩
 .rintro⟨x1,x2⟩ ⟨a,z⟩;dsimp only at a z;subst a;refine aN (λh=>aj λh=>by cases h) (λh=>?_);have he:=z h;obtain⟨nm,t0,t1,cd,e1,e2,e3⟩:=id he;obtain⟨_,_,ce,lk,cn,th,fu⟩:=nm;have hm:16<=k/\k<=19->0<=(aJ (T:=Vc) w.2.2.1 o).2/\(aJ (T:=Vc) w.2.2.1 o).2<w.2.1.length:=λh=>cd _ (bN (cn h).1 (cn h).2)
  have L:6<=k/\k<=11->qU ((aJ (T:=Bj) s.1 o).2,t)=M ((aJ (T:=Bj) s.1 o).2.contains t):=λh=>X2 _ _ (by
   have:=hs.rd _ (bN (T:=Bj) (lk h).1 (by have:=(lk h).2;omega));have:=hs.n1;omega)
  rcases @JU k with rfl|rfl|rfl|rfl|rfl|rfl|rfl|rfl|rfl|rfl|rfl|rfl|rfl|rfl|rfl|rfl|rfl|rfl|rfl|rfl|rfl|rfl|rfl|⟨hk,A⟩
  case inr.inr.inr.inr.inr.inr.inr.inr.inr.inr.inr.inr.inr.inr.inr.inr.inr.inr.inr.inr.inr.inr.inr=>omega
  all_goals simp only[aU,bp,tX]
  all_goals with_reducible repeat' first|(refine OS.ok ?_;constructor)|refine IM.mk λ_=>?_
  all_goals try simp only[L (by omega),YD]
  all_goals with_reducible repeat' first|(refine OS.ok ?_;constructor)|refine IM.mk λ_=>?_
  all_goals try simp only[ak,rG] at*
  all_goals first|omega|(intro h;cases h;done)|exact (hm ⟨by decide,by decide⟩).1|(rw [e1];exact (hm ⟨by decide,by decide⟩).2)|(intro h;refine ⟨he,?_⟩;constructor<;>first|omega|(intros;first|omega|assumption|(simpa using h)|exact⟨by assumption,by first|assumption|exact⟨by assumption,by assumption⟩⟩))|(refine ⟨he,?_⟩;constructor<;>first|omega|(intros;first|omega|assumption))
def mA:η->Int->η
 |[],n=>[n]
 |x::r,n=>if x<n then x::mA r n else if x=n then x::r else n::x::r
theorem Fi (n:Int):∀(i:Nat) (l:η),i<=l.length->(∀k,k<i->l.getD k 0<n)->mA l n=l.take i++mA (l.drop i) n
 |0,l,_,_=>by simp
 |i+1,[],h,_=>by simp at h
 |i+1,x::r,h,hk=>by
  have h0:=hk 0 (by omega);simp at h0;have:=Fi n i r (by simpa using h) (λk a=>by have:=hk (k+1) (by omega);simpa using this);rw[mA,aC h0,this,wL,wO,fR]
theorem GA (n:Int):∀l:η,(mA l n).length<=l.length+1
 |[]=>by simp[mA]
 |x::r=>by
  have:=GA n r;rw[mA];split
  .simp;omega
  .split<;>simp
theorem Ju {n y:Int}:∀{l:η},y∈mA l n↔y=n\/y∈l
 |[]=>by simp[mA]
 |x::r=>by
  have:=Ju (n:=n) (y:=y) (l:=r);rw[mA];split
  .simp[this];constructor
   .rintro (h|h|h)<;>simp[h]
   .rintro (h|h|h)<;>simp[h]
  .split
   .rename_i h;subst h;simp
   .simp
def Iw:η->Prop
 |[]=>True
 |x::r=>(∀y∈r,x<y)/\Iw r
theorem RU {n:Int}:∀{l:η},Iw l->Iw (mA l n)
 |[],_=>by simp[mA,Iw]
 |x::r,h=>by
  rw[mA];split
  .rename_i s;refine ⟨λy a=>?_,RU h.2⟩;rcases Ju.1 a with rfl|a
   .exact s
   .exact h.1 y a
  .split
   .exact h
   .rename_i h1 h2;refine ⟨λy a=>?_,h⟩;rcases bm.1 a with rfl|a
    .omega
    .have:=h.1 y a;omega
theorem ag4 (l:η) (n:Int) (hl:l.length<=1000000):xd (l,n)=M (mA l n):=by
 refine cf ?_;unfold xd bw bB bC aX cQ aD cJ;have fin:∀i:Nat,i<=l.length->(∀k,k<i->l.getD k 0<n)->(i<l.length->¬l.getD i 0<n/\l.getD i 0≠n)->l.take i++[n]++l.drop i=mA l n:=λi hi hk hn=>by
  rw[Fi n i l hi hk];cases hd:l.drop i with
  |nil=>simp[mA]
  |cons y r=>
   have hlt:i<l.length:=by
    rcases ci i l.length with h|h
    .exact h
    .rw[List.drop_eq_nil_of_le h]at hd;cases hd
   have s:l.getD i 0=y:=by
    rw[av,<-List.head?_drop,hd];rfl
   obtain⟨h1,h2⟩:=hn hlt;rw[s]at h1 h2;rw[mA,aw h1,aw h2];simp
 refine bZ l.length (λi x=>x=(i:Int)/\∀k,k<i->l.getD k 0<n) ?_ ?_ ⟨rfl,λk hk=>by omega⟩
 .rintro i x hi ⟨rfl,a⟩;by_cases hlt:l.getD i 0<n
  .with_reducible repeat' first|(refine OS.ok ?_;constructor)|refine IM.mk λ_=>?_
   all_goals try simp only[ak,rG] at*
   all_goals first|omega|skip
   .refine ⟨gw (by omega),λk hk=>?_⟩;rcases ci k i with h1|h1
    .exact a k h1
    .rw[show k=i by omega];exact hlt
   .rename_i h;exact b8 hlt (C8.2 h)
  .have key:l.getD i 0=n->mA l n=l:=λhe=>by
    rw[Fi n i l (by omega) a];cases hd:l.drop i with
    |nil=>have:=hP ai hd;simp at this;omega
    |cons y r=>
     have s:l.getD i 0=y:=by rw[av,<-List.head?_drop,hd];rfl
     rw[s]at he;rw[mA,aw (by omega),aC he,<-hd,Cg]
   with_reducible repeat' first|(refine OS.ok ?_;constructor)|refine IM.mk λ_=>?_
   all_goals try simp only[ak,rG] at*
   all_goals first|omega|skip
   .rename_i h;exact b8 h hlt
   .refine ax (P:=λr=>r=mA l n) ?_ λr hr=>aj hr
    with_reducible repeat' first|(refine OS.ok ?_;constructor)|refine IM.mk λ_=>?_
    all_goals try simp only[ak,rG] at*
    all_goals first|omega|skip
    .rename_i h;exact (key h).symm
    .simp;omega
    .simp;omega
    .simp;omega
    .rename_i h;simpa using fin i (by omega) a (λ_=>⟨hlt,h⟩)
 .rintro x ⟨rfl,a⟩;with_reducible repeat' first|(refine OS.ok ?_;constructor)|refine IM.mk λ_=>?_
  all_goals try simp only[ak,rG] at*
  all_goals first|omega|skip
  refine ax (P:=λr=>r=mA l n) ?_ λr hr=>aj hr
  with_reducible repeat' first|(refine OS.ok ?_;constructor)|refine IM.mk λ_=>?_
  all_goals try simp only[ak,rG] at*
  all_goals first|omega|skip
  .simp;omega
  .simp;omega
  .simp;omega
  .simpa using fin l.length (by omega) a (λh=>by omega)
def xT (a b:η):η:=b.foldl mA (a.foldl mA [])
theorem xq:∀(b acc:η),(b.foldl mA acc).length<=acc.length+b.length
 |[],acc=>by simp
 |x::r,acc=>by
  have:=xq r (mA acc x);have:=GA x acc;rw[xR,cg];omega
theorem Ks:∀{b acc:η},Iw acc->Iw (b.foldl mA acc)
 |[],_,h=>h
 |x::r,acc,h=>by rw[xR];exact Ks (RU h)
theorem Kr {y:Int}:∀{b acc:η},y∈b.foldl mA acc↔y∈acc\/y∈b
 |[],acc=>by simp
 |x::r,acc=>by
  rw[xR,Kr,Ju];simp;constructor
  .rintro ((h|h)|h)<;>simp[h]
  .rintro (h|h|h)<;>simp[h]
theorem Rt (a b:η):Iw (xT a b):=Ks (Ks trivial)
theorem Jg {a b:η} {y:Int}:y∈xT a b↔y∈a\/y∈b:=by unfold xT;rw[Kr,Kr];simp
theorem aco (a b:η):(xT a b).length<=a.length+b.length:=by
 have:=xq b (a.foldl mA []);have:=xq a [];unfold xT;simp at *;omega
theorem Of {b acc:η} {i:Nat} (hi:i<b.length):(b.take (i+1)).foldl mA acc=mA ((b.take i).foldl mA acc) (b.getD i 0):=by
 rw[pq hi,dz,av,ay hi];rfl
theorem UM (a b:η) (A:a.length<=400000) (hb:b.length<=400000):rY (a,b)=M (xT a b):=by
 refine cf ?_;unfold rY bw bC aX cQ aD cJ;refine bZ a.length (λi x=>x.2=(i:Int)/\x.1=(a.take i).foldl mA []) ?_ ?_ ⟨rfl,rfl⟩
 .rintro i ⟨z,s⟩ hi ⟨h1,h2⟩;dsimp only at h1 h2;subst h1;subst h2;have hl:((a.take i).foldl mA []).length<=1000000:=by have:=xq (a.take i) [];have:=qI i a;simp at *;omega
  with_reducible repeat' first|(refine OS.ok ?_;constructor)|refine IM.mk λ_=>?_
  all_goals try simp only[ak,rG] at*
  all_goals first|omega|skip
  refine aS (ag4 _ _ hl) (aj ?_);dsimp only;refine ⟨gw (by omega),?_⟩;rw[Qe,Of hi]
 .rintro⟨z,s⟩ ⟨h1,h2⟩;dsimp only at h1 h2;subst h1;subst h2;rw[cO];have hla:=xq a [];with_reducible repeat' first|(refine OS.ok ?_;constructor)|refine IM.mk λ_=>?_
  all_goals try simp only[ak,rG] at*
  all_goals first|omega|skip
  refine ax (P:=λr=>r=xT a b) ?_ λr hr=>aj hr
  refine bZ b.length (λi x=>x.2=(i:Int)/\x.1=(b.take i).foldl mA (a.foldl mA [])) ?_ ?_ ⟨rfl,rfl⟩
  .rintro i ⟨z,s⟩ hi ⟨h1,h2⟩;dsimp only at h1 h2;subst h1;subst h2;have hl:((b.take i).foldl mA (a.foldl mA [])).length<=1000000:=by have:=xq (b.take i) (a.foldl mA []);have:=qI i b;simp at *;omega
   with_reducible repeat' first|(refine OS.ok ?_;constructor)|refine IM.mk λ_=>?_
   all_goals try simp only[ak,rG] at*
   all_goals first|omega|skip
   refine aS (ag4 _ _ hl) (aj ?_);dsimp only;refine ⟨gw (by omega),?_⟩;rw[Qe,Of hi]
  .rintro⟨z,s⟩ ⟨h1,h2⟩;dsimp only at h1 h2;subst h1;subst h2;rw[cO];with_reducible repeat' first|(refine OS.ok ?_;constructor)|refine IM.mk λ_=>?_
   all_goals try simp only[ak,rG] at*
   all_goals first|omega|rfl
def Jc (c:Int) (x:Int×Int×Bool):Bool:=decide (x.1=3)&&decide (x.2.1=c)
def wl (th:Y (Int×Int×Bool)) (c:Int):Nat->η
 |0=>[]
 |i+1=>if Jc c (aJ (T:=jP) th (i:Int)) then wl th c i++[(i:Int)] else wl th c i
theorem wv (th:Y (Int×Int×Bool)) (c:Int):∀i,(wl th c i).length<=i
 |0=>bT _
 |i+1=>by have:=wv th c i;rw[wl];split<;>simp<;>omega
theorem rP {th:Y (Int×Int×Bool)} {c u:Int}:∀{i:Nat},u∈wl th c i↔0<=u/\u<i/\Jc c (aJ (T:=jP) th u)=J
 |0=>by simp[wl];omega
 |i+1=>by
  have a:= @rP th c u i;rw[wl];by_cases hu:u=(i:Int)
  .subst hu;split
   .rename_i h;simp[h];omega
   .rename_i h;rw[a];simp[h]
  .split
   .rw[bG,a,aI];constructor
    .rintro (h|h)
     .exact⟨h.1,by omega,h.2.2⟩
     .exact b8 h hu
    .intro h;exact .inl ⟨h.1,by omega,h.2.2⟩
   .rw[a];constructor
    .intro h;exact⟨h.1,by omega,h.2.2⟩
    .intro h;exact⟨h.1,by omega,h.2.2⟩
theorem apg {th:Y (Int×Int×Bool)} {c:Int} {i:Nat} (h1:(aJ (T:=jP) th (i:Int)).1=3) (h2:(aJ (T:=jP) th (i:Int)).2.1=c):wl th c (i+1)=wl th c i++[(i:Int)]:=by
 rw[wl,aC];unfold Jc;rw[h1,h2];simp
theorem akc {th:Y (Int×Int×Bool)} {c:Int} {i:Nat} (h1:¬(aJ (T:=jP) th (i:Int)).1=3):wl th c (i+1)=wl th c i:=by
 rw[wl,aw];unfold Jc;rw[bt h1];simp
theorem akb {th:Y (Int×Int×Bool)} {c:Int} {i:Nat} (h1:¬(aJ (T:=jP) th (i:Int)).2.1=c):wl th c (i+1)=wl th c i:=by
 rw[wl,aw];unfold Jc;rw[bt h1];simp
theorem XP (s:SY) (c:Int) (hs:s.2.2.2.length<=1000):ou (s,c)=M (wl s.2.2.2 c s.2.2.2.length):=by
 refine cf ?_;unfold ou bP bg bw bB bC aX cQ aD cJ;refine bZ s.2.2.2.length (λi x=>x=((i:Int),s,wl s.2.2.2 c i)) ?_ ?_ rfl
 .rintro i x hi rfl;have hl:=wv s.2.2.2 c i;with_reducible repeat' first|(refine OS.ok ?_;constructor)|refine IM.mk λ_=>?_
  all_goals try simp only[ak,rG] at*
  all_goals first|omega|skip
  all_goals first|(simp;omega)|skip
  .rename_i h1 h2;rw[apg h1 h2,gw (by omega)]
  .rename_i h1 h2;rw[akb h2,gw (by omega)]
  .rename_i h1;rw[akc h1,gw (by omega)]
 .rintro x rfl;with_reducible repeat' first|(refine OS.ok ?_;constructor)|refine IM.mk λ_=>?_
  all_goals try simp only[ak,rG] at*
  all_goals first|omega|rfl
def wo (l:η) (n:Int):η:=l.filter λx=> !decide (x=n)
theorem Vh (l:η) (n:Int) (hl:l.length<=1000000):qS (l,n)=M (wo l n):=by
 refine cf ?_;unfold qS bw jk bB bC aX cQ aD cJ;refine bZ l.length (λi x=>x=((i:Int),wo (l.take i) n)) ?_ ?_ rfl
 .rintro i x hi rfl;have hq:(wo (l.take i) n).length<=i:=dy (Ch ..) (qI ..);have ht:wo (l.take (i+1)) n=if aJ (T:=.int .i64) l (i:Int)=n then wo (l.take i) n else wo (l.take i) n++[aJ (T:=.int .i64) l (i:Int)]:=by
   unfold wo;rw[pq hi,yO,Qe,av,ay hi];by_cases h:l[i]=n<;>simp[h]
  with_reducible repeat' first|(refine OS.ok ?_;constructor)|refine IM.mk λ_=>?_
  all_goals try simp only[ak,rG] at*
  all_goals first|omega|skip
  .simp;omega
  .rename_i h;rw[ht,aw h,gw (by omega)]
  .rename_i h;rw[ht,aC h,gw (by omega)]
 .rintro x rfl;with_reducible repeat' first|(refine OS.ok ?_;constructor)|refine IM.mk λ_=>?_
  all_goals try simp only[ak,rG] at*
  all_goals first|omega|(rw [cO])
theorem nu {T:Ty} {xs:Y T.den} {i:Nat} (hi:i<ai xs):dQ (i+1) xs=dQ i xs++[aJ xs (i:Int)]:=by
 rw[pq hi,Ag,av,ay hi];rfl
theorem rC {n:Nat} (s:SY) (hs:SB n s):iE s=M (s.2.1,s.1,s.2.2.1,s.2.2.2):=by
 refine cf ?_;obtain⟨s1,s2,z,a⟩:=s;have hn:=hs.n1;have U:=hs.lk;have L:=hs.dn;have A:=hs.th;dsimp only at U L A;unfold iE aY bi bx bP cY bw bB bC aX cQ aD cJ;with_reducible repeat' first|(refine OS.ok ?_;constructor)|refine IM.mk λ_=>?_
 all_goals try simp only[ak,rG] at*
 .simp;omega
 .omega
 .simp;omega
 .omega
 refine bZ s1.length (λi x=>x=((i:Int),(s1,s2,z,a),0,s2,s1.take i,z,a)) ?_ ?_ ?_
 .rintro i x hi rfl;have hg:=hs.rd _ (bN (T:=Bj) (xs:=s1) (j:=(i:Int)) (by omega) (by omega));with_reducible repeat' first|(refine OS.ok ?_;constructor)|refine IM.mk λ_=>?_
  all_goals try simp only[ak,rG] at*
  all_goals first|omega|skip
  .simp;omega
  .simp;omega
  .rw[gw (by omega),nu (T:=Bj) hi];rfl
 .rintro x rfl;with_reducible repeat' first|(refine OS.ok ?_;constructor)|refine IM.mk λ_=>?_
  all_goals try simp only[ak,rG] at*
  all_goals first|omega|skip
  simp
 .simp
theorem HQ (s:SY) (c:Int) (hs:s.2.2.2.length<=1000):jR ((s.2.1,c),s.1,s.2.2.1,s.2.2.2)=M (wl s.2.2.2 c s.2.2.2.length):=by
 refine cf ?_;unfold jR;refine ax (P:=λy=>y=(wl s.2.2.2 c s.2.2.2.length,s.1,s.2.2.1,s.2.2.2)) ?_ λy a=>by subst a;exact ahq rfl (aj rfl)
 unfold mK aY bi bx bP cY bg bw bB kZ aX cQ aD cJ;refine bZ s.2.2.2.length (λi x=>x=((i:Int),s.1,s.2.2.1,s.2.2.2,s.2.1,wl s.2.2.2 c i)) ?_ ?_ rfl
 .rintro i x hi rfl;have hl:=wv s.2.2.2 c i;with_reducible repeat' first|(refine OS.ok ?_;constructor)|refine IM.mk λ_=>?_
  all_goals try simp only[ak,rG] at*
  all_goals first|omega|skip
  all_goals first|(simp;omega)|skip
  .rename_i h1 h2;rw[apg h1 h2,gw (by omega)]
  .rename_i h1 h2;rw[akb h2,gw (by omega)]
  .rename_i h1;rw[akc h1,gw (by omega)]
 .rintro x rfl;with_reducible repeat' first|(refine OS.ok ?_;constructor)|refine IM.mk λ_=>?_
  all_goals try simp only[ak,rG] at*
  all_goals first|omega|rfl
structure AP (n:Nat) (s y:SY):Prop where
 a1:y.1.length=s.1.length
 a2:y.2.2.1.length=s.2.2.1.length
 a3:y.2.2.2.length=s.2.2.2.length
 rd:∀l∈y.1,l.2.length<=n+1
theorem AP.toSB {n:Nat} {s y:SY} (h:AP n s y) (hs:SB n s) (hn:n+1<=100000):SB (n+1) y:=
 ⟨hn,by rw[h.a1];exact hs.lk,h.rd,by rw[h.a2];exact hs.dn,by rw[h.a3];exact hs.th⟩
theorem AP.same {n:Nat} {s:SY} (hs:SB n s) (x:Int) (d:θ) (t:Y (Int×Int×Bool)) (hd:d.length=s.2.2.1.length) (ht:t.length=s.2.2.2.length):AP n s (s.1,x,d,t):=
 ⟨rfl,hd,ht,λl hl=>iN (hs.rd l hl)⟩
theorem AP.set {n:Nat} {s:SY} (hs:SB n s) (j a:Int) (r:η) (hr:r.length<=n+1) (x:Int) (d:θ) (t:Y (Int×Int×Bool)) (hd:d.length=s.2.2.1.length) (ht:t.length=s.2.2.2.length):AP n s (cL s.1 j (a,r),x,d,t):=
 ⟨bY _ _ _,hd,ht,λl hl=>by
   rcases Dm hl with h|rfl
   .exact iN (hs.rd l h)
   .exact hr⟩
def yQ (th:Y (Int×Int×Bool)) (t st:Int):Y (Int×Int×Bool):=cL th t (st,(aJ (T:=jP) th t).2)
def owP (lk:Y (Int×η)) (o t:Int):Y (Int×η):=cL lk o (t,(aJ (T:=Bj) lk o).2)
def rdP (lk:Y (Int×η)) (o:Int) (l:η):Y (Int×η):=cL lk o ((aJ (T:=Bj) lk o).1,l)
def cdP (th:Y (Int×Int×Bool)) (t c:Int):Y (Int×Int×Bool):=cL th t ((aJ (T:=jP) th t).1,c,(aJ (T:=jP) th t).2.2)
def atP (th:Y (Int×Int×Bool)) (t:Int) (b:Bool):Y (Int×Int×Bool):=cL th t ((aJ (T:=jP) th t).1,(aJ (T:=jP) th t).2.1,b)
def Dz (th:Y (Int×Int×Bool)) (l:η):Y (Int×Int×Bool):=l.foldl (λx u=>yQ x u 4) th
def Ca (l:η) (u:Int):Int:=if l.length=0 then -1 else if l.contains u then u else aJ (T:=.int .i64) l 0
def muP (w:WT) (o:Int):Int:=(aJ (T:=Vc) w.2.2.1 o).2
def rK (w:WT) (s:SY) (t k o u:Int):SY×Int:=
 if k=1 then ((s.1,s.2.1,s.2.2.1,yQ s.2.2.2 t 2),0)
 else if k=2 then ((s.1,s.2.1,s.2.2.1,yQ s.2.2.2 t 5),0)
 else if k=6\/k=10 then ((owP s.1 o t,s.2),0)
 else if k=7\/k=11 then ((owP s.1 o (-1),s.2),0)
 else if k=8 then ((rdP s.1 o (xT (aJ (T:=Bj) s.1 o).2 [t]),s.2),0)
 else if k=9 then ((rdP s.1 o (wo (aJ (T:=Bj) s.1 o).2 t),s.2),0)
 else if k=12 then ((s.1,t,s.2.2),0)
 else if k=13 then ((s.1,-1,s.2.2),0)
 else if k=14 then ((s.1,s.2.1,s.2.2.1,atP s.2.2.2 t J),0)
 else if k=15 then ((s.1,s.2.1,s.2.2.1,atP s.2.2.2 t af),0)
 else if k=16 then ((owP s.1 (muP w o) (-1),s.2.1,s.2.2.1,cdP (yQ s.2.2.2 t 3) t o),0)
 else if k=17 then ((owP s.1 (muP w o) t,s.2.1,s.2.2.1,cdP (yQ s.2.2.2 t 2) t 0),0)
 else if k=18 then (if (wl s.2.2.2 o s.2.2.2.length).length=0 then (s,-1) else ((s.1,s.2.1,s.2.2.1,yQ s.2.2.2 (Ca (wl s.2.2.2 o s.2.2.2.length) u) 4),Ca (wl s.2.2.2 o s.2.2.2.length) u))
 else if k=19 then ((s.1,s.2.1,s.2.2.1,Dz s.2.2.2 (wl s.2.2.2 o s.2.2.2.length)),((wl s.2.2.2 o s.2.2.2.length).length:Int))
 else if k=20 then ((s.1,s.2.1,s.2.2.1,yQ s.2.2.2 o 1),0)
 else if k=22 then ((s.1,s.2.1,cL s.2.2.1 o J,s.2.2.2),0)
 else (s,0)
theorem IP (l:η):∀th,(Dz th l).length=th.length:=by
 induction l with
 |nil=>intro th;rfl
 |cons x r a=>intro th;unfold Dz;rw[xR];exact (a _).trans (bY ..)
theorem adp {th:Y (Int×Int×Bool)} {l:η} {i:Nat} (hi:i<l.length):Dz th (l.take (i+1))=yQ (Dz th (l.take i)) (aJ (T:=.int .i64) l (i:Int)) 4:=by
 unfold Dz;rw[pq hi,dz,Qe,av,ay hi];rfl
theorem Va {n:Nat} (w:WT) (s:SY) (hs:SB n s) (L:w.2.2.1.length<=1000) (t k o u:Int):Ok (pQ (w,s,t,k,o,u)) λy=>(y.2.2=J->EN w s t k o/\XX w s t k o/\AP n s y.1/\(y.1,y.2.1)=rK w s t k o u)/\(y.2.2=af->y.1=([],0,[],[]))/\(kD (w,s,t,k,o)=M J->y.2.2=J):=by
 unfold pQ aY bi bx cI bP dG cY fG ck bg bw bC kZ aX cQ aD cJ;obtain⟨b,z,hb⟩:=Ma w s hs L t k o;refine aS z ?_;refine em (λh=>aj ⟨λh=>(by cases h),λ_=>rfl,λh2=>(by rw[z,h]at h2;cases h2)⟩) (λh=>?_);obtain⟨he,hry⟩:=hb h;refine aS (rC s hs) ?_;suffices hmain:Ok _ _ from aV (λx=>AP n s (x.2.2.2.1,x.2.1,x.2.2.2.2)/\((x.2.2.2.1,x.2.1,x.2.2.2.2),x.1)=rK w s t k o u) hmain λx A=>aj ⟨λ_=>⟨he,hry,A⟩,λh=>(by cases h),λ_=>rfl⟩
 obtain⟨nm,t0,t1,cd,e1,e2,e3⟩:=id he;obtain⟨_,_,ce,lk,cn,th,fu⟩:=nm;have hn:=hs.n1;have hlk:=hs.lk;have hm:16<=k/\k<=19->0<=(aJ (T:=Vc) w.2.2.1 o).2/\(aJ (T:=Vc) w.2.2.1 o).2<w.2.1.length:=λh=>cd _ (bN (cn h).1 (cn h).2)
 have hr:∀j:Int,0<=j->j<s.1.length->(aJ (T:=Bj) s.1 j).2.length<=n:=λj h0 h1=>hs.rd _ (bN (T:=Bj) h0 h1)
 rcases @JU k with rfl|rfl|rfl|rfl|rfl|rfl|rfl|rfl|rfl|rfl|rfl|rfl|rfl|rfl|rfl|rfl|rfl|rfl|rfl|rfl|rfl|rfl|rfl|⟨hk,U⟩
 case inr.inr.inr.inr.inr.inr.inr.inr.inr.inr.inr.inr.inr.inr.inr.inr.inr.inr.inr.inr.inr.inr.inr=>omega
 all_goals simp only[aU,bp,tX]
 all_goals with_reducible repeat' first|(refine OS.ok ?_;constructor)|refine IM.mk λ_=>?_
 all_goals try simp only[ak,rG] at*
 all_goals try rw[bY]
 all_goals first|omega|exact (hm ⟨by decide,by decide⟩).1|exact e1▸(hm ⟨by decide,by decide⟩).2|exact⟨AP.same hs _ _ _ rfl rfl,rfl⟩|exact⟨AP.same hs _ _ _ rfl (bY _ _ _),rfl⟩|exact⟨AP.same hs _ _ _ (bY _ _ _) rfl,rfl⟩|skip
 all_goals try exact⟨AP.set hs _ _ _ (iN (hr o (by omega) (by omega))) _ _ _ rfl rfl,rfl⟩
 .have:=hr o (by omega) (by omega);refine aS (UM _ _ (dy this (by have:=hs.n1;omega)) (by simp)) ?_;with_reducible repeat' first|(refine OS.ok ?_;constructor)|refine IM.mk λ_=>?_
  all_goals try simp only[ak,rG] at*
  all_goals first|omega|skip
  exact⟨AP.set hs _ _ _ (by have:=aco (aJ (T:=Bj) s.1 o).2 [t];simp at this;omega) _ _ _ rfl rfl,rfl⟩
 .have:=hr o (by omega) (by omega);have hl:(wo (aJ (T:=Bj) s.1 o).2 t).length<=(aJ (T:=Bj) s.1 o).2.length:=Ch ..;refine aS (Vh _ _ (by omega)) ?_;with_reducible repeat' first|(refine OS.ok ?_;constructor)|refine IM.mk λ_=>?_
  all_goals try simp only[ak,rG] at*
  all_goals first|omega|skip
  exact⟨AP.set hs _ _ _ (dy hl (by omega)) _ _ _ rfl rfl,rfl⟩
 .exact⟨AP.set hs _ _ _ (iN (hr _ (hm ⟨by decide,by decide⟩).1 (by rw[e1];exact (hm ⟨by decide,by decide⟩).2))) _ _ _ rfl (by rw[bY,bY]),rfl⟩
 .exact⟨AP.set hs _ _ _ (iN (hr _ (hm ⟨by decide,by decide⟩).1 (by rw[e1];exact (hm ⟨by decide,by decide⟩).2))) _ _ _ rfl (by rw[bY,bY]),rfl⟩
 .refine aS (HQ s o hs.th) ?_;have hth:=hs.th;have hll:=wv s.2.2.2 o s.2.2.2.length;have hml:∀u∈wl s.2.2.2 o s.2.2.2.length,0<=u/\u<s.2.2.2.length:=λu hu=>⟨(rP.1 hu).1,(rP.1 hu).2.1⟩
  have hap:rK w s t 18 o u=if (wl s.2.2.2 o s.2.2.2.length).length=0 then (s,-1) else ((s.1,s.2.1,s.2.2.1,yQ s.2.2.2 (Ca (wl s.2.2.2 o s.2.2.2.length) u) 4),Ca (wl s.2.2.2 o s.2.2.2.length) u):=rfl
  unfold Ca at hap;revert hll hml hap;generalize wl s.2.2.2 o s.2.2.2.length=l;intro hll hml hap;with_reducible repeat' first|(refine OS.ok ?_;constructor)|refine IM.mk λ_=>?_
  all_goals try simp only[ak,rG] at*
  all_goals first|omega|skip
  .have a:=hml _ (bN (T:=.int .i64) (xs:=l) (j:=0) (by omega) (by omega));rw[aw (by omega),aw (by omega)]at hap;simp only[X2 l u (by omega),YD];refine aN (λhc=>?_) λhc=>?_
   .have hu:=hml u (tU.1 hc);rw[hc,aC rfl]at hap;refine aj (aR hu.1 hu.2 (aR hu.1 hu.2 (aj ⟨AP.same hs _ _ _ rfl (bY ..),?_⟩)));rw[hap];rfl
   .rw[hc,aw (by decide)]at hap;refine aj (aR a.1 a.2 (aR a.1 a.2 (aj ⟨AP.same hs _ _ _ rfl (bY ..),?_⟩)));rw[hap];rfl
  .rw[aC (by omega)]at hap;exact⟨AP.same hs _ _ _ rfl rfl,hap.symm⟩
 .refine aS (HQ s o hs.th) ?_;have hth:=hs.th;have hll:=wv s.2.2.2 o s.2.2.2.length;have hml:∀u∈wl s.2.2.2 o s.2.2.2.length,0<=u/\u<s.2.2.2.length:=λu hu=>⟨(rP.1 hu).1,(rP.1 hu).2.1⟩
  have hap:rK w s t 19 o u=((s.1,s.2.1,s.2.2.1,Dz s.2.2.2 (wl s.2.2.2 o s.2.2.2.length)),((wl s.2.2.2 o s.2.2.2.length).length:Int)):=rfl;rw[hap];clear hap;generalize wl s.2.2.2 o s.2.2.2.length=l at hll hml ⊢;refine bZ l.length (λi x=>x=((i:Int),s.2.1,0,s.1,s.2.2.1,Dz s.2.2.2 (l.take i))) ?_ ?_ rfl
  .rintro i x hi rfl;have a:=hml _ (bN (T:=.int .i64) (xs:=l) (j:=(i:Int)) (by omega) (by omega));have hq:=IP (l.take i) s.2.2.2;with_reducible repeat' first|(refine OS.ok ?_;constructor)|refine IM.mk λ_=>?_
   all_goals try simp only[ak,rG] at*
   all_goals first|omega|skip
   rw[gw (by omega),adp hi];rfl
  .rintro x rfl;rw[cO];with_reducible repeat' first|(refine OS.ok ?_;constructor)|refine IM.mk λ_=>?_
   all_goals try simp only[ak,rG] at*
   all_goals first|omega|skip
   exact AP.same hs _ _ _ rfl (IP ..)
abbrev SN:Type:=SY×η×η×η
abbrev ET:Type:=Int×Int×Int×Int×Int×η×η
theorem apw (a b:Int):DA (a,b)=M (decide (0<=a/\a<b)):=ae6 a b
structure NB (n:Nat) (s:SN):Prop where
 sb:SB n s.1
 c:s.2.1.length<=1000
 f:s.2.2.1.length<=1000
 k:s.2.2.2.length<=1000
structure SP (n:Nat) (s y:SN):Prop where
 ap:AP n s.1 y.1
 c:y.2.1.length=s.2.1.length
 f:y.2.2.1.length=s.2.2.1.length
 k:y.2.2.2.length=s.2.2.2.length
theorem SP.NB {n:Nat} {s y:SN} (h:SP n s y) (hs:NB n s) (hn:n+1<=100000):NB (n+1) y:=
 ⟨h.ap.toSB hs.sb hn,by rw[h.c];exact hs.c,by rw[h.f];exact hs.f,by rw[h.k];exact hs.k⟩
def sn0:SN:=(([],0,[],[]),[],[],[])
structure F16 (w:WT) (s:SN):Prop where
 c:s.2.1.length=w.1.length
 f:s.2.2.1.length=w.2.2.2.1.length
 k:s.2.2.2.length=w.2.2.2.2.1.length
theorem abu (w:WT) (s:SN) (a:w.2.2.1.length<=1000):Ok (w7 (w,s)) λb=>b=J->F16 w s:=by
 unfold w7 aY bi bx dG bg aX aD;refine gJ (ax (Rh w s.1 (by omega)) λb hb=>?_);with_reducible repeat' first|(refine OS.ok ?_;constructor)|refine IM.mk λ_=>?_
 all_goals try simp only[ak,rG] at*
 all_goals first|(intro h;constructor<;>omega)|(intro h;cases h;done)
theorem Zd:∀(l:η),(∀k:Nat,k+1<l.length->l.getD k 0<l.getD (k+1) 0)->Iw l
 |[],_=>trivial
 |[x],_=>⟨λy A=>(by cases A),trivial⟩
 |x::y::r,h=>by
  have s:=Zd (y::r) λk hk=>by have:=h (k+1) (by simpa using hk);simpa using this
  have h0:=h 0 (by simp);simp at h0;refine ⟨λz a=>?_,s⟩;rcases bm.1 a with rfl|a
  .exact h0
  .have:=s.1 z a;omega
structure AN (c:Int) (l:η):Prop where
 a:Iw l
 m:∀x:Int,x∈l->1<=x/\x<c
theorem JF (l:η) (c:Int) (hl:l.length<=1000000000):Ok (oo (l,c)) λb=>b=J->AN c l:=by
 unfold oo bw iZ bC aX cQ aD cJ;refine bZ l.length (λi x=>x=(i:Int)/\(∀k:Nat,k<i->1<=aJ (T:=.int .i64) l (k:Int)/\aJ (T:=.int .i64) l (k:Int)<c)/\∀k:Nat,k+1<i->l.getD k 0<l.getD (k+1) 0) ?_ ?_ ⟨rfl,λk hk=>by omega,λk hk=>by omega⟩
 .rintro i x hi ⟨rfl,a,s⟩;have z:0<(i:Int)->bl .i64 ((i:Int)-1)=((i-1:Nat):Int):=λh=>by rw[iw (by omega) (by omega)];omega
  have hq:(0<i->l.getD (i-1) 0<l.getD i 0)->1<=aJ (T:=.int .i64) l (i:Int)/\aJ (T:=.int .i64) l (i:Int)<c->bl .i64 ((i:Int)+1)=((i+1:Nat):Int)/\(∀k:Nat,k<i+1->1<=aJ (T:=.int .i64) l (k:Int)/\aJ (T:=.int .i64) l (k:Int)<c)/\∀k:Nat,k+1<i+1->l.getD k 0<l.getD (k+1) 0:=λZ U=>by
   refine ⟨gw (by omega),λk hk=>?_,λk hk=>?_⟩
   .rcases ci k i with h1|h1
    .exact a k h1
    .rw[show k=i by omega];exact U
   .rcases ci (k+1) i with h1|h1
    .exact s k h1
    .have:=Z (by omega);rw[show k=i-1 by omega,show i-1+1=i by omega];exact this
  with_reducible repeat' first|(refine OS.ok ?_;constructor)|refine IM.mk λ_=>?_
  all_goals try simp only[ak,rG] at*
  all_goals first|omega|(intro h;cases h;done)|(rw [z (by omega)];omega)|skip
  .rename_i h1 h2 L A;rw[z L,Qe,Qe]at A;exact hq (λ_=>A) ⟨by omega,by omega⟩
  .exact hq (λh=>by omega) ⟨by omega,by omega⟩
 .rintro x ⟨rfl,a,s⟩;with_reducible repeat' first|(refine OS.ok ?_;constructor)|refine IM.mk λ_=>?_
  all_goals try simp only[ak,rG] at*
  all_goals first|omega|skip
  exact⟨Zd l λk hk=>s k hk,iI (T:=.int .i64) a⟩
structure VA (w:WT) (sy:SY) (ce fu:η) (t k o v:Int):Prop where
 ld:k=3->v=aJ (T:=.int .i64) ce o
 gt:k=23->v=aJ (T:=.int .i64) fu o
 br:k=5->v=0\/v=1
 el:¬k=3->¬k=23->¬k=5->¬k=4->¬k=22->v=(rK w sy t k o v).2
theorem ite2 {c:Prop} [Decidable c] {a b:SY×Int} (s:a.2=0) (hb:b.2=0):(if c then a else b).2=0:=by by_cases h:c<;>simp[h,s,hb]
theorem al7 (w:WT) (sy:SY) (t k o u:Int) (h1:¬k=18) (h2:¬k=19):(rK w sy t k o u).2=0:=by
 unfold rK;rw[aw h1,aw h2];repeat (first|exact rfl|refine ite2 rfl ?_)
theorem Zh (w:WT) (sy:SY) (t k o u a:Int) (h1:¬k=18):rK w sy t k o u=rK w sy t k o a:=by
 unfold rK;rw[aw h1,aw h1]
theorem Gj (w:WT) (sy:SY) (t o u:Int):rK w sy t 18 o u=if (wl sy.2.2.2 o sy.2.2.2.length).length=0 then (sy,-1) else ((sy.1,sy.2.1,sy.2.2.1,yQ sy.2.2.2 (Ca (wl sy.2.2.2 o sy.2.2.2.length) u) 4),Ca (wl sy.2.2.2 o sy.2.2.2.length) u):=rfl
theorem amw (w:WT) (sy:SY) (t o u:Int):(rK w sy t 19 o u).2=((wl sy.2.2.2 o sy.2.2.2.length).length:Int):=rfl
theorem acn {n:Nat} (w:WT) (s:SN) (hs:NB n s) (hf:F16 w s) (e:ET) (he:EN w s.1 e.1 e.2.1 e.2.2.1):Ok (uO (s,e)) λb=>b=J->VA w s.1 s.2.1 s.2.2.1 e.1 e.2.1 e.2.2.1 e.2.2.2.1:=by
 obtain⟨t,k,o,v,si,de,fr⟩:=e;obtain⟨s1,s2,s3,s4⟩:=s;obtain⟨nm,t0,t1,cd,e1,e2,e3⟩:=he;obtain⟨_,_,ce,lk,cn,th,fu,_,_,_⟩:=nm;obtain⟨f1,f2,f3⟩:=hf;have hth:=hs.sb.th;dsimp only at*
 unfold uO aY bi bx cI bP bg bw iZ bC aX aD;have hW:=XP s1 o hth;have hWl:=wv s1.2.2.2 o s1.2.2.2.length;refine aK (λh=>?_) λn3=>?_
 .have h:k=3:=h;obtain⟨Z,U⟩:=ce (.inl h);exact aR Z (by rw[f1];exact U) (aT (aj λh2=>⟨λ_=>ba h2,λa=>by omega,λa=>by omega,λa=>(a h).elim⟩))
 refine aK (λh=>?_) λz=>?_
 .have h:k=23:=h;obtain⟨Z,U⟩:=fu (.inr h);exact aR Z (by rw[f2];exact U) (aT (aj λh2=>⟨λa=>by omega,λ_=>ba h2,λa=>by omega,λ_ a=>(a h).elim⟩))
 refine aK (λh=>?_) λn5=>?_
 .have h:k=5:=h;exact gJ (aK (λh2=>aj (aj λ_=>⟨λa=>by omega,λa=>by omega,λ_=>.inl h2,λ_ _ a=>(a h).elim⟩)) λ_=>aj (aj λh2=>⟨λa=>by omega,λa=>by omega,λ_=>.inr (ba h2),λ_ _ a=>(a h).elim⟩))
 refine aV (λx=>x.2=((s1,s2,s3,s4),t,k,o,v,si,de,fr)/\(x.1=J->k=4\/k=22)) (aK (λh=>aj ⟨rfl,λ_=>.inl h⟩) λ_=>aj ⟨rfl,λh=>.inr (ba h)⟩) ?_;rintro⟨b,x⟩ ⟨e,hb⟩;dsimp only at e hb;subst e;refine aN (λh=>aj λ_=>⟨λa=>(n3 a).elim,λa=>(z a).elim,λa=>(n5 a).elim,λ_ _ _ h4 h5=>(hb h).elim (λh=>(h4 h).elim) λh=>(h5 h).elim⟩) λ_=>?_
 have fin:v=(rK w s1 t k o v).2->VA w s1 s2 s3 t k o v:=λh=>⟨λa=>(n3 a).elim,λa=>(z a).elim,λa=>(n5 a).elim,λ_ _ _ _ _=>h⟩
 refine aK (λh=>?_) λL=>?_
 .have h:k=18:=h;subst h;rw[Gj]at fin;refine aS hW ?_;revert fin hWl;generalize wl s1.2.2.2 o s1.2.2.2.length=l;intro hWl fin;refine aK (λh=>aj λh2=>fin ?_) λh=>?_
  .dsimp only[ak]at h;rw[aC (by omega)];exact ba h2
  .dsimp only[ak]at h;have hne:¬l.length=0:=by omega
   refine gJ (fc (λ_=>bJ (λ_=>?_) λ_=>aj (aj λh=>(by cases h))) λ_=>aj (aj λh=>(by cases h)));refine aS (X2 _ _ (by omega)) (aj (aj λh2=>fin ?_));rw[aw hne];unfold Ca;rw[aw hne,aC h2]
 refine aK (λh=>?_) λA=>?_
 .have h:k=19:=h;subst h;exact aS hW (aj λh2=>fin (ba h2))
 exact aj λh2=>fin (by rw[al7 _ _ _ _ _ _ L A];exact ba h2)
structure S16 (w:WT) (s:SN) (e:ET):Prop where
 rd:XX w s.1 e.1 e.2.1 e.2.2.1
 s1:e.2.1=1\/e.2.1=2->e.2.2.2.2.1= -1
 s2:¬(e.2.1=1\/e.2.1=2)->0<=e.2.2.2.2.1/\e.2.2.2.2.1<w.2.2.2.2.2.length/\(aJ (T:=yP) w.2.2.2.2.2 e.2.2.2.2.1).1=e.1
 de:0<e.2.2.2.2.2.1.length->e.2.1=5\/(e.2.1=3\/e.2.1=4)/\¬(aJ (T:=Pd) w.1 e.2.2.1).2.2.1=0
 fr:0<e.2.2.2.2.2.2.length->e.2.1=4\/e.2.1=22
 nd:AN (aJ (T:=.int .i64) s.2.2.2 e.1) e.2.2.2.2.2.1
 nf:AN (aJ (T:=.int .i64) s.2.2.2 e.1) e.2.2.2.2.2.2
 va:VA w s.1 s.2.1 s.2.2.1 e.1 e.2.1 e.2.2.1 e.2.2.2.1
def ceP (ce:η) (e:ET):η:=if e.2.1=4 then cL ce e.2.2.1 e.2.2.2.1 else ce
def fuP (fu:η) (e:ET):η:=if e.2.1=22 then cL fu e.2.2.1 e.2.2.2.1 else fu
def nxP (w:WT) (s:SN) (e:ET):SN:=((rK w s.1 e.1 e.2.1 e.2.2.1 e.2.2.2.1).1,ceP s.2.1 e,fuP s.2.2.1 e,cL s.2.2.2 e.1 (bl .i64 (aJ (T:=.int .i64) s.2.2.2 e.1+1)))
theorem Gm {n:Nat} (w:WT) (s:SN) (hs:NB n s) (hw:w.2.2.1.length<=1000) (e:ET) (hd:e.2.2.2.2.2.1.length<=1000000000) (hf:e.2.2.2.2.2.2.length<=1000000000):Ok (rV (w,s,e)) λy=>(y.2=J->EN w s.1 e.1 e.2.1 e.2.2.1/\SP n s y.1/\S16 w s e/\y.1=nxP w s e)/\(y.2=af->y.1=sn0):=by
 have Z:∀{Q:SN×Bool->Prop},Q (sn0,af)->Ok (M (sn0,af)) Q:=λh=>aj h
 have z0:((sn0,af).2=J->EN w s.1 e.1 e.2.1 e.2.2.1/\SP n s (sn0,af).1/\S16 w s e/\(sn0,af).1=nxP w s e)/\((sn0,af).2=af->(sn0,af).1=sn0):=⟨λh=>(by cases h),λ_=>rfl⟩
 unfold rV aY bi bx cI dY bP dG cY fG kA ck bg bw jk bB bC kZ aX cQ aD cJ;refine aV (λx=>x.2=(w,s,e,0)/\(x.1=af->F16 w s/\(EN w s.1 e.1 e.2.1 e.2.2.1/\XX w s.1 e.1 e.2.1 e.2.2.1)/\kD (w,s.1,e.1,e.2.1,e.2.2.1)=M J)) ?_ ?_
 .refine ax (abu w s hw) λb hb=>?_
  with_reducible repeat' first|(refine OS.ok ?_;constructor)|refine IM.mk λ_=>?_
  .exact⟨rfl,λh=>(by cases h)⟩
  simp only[apw,YD];with_reducible repeat' first|(refine OS.ok ?_;constructor)|refine IM.mk λ_=>?_
  .exact⟨rfl,λh=>(by cases h)⟩
  .exact⟨rfl,λh=>(by cases h)⟩
  .exact⟨rfl,λh=>(by cases h)⟩
  obtain⟨c,hc0,hc⟩:=Ma w s.1 hs.sb hw e.1 e.2.1 e.2.2.1;refine aS hc0 (aj ⟨rfl,λh=>?_⟩);have h:c=J:=by simpa using h
  exact⟨hb (by assumption),hc h,h▸hc0⟩
 rintro⟨z,A⟩ ⟨a,hx⟩;dsimp only at a hx;subst a;refine aN (λ_=>Z z0) λh1=>?_
 obtain⟨hF,⟨hE,hR⟩,hEn⟩:=hx h1;clear hx h1;refine aV (λx=>x=(w,s,e,0)/\(e.2.1=1\/e.2.1=2->e.2.2.2.2.1= -1)/\(¬(e.2.1=1\/e.2.1=2)->0<=e.2.2.2.2.1/\e.2.2.2.2.1<w.2.2.2.2.2.length/\(aJ (T:=yP) w.2.2.2.2.2 e.2.2.2.2.1).1=e.1)) ?_ ?_
 .refine aV (λx=>x.2=(w,s,e,0)/\(x.1=J->e.2.1=1\/e.2.1=2)/\(x.1=af->¬(e.2.1=1\/e.2.1=2))) ?_ ?_
  .refine aK (λh=>aj ⟨rfl,λ_=>.inl h,λh=>(by cases h)⟩) λh=>aj ⟨rfl,λh2=>.inr (ba h2),λh2=>?_⟩
   have:=Cj h2;exact λU=>U.elim h this
  rintro⟨z,A⟩ ⟨a,hy1,hy2⟩;dsimp only at a hy1 hy2;subst a;refine aN (λhk=>?_) λhk=>?_
  .exact ca (λ_=>aj z0) λh=>aj ⟨rfl,λ_=>h,λU=>(U (hy1 hk)).elim⟩
  .refine aV (λx=>x.2=(w,s,e,0)/\(x.1=af->0<=e.2.2.2.2.1/\e.2.2.2.2.1<w.2.2.2.2.2.length/\(aJ (T:=yP) w.2.2.2.2.2 e.2.2.2.2.1).1=e.1)) ?_ ?_
   .simp only[apw,YD];refine ca (λ_=>aj ⟨rfl,λh=>(by cases h)⟩) λh=>aR h.1 h.2 (aT (aj ⟨rfl,λh2=>⟨h.1,h.2,?_⟩⟩))
    simpa using h2
   rintro⟨z,A⟩ ⟨a,Z⟩;dsimp only at a Z;subst a;exact aN (λ_=>aj z0) λh=>aj ⟨rfl,λU=>((hy2 hk) U).elim,λ_=>Z h⟩
 rintro x ⟨rfl,hS1,hS2⟩;obtain⟨nm,t0,t1,cd,e1,e2,e3⟩:=id hE;obtain⟨_,_,ce,lk,cn,th,fu,_,_,_⟩:=nm;obtain⟨f1,f2,f3⟩:=id hF;refine aV (λx=>x.2=(w,s,e,0)/\(x.1=J->e.2.1=3\/e.2.1=4)) ?_ ?_
 .with_reducible repeat' first|(refine OS.ok ?_;constructor)|refine IM.mk λ_=>?_
  .exact⟨rfl,λ_=>.inl (by assumption)⟩
  .exact⟨rfl,λh=>.inr (ba h)⟩
 rintro⟨z,A⟩ ⟨a,L⟩;dsimp only at a L;subst a;refine aV (λx=>x.2=(w,s,e,0)/\(x.1=af->0<e.2.2.2.2.2.1.length->e.2.1=5\/(e.2.1=3\/e.2.1=4)/\¬(aJ (T:=Pd) w.1 e.2.2.1).2.2.1=0)) ?_ ?_
 .refine bJ (λ_=>ca (λ_=>aN (λh=>?_) λ_=>aj ⟨rfl,λh=>(by cases h)⟩) λh5=>aj ⟨rfl,λ_ _=>.inl h5⟩) λh=>aj ⟨rfl,λ_ h2=>?_⟩
  .refine aR (ce (L h)).1 (ce (L h)).2 (aT (aj ⟨rfl,λh2 _=>.inr ⟨L h,?_⟩⟩));simpa using h2
  .dsimp only[ak]at h;omega
 rintro⟨z,A⟩ ⟨a,hDe⟩;dsimp only at a hDe;subst a;refine aN (λ_=>Z z0) λhde=>?_
 refine aV (λx=>x.2=(w,s,e,0)/\(x.1=af->0<e.2.2.2.2.2.2.length->e.2.1=4\/e.2.1=22)) ?_ ?_
 .refine bJ (λ_=>ca (λ_=>aj ⟨rfl,λh _=>.inr (by simpa using h)⟩) λh4=>aj ⟨rfl,λ_ _=>.inl h4⟩) λh=>aj ⟨rfl,λ_ h2=>?_⟩
  dsimp only[ak]at h;omega
 rintro⟨z,A⟩ ⟨a,hFr⟩;dsimp only at a hFr;subst a;refine aN (λ_=>Z z0) λhfr=>?_
 have hk:=hs.k;have hc:=hs.c;have hfu:=hs.f;refine aV (λx=>x.2=(w,s,e,0)/\(x.1=af->AN (aJ (T:=.int .i64) s.2.2.2 e.1) e.2.2.2.2.2.1/\AN (aJ (T:=.int .i64) s.2.2.2 e.1) e.2.2.2.2.2.2/\VA w s.1 s.2.1 s.2.2.1 e.1 e.2.1 e.2.2.1 e.2.2.2.1)) ?_ ?_
 .have hv:=acn w s hs hF e hE;refine aR t0 (by rw[f3];exact t1) (aT (ax (JF _ _ hd) λb hb=>?_));refine em (λ_=>aj ⟨rfl,λh=>(by cases h)⟩) λb1=>?_
  refine aR t0 (by rw[f3];exact t1) (aT (ax (JF _ _ hf) λb hb2=>?_));refine em (λ_=>aj ⟨rfl,λh=>(by cases h)⟩) λb2=>?_
  exact ax hv λb hb3=>aj ⟨rfl,λh=>⟨hb b1,hb2 b2,hb3 (by simpa using h)⟩⟩
 rintro⟨z,A⟩ ⟨a,hNum⟩;dsimp only at a hNum;subst a;refine aN (λ_=>Z z0) λhnu=>?_
 obtain⟨hN1,hN2,hVA⟩:=hNum hnu;have hS:S16 w s e:=⟨hR,hS1,hS2,hDe hde,hFr hfr,hN1,hN2,hVA⟩
 refine be (by simp;omega) (by omega) (be (by simp;omega) (by omega) (be (by simp;omega) (by omega) ?_));refine aV (λx=>x.2=(w,s,e,0,0,s.2.1,s.2.2.1,s.2.2.2)/\rK w s.1 e.1 e.2.1 e.2.2.1 x.1=rK w s.1 e.1 e.2.1 e.2.2.1 e.2.2.2.1) ?_ ?_
 .exact aK (λ_=>aj ⟨rfl,rfl⟩) λh=>aj ⟨rfl,Zh _ _ _ _ _ _ _ h⟩
 rintro⟨z,A⟩ ⟨a,hxu⟩;dsimp only at a hxu;subst a;refine ax (Va w s.1 hs.sb hw e.1 e.2.1 e.2.2.1 z) λy hy=>?_
 obtain⟨_,_,hap,hyq⟩:=hy.1 (hy.2.2 hEn);rw[hxu]at hyq;refine aV (λx=>x.1=e/\x.2.2.1=y.1/\x.2.2.2.1=ceP s.2.1 e/\x.2.2.2.2=(s.2.2.1,s.2.2.2)) ?_ ?_
 .unfold ceP;refine aK (λh=>?_) λh=>aj ⟨rfl,rfl,(aw h).symm,rfl⟩
  have hc4:=ce (.inr h);with_reducible repeat' first|(refine OS.ok ?_;constructor)|refine IM.mk λ_=>?_
  all_goals try simp only[ak,rG] at*
  all_goals first|omega|exact (aC h).symm
 rintro⟨z,A,x3,x4,x5,x6⟩ ⟨h1,h2,U,h4⟩;simp only[aE]at h1 h2 U h4;obtain⟨rfl,rfl⟩:=h4;subst h1;subst h2;subst U;refine aV (λx=>x.1=z/\x.2.2.1=y.1/\x.2.2.2.1=ceP s.2.1 z/\x.2.2.2.2.1=fuP s.2.2.1 z/\x.2.2.2.2.2=s.2.2.2) ?_ ?_
 .unfold fuP;refine aK (λh=>?_) λh=>aj ⟨rfl,rfl,rfl,(aw h).symm,rfl⟩
  have hc4:=fu (.inl h);with_reducible repeat' first|(refine OS.ok ?_;constructor)|refine IM.mk λ_=>?_
  all_goals try simp only[ak,rG] at*
  all_goals first|omega|exact (aC h).symm
 rintro⟨z,A,x3,x4,x5,x6⟩ ⟨h1,h2,h4,h5,h6⟩;simp only at h1 h2 h4 h5 h6;subst h1;subst h2;subst h4;subst h5;subst h6;have l1:(ceP s.2.1 z).length=s.2.1.length:=by unfold ceP;split<;>simp[bY]
 have l2:(fuP s.2.2.1 z).length=s.2.2.1.length:=by unfold fuP;split<;>simp[bY]
 with_reducible repeat' first|(refine OS.ok ?_;constructor)|refine IM.mk λ_=>?_
 all_goals try simp only[ak,rG] at*
 all_goals first|omega|skip
 exact⟨⟨hE,⟨hap,l1,l2,by rw[bY]⟩,hS,by unfold nxP;rw[<- hyq]⟩,λh=>(by cases h)⟩
theorem UT:Ok (kS ()) λl=>l.length=22:=by
 unfold kS;with_reducible repeat' first|(refine OS.ok ?_;constructor)|refine IM.mk λ_=>?_
 all_goals rfl
theorem Rg (s:ζ):Ok (jU s) λ_=>True:=by
 unfold jU bw bC aX cQ aD cJ;refine ax UT λl hl=>?_
 refine bZ l.length (λi x=>x=(i:Int)) ?_ ?_ rfl
 .rintro i x hi rfl;with_reducible repeat' first|(refine OS.ok ?_;constructor)|refine IM.mk λ_=>?_
  all_goals try simp only[ak,rG] at*
  all_goals first|omega|exact gw (by omega)
 .rintro x rfl;with_reducible repeat' first|(refine OS.ok ?_;constructor)|refine IM.mk λ_=>?_
  all_goals try simp only[ak,rG] at*
  all_goals omega
theorem OY (c:Int):Ok (l9 c) λ_=>True:=by
 unfold l9 iZ aD;with_reducible repeat' first|(refine OS.ok ?_;constructor)|refine IM.mk λ_=>?_
 all_goals exact trivial
theorem ae4 (c:Int):Ok (pW c) λ_=>True:=by
 unfold pW r8 iZ aD;refine gJ (ax (OY c) λ_ _=>?_);with_reducible repeat' first|(refine OS.ok ?_;constructor)|refine IM.mk λ_=>?_
 all_goals try exact trivial
 refine ax (P:=λ_=>True) ?_ λ_ _=>?_
 .with_reducible repeat' first|(refine OS.ok ?_;constructor)|refine IM.mk λ_=>?_
  all_goals exact trivial
 .with_reducible repeat' first|(refine OS.ok ?_;constructor)|refine IM.mk λ_=>?_
  all_goals exact trivial
theorem iK (s:ζ):Ok (fA s) λ_=>True:=by
 unfold fA bw wQ aX cQ aD cJ;refine aV (λb=>b=af->s.length<=12) ?_ ?_
 .with_reducible repeat' first|(refine OS.ok ?_;constructor)|refine IM.mk λ_=>?_
  .exact λh=>(by cases h)
  .exact λh=>(by cases h)
  .omega
  .simp only[ak]at *;omega
  refine ax (OY _) λ_ _=>?_
  with_reducible repeat' first|(refine OS.ok ?_;constructor)|refine IM.mk λ_=>?_
  .exact λh=>(by cases h)
  refine ax (Rg _) λ_ _=>aj λ_=>?_
  simp only[ak]at *;omega
 .rintro b hb;refine aN (λ_=>aj trivial) λh=>?_
  have hb:=hb h;refine bZ s.length (λi x=>x=(i:Int)) ?_ ?_ rfl
  .rintro i x hi rfl;with_reducible repeat' first|(refine OS.ok ?_;constructor)|refine IM.mk λ_=>?_
   all_goals try simp only[ak,rG] at*
   all_goals first|omega|skip
   refine ax (ae4 _) λ_ _=>?_
   with_reducible repeat' first|(refine OS.ok ?_;constructor)|refine IM.mk λ_=>?_
   .exact trivial
   .exact gw (by omega)
  .rintro x rfl;with_reducible repeat' first|(refine OS.ok ?_;constructor)|refine IM.mk λ_=>?_
   all_goals try simp only[ak,rG] at*
   all_goals first|omega|exact trivial
theorem zo (l:Y ζ) (s:ζ) (hl:l.length<=1000000000):Ok (jq (l,s)) λr=> -1<=r/\r<l.length/\(0<=r->aJ (T:=.str) l r=s)/\(r<0->s∉l):=by
 unfold jq bw bC aX cQ aD cJ;refine bZ l.length (λi x=>x=(i:Int)/\∀k:Nat,k<i->aJ (T:=.str) l (k:Int)≠s) ?_ ?_ ⟨rfl,λk hk=>by omega⟩
 .rintro i x hi ⟨rfl,a⟩;with_reducible repeat' first|(refine OS.ok ?_;constructor)|refine IM.mk λ_=>?_
  all_goals try simp only[ak,rG] at*
  all_goals first|omega|skip
  .exact⟨by omega,by omega,λ_=>by assumption,λh=>by omega⟩
  .refine ⟨gw (by omega),λk hk=>?_⟩;rcases ci k i with h1|h1
   .exact a k h1
   .rw[show k=i by omega];assumption
 .rintro x ⟨rfl,a⟩;with_reducible repeat' first|(refine OS.ok ?_;constructor)|refine IM.mk λ_=>?_
  all_goals try simp only[ak,rG] at*
  all_goals first|omega|skip
  exact⟨by omega,by omega,λh=>by omega,λ_ h=>iI (T:=.str) (p:=λc=>c≠s) a s h rfl⟩
structure VL (w:WT):Prop where
 c:w.1.length<=12
 l:w.2.1.length<=4
 d:w.2.2.1.length<=2
 f:w.2.2.2.1.length<=2
 t0:1<=w.2.2.2.2.1.length
 t:w.2.2.2.2.1.length<=4
 s:w.2.2.2.2.2.length<=60
theorem adm (w:WT) (h:VL w):Ok (pR w) λy=>y.1.length<=100:=by
 obtain⟨s,U,L,w4,w5,Z⟩:=w;obtain⟨h1,h2,h3,h4,_,h5,h6⟩:=h;dsimp only at*
 unfold pR aY bi bx cI dG kA bg bw jk bB bC aX cQ aD cJ;refine qK (λx=>((s.length:Int)-x.1).toNat) (λx=>x.2.1=(s,U,L,w4,w5,Z)/\0<=x.1/\x.1<=(s.length:Int)/\(x.2.2.length:Int)<=x.1) ?_ ⟨rfl,by simp,by simp,by simp⟩;rintro⟨x1,x2,x3⟩ ⟨e,g1,g2,g3⟩;dsimp only at e g1 g2 g3;subst e;refine bJ (λg4=>?_) λg4=>?_
 .dsimp only[ak]at g4;refine aV (λx=>x.2.1=(s,U,L,w4,w5,Z)/\x1<x.1/\x.1<=(s.length:Int)/\(x.2.2.length:Int)<=x.1) ?_ ?_
  .refine b7 (aT (be (by simp;omega) (by omega) ?_));refine aK (λ_=>?_) λ_=>?_
   .with_reducible repeat' first|(refine OS.ok ?_;constructor)|refine IM.mk λ_=>?_
    .exact ie _
    .rw[iw (by omega) (by omega)];exact⟨rfl,by dsimp only;omega,by dsimp only;omega,by simp;omega⟩
   .generalize hz:aJ _ x1=z;obtain⟨z1,(z2:Int),(A:Int),z4,z5⟩:=z;dsimp only;refine aV (λx=>x.2=((s,U,L,w4,w5,Z),x3++[z1],z1,z2,A,z4,z5)/\(x.1=af->1<=A/\A<=4/\x1+A<=s.length)) ?_ ?_
    .with_reducible repeat' first|(refine OS.ok ?_;constructor)|refine IM.mk λ_=>?_
     .exact⟨rfl,λh=>(by cases h)⟩
     .exact⟨rfl,λh=>(by cases h)⟩
     .refine ⟨rfl,λh=>?_⟩;dsimp only[ak] at*
      rw[iw (by omega) (by omega),gB]at h;omega
    .rintro⟨b,y⟩ ⟨e,hb⟩;dsimp only at e hb;subst e;refine aN (λ_=>aj (ie _)) λh=>?_
     obtain⟨q1,q2,q3⟩:=hb h;refine qK (λx=>(A-x.1).toNat) (λx=>x.2=((s,U,L,w4,w5,Z),x3++[z1],z1,z2,A,z4,z5)/\0<=x.1/\x.1<=A) ?_ ⟨rfl,by simp,by dsimp only;omega⟩;rintro⟨k,y⟩ ⟨e,k0,k1⟩;dsimp only at e k0 k1;subst e;refine bJ (λk2=>?_) λk2=>?_
     .dsimp only at k2;have e1:bl .i64 (x1+k)=x1+k:=iw (by omega) (by omega);refine aR (by dsimp only;rw[e1];omega) (by dsimp only;rw[e1];omega) (aT ?_);refine aV (λx=>x.2=((s,U,L,w4,w5,Z),x3++[z1],z1,z2,A,z4,z5)) ?_ ?_
      .with_reducible repeat' first|(refine OS.ok ?_;constructor)|refine IM.mk λ_=>?_
       all_goals rfl
      .rintro⟨b,y⟩ e;dsimp only at e;subst e;refine aN (λ_=>aj (ie _)) λ_=>aj ?_
       dsimp only;rw[iw (by omega) (by omega)];exact⟨⟨rfl,by omega,by omega⟩,by omega⟩
     .dsimp only at k2;refine aj ?_;dsimp only;rw[iw (by omega) (by omega)];exact⟨rfl,by omega,by omega,by simp;omega⟩
  .rintro⟨y1,y2,y3⟩ ⟨e,g5,g6,g7⟩;dsimp only at e g5 g6 g7;subst e;refine aj ⟨⟨rfl,by dsimp only;omega,g6,g7⟩,?_⟩;dsimp only;omega
 .dsimp only[ak]at g4;refine ax (P:=λy=>y.1.length<=100) ?_ λy hy=>aj hy
  refine bZ U.length (λi x=>x.1=(i:Int)/\x.2.1=(s,U,L,w4,w5,Z)/\x.2.2.length<=12+i) ?_ ?_ ⟨rfl,rfl,by dsimp only;omega⟩
  .rintro i ⟨a,b,c⟩ hi ⟨e1,e2,e3⟩;dsimp only at e1 e2 e3;subst e1;subst e2;with_reducible repeat' first|(refine OS.ok ?_;constructor)|refine IM.mk λ_=>?_
   all_goals try simp only[ak,rG] at*
   all_goals first|omega|(simp;omega)|skip
   exact⟨gw (by omega),by simp;omega⟩
  .rintro⟨a,b,c⟩ ⟨e1,e2,e3⟩;dsimp only at e1 e2 e3;subst e1;subst e2;refine bJ (λg4=>(by dsimp only[ak]at g4;omega)) λ_=>?_
   refine ax (P:=λy=>y.1.length<=100) ?_ λy hy=>aj hy
   refine bZ L.length (λi x=>x.1=(i:Int)/\x.2.1=(s,U,L,w4,w5,Z)/\x.2.2.length<=16+i) ?_ ?_ ⟨rfl,rfl,by dsimp only;omega⟩
   .rintro i ⟨a,b,c⟩ hi ⟨e1,e2,e3⟩;dsimp only at e1 e2 e3;subst e1;subst e2;with_reducible repeat' first|(refine OS.ok ?_;constructor)|refine IM.mk λ_=>?_
    all_goals try simp only[ak,rG] at*
    all_goals first|omega|(simp;omega)|skip
    exact⟨gw (by omega),by simp;omega⟩
   .rintro⟨a,b,c⟩ ⟨e1,e2,e3⟩;dsimp only at e1 e2 e3;subst e1;subst e2;refine bJ (λg4=>(by dsimp only[ak]at g4;omega)) λ_=>?_
    refine ax (P:=λy=>y.1.length<=100) ?_ λy hy=>aj hy
    with_reducible repeat' first|(refine OS.ok ?_;constructor)|refine IM.mk λ_=>?_
    all_goals try simp only[ak,rG] at*
    all_goals first|omega|(simp;omega)
def Ve (T:Int) (o:I ν) (s:π):I ν:=
 match o with
 |none=>D
 |some (t,n)=>if s.1=t/\s.2.1=n then M (t,n+1) else if t<s.1/\s.1<T/\s.2.1=0 then M (s.1,1) else D
def Ml (T:Int) (l:Y π):I ν:=l.foldl (Ve T) (M (0,0))
def SV0 (w:WT):Prop:=Ml w.2.2.2.2.1.length w.2.2.2.2.2≠D
theorem Jm {T:Int} {l:Y π} {i:Nat} (hi:i<l.length):Ml T (l.take (i+1))=Ve T (Ml T (l.take i)) (aJ (T:=yP) l (i:Int)):=by
 rw[nu (T:=yP) hi];unfold Ml;rw[dz];rfl
theorem Cb (w:WT):Ok (io w) λb=>b=J->VL w/\SV0 w:=by
 unfold io aY bi bx cI cY fG bg bw iZ jk bB bC aX cQ aD cJ;refine aV (λx=>x.2=w/\(x.1=af->VL w)) ?_ ?_
 .with_reducible repeat' first|(refine OS.ok ?_;constructor)|refine IM.mk λ_=>?_
  all_goals first|exact⟨rfl,λh=>(by cases h)⟩|skip
  dsimp only[ak] at*
  refine ⟨rfl,λh=>?_⟩;rw[gB]at h;constructor<;>omega
 rintro⟨b,x⟩ ⟨e,hb⟩;dsimp only at e hb;subst e;refine aN (λ_=>aj λh=>(by cases h)) λh=>?_
 have hv:=hb h;refine ax (adm _ hv) λy hy=>?_
 refine em (λ_=>aj λh=>(by cases h)) λ_=>?_
 obtain⟨w1,w2,Z,w4,L,A⟩:=x;have h6:=hv.s;have h3:=hv.d;dsimp only at h6 h3;refine bZ y.1.length (λi x=>x.1=(i:Int)/\x.2=(w1,w2,Z,w4,L,A)) ?_ ?_ ⟨rfl,rfl⟩
 .rintro i ⟨a,b⟩ hi ⟨e1,e2⟩;dsimp only at e1 e2;subst e1;subst e2;refine bJ (λg4=>?_) λg4=>(by dsimp only[ak]at g4;omega)
  refine aV (λx=>x.2=(w1,w2,Z,w4,L,A)) ?_ ?_
  .refine b7 (aT (ax (iK _) λ_ _=>?_));refine em (λ_=>aj rfl) λ_=>?_
   with_reducible repeat' first|(refine OS.ok ?_;constructor)|refine IM.mk λ_=>?_
   all_goals try simp only[ak,rG] at*
   all_goals first|omega|skip
   refine ax (zo _ _ (by simp;omega)) λ_ _=>aj rfl
  .rintro⟨a,b⟩ e;dsimp only at e;subst e;with_reducible repeat' first|(refine OS.ok ?_;constructor)|refine IM.mk λ_=>?_
   .exact λh=>(by cases h)
   .dsimp only;exact⟨gw (by omega),rfl⟩
 rintro⟨a,b⟩ ⟨e1,e2⟩;dsimp only at e1 e2;subst e1;subst e2;refine bJ (λg4=>(by dsimp only[ak]at g4;omega)) λ_=>?_
 refine ax (P:=λb=>b=J->VL (w1,w2,Z,w4,L,A)/\SV0 (w1,w2,Z,w4,L,A)) ?_ λy hy=>aj hy
 refine bZ Z.length (λi x=>x.1=(i:Int)/\x.2=(w1,w2,Z,w4,L,A)) ?_ ?_ ⟨rfl,rfl⟩
 .rintro i ⟨a,b⟩ hi ⟨e1,e2⟩;dsimp only at e1 e2;subst e1;subst e2;refine bJ (λg4=>?_) λg4=>(by dsimp only[ak]at g4;omega)
  refine b7 (aT ?_);refine aV (λx=>x.2=(w1,w2,Z,w4,L,A)) ?_ ?_
  .with_reducible repeat' first|(refine OS.ok ?_;constructor)|refine IM.mk λ_=>?_
   all_goals try simp only[ak,rG] at*
   all_goals first|omega|rfl
  .rintro⟨a,b⟩ e;dsimp only at e;subst e;with_reducible repeat' first|(refine OS.ok ?_;constructor)|refine IM.mk λ_=>?_
   .exact λh=>(by cases h)
   .dsimp only;exact⟨gw (by omega),rfl⟩
 rintro⟨a,b⟩ ⟨e1,e2⟩;dsimp only at e1 e2;subst e1;subst e2;refine bJ (λg4=>(by dsimp only[ak]at g4;omega)) λ_=>?_
 refine ax (P:=λb=>b=J->VL (w1,w2,Z,w4,L,A)/\SV0 (w1,w2,Z,w4,L,A)) ?_ λy hy=>aj hy
 refine bZ A.length (λi x=>x.1=(i:Int)/\x.2=(w1,w2,Z,w4,L,A)/\Ml L.length (A.take i)=M (if i=0 then (0,0) else ((aJ (T:=yP) A ((i-1:Nat):Int)).1,(aJ (T:=yP) A ((i-1:Nat):Int)).2.1+1))/\(¬i=0->(0:Int)<=(aJ (T:=yP) A ((i-1:Nat):Int)).2.1/\(i:Int)>(aJ (T:=yP) A ((i-1:Nat):Int)).2.1)) ?_ ?_ ⟨rfl,rfl,rfl,λh=>(h rfl).elim⟩
 .rintro i ⟨a,b⟩ hi ⟨e1,e2,e3,hpb⟩;dsimp only at e1 e2;subst e1;subst e2;have hw:¬(i:Int)=0->bl .i64 ((i:Int)-1)=((i-1:Nat):Int):=λh=>by rw[iw (by omega) (by omega)];omega
  have hnx:=Jm (T:=L.length) hi;rw[e3]at hnx;clear e3;refine bJ (λg4=>?_) λg4=>(by dsimp only[ak]at g4;omega)
  refine aV (λx=>x=(w1,w2,Z,w4,L,A)/\Ml L.length (A.take (i+1))=M (((aJ (T:=yP) A (i:Int)).1,(aJ (T:=yP) A (i:Int)).2.1+1))/\(0:Int)<=(aJ (T:=yP) A (i:Int)).2.1/\((i+1:Nat):Int)>(aJ (T:=yP) A (i:Int)).2.1) ?_ ?_
  .refine b7 (aT ?_);rw[hnx];generalize hz:aJ (T:=yP) A (i:Int)=z;obtain⟨(z1:Int),(z2:Int),(z3:Int)⟩:=z;dsimp only;refine aV (λx=>x.2=((w1,w2,Z,w4,L,A),z1,z2,z3)/\(x.1=af->0<=z1/\z1<L.length)) ?_ ?_
   .refine bJ (λ_=>aj ⟨rfl,λh=>(by cases h)⟩) λg=>aj ⟨rfl,λh=>⟨g,?_⟩⟩
    rw[mE]at h;exact h
   rintro⟨c,y⟩ ⟨e,hzr⟩;dsimp only at e hzr;subst e;refine aN (λ_=>aj λh=>(by cases h)) λhzb=>?_
   obtain⟨z0,zT⟩:=hzr hzb;refine aV (λx=>x.2=((w1,w2,Z,w4,L,A),z1,z2,z3)/\(x.1=J->i=0\/¬(aJ (T:=yP) A ((i-1:Nat):Int)).1=z1)/\(x.1=af->¬(i:Int)=0/\(aJ (T:=yP) A ((i-1:Nat):Int)).1=z1)) ?_ ?_
   .refine aK (λh=>aj ⟨rfl,λ_=>.inl (by have h:((i:Nat):Int)=0:=h;omega),λh=>(by cases h)⟩) λh=>?_
    rw[hw h];refine b7 (aT (aj ⟨rfl,λh2=>.inr (by simpa using h2),λh2=>⟨h,by simpa using h2⟩⟩))
   rintro⟨c,y⟩ ⟨e,hc1,hc⟩;dsimp only at e hc1 hc;subst e;refine aN (λhct=>?_) λhcf=>?_
   .refine aV (λx=>x.2=(w1,w2,Z,w4,L,A)/\(x.1=af->z2=0/\(¬i=0->((aJ (T:=yP) A ((i-1:Nat):Int)).1:Int)<z1))) ?_ ?_
    .refine ca (λ_=>aj ⟨rfl,λh=>(by cases h)⟩) λhz2=>?_
     refine bJ (λh=>?_) λU=>aj ⟨rfl,λ_=>⟨hz2,λh=>by have U:((i:Nat):Int)<=0:=U;omega⟩⟩
     have h:(0:Int)<((i:Nat):Int):=h;rw[hw (by omega)];refine b7 (aT (aj ⟨rfl,λh2=>⟨hz2,λh3=>?_⟩⟩));rw[gB]at h2;have h4:=(hc1 hct).resolve_left h3;have h2:(aJ (T:=yP) A ((i-1:Nat):Int)).1<=z1:=h2;exact Int.lt_iff_le_and_ne.2 ⟨h2,h4⟩
    rintro⟨c,y⟩ ⟨e,hy⟩;dsimp only at e hy;subst e;refine aN (λ_=>aj λh=>(by cases h)) λh=>aj ⟨rfl,?_⟩
    obtain⟨q1,q2⟩:=hy h;have q1:z2=0:=q1;subst q1;refine ⟨?_,dx 0,by show _>(0:Int);omega⟩;unfold Ve;by_cases U:i=0
    .subst U;rw[aC rfl];dsimp only;by_cases hz1:z1=0
     .subst hz1;rfl
     .rw[aw (λh=>hz1 h.1),aC ⟨by omega,zT,rfl⟩];rfl
    .have:=q2 U;rw[aw U];dsimp only;rw[aw (λh=>by omega),aC ⟨this,zT,rfl⟩];rfl
   .obtain⟨U,hpr⟩:=hc hcf;rw[hw U];refine b7 (aT ?_);refine ca (λ_=>aj λh=>(by cases h)) λh=>aj ⟨rfl,?_⟩
    obtain⟨b0,b1⟩:=hpb (by omega);have h:z2=bl .i64 ((aJ (T:=yP) A ((i-1:Nat):Int)).2.1+1):=h;rw[iw (by omega) (by omega)]at h;refine ⟨?_,by omega,by omega⟩;rw[aw (by omega)];unfold Ve;dsimp only;rw[aC ⟨hpr.symm,h⟩,hpr,h]
  .rintro x ⟨rfl,hx,hx2⟩;refine aj ?_;dsimp only;refine ⟨gw (by omega),rfl,?_,λ_=>hx2⟩;rw[aw (by omega)];exact hx
 .rintro⟨a,b⟩ ⟨e1,e2,e3,_⟩;dsimp only at e1 e2;subst e1;subst e2;refine bJ (λg4=>(by dsimp only[ak]at g4;omega)) λ_=>?_
  rw[cO]at e3;exact aj λ_=>⟨hv,by unfold SV0;dsimp only;rw[e3];simp⟩
def ue (e:ET):Bool:=decide (e.2.1=3)||decide (e.2.1=23)
def fl (l:Y ET) (t:Int):θ:=(l.filter λe=>decide (e.1=t)).map ue
def L_ (l:Y ET) (t y:Int):Prop:=0<=y/\(fl l t).getD y.toNat af=J
theorem vk (l m:Y ET) (t:Int):fl (l++m) t=fl l t++fl m t:=by unfold fl;rw[yO,cM]
theorem Ak {e:ET} {t:Int} (h:e.1=t):fl [e] t=[ue e]:=by unfold fl;simp[h]
theorem xr {e:ET} {t:Int} (h:¬e.1=t):fl [e] t=[]:=by unfold fl;simp[h]
theorem L_.app {l:Y ET} {t y:Int} (h:L_ l t y) (m:Y ET):L_ (l++m) t y:=by
 obtain⟨h0,h1⟩:=h;refine ⟨h0,?_⟩;rw[vk];rw[av]at h1 ⊢;rcases ci y.toNat (fl l t).length with g|g
 .rw[bU g];exact h1
 .rw[bF g]at h1;cases h1
theorem L_.lt {l:Y ET} {t y:Int} (h:L_ l t y):y<(fl l t).length:=by
 obtain⟨h0,h1⟩:=h;rcases ci y.toNat (fl l t).length with g|g
 .omega
 .rw[av,bF g]at h1;cases h1
theorem L_.last {l:Y ET} {e:ET} {y:Int} (h:ue e=J) (a:y=(fl l e.1).length):L_ (l++[e]) e.1 y:=by
 subst a;refine ⟨by omega,?_⟩;rw[vk,Ak rfl,av,cj (by simp),h];simp
theorem YS (l:Y ET) (t:Int):(fl l t).length<=l.length:=by unfold fl;rw[bQ];exact Ch ..
structure SCx (w:WT) (l:List ET) (sy:SY) (ce fu:η) (e:ET):Prop where
 en:EN w sy e.1 e.2.1 e.2.2.1
 rd:XX w sy e.1 e.2.1 e.2.2.1
 s1:e.2.1=1\/e.2.1=2->e.2.2.2.2.1= -1
 s2:¬(e.2.1=1\/e.2.1=2)->0<=e.2.2.2.2.1/\e.2.2.2.2.1<w.2.2.2.2.2.length/\(aJ (T:=yP) w.2.2.2.2.2 e.2.2.2.2.1).1=e.1
 de:0<e.2.2.2.2.2.1.length->e.2.1=5\/(e.2.1=3\/e.2.1=4)/\¬(aJ (T:=Pd) w.1 e.2.2.1).2.2.1=0
 fr:0<e.2.2.2.2.2.2.length->e.2.1=4\/e.2.1=22
 nd:AN (fl l e.1).length e.2.2.2.2.2.1
 nf:AN (fl l e.1).length e.2.2.2.2.2.2
 rd1:∀y∈e.2.2.2.2.2.1,L_ l e.1 y
 rd2:∀y∈e.2.2.2.2.2.2,L_ l e.1 y
 va:VA w sy ce fu e.1 e.2.1 e.2.2.1 e.2.2.2.1
def Zu:Nat->Y (Int×Int×Bool)
 |0=>[]
 |n+1=>(1,0,af)::aA n (0,0,af)
def Rk (w:WT):SY:=(aA w.2.1.length (-1,[]),-1,aA w.2.2.2.1.length af,Zu w.2.2.2.2.1.length)
def ce0 (w:WT):η:=w.1.map λc=>c.2.2.2.2
def fu0 (w:WT):η:=aA w.2.2.2.1.length 0
inductive Acw (w:WT):List ET->SY->η->η->Prop
 |nil:Acw w [] (Rk w) (ce0 w) (fu0 w)
 |snoc {l:List ET} {sy:SY} {ce fu:η} {e:ET} (h:Acw w l sy ce fu) (hs:SCx w l sy ce fu e):Acw w (l++[e]) (rK w sy e.1 e.2.1 e.2.2.1 e.2.2.2.1).1 (ceP ce e) (fuP fu e)
theorem acs (i:Nat):Zu (i+2)=Zu (i+1)++[(0,0,af)]:=by
 show (1,0,af)::aA (i+1) (0,0,af)=(1,0,af)::aA i (0,0,af)++[(0,0,af)]
 rw[vz,fR]
theorem IF:∀n,(Zu n).length=n
 |0=>rfl
 |n+1=>by simp[Zu]
theorem L2 (w:WT) (h:VL w):rW w=M (Rk w):=by
 obtain⟨w1,z,w3,A,U,Z⟩:=w;obtain⟨h1,h2,h3,h4,_,h5,h6⟩:=h;dsimp only at*
 refine cf ?_;unfold rW aY bi bx cI dG cY fG bg bw bB aX cQ aD cJ;refine bZ z.length (λi x=>x.1=(i:Int)/\x.2.1=(w1,z,w3,A,U,Z)/\x.2.2.2=(-1,aA i (-1,[]))) ?_ ?_ ⟨rfl,rfl,rfl⟩
 .rintro i ⟨a,b,c,d,e⟩ hi ⟨e1,e2,e3⟩;simp only[aE]at e1 e2 e3;obtain⟨rfl,rfl⟩:=e3;subst e1;subst e2;with_reducible repeat' first|(refine OS.ok ?_;constructor)|refine IM.mk λ_=>?_
  all_goals try simp only[ak,rG] at*
  all_goals first|omega|(simp;omega)|skip
  exact⟨gw (by omega),by rw[vz]⟩
 rintro⟨a,b,c,d,e⟩ ⟨e1,e2,e3⟩;simp only[aE]at e1 e2 e3;obtain⟨rfl,rfl⟩:=e3;subst e1;subst e2;refine bJ (λL=>(by dsimp only[ak]at L;omega)) λ_=>?_
 refine ax (P:=λs=>s=Rk (w1,z,w3,A,U,Z)) ?_ λy hy=>aj hy
 refine bZ A.length (λi x=>x.1=(i:Int)/\x.2.1=(w1,z,w3,A,U,Z)/\x.2.2.2=(-1,aA z.length (-1,[]),aA i af)) ?_ ?_ ⟨rfl,rfl,rfl⟩
 .rintro i ⟨a,b,c,d,e',f⟩ hi ⟨e1,e2,e3⟩;simp only[aE]at e1 e2 e3;obtain⟨rfl,rfl,rfl⟩:=e3;subst e1;subst e2;with_reducible repeat' first|(refine OS.ok ?_;constructor)|refine IM.mk λ_=>?_
  all_goals try simp only[ak,rG] at*
  all_goals first|omega|(simp;omega)|skip
  exact⟨gw (by omega),by rw[vz]⟩
 rintro⟨a,b,c,d,e',f⟩ ⟨e1,e2,e3⟩;simp only[aE]at e1 e2 e3;obtain⟨rfl,rfl,rfl⟩:=e3;subst e1;subst e2;refine bJ (λL=>(by dsimp only[ak]at L;omega)) λ_=>?_
 refine ax (P:=λs=>s=Rk (w1,z,w3,A,U,Z)) ?_ λy hy=>aj hy
 refine bZ U.length (λi x=>x.1=(i:Int)/\x.2.1=(w1,z,w3,A,U,Z)/\x.2.2.2=(-1,aA z.length (-1,[]),aA A.length af,Zu i)) ?_ ?_ ⟨rfl,rfl,rfl⟩
 .rintro i ⟨a,b,c,d,e'',f',g⟩ hi ⟨e1,e2,e3⟩;simp only[aE]at e1 e2 e3;obtain⟨rfl,rfl,rfl,rfl⟩:=e3;subst e1;subst e2;have hl:=IF i;refine bJ (λ_=>?_) λL=>(by dsimp only[ak]at L;omega)
  refine gJ (aK (λh0=>aj ?_) λh0=>aj ?_)
  .have h0:((i:Nat):Int)=0:=h0;have h0:i=0:=by omega
   subst h0;exact be (by simp[Zu]) (by omega) (aj ⟨rfl,rfl,rfl⟩)
  .have h0:¬((i:Nat):Int)=0:=h0;obtain⟨j,rfl⟩:∃j,i=j+1:=⟨i-1,by omega⟩
   refine be (by dsimp only;rw[hl];simp;omega) (by omega) (aj ⟨gw (by omega),rfl,?_⟩);dsimp only;rw[acs]
 rintro⟨a,b,c,d,e'',f',g⟩ ⟨e1,e2,e3⟩;simp only[aE]at e1 e2 e3;obtain⟨rfl,rfl,rfl,rfl⟩:=e3;subst e1;subst e2;refine bJ (λL=>(by dsimp only[ak]at L;omega)) λ_=>aj rfl
theorem Vw {w:WT} (h:VL w):SB 0 (Rk w):=by
 obtain⟨h1,h2,A,z,_,s,a⟩:=h;refine ⟨by omega,by simp[Rk];omega,λl hl=>?_,by simp[Rk];omega,by simp[Rk,IF];omega⟩;rw[qg hl];simp
theorem L1 (w:WT) (h:VL w):nF w=M (Rk w,ce0 w,fu0 w,aA w.2.2.2.2.1.length 0):=by
 have hs:=L2 w h;have hd:(Rk w)=Rk w:=rfl;obtain⟨s,Z,U,A,z,L⟩:=w;obtain⟨h1,h2,h3,h4,_,h5,h6⟩:=h;dsimp only at*
 refine cf ?_;unfold nF aY bi bx bP cY bw bB bC aX cQ aD cJ;refine aS hs ?_;with_reducible repeat' first|(refine OS.ok ?_;constructor)|refine IM.mk λ_=>?_
 all_goals try simp only[ak,rG] at*
 all_goals first|omega|skip
 refine bZ s.length (λi x=>x.1=(i:Int)/\x.2.1=(s,Z,U,A,z,L)/\x.2.2.2=(Rk (s,Z,U,A,z,L),(s.take i).map (λc=>c.2.2.2.2),aA A.length 0,aA z.length 0)) ?_ ?_ ⟨rfl,rfl,rfl⟩
 .rintro i ⟨a,b,c,d,e,f,g⟩ hi ⟨e1,e2,e3⟩;simp only[aE]at e1 e2 e3;obtain⟨rfl,rfl,rfl,rfl⟩:=e3;subst e1;subst e2;with_reducible repeat' first|(refine OS.ok ?_;constructor)|refine IM.mk λ_=>?_
  all_goals try simp only[ak,rG] at*
  all_goals first|omega|(simp;omega)|skip
  exact⟨gw (by omega),by rw[nu (T:=Pd) hi,cM];rfl⟩
 rintro⟨a,b,c,d,e,f,g⟩ ⟨e1,e2,e3⟩;simp only[aE]at e1 e2 e3;obtain⟨rfl,rfl,rfl,rfl⟩:=e3;subst e1;subst e2;refine bJ (λg4=>(by dsimp only[ak]at g4;omega)) λ_=>aj ?_
 rw[cO];rfl
theorem XS (w:WT) (h:VL w):Ok (nF w) λs=>NB 0 s/\s.2.1.length=w.1.length/\s.2.2.1.length=w.2.2.2.1.length/\s.2.2.2.length=w.2.2.2.2.1.length:=
 akm (L1 w h) ⟨⟨Vw h,by have:=h.c;simp[ce0];omega,by have:=h.f;simp[fu0];omega,by have:=h.t;simp;omega⟩,by simp[ce0],by simp[fu0],by simp⟩
theorem RN (l:Y ET) (i t:Int) (s:η) (hl:l.length<=1000000000) (hi:0<=i/\i<=l.length) (hn:s.length<=1000000000):Ok (rU (l,i,t,s)) λb=>b=J->∀y∈s,L_ (l.take i.toNat) t y:=by
 unfold rU aY bP bg bw jk bC aX cQ aD cJ;refine bZ s.length (λk x=>x=(k:Int)/\∀j:Nat,j<k->L_ (l.take i.toNat) t (aJ (T:=.int .i64) s (j:Int))) ?_ ?_ ⟨rfl,λj hj=>(by omega)⟩
 .rintro k x hk ⟨rfl,U⟩;refine bJ (λA=>?_) λA=>(by dsimp only[ak]at A;omega)
  refine qK (λx=>(i-x.2.2).toNat) (λx=>0<=x.2.2/\x.2.2<=i/\x.1=((fl (l.take x.2.2.toNat) t).length:Int)/\(x.2.1=J->L_ (l.take x.2.2.toNat) t (aJ (T:=.int .i64) s (k:Int)))) ?_ ⟨by simp,hi.1,by simp[fl],λh=>(by cases h)⟩;rintro⟨a,b,(c:Int)⟩ ⟨L,c1,Z,hb⟩;dsimp only at L c1 Z hb;subst Z;obtain⟨c,rfl⟩:∃n:Nat,c=(n:Int):=⟨c.toNat,by omega⟩
  rw[bO]at hb;dsimp only;rw[bO];have hfl:=YS (l.take c) t;have htl:=qI c l;refine bJ (λz=>?_) λz=>?_
  .have z:(c:Int)<i:=z;have htk:l.take (c+1)=l.take c++[aJ (T:=tE) l (c:Int)]:=nu (T:=tE) (by omega);refine aV (λy=>y.1=((fl (l.take (c+1)) t).length:Int)/\(y.2=J->L_ (l.take (c+1)) t (aJ (T:=.int .i64) s (k:Int)))) ?_ ?_
   .rw[htk,vk];refine aR L (by first|omega|(dsimp only;omega)) (aT ?_);refine ca (λhne=>aj ⟨by rw[xr hne];simp,λh=>(hb h).app _⟩) λhe=>?_
    have he:(aJ (T:=tE) l (c:Int)).1=t:=he;refine aV (λy=>y=J->L_ (l.take c++[aJ (T:=tE) l (c:Int)]) t (aJ (T:=.int .i64) s (k:Int))) ?_ λy hy=>aj ⟨?_,hy⟩
    .refine aN (λh=>aj λ_=>(hb h).app _) λ_=>?_
     refine aR (by omega) (by first|omega|(dsimp only;omega)) (aT ?_);refine aK (λhn=>?_) λ_=>aj λh=>(by cases h)
     have hq:ue (aJ (T:=tE) l (c:Int))=J->L_ (l.take c++[aJ (T:=tE) l (c:Int)]) t (aJ (T:=.int .i64) s (k:Int)):=λh=>by
      rw[<- he]at hn ⊢;exact L_.last h hn.symm
     refine aR L (by first|omega|(dsimp only;omega)) (aT ?_);refine aK (λh=>aj λ_=>hq (by unfold ue;rw[aP h];rfl)) λ_=>?_
     exact aR L (by first|omega|(dsimp only;omega)) (aT (aj λh=>hq (by unfold ue;rw[h];simp)))
    .dsimp only;rw[Ak he,gw (by omega)];simp
   .rintro⟨p,q⟩ ⟨hp,hq⟩;refine aj ?_;dsimp only at hp hq ⊢;rw[gw (by omega),bO];exact⟨⟨by omega,by omega,hp,hq⟩,by omega⟩
  .refine ax (P:=λr=>match r with|.inl y=>y=((k+1:Nat):Int)/\∀j:Nat,j<k+1->L_ (l.take i.toNat) t (aJ (T:=.int .i64) s (j:Int))|.inr r=>r=J->∀y∈s,L_ (l.take i.toNat) t y) ?_ λr hr=>aj ?_
   .refine em (λ_=>aj λh=>(by cases h)) λh=>aj ⟨gw (by omega),λj hj=>?_⟩
    rcases ci j k with h1|h1
    .exact U j h1
    .have:=hb h;have hci:c=i.toNat:=by have z:i<=(c:Int):=z;omega
     rw[show j=k by omega,<-hci];exact this
   .cases r with
    |inl y=>exact hr
    |inr r=>exact hr
 .rintro x ⟨rfl,U⟩;refine bJ (λA=>(by dsimp only[ak]at A;omega)) λ_=>aj λ_=>iI (T:=.int .i64) U
def CN (l:Y ET) (c:η):Prop:=∀t:Int,0<=t->t<c.length->aJ (T:=.int .i64) c t=((fl l t).length:Int)
theorem sr {T:Ty} (xs:Y T.den) (j k:Int) (x:T.den) (hj:0<=j) (a:j<xs.length) (hk:0<=k):aJ (cL xs j x) k=if k=j then x else aJ xs k:=by
 unfold aJ cL;rw[av,av,kc];by_cases h:k=j
 .subst h;rw[aC rfl,aC rfl,aC (by omega)];rfl
 .rw[aw (by omega),aw h]
theorem CN.next {l:Y ET} {c:η} (h:CN l c) (e:ET) (h0:0<=e.1) (h1:e.1<c.length) (hl:l.length<1000000):CN (l++[e]) (cL c e.1 (bl .i64 (aJ (T:=.int .i64) c e.1+1))):=λt t0 t1=>by
 rw[bY]at t1;have:=YS l e.1;rw[sr (T:=.int .i64) _ _ _ _ h0 h1 t0,vk];split
 .rename_i h2;subst h2;rw[Ak rfl,h _ h0 h1,gw (by omega)];simp
 .rename_i h2;rw[xr λa=>h2 a.symm,h _ t0 t1];simp
structure EvF (w:WT) (e:ET):Prop where
 nm:NM w e.2.1 e.2.2.1
 t0:0<=e.1
 t1:e.1<w.2.2.2.2.1.length
 cd:∀c∈w.2.2.1,0<=c.2/\c.2<w.2.1.length
theorem agn (w:WT) (l:Y ET) (hd:∀e∈l,e.2.2.2.2.2.1.length<=1000000000/\e.2.2.2.2.2.2.length<=1000000000):Ok (uP (w,l)) λy=>y.2=0->(VL w/\SV0 w)/\(∀e∈l,EvF w e)/\∃sy ce fu,Acw w l sy ce fu:=by
 unfold uP cI bP fG bw bC aX cQ aD cJ;refine bJ (λ_=>aj λh=>(by cases h)) λhl=>?_
 dsimp only[ak]at hl;refine ax (Cb w) λb hb=>?_
 refine em (λ_=>aj λh=>(by cases h)) λh=>?_
 obtain⟨hv,hsv⟩:=hb h;refine aS (L1 w hv) ?_;have hs:NB 0 (Rk w,ce0 w,fu0 w,aA w.2.2.2.2.1.length 0):=⟨Vw hv,by have:=hv.c;simp[ce0];omega,by have:=hv.f;simp[fu0];omega,by have:=hv.t;simp;omega⟩
 have hw:w.2.2.1.length<=1000:=by have:=hv.d;omega
 refine bZ l.length (λi x=>x.1=(i:Int)/\x.2.1=(w,l)/\NB i x.2.2/\(∀k:Nat,k<i->EvF w (aJ (T:=tE) l (k:Int)))/\Acw w (l.take i) x.2.2.1 x.2.2.2.1 x.2.2.2.2.1/\CN (l.take i) x.2.2.2.2.2/\x.2.2.2.2.2.length=w.2.2.2.2.1.length) ?_ ?_ ⟨rfl,rfl,hs,λk hk=>(by omega),.nil,λt t0 t1=>?_,by simp⟩
 .rintro i ⟨a,b,s⟩ hi ⟨e1,e2,e3,e4,Z,e6,e7⟩;dsimp only at e1 e2 e3 e4 Z e6 e7;subst e1;subst e2;refine bJ (λA=>?_) λA=>(by dsimp only[ak]at A;omega)
  refine b7 (aT ?_);have hmem:=bN (T:=tE) (xs:=l) (j:=(i:Int)) (by omega) (by omega);obtain⟨d1,d2⟩:=hd _ hmem;refine ax (Gm w s e3 hw _ d1 d2) λy hy=>?_
  refine aV (λx=>x.2.1=(w,l)/\x.2.2.2=y.1/\(x.1=af->y.2=J/\(∀z∈(aJ (T:=tE) l (i:Int)).2.2.2.2.2.1,L_ (l.take i) (aJ (T:=tE) l (i:Int)).1 z)/\∀z∈(aJ (T:=tE) l (i:Int)).2.2.2.2.2.2,L_ (l.take i) (aJ (T:=tE) l (i:Int)).1 z)) ?_ ?_
  .refine em (λ_=>aj ⟨rfl,rfl,λh=>(by cases h)⟩) λh=>?_
   refine ax (RN l _ _ _ (by omega) ⟨by dsimp only;omega,by dsimp only;omega⟩ d1) λb1 hr1=>?_
   refine em (λ_=>aj ⟨rfl,rfl,λh=>(by cases h)⟩) λhb1=>?_
   refine ax (RN l _ _ _ (by omega) ⟨by dsimp only;omega,by dsimp only;omega⟩ d2) λb2 hr2=>aj ⟨rfl,rfl,λhb2=>⟨h,hr1 hb1,hr2 (by simpa using hb2)⟩⟩
  .rintro⟨c,p,q,r⟩ ⟨f1,f2,f3⟩;dsimp only at f1 f2 f3;subst f1;subst f2;refine aN (λ_=>aj λh=>(by cases h)) λh=>?_
   obtain⟨f4,r1,r2⟩:=f3 h;obtain⟨L,g2,U,A⟩:=hy.1 f4;refine aj ?_;dsimp only;have htk:l.take (i+1)=l.take i++[aJ (T:=tE) l (i:Int)]:=nu (T:=tE) hi;have hc:=e6 _ L.t0 (by rw[e7];exact L.t1);have hnx:=hP Prod.fst A;have hac:=Z.snoc (e:=aJ (T:=tE) l (i:Int)) ⟨L,U.rd,U.s1,U.s2,U.de,U.fr,by rw[<- hc];exact U.nd,by rw[<- hc];exact U.nf,r1,r2,U.va⟩;refine ⟨gw (by omega),rfl,g2.NB e3 (by omega),λk hk=>?_,by rw[htk,A];exact hac,by rw[htk,A];exact e6.next _ L.t0 (by rw[e7];exact L.t1) (by rw[bM];omega),by rw[A];unfold nxP;rw[bY];exact e7⟩;rcases ci k i with h1|h1
   .exact e4 k h1
   .rw[show k=i by omega];exact⟨L.nm,L.t0,L.t1,L.cd⟩
 .rintro⟨a,b,s⟩ ⟨e1,e2,e3,e4,Z,_⟩;dsimp only at e1 e2 e3 e4 Z;subst e1;subst e2;rw[cO]at Z;refine bJ (λA=>(by dsimp only[ak]at A;omega)) λ_=>aj λ_=>⟨⟨hv,hsv⟩,iI (T:=tE) e4,_,_,_,Z⟩
 .rw[bW]at t1;obtain⟨t,rfl⟩:∃n:Nat,t=(n:Int):=⟨t.toNat,by omega⟩
  rw[Qe,av,jD];split<;>simp[fl]
structure TP (t:η×Int):Prop where
 l0:t.1.length<=9223372036854775807
 by_:∀x∈t.1,0<=x/\x<=255
 a0:0<=t.2
 a1:t.2<=t.1.length
structure vH (t t':η×Int):Prop where
 e:t'.1=t.1
 m:t.2<=t'.2
 p:TP t'
theorem vH.refl {t:η×Int} (h:TP t):vH t t:=⟨rfl,dx _,h⟩
theorem vH.trans {a b c:η×Int} (h:vH a b) (g:vH b c):vH a c:=⟨g.e.trans h.e,Int.le_trans h.m g.m,g.p⟩
theorem gG (n:Int) (t:η×Int) (h:TP t):Ok (bA (n,t)) λy=>vH t y.2/\0<=y.1/\(1<=n->y.1<n)/\(t.2<t.1.length->1<=n->t.2<y.2.2):=by
 obtain⟨L,a⟩:=t;have Z:=h;obtain⟨l0,hb,a0,a1⟩:=h;dsimp only at l0 hb a0 a1;unfold bA iZ bB bC aX aD cJ;refine aV (λx=>x.2=(L,a)/\(x.1=J->a=L.length\/n<1)/\(x.1=af->a<L.length/\1<=n)) ?_ ?_
 .refine fc (λh=>aj ⟨rfl,λ_=>?_,λh=>(by cases h)⟩) λh=>aj ⟨rfl,λh2=>?_,λh2=>?_⟩
  .dsimp only[ak]at h;omega
  .rw[sO]at h2;exact .inr h2
  .rw[gB]at h2;dsimp only[ak]at h h2;omega
 rintro⟨b,x⟩ ⟨e,h1,h2⟩;dsimp only at e h1 h2;subst e;refine aN (λh=>aj ⟨vH.refl Z,dx _,λU=>(by dsimp only;omega),λU h4=>?_⟩) λh=>?_
 .have:=h1 h;dsimp only at U;omega
 obtain⟨A,q2⟩:=h2 h;refine aT ?_;have e1:bl .i64 (a+1)=a+1:=iw (by omega) (by omega);dsimp only;rw[e1,iw (n:=a+1-1) (by omega) (by omega),show a+1-1=a by omega];have s:=hb _ (bN (T:=.int .u8) (xs:=L) (j:=a) a0 A);refine aR a0 A (aT ?_);generalize (aJ _ a)=z at s;have s:0<=z/\z<=255:=s;rw[iw (n:=z) (by omega) (by omega)];refine zR (by omega) (aj ?_);dsimp only;refine ⟨⟨rfl,by dsimp only;omega,⟨l0,hb,by dsimp only;omega,by dsimp only;omega⟩⟩,Int.tmod_nonneg _ s.1,λ_=>?_,λ_ _=>by omega⟩;exact Int.tmod_lt_of_pos _ (by omega)
theorem Vj (s:SY) (hs:s.2.2.2.length<=1000) (y:η×η×η):Ok (lE (s,y)) λl=>l.length<=s.2.2.2.length:=by
 unfold lE bP bg bw bB bC aX cQ aD cJ;refine bZ s.2.2.2.length (λi x=>x.1=(i:Int)/\x.2.length<=i) ?_ ?_ ⟨rfl,by simp⟩
 .rintro i ⟨a,b⟩ hi ⟨e1,e2⟩;dsimp only at e1 e2;subst e1;with_reducible repeat' first|(refine OS.ok ?_;constructor)|refine IM.mk λ_=>?_
  all_goals try simp only[ak,rG] at*
  all_goals first|omega|(simp;omega)|skip
  .exact⟨gw (by omega),by simp;omega⟩
  .exact⟨gw (by omega),by omega⟩
 .rintro⟨a,b⟩ ⟨e1,e2⟩;dsimp only at e1 e2;subst e1;refine bJ (λz=>(by dsimp only[ak]at z;omega)) λ_=>aj e2
theorem ZI (k u:Int) (t:η×Int) (h:TP t):Ok (o9 ((k,u),t)) λy=>vH t y.2/\(k=3\/k=4->0<=y.1/\y.1<5):=by
 unfold o9 bg kZ aD cJ;rcases @JU k with rfl|rfl|rfl|rfl|rfl|rfl|rfl|rfl|rfl|rfl|rfl|rfl|rfl|rfl|rfl|rfl|rfl|rfl|rfl|rfl|rfl|rfl|rfl|⟨hk,s⟩
 case inr.inr.inr.inr.inr.inr.inr.inr.inr.inr.inr.inr.inr.inr.inr.inr.inr.inr.inr.inr.inr.inr.inr=>
  simp only[hk 1 (by decide) (by decide),hk 2 (by decide) (by decide),hk 3 (by decide) (by decide),hk 4 (by decide) (by decide),hk 5 (by decide) (by decide),hk 6 (by decide) (by decide),hk 7 (by decide) (by decide),hk 8 (by decide) (by decide),hk 9 (by decide) (by decide),hk 10 (by decide) (by decide),hk 11 (by decide) (by decide),hk 12 (by decide) (by decide),hk 13 (by decide) (by decide),hk 14 (by decide) (by decide),hk 15 (by decide) (by decide),hk 16 (by decide) (by decide),hk 17 (by decide) (by decide),hk 18 (by decide) (by decide),hk 19 (by decide) (by decide),hk 20 (by decide) (by decide),hk 21 (by decide) (by decide),hk 22 (by decide) (by decide),hk 23 (by decide) (by decide),aU,bp,tX];exact aj ⟨vH.refl h,λh=>(by first|omega|(simp at h;done)|(rcases h with h|h<;>cases h;done))⟩
 all_goals simp only[aU,bp,tX]
 all_goals first
  |exact aj ⟨vH.refl h,λh=>(by first|omega|(simp at h;done)|(rcases h with h|h<;>cases h;done))⟩
  |exact ax (gG 2 t h) λy a=>aj ⟨a.1,λh=>(by first|omega|(simp at h;done)|(rcases h with h|h<;>cases h;done))⟩
  |exact ax (gG 3 t h) λy a=>aj ⟨a.1,λh=>(by first|omega|(simp at h;done)|(rcases h with h|h<;>cases h;done))⟩
  |skip
 all_goals
  refine ax (gG 8 t h) λy a=>?_
  have h1:=a.2.1;have h2:=a.2.2.1 (by omega);refine aR h1 (by simp;omega) (aR h1 (by simp;omega) (aT (aj ⟨a.1,λ_=>?_⟩)));have:∀z:Int,z∈([0,0,0,1,1,2,3,4]:η)->0<=z/\z<5:=by decide
  exact this _ (bN (T:=.int .i64) h1 (by simp;omega))
structure SZ (n:Nat) (s:SN):Prop where
 nb:NB n s
 c:s.2.1.length=5
 f:s.2.2.1.length=1
 k:s.2.2.2.length=4
theorem SZ.step {n:Nat} {s y:SN} (h:SZ n s) (hp:SP n s y) (hn:n+1<=100000):SZ (n+1) y:=
 ⟨hp.NB h.nb hn,by rw[hp.c];exact h.c,by rw[hp.f];exact h.f,by rw[hp.k];exact h.k⟩
theorem Zv {n:Nat} (s:SN) (hs:SZ n s) (k o:Int) (A:k=3->0<=o/\o<5) (t:η×Int) (h:TP t):Ok (qO ((s,k,o),t)) λy=>vH t y.2:=by
 obtain⟨s1,s2,U,L⟩:=s;have hc:=hs.c;have hf:=hs.f;have hth:=hs.nb.sb.th;dsimp only at hc hf hth;have z:=Vj s1 hth (s2,U,L);unfold qO aY bg bw bC aX aD;rcases @JU k with rfl|rfl|rfl|rfl|rfl|rfl|rfl|rfl|rfl|rfl|rfl|rfl|rfl|rfl|rfl|rfl|rfl|rfl|rfl|rfl|rfl|rfl|rfl|⟨hk,Z⟩
 case inr.inr.inr.inr.inr.inr.inr.inr.inr.inr.inr.inr.inr.inr.inr.inr.inr.inr.inr.inr.inr.inr.inr=>
  simp only[hk 1 (by decide) (by decide),hk 2 (by decide) (by decide),hk 3 (by decide) (by decide),hk 4 (by decide) (by decide),hk 5 (by decide) (by decide),hk 6 (by decide) (by decide),hk 7 (by decide) (by decide),hk 8 (by decide) (by decide),hk 9 (by decide) (by decide),hk 10 (by decide) (by decide),hk 11 (by decide) (by decide),hk 12 (by decide) (by decide),hk 13 (by decide) (by decide),hk 14 (by decide) (by decide),hk 15 (by decide) (by decide),hk 16 (by decide) (by decide),hk 17 (by decide) (by decide),hk 18 (by decide) (by decide),hk 19 (by decide) (by decide),hk 20 (by decide) (by decide),hk 21 (by decide) (by decide),hk 22 (by decide) (by decide),hk 23 (by decide) (by decide),aU,bp,tX];exact aj (vH.refl h)
 all_goals simp only[aU,bp,tX]
 all_goals first
  |exact aj (vH.refl h)
  |exact ax (gG 2 t h) λy a=>aj a.1
  |exact ax (gG 3 t h) λy a=>aj a.1
  |exact ax z λy a=>aj (vH.refl h)
  |exact aR (by decide) (by omega) (aT (aj (vH.refl h)))
  |exact aR (A rfl).1 (by have:=(A rfl).2;omega) (aT (aj (vH.refl h)))
  |skip
 refine ax z λl hl=>?_
 refine bJ (λh1=>?_) λ_=>aj (vH.refl h)
 refine ax (gG _ t h) λy a=>?_
 dsimp only[ak]at h1;have h2:=a.2.2.1 (by dsimp only[ak];omega);exact aR a.2.1 h2 (aT (aj a.1))
theorem ahc (t:η×Int) (h:TP t) (r:η) (hr:r.length<=1000000):Ok (gO (t,r)) λy=>y.1.length<=r.length/\vH t y.2.1/\y.2.2=r:=by
 unfold gO aY bP bw iZ bB kZ aX cQ aD cJ;refine bZ r.length (λi x=>x.1=(i:Int)/\vH t x.2.1/\x.2.2.1=r/\x.2.2.2.length<=i) ?_ ?_ ⟨rfl,vH.refl h,rfl,by simp⟩
 .rintro i ⟨a,b,c,d⟩ hi ⟨e1,e2,e3,L⟩;dsimp only at e1 e2 e3 L;subst e1;subst e3;refine bJ (λA=>?_) λA=>(by dsimp only[ak]at A;omega)
  refine aV (λx=>vH t x.1/\x.2.1=c/\x.2.2.length<=i+1) ?_ ?_
  .refine b7 (b7 (aT ?_));refine aV (λx=>vH t x.2.1/\x.2.2=(c,d)) ?_ ?_
   .refine aN (λ_=>?_) λ_=>aj ⟨e2,rfl⟩
    exact ax (gG 2 b e2.p) λy U=>aj ⟨e2.trans U.1,rfl⟩
   .rintro⟨p,q,u⟩ ⟨s,z⟩;dsimp only at s z;subst z;refine aN (λ_=>?_) λ_=>aj ⟨s,rfl,by dsimp only;omega⟩
    exact be (by simp;omega) (by omega) (aj ⟨s,rfl,by simp;omega⟩)
  .rintro⟨p,q,u⟩ ⟨s,z,f3⟩;dsimp only at s z f3;subst z;refine aj ?_;dsimp only;exact⟨gw (by omega),s,rfl,f3⟩
 .rintro⟨a,b,c,d⟩ ⟨e1,e2,e3,L⟩;dsimp only at e1 e2 e3 L;subst e1;subst e3;refine bJ (λA=>(by dsimp only[ak]at A;omega)) λ_=>aj ⟨L,e2,rfl⟩
theorem ady:ug ()=M [3,3,3,3,3,4,4,4,4,4,5,5,5,6,6,6,7,7,7,8,9,10,11,12,13,14,14,15,16,16,17,17,18,18,19,20,1,1,2,21,22,23,23]:=rfl
abbrev RR:Type:=η×η×η×η
structure RB4 (m:Nat) (r:RR):Prop where
 r0:r.1.length<=m
 r1:r.2.1.length<=m
 r2:r.2.2.1.length<=m
 r3:r.2.2.2.length<=m
theorem aeu {n:Nat} (s:SN) (hs:SZ n s) (w:WT) (hw:w.1.length=5) (t:η×Int) (h:TP t) (r:RR) (hr:RB4 1000000 r):Ok (qP ((s,w),t,r)) λy=>vH t y.2.1/\y.2.2=r/\(t.2<t.1.length->t.2<y.2.1.2)/\y.1.2.2.2.2.2.1.length<=1000000/\y.1.2.2.2.2.2.2.length<=1000000:=by
 obtain⟨r0,r1,r2,r3⟩:=r;obtain⟨h0,h1,h2,h3⟩:=hr;dsimp only at h0 h1 h2 h3;unfold qP E6 Prod.p11 Prod.p12 aY bi bx cI dY lh AM Db Prod.q11 Prod.q12 cY fG bg bB bC aX aD;refine ax (gG 4 t h) λy hy=>?_
 refine aS ady ?_;refine ax (gG _ y.2 hy.1.p) λz hz=>?_
 obtain⟨y1,yt⟩:=y;obtain⟨z1,zt⟩:=z;obtain⟨ty,yy0,yy1,yy2⟩:=hy;obtain⟨tz,zz0,zz1,_⟩:=hz;dsimp only at ty yy0 yy1 yy2 tz zz0 zz1;have yy1:=yy1 (by decide);have hzl:=zz1 (by decide);refine aR zz0 hzl (aT ?_);generalize (aJ _ z1)=k;refine ax (gG 6 zt tz.p) λv hv=>?_
 obtain⟨v1,vt⟩:=v;have tv:=hv.1;dsimp only at tv;have tt:=(ty.trans tz).trans tv;have hadv:t.2<t.1.length->t.2<vt.2:=λh=>by
  have:=yy2 h (by decide);have:=tz.m;have:=tv.m;omega
 refine aV (λx=>x.1=vt/\x.2.1=r0/\x.2.2.1=r1/\x.2.2.2.1=r2/\x.2.2.2.2.1=r3/\x.2.2.2.2.2.1=s/\x.2.2.2.2.2.2.1=w) ?_ ?_
 .refine aV (λx=>x.2.1=vt/\x.2.2.1=r0/\x.2.2.2.1=r1/\x.2.2.2.2.1=r2/\x.2.2.2.2.2.1=r3/\x.2.2.2.2.2.2.1=s/\x.2.2.2.2.2.2.2.1=w) ?_ ?_
  .with_reducible repeat' first|(refine OS.ok ?_;constructor)|refine IM.mk λ_=>?_
   all_goals exact⟨rfl,rfl,rfl,rfl,rfl,rfl,rfl⟩
  .rintro⟨p,q⟩ hq;dsimp only at hq;with_reducible repeat' first|(refine OS.ok ?_;constructor)|refine IM.mk λ_=>?_
   all_goals exact hq
 rintro⟨x1,x2,x3,x4,x5,x6,x7,x8,x9,x10⟩ ⟨L,f2,f3,f4,f5,f6,Z⟩;dsimp only at L f2 f3 f4 f5 f6 Z;subst L;subst f2;subst f3;subst f4;subst f5;subst f6;subst Z;refine ax (ZI _ _ _ tv.p) λo ho=>?_
 obtain⟨o1,ot⟩:=o;obtain⟨to,ho⟩:=ho;dsimp only at to ho;refine ax (Zv _ hs _ _ (λhk=>ho (.inl hk)) _ to.p) λq hq=>?_
 obtain⟨q1,qt⟩:=q;dsimp only at hq;have U:=(tt.trans to).trans hq;have hadv2:t.2<t.1.length->t.2<qt.2:=λh=>by have:=hadv h;have:=to.m;have:=hq.m;omega
 have row:∀(T:η×Int) (c:η) {R:Type} (k:η×((η×Int)×η)->I R) (Q:R->Prop),vH t T->c.length<=1000000->(∀v T',vH T T'->v.length<=1000000->Ok (k (v,T',c)) Q)->Ok (au (gO (T,c)) k) Q:=λT c R k Q A hc hk=>by
  refine ax (ahc T A.p c hc) λy hy=>?_
  obtain⟨a,b,d⟩:=y;obtain⟨g1,g2,g3⟩:=hy;dsimp only at g1 g2 g3;subst g3;exact hk a b g2 (by omega)
 refine aV (λx=>vH t x.1/\(t.2<t.1.length->t.2<x.1.2)/\x.2.1=x2/\x.2.2.1=x3/\x.2.2.2.1=x4/\x.2.2.2.2.1=x5/\x.2.2.2.2.2.2.2.2.2.2.2.length<=1000000) ?_ ?_
 .refine aV (λx=>x.2.1=qt/\x.2.2.1=x2/\x.2.2.2.1=x3/\x.2.2.2.2.1=x4/\x.2.2.2.2.2.1=x5) ?_ ?_
  .refine aK (λ_=>aj ⟨rfl,rfl,rfl,rfl,rfl⟩) λ_=>?_
   refine aK (λhk=>?_) λ_=>aK (λhk=>?_) λ_=>aj ⟨rfl,rfl,rfl,rfl,rfl⟩
   .exact aR (ho (.inl hk)).1 (by dsimp only;rw[hw];exact (ho (.inl hk)).2) (aT (aj ⟨rfl,rfl,rfl,rfl,rfl⟩))
   .exact aR (ho (.inr hk)).1 (by dsimp only;rw[hw];exact (ho (.inr hk)).2) (aT (aj ⟨rfl,rfl,rfl,rfl,rfl⟩))
  .rintro⟨b,p1,p2,p3,p4,p5,p6⟩ ⟨L,f2,f3,f4,f5⟩;dsimp only at L f2 f3 f4 f5;subst L;subst f2;subst f3;subst f4;subst f5;refine aN (λ_=>?_) λ_=>aj ⟨U,hadv2,rfl,rfl,rfl,rfl,by simp⟩
   have adv3:∀T',vH p1 T'->t.2<t.1.length->t.2<T'.2:=λT' A h=>by have:=hadv2 h;have:=A.m;omega
   refine aK (λ_=>?_) λ_=>aK (λ_=>?_) λ_=>aK (λ_=>?_) λ_=>aK (λ_=>?_) λ_=>?_
   .refine row p1 p2 _ _ U h0 λv T' A hv=>?_
    refine dc (mg rfl (BE ?_));exact aj ⟨U.trans A,adv3 T' A,rfl,rfl,rfl,rfl,hv⟩
   .refine row p1 p3 _ _ U h1 λv T' A hv=>?_
    refine dc (mg rfl (BE ?_));exact aj ⟨U.trans A,adv3 T' A,rfl,rfl,rfl,rfl,hv⟩
   .refine row p1 p4 _ _ U h2 λv T' A hv=>?_
    refine dc (mg rfl (BE ?_));exact aj ⟨U.trans A,adv3 T' A,rfl,rfl,rfl,rfl,hv⟩
   .refine row p1 p5 _ _ U h3 λv T' A hv=>?_
    refine dc (mg rfl (BE ?_));exact aj ⟨U.trans A,adv3 T' A,rfl,rfl,rfl,rfl,hv⟩
   .omega
 rintro⟨u1,u2,u3,u4,u5,u6,u7,u8,u9,u10,u11,u12⟩ ⟨L,f2,f3,f4,f5,f6,Z⟩;dsimp only at L f2 f3 f4 f5 f6 Z;subst f3;subst f4;subst f5;subst f6;refine aV (λx=>vH t x.1/\(t.2<t.1.length->t.2<x.1.2)/\x.2.1=u2/\x.2.2.1=u3/\x.2.2.2.1=u4/\x.2.2.2.2.1=u5/\x.2.2.2.2.2.2.2.2.2.2.2.1.length<=1000000/\x.2.2.2.2.2.2.2.2.2.2.2.2.length<=1000000) ?_ ?_
 .refine aV (λx=>x.2=(u1,u2,u3,u4,u5,u6,u7,u8,u9,u10,u11,u12)) ?_ ?_
  .with_reducible repeat' first|(refine OS.ok ?_;constructor)|refine IM.mk λ_=>?_
   all_goals rfl
  .rintro⟨b,x⟩ e;dsimp only at e;subst e;refine aN (λ_=>?_) λ_=>aj ⟨L,f2,rfl,rfl,rfl,rfl,Z,by simp⟩
   have adv3:∀T',vH u1 T'->t.2<t.1.length->t.2<T'.2:=λT' A h=>by have:=f2 h;have:=A.m;omega
   refine aK (λ_=>?_) λ_=>aK (λ_=>?_) λ_=>aK (λ_=>?_) λ_=>aK (λ_=>?_) λ_=>?_
   .refine row u1 u2 _ _ L h0 λv T' A hv=>?_
    refine dc (mg rfl (BE ?_));exact aj ⟨L.trans A,adv3 T' A,rfl,rfl,rfl,rfl,Z,hv⟩
   .refine row u1 u3 _ _ L h1 λv T' A hv=>?_
    refine dc (mg rfl (BE ?_));exact aj ⟨L.trans A,adv3 T' A,rfl,rfl,rfl,rfl,Z,hv⟩
   .refine row u1 u4 _ _ L h2 λv T' A hv=>?_
    refine dc (mg rfl (BE ?_));exact aj ⟨L.trans A,adv3 T' A,rfl,rfl,rfl,rfl,Z,hv⟩
   .refine row u1 u5 _ _ L h3 λv T' A hv=>?_
    refine dc (mg rfl (BE ?_));exact aj ⟨L.trans A,adv3 T' A,rfl,rfl,rfl,rfl,Z,hv⟩
   .omega
 rintro⟨a1,a2,a3,a4,a5,a6,a7⟩ ⟨g1,g2,g3,g4,g5,g6,g7,g8⟩;dsimp only at g1 g2 g3 g4 g5 g6 g7 g8;subst g3;subst g4;subst g5;subst g6;exact aj ⟨g1,rfl,g2,g7,g8⟩
def EvS (e:ET):Prop:=e.2.2.2.2.2.1.length<=1000000/\e.2.2.2.2.2.2.length<=1000000
theorem ahm {m:Nat} (hm:m<=1000) (s:SN) (hs:SZ m s) (w:WT) (hw:w.1.length=5) (hwt:w.2.2.2.2.1.length=4) (hwc:w.2.2.1.length<=1000) (n:Int) (hn:n<=60) (t:η×Int) (h:TP t):Ok (sX ((s,w,n,af),t)) λy=>(∀e∈y.1,EvS e)/\y.1.length<=60:=by
 unfold sX aY bi bx cI dY lh AM Db Prod.q10 bP cY fG kA qH Prod.q9 bg bw bB bC aX cQ aD;refine dc (dc (dc (dI (by dsimp only[ak];omega) (dI (dx _) (be (by dsimp only[ak];omega) (by omega) (YC (by dsimp only[ak];omega) ?_))))));refine aV (λx=>x=(t,s,w,[],[],[],[])) ⟨_,rfl,rfl⟩ ?_;rintro x rfl;refine qK (λx=>((t.1.length:Int)-x.1.2).toNat) (λx=>vH t x.1/\x.2.2.1=w/\SZ (m+x.2.2.2.1.length) x.2.1/\x.2.2.2.1.length<=60/\(∀e∈x.2.2.2.1,EvS e)/\RB4 x.2.2.2.1.length x.2.2.2.2) ?_ ⟨vH.refl h,rfl,(by simpa using hs),by simp,λe he=>(by cases he),⟨by simp,by simp,by simp,by simp⟩⟩;rintro⟨a,s,w',out,r⟩ ⟨i1,i2,U,i4,i5,i6⟩;dsimp only at i1 i2 U i4 i5 i6;subst i2;refine aV (λx=>x.2=(a,s,w',out,r)/\(x.1=J->out.length<60/\a.2<a.1.length)) ?_ ?_
 .refine bJ (λh1=>aj ⟨rfl,λh2=>?_⟩) λ_=>aj ⟨rfl,λh=>(by cases h)⟩
  rw[sO]at h2;dsimp only[ak]at h1 h2;exact⟨by omega,h2⟩
 rintro⟨b,x⟩ ⟨e,hb⟩;dsimp only at e hb;subst e;refine aN (λh1=>?_) λ_=>aj ⟨i5,i4⟩
 obtain⟨ho,ht⟩:=hb h1;obtain⟨q0,q1,q2,q3⟩:=id i6;refine aV (λx=>vH a x.1/\a.2<x.1.2/\x.2.2.1=w'/\SZ (m+x.2.2.2.1.length) x.2.1/\x.2.2.2.1.length<=60/\(∀e∈x.2.2.2.1,EvS e)/\RB4 x.2.2.2.1.length x.2.2.2.2) ?_ ?_
 .refine ax (aeu s U w' hw a i1.p r ⟨by omega,by omega,by omega,by omega⟩) λy hy=>?_
  obtain⟨ev,tp',r'⟩:=y;obtain⟨j1,j2,j3,L,A⟩:=hy;dsimp only at j1 j2 j3 L A;subst j2;have j3:=j3 ht;refine dc (mg rfl (dc (mg rfl (dc (mg rfl (dc (mg rfl (BE ?_))))))));refine ax (Gm w' s U.nb hwc ev (by omega) (by omega)) λz hz=>?_
  refine em (λ_=>aj ⟨j1,j3,rfl,U,i4,i5,i6⟩) λh2=>?_
  obtain⟨z1,z2⟩:=z;obtain⟨hE,hS,_⟩:=hz.1 h2;have hS2:=U.step hS (by omega);refine aV (λx=>x.1=tp'/\x.2.2.1=w'/\x.2.2.2.1=out/\EvS x.2.2.2.2.1/\x.2.2.2.2.2.1=z1/\RB4 (out.length+1) x.2.2.2.2.2.2) ?_ ?_
  .refine aV (λx=>x.2=(tp',s,w',out,ev,z1,r')) ?_ ?_
   .refine aK (λ_=>aj rfl) λ_=>aj rfl
   .rintro⟨b,x⟩ e;dsimp only at e;subst e;have hk:=U.k;obtain⟨ev1,ev2⟩:=ev;have t0:=hE.t0;have t1:=hE.t1;rw[hwt]at t1;dsimp only at t0 t1;refine aN (λ_=>?_) λ_=>aj ⟨rfl,rfl,rfl,⟨L,A⟩,rfl,⟨by dsimp only;omega,by dsimp only;omega,by dsimp only;omega,by dsimp only;omega⟩⟩
    refine aK (λ_=>?_) λ_=>aK (λ_=>?_) λ_=>aK (λ_=>?_) λ_=>aK (λ_=>?_) λ_=>?_
    .exact aR (by decide) (by dsimp only;omega) (aT (be (by simp;omega) (by omega) (aj ⟨rfl,rfl,rfl,⟨L,A⟩,rfl,⟨by simp;omega,by dsimp only;omega,by dsimp only;omega,by dsimp only;omega⟩⟩)))
    .exact aR (by decide) (by dsimp only;omega) (aT (be (by simp;omega) (by omega) (aj ⟨rfl,rfl,rfl,⟨L,A⟩,rfl,⟨by dsimp only;omega,by simp;omega,by dsimp only;omega,by dsimp only;omega⟩⟩)))
    .exact aR (by decide) (by dsimp only;omega) (aT (be (by simp;omega) (by omega) (aj ⟨rfl,rfl,rfl,⟨L,A⟩,rfl,⟨by dsimp only;omega,by dsimp only;omega,by simp;omega,by dsimp only;omega⟩⟩)))
    .exact aR (by decide) (by dsimp only;omega) (aT (be (by simp;omega) (by omega) (aj ⟨rfl,rfl,rfl,⟨L,A⟩,rfl,⟨by dsimp only;omega,by dsimp only;omega,by dsimp only;omega,by simp;omega⟩⟩)))
    .dsimp only at *;omega
  .rintro⟨x1,x2,x3,x4,x5,x6,x7⟩ ⟨k1,k2,k3,k4,k5,Z⟩;dsimp only at k1 k2 k3 k4 k5 Z;subst k1;subst k2;subst k3;subst k5;refine be (by simp;omega) (by omega) (aj ⟨j1,j3,rfl,?_,by simp;omega,λe he=>?_,?_⟩)
   .dsimp only;rw[bf,cX,<-qf];exact hS2
   .rcases bG.1 he with he|he
    .exact i5 e he
    .rw[aI]at he;subst he;exact k4
   .dsimp only;rw[bf,cX];exact Z
 rintro⟨tp',s',w'',out',r'⟩ ⟨k1,k2,k3,k4,k5,Z,k7⟩;dsimp only at k1 k2 k3 k4 k5 Z k7;have e1:=i1.e;have a1:=k1.p.a1;have e2:=k1.e;refine aj ⟨⟨i1.trans k1,k3,k4,k5,Z,k7⟩,?_⟩;dsimp only;rw[e2,e1]at a1;omega
def C0:Y (ζ×Int×Int×Bool×Int):=[([120],0,0,af,0),([121],0,0,af,1),([118],0,0,J,0),([113],0,2,af,0),([113],1,2,af,0)]
def HV:Y (ζ×Bool):=[([109],af),([110],af),([114],J)]
def NC:Y (ζ×Int):=[([99],0)]
def UX:Y ζ:=[[102]]
def wS:Y ζ:=[[109,97,105,110],[116,49],[116,50],[116,51]]
structure WX (w:WT):Prop where
 c:w.1=C0
 l:w.2.1=HV
 d:w.2.2.1=NC
 f:w.2.2.2.1=UX
 t:∃n,1<=n/\n<=4/\w.2.2.2.2.1=wS.take n
 s:w.2.2.2.2.2.length<=60
 v:SV0 w
structure W0 (w:WT):Prop where
 c:w.1.length=5
 l:w.2.1.length=3
 d:w.2.2.1.length=1
 f:w.2.2.2.1.length=1
 t:w.2.2.2.2.1.length=4
 s:w.2.2.2.2.2.length<=24
 x:WX w
theorem W0.vl {w:WT} (h:W0 w):VL w:=⟨by rw[h.c];decide,by rw[h.l];decide,by rw[h.d];decide,by rw[h.f];decide,by rw[h.t];decide,by rw[h.t];decide,by have:=h.s;omega⟩
def nxS (i j:Nat):ν:=if j=0 then (if i=0 then (0,0) else ((i:Int)-1,6)) else (i,j)
theorem Yk {T:Int} {l:Y π} {s:π}:Ml T (l++[s])=Ve T (Ml T l) s:=by unfold Ml;rw[dz];rfl
theorem UJ:Ok (om ()) W0:=by
 unfold om aY bi bx cI fG bw bB cQ aD cJ;refine bZ 4 (λi x=>x.1=(i:Int)/\x.2.1=C0/\x.2.2.1=HV/\x.2.2.2.1=NC/\x.2.2.2.2.1=UX/\x.2.2.2.2.2.1=wS/\x.2.2.2.2.2.2.length<=6*i/\Ml 4 x.2.2.2.2.2.2=M (nxS i 0)) ?_ ?_ ⟨rfl,rfl,rfl,rfl,rfl,rfl,by simp,rfl⟩
 .rintro i ⟨a,w1,w2,w3,w4,w5,w6⟩ hi ⟨e1,e2,e3,Z,U,s,e7,L⟩;dsimp only at e1 e2 e3 Z U s e7 L;subst e1;have hl5:w5.length=4:=by rw[s];rfl
  refine bJ (λ_=>?_) λg=>(by dsimp only[ak]at g;simp at g;omega)
  refine bZ 6 (λj x=>x.1=(j:Int)/\x.2.1=w1/\x.2.2.1=w2/\x.2.2.2.1=w3/\x.2.2.2.2.1=w4/\x.2.2.2.2.2.1=w5/\x.2.2.2.2.2.2.length<=6*i+j/\Ml 4 x.2.2.2.2.2.2=M (nxS i j)) ?_ ?_ ⟨rfl,rfl,rfl,rfl,rfl,rfl,by dsimp only;omega,L⟩
  .rintro j ⟨b,v1,v2,v3,v4,v5,v6⟩ hj ⟨d1,d2,d3,d4,d5,d6,d7,d8⟩;dsimp only at d1 d2 d3 d4 d5 d6 d7 d8;subst d1;refine dh ?_;refine be (by simp;omega) (by omega) (aj ?_);dsimp only;refine ⟨gw (by omega),d2,d3,d4,d5,d6,by simp;omega,?_⟩;rw[Yk,d8];by_cases z:j=0
   .subst z;by_cases A:i=0
    .subst A;rfl
    .rw[show nxS i 0=((i:Int)-1,6) by unfold nxS;simp[A],show nxS i (0+1)=((i:Int),1) by unfold nxS;simp];unfold Ve;dsimp only;rw[aw (λh=>by have:=h.1;omega),aC ⟨by omega,by omega,rfl⟩]
   .rw[show nxS i j=((i:Int),(j:Int)) by unfold nxS;simp[z],show nxS i (j+1)=((i:Int),(j:Int)+1) by unfold nxS;simp];unfold Ve;dsimp only;rw[aC ⟨rfl,rfl⟩]
  .rintro⟨b,v1,v2,v3,v4,v5,v6⟩ ⟨d1,d2,d3,d4,d5,d6,d7,d8⟩;dsimp only at d1 d2 d3 d4 d5 d6 d7 d8;subst d1;subst d2;subst d3;subst d4;subst d5;subst d6;refine di (aj ?_);dsimp only;refine ⟨gw (by omega),e2,e3,Z,U,s,by omega,?_⟩;rw[d8];unfold nxS;simp
 .rintro⟨a,w1,w2,w3,w4,w5,w6⟩ ⟨e1,e2,e3,Z,U,s,e7,L⟩;dsimp only at e1 e2 e3 Z U s e7 L;subst e1;subst e2;subst e3;subst Z;subst U;subst s;refine bJ (λg=>(by dsimp only[ak]at g;simp[wS]at g)) λ_=>aj ?_
  refine ⟨rfl,rfl,rfl,rfl,rfl,by dsimp only;omega,rfl,rfl,rfl,rfl,⟨4,by decide,by decide,rfl⟩,by dsimp only;omega,?_⟩;unfold SV0;show Ml 4 w6≠D;rw[L];simp
theorem SZ.mono {n m:Nat} {s:SN} (h:SZ n s) (hnm:n<=m) (hm:m<=100000):SZ m s:=
 ⟨⟨⟨hm,h.nb.sb.lk,λl hl=>dy (h.nb.sb.rd l hl) hnm,h.nb.sb.dn,h.nb.sb.th⟩,h.nb.c,h.nb.f,h.nb.k⟩,h.c,h.f,h.k⟩
theorem XR (w:WT) (a:W0 w):Ok (nF w) λs=>SZ 0 s:=by
 refine (XS w a.vl).mono λs hs=>⟨hs.1,?_,?_,?_⟩
 .rw[hs.2.1,a.c]
 .rw[hs.2.2.1,a.f]
 .rw[hs.2.2.2,a.t]
structure WB (w:WT):Prop where
 c:w.1.length<=12
 l:w.2.1.length<=4
 d:w.2.2.1.length<=2
 f:w.2.2.2.1.length<=2
 t:w.2.2.2.2.1.length<=4
 s:w.2.2.2.2.2.length<=60
theorem VL.wb {w:WT} (h:VL w):WB w:=⟨h.c,h.l,h.d,h.f,h.t,h.s⟩
structure TR (y:WT×List ET):Prop where
 wb:WB y.1
 vl:VL y.1
 ev:∀e∈y.2,EvF y.1 e
 len:y.2.length<=400
 ls:∀e∈y.2,EvS e
 wx:WX y.1
 ac:∃sy ce fu,Acw y.1 y.2 sy ce fu
theorem Jn (L:η) (n:Int) (hl:L.length<=9223372036854775807) (hb:∀x∈L,0<=x/\x<=255):Ok (qQ (L,n)) TR:=by
 unfold qQ aY bi bx dG cY bw iZ jk bB kZ aX cQ aD cJ;refine aV (λx=>x.length<=600/\∀z∈x,0<=z/\z<=255) ?_ ?_
 .refine bJ (λg=>?_) λg=>?_
  .dsimp only[ak]at g;refine dc (dI (by omega) (dI (by dsimp only;omega) (aj ⟨by dsimp only;rw[bM];simp;omega,λz A=>hb z (gh A)⟩)))
  .dsimp only[ak]at g;exact aj ⟨by dsimp only;omega,hb⟩
 rintro L' ⟨hL,hB⟩;refine ax UJ λw U=>?_
 have hvl:=U.vl;refine ax (XR w U) λs hs=>?_
 refine ax (gG 3 (L',0) ⟨by dsimp only;omega,hB,by dsimp only;omega,by dsimp only;omega⟩) λy hy=>?_
 obtain⟨y1,yt⟩:=y;obtain⟨ty,yy0,yy1,_⟩:=hy;have yy1:=yy1 (by decide);dsimp only at ty yy0 yy1;have ew:bl .i64 (1+y1)=1+y1:=iw (by omega) (by omega);refine qK (λx=>(1+y1+1-x.1).toNat) (λx=>1<=x.1/\x.1<=2+y1/\x.2.1=yt/\x.2.2.1=w/\x.2.2.2.1=s/\((x.2.2.2.2.length:Nat):Int)<=2*x.1/\∀e∈x.2.2.2.2,EvS e) ?_ ⟨by dsimp only;omega,by dsimp only;omega,rfl,rfl,rfl,by simp,λe he=>?_⟩
 .rintro⟨a,t,w',s',es⟩ ⟨e1,e2,e3,e4,e5,e6,e7⟩;dsimp only at e1 e2 e3 e4 e5 e6 e7;subst e3;subst e4;subst e5;refine fc (λg=>?_) λg=>?_
  .dsimp only at g;rw[ew]at g;refine be (by simp;omega) (by omega) (aj ?_);dsimp only;rw[iw (n:=a+1) (by omega) (by omega)];refine ⟨⟨by omega,by omega,rfl,rfl,rfl,by simp;omega,λe he=>?_⟩,by omega⟩;rcases bG.1 he with he|he
   .exact e7 e he
   .simp only[bm,cF,gu]at he;rcases he with he|he<;>subst he<;>exact⟨by simp,by simp⟩
  .refine ax (P:=TR) ?_ λr hr=>aj hr
   refine bZ es.length (λi x=>x.1=(i:Int)/\TP x.2.1/\x.2.2.1=w'/\SZ i x.2.2.2.1/\x.2.2.2.2.1=es/\x.2.2.2.2.2.length<=i/\∀e∈x.2.2.2.2.2,EvS e) ?_ ?_ ⟨rfl,ty.p,rfl,hs,rfl,by simp,λe he=>(by cases he)⟩
   .rintro i ⟨b,t,w',s',es',out⟩ hi ⟨d1,d2,d3,Z,d5,d6,d7⟩;dsimp only at d1 d2 d3 Z d5 d6 d7;subst d1;subst d3;subst d5;refine dh ?_;refine aV (λx=>TP x.1/\x.2.1=w'/\SZ (i+1) x.2.2.1/\x.2.2.2.1=es'/\x.2.2.2.2.length<=i+1/\∀e∈x.2.2.2.2,EvS e) ?_ ?_
    .refine b7 (b7 (aT ?_));have A:=e7 _ (bN (T:=.st (.pr (.int .i64) (.pr (.int .i64) (.pr (.int .i64) (.pr (.int .i64) (.pr (.int .i64) (.pr (.sl (.int .i64)) (.sl (.int .i64))))))))) (xs:=es') (j:=(i:Int)) (by omega) (by omega));revert A;generalize (aJ _ _)=z;intro A;refine ax (Gm w' s' Z.nb (by rw[U.d];decide) z (by have:=A.1;omega) (by have:=A.2;omega)) λv hv=>?_
     refine aN (λh=>?_) λh=>aj ⟨d2,rfl,Z.mono (by omega) (by omega),rfl,by dsimp only;omega,d7⟩
     refine be (by simp;omega) (by omega) (aj ⟨d2,rfl,Z.step (hv.1 h).2.1 (by omega),rfl,by simp;omega,λe he=>?_⟩);rcases bG.1 he with he|he
     .exact d7 e he
     .rw[aI]at he;subst he;exact A
    .rintro⟨t,w'',s'',es'',out'⟩ ⟨f1,f2,f3,f4,f5,f6⟩;dsimp only at f1 f2 f3 f4 f5 f6;refine aj ?_;dsimp only;exact⟨gw (by omega),f1,f2,f3,f4,f5,f6⟩
   .rintro⟨b,t,w',s',es',out⟩ ⟨d1,d2,d3,Z,d5,d6,d7⟩;dsimp only at d1 d2 d3 Z d5 d6 d7;subst d1;subst d3;subst d5;refine di ?_;refine ax (P:=TR) ?_ λr hr=>aj hr
    have hmin:H7 (fJ n 0) 60<=60:=by
     unfold H7;split
     .omega
     .rename_i h;simp[fP]at h;exact h
    refine ax (ahm (by omega) s' Z w' U.c U.t (by rw[U.d];decide) _ hmin t d2) λv hv=>?_
    refine be (by have:=hv.2;dsimp only;omega) (by omega) ?_;have hall:∀e∈out++v.1,EvS e:=λe he=>by
     rcases bG.1 he with he|he
     .exact d7 e he
     .exact hv.1 e he
    refine ax (agn w' (out++v.1) λe he=>by have:=hall e he;exact⟨by have:=this.1;omega,by have:=this.2;omega⟩) λc hc=>?_
    refine ca (λ_=>?_) λh=>?_
    .exact ax UJ λu hu=>aj ⟨hu.vl.wb,hu.vl,λe he=>(by cases he),by simp,λe he=>(by cases he),hu.x,_,_,_,.nil⟩
    .exact aj ⟨(hc h).1.1.wb,(hc h).1.1,(hc h).2.1,by have:=hv.2;simp;omega,hall,U.x,(hc h).2.2⟩
 .rw[aI]at he;subst he;exact⟨by simp,by simp⟩
abbrev IT:Type:=ω
abbrev CT:Type:=WT×Y (Int×Y IT)
theorem sM (a b:Int):jF (a,b)=M (decide (0<=a/\a<b)):=by
 refine cf ?_;unfold jF iZ aD;with_reducible repeat' first|(refine OS.ok ?_;constructor)|refine IM.mk λ_=>?_
 .by_cases h:a<b<;>simp[*,fP]
 .simp;omega
theorem Gn (k:Int):qn k=M (decide (1<=k/\k<=5)):=by
 refine cf ?_;unfold qn iZ aD;with_reducible repeat' first|(refine OS.ok ?_;constructor)|refine IM.mk λ_=>?_
 .by_cases h:k<=5<;>simp[*,c_]
 .simp;omega
def i_ (i:IT):η:=
 if i.1=1\/i.1=6\/i.1=10\/i.1=27 then [i.2.1]
 else if i.1=2\/i.1=3 then [i.2.1,i.2.2.1]
 else if i.1=4 then [i.2.1,i.2.2.1,i.2.2.2.1]
 else if i.1=7 then [i.2.1,i.2.2.2.1]
 else if i.1=8\/i.1=26 then [i.2.2.1]
 else if i.1=9 then [i.2.2.1,i.2.2.2.1]
 else []
theorem ur (i:IT):jT i=M (i_ i):=by
 obtain⟨a,i2⟩:=i;unfold jT i_ aY bi bx bg aD;by_cases h1:a=1
 .subst h1;rfl
 by_cases h2:a=6
 .subst h2;rfl
 by_cases h3:a=10
 .subst h3;rfl
 by_cases h4:a=27
 .subst h4;rfl
 by_cases h5:a=2
 .subst h5;rfl
 by_cases Z:a=3
 .subst Z;rfl
 by_cases U:a=4
 .subst U;rfl
 by_cases L:a=7
 .subst L;rfl
 by_cases A:a=8
 .subst A;rfl
 by_cases z:a=26
 .subst z;rfl
 by_cases s:a=9
 .subst s;rfl
 simp only[h1,h2,h3,h4,h5,Z,U,L,A,z,s,cK,bcF,jnr,gu,ec]
theorem Ds (z:IT):(i_ z).length<=3:=by
 unfold i_
 (repeat' split)<;>simp
theorem adx (l:Y IT) (a:Int) (hl:l.length<=1000000):Ok (pU (l,a)) λ_=>True:=by
 unfold pU bg bw iZ bC aX cQ aD cJ;refine qK (λx=>((l.length:Int)+1-x.2).toNat) (λx=>0<=x.2/\x.2<=(l.length:Int)+1) ?_ ⟨by dsimp only;omega,by dsimp only;omega⟩;rintro⟨(a:Int),(n:Int)⟩ ⟨h0,h1⟩;dsimp only at h0 h1;refine fc (λg=>?_) λ_=>aj trivial
 dsimp only[ak]at g;refine aV (λ_=>True) ?_ λb _=>aj ?_
 .refine aV (λb=>b=af->0<=a/\a<(l.length:Int)) ?_ ?_
  .refine bJ (λ_=>aj λh=>(by cases h)) λs=>aj λh=>?_
   rw[mE]at h;dsimp only[ak]at h s;exact⟨s,h⟩
  .intro b hb;refine aN (λ_=>aj trivial) λh=>?_
   obtain⟨q0,z⟩:=hb h;refine aR q0 (by dsimp only;omega) (aT ?_);refine aS (Gn _) ?_;refine em (λ_=>aj trivial) λ_=>?_
   refine aR q0 (by dsimp only;omega) (aT ?_);refine aK (λ_=>?_) λ_=>aj trivial
   exact aR q0 (by dsimp only;omega) (aT (aj trivial))
 .dsimp only;rw[iw (by omega) (by omega)];exact⟨⟨by omega,by omega⟩,by omega⟩
structure AR (w:WT) (b n:Int):Prop where
 b0:0<=b
 b1:b<w.1.length
 ix:(aJ (T:=Pd) w.1 b).2.1=0
 sz:¬(aJ (T:=Pd) w.1 b).2.2.1=0
 sn:(aJ (T:=Pd) w.1 b).2.2.1=n
theorem UA (w:WT) (b n:Int):Ok (nV (w,b,n)) λr=>r=J->AR w b n:=by
 unfold nV bg jk bC aX aD;refine gJ ?_;refine aS (sM _ _) ?_;refine aK (λh=>?_) λ_=>aj (aj λh=>(by cases h))
 refine aR h.1 h.2 (aT (aK (λh1=>?_) λ_=>aj (aj λh=>(by cases h))));refine aR h.1 h.2 (aT (ca (λh2=>?_) λ_=>aj (aj λh=>(by cases h))));exact aR h.1 h.2 (aT (aj (aj λa=>⟨h.1,h.2,h1,h2,ba a⟩)))
theorem VR (w:WT) (i:IT):Ok (mj (w,i)) λb=>b=J->(i.1=7->AR w i.2.2.1 i.2.2.2.2.1)/\(i.1=9->AR w i.2.1 i.2.2.2.2.1):=by
 have a:∀{b:Bool},¬i.1=7->¬i.1=9->b=J->(i.1=7->AR w i.2.2.1 i.2.2.2.2.1)/\(i.1=9->AR w i.2.1 i.2.2.2.2.1):=λh1 h2 _=>⟨λh=>(h1 h).elim,λh=>(h2 h).elim⟩
 unfold mj aY bi bx cI dY bg iZ bC aX aD;simp only[sM,YD];refine aK (λA=>?_) λ_=>?_
 .refine aV (λ_=>True) ?_ λ_ _=>aj (a (by have A:i.1=6:=A;omega) (by have A:i.1=6:=A;omega))
  refine aK (λh=>?_) λ_=>aj trivial
  exact aR h.1 h.2 (aT (aj trivial))
 refine aK (λs=>?_) λ_=>?_
 .refine aV (λ_=>True) ?_ λ_ _=>aj (a (by have s:i.1=8:=s;omega) (by have s:i.1=8:=s;omega))
  refine aK (λh=>?_) λ_=>aj trivial
  exact aR h.1 h.2 (aT (aj trivial))
 refine aK (λz=>?_) λL=>?_
 .exact ax (UA _ _ _) λ_ h=>aj λh2=>⟨λ_=>h h2,λZ=>by have z:i.1=7:=z;omega⟩
 refine aK (λZ=>?_) λU=>?_
 .exact ax (UA _ _ _) λ_ h=>aj λh2=>⟨λz=>(L z).elim,λ_=>h h2⟩
 have a:∀{b:Bool},b=J->(i.1=7->AR w i.2.2.1 i.2.2.2.2.1)/\(i.1=9->AR w i.2.1 i.2.2.2.2.1):=a L U;refine aV (λx=>x.2=(w,i)) (aK (λ_=>aj rfl) λ_=>aj rfl) ?_;rintro⟨b,x⟩ e;dsimp only at e;subst e;refine aN (λ_=>?_) λ_=>?_
 .refine aV (λ_=>True) ?_ λ_ _=>aj a
  refine aK (λh=>?_) λ_=>aj trivial
  exact aR h.1 h.2 (aT (aj trivial))
 refine aV (λx=>x.2=(w,i)) (aK (λ_=>aj rfl) λ_=>aK (λ_=>aj rfl) λ_=>aK (λ_=>aj rfl) λ_=>aj rfl) ?_;rintro⟨b,x⟩ e;dsimp only at e;subst e;refine aN (λ_=>?_) λ_=>?_
 .refine aV (λ_=>True) ?_ λ_ _=>aj a
  refine aK (λh=>?_) λ_=>aj trivial
  exact aR h.1 h.2 (aT (aj trivial))
 refine aV (λx=>x.2=(w,i)) (aK (λ_=>aj rfl) λ_=>aK (λ_=>aj rfl) λ_=>aj rfl) ?_;rintro⟨b,x⟩ e;dsimp only at e;subst e;refine aN (λ_=>aj a) λ_=>?_
 refine aV (λx=>x.2=(w,i)) (aK (λ_=>aj rfl) λ_=>aj rfl) ?_;rintro⟨b,x⟩ e;dsimp only at e;subst e;with_reducible repeat' first|(refine OS.ok ?_;constructor)|refine IM.mk λ_=>?_
 all_goals exact a
structure VI (n:Int) (i:IT):Prop where
 o1:1<=i.1
 o2:i.1<=28
 r:∀j∈i_ i,0<=j/\j<n
structure VT (t:Int×List IT):Prop where
 r0:0<=t.1
 r1:t.1<=32
 i:∀i∈t.2,VI t.1 i
structure VJ (w:WT) (k:Int) (i:IT):Prop where
 a7:i.1=7->AR w i.2.2.1 i.2.2.2.2.1
 a9:i.1=9->AR w i.2.1 i.2.2.2.2.1
 se:i.1=28->i.2.2.2.2.2= -1
 si:¬i.1=28->0<=i.2.2.2.2.2/\i.2.2.2.2.2<w.2.2.2.2.2.length/\(aJ (T:=yP) w.2.2.2.2.2 i.2.2.2.2.2).1=k
theorem Jf (w:WT) (k:Int) (c:Int×Y IT) (hc:c.2.length<=1000000):Ok (iF (w,k,c)) λb=>b=J->VT c/\∀i∈c.2,VJ w k i:=by
 unfold iF aY bi bx cI bP cY qH bg bw jk bC aX cQ aD cJ;refine aV (λx=>x.2=(w,c)/\(x.1=af->0<=c.1/\c.1<=32)) ?_ ?_
 .refine bJ (λ_=>aj ⟨rfl,λh=>(by cases h)⟩) λh0=>bJ (λ_=>aj ⟨rfl,λh=>(by cases h)⟩) λh1=>aj ⟨rfl,λ_=>⟨h0,h1⟩⟩
 rintro⟨b,x⟩ ⟨e,hb⟩;dsimp only at e hb;subst e;refine aN (λ_=>aj λh=>(by cases h)) λh=>?_
 obtain⟨r0,r1⟩:=hb h;refine bZ c.2.length (λi x=>x.1=(i:Int)/\x.2=(w,c)/\∀q:Nat,q<i->VI c.1 (aJ (T:=Cm) c.2 (q:Int))/\VJ w k (aJ (T:=Cm) c.2 (q:Int))) ?_ ?_ ⟨rfl,rfl,λk hk=>by omega⟩
 .rintro i ⟨a,x⟩ hi ⟨e1,e2,e3⟩;dsimp only at e1 e2 e3;subst e1;subst e2;refine dh ?_;refine b7 (aT ?_);generalize Z:(aJ _ _)=z;refine aV (λx=>x.2=(w,c,z)/\(x.1=af->(1<=z.1/\z.1<=28)/\(z.1=7->AR w z.2.2.1 z.2.2.2.2.1)/\(z.1=9->AR w z.2.1 z.2.2.2.2.1))) ?_ ?_
  .refine bJ (λ_=>aj ⟨rfl,λh=>(by cases h)⟩) λh0=>bJ (λ_=>aj ⟨rfl,λh=>(by cases h)⟩) λh1=>?_
   refine aN (λ_=>aj ⟨rfl,λh=>(by cases h)⟩) λ_=>?_
   refine ax (VR w z) λy hy=>?_
   refine em (λ_=>aj ⟨rfl,λh=>(by cases h)⟩) λhyt=>?_
   exact ax (adx c.2 _ hc) λy _=>aj ⟨rfl,λ_=>⟨⟨h0,h1⟩,hy hyt⟩⟩
  rintro⟨b,x⟩ ⟨e,hb⟩;dsimp only at e hb;subst e;refine aN (λ_=>aj λh=>(by cases h)) λh=>?_
  obtain⟨⟨o1,o2⟩,a7,a9⟩:=hb h;refine aV (λx=>x.2=(w,c,z)/\(x.1=af->(z.1=28->z.2.2.2.2.2= -1)/\(¬z.1=28->0<=z.2.2.2.2.2/\z.2.2.2.2.2<w.2.2.2.2.2.length/\(aJ (T:=yP) w.2.2.2.2.2 z.2.2.2.2.2).1=k))) ?_ ?_
  .simp only[sM,YD];refine aK (λs=>?_) λs=>?_
   .refine ca (λ_=>aj ⟨rfl,λh=>(by cases h)⟩) λhm=>?_
    exact ca (λh=>(h s).elim) λ_=>aj ⟨rfl,λ_=>⟨λ_=>hm,λh=>(h s).elim⟩⟩
   .refine ca (λ_=>?_) λh=>(s h).elim
    refine ca (λ_=>aj ⟨rfl,λh=>(by cases h)⟩) λh=>?_
    exact aR h.1 h.2 (aT (aj ⟨rfl,λh2=>⟨λh3=>(s h3).elim,λ_=>⟨h.1,h.2,by simpa using h2⟩⟩⟩))
  rintro⟨b,x⟩ ⟨e,hsi⟩;dsimp only at e hsi;subst e;refine aN (λ_=>aj λh=>(by cases h)) λhbs=>?_
  obtain⟨se,si⟩:=hsi hbs;refine aV (λx=>x.2=(w,c,z)) ?_ ?_
  .simp only[sM,YD];with_reducible repeat' first|(refine OS.ok ?_;constructor)|refine IM.mk λ_=>?_
   all_goals rfl
  rintro⟨b,x⟩ e;dsimp only at e;subst e;refine aN (λ_=>aj λh=>(by cases h)) λ_=>?_
  refine aS (ur z) ?_;refine bZ (i_ z).length (λj x=>x.1=(j:Int)/\x.2=(w,c)/\∀k:Nat,k<j->0<=aJ (T:=.int .i64) (i_ z) (k:Int)/\aJ (T:=.int .i64) (i_ z) (k:Int)<c.1) ?_ ?_ ⟨rfl,rfl,λk hk=>by omega⟩
  .rintro j ⟨a,x⟩ hj ⟨U,L,A⟩;dsimp only at U L A;subst U;subst L;refine dh ?_;refine b7 (aT ?_);refine aS (sM _ _) ?_;refine ca (λ_=>aj λh=>(by cases h)) λh=>aj ?_
   dsimp only at h ⊢;have hj32:(i_ z).length<=3:=Ds z;refine ⟨gw (by omega),rfl,λk hk=>?_⟩;rcases ci k j with h1|h1
   .exact A k h1
   .rw[show k=j by omega];exact h
  .rintro⟨a,x⟩ ⟨U,L,A⟩;dsimp only at U L A;subst U;subst L;refine di (aj ?_);dsimp only;refine ⟨gw (by omega),rfl,λk hk=>?_⟩;rcases ci k i with h1|h1
   .exact e3 k h1
   .rw[show k=i by omega,Z];exact⟨⟨o1,o2,iI (T:=.int .i64) A⟩,⟨a7,a9,se,si⟩⟩
 .rintro⟨a,x⟩ ⟨e1,e2,e3⟩;dsimp only at e1 e2 e3;subst e1;subst e2;refine di (aj λ_=>⟨⟨r0,r1,iI (T:=Cm) (p:=VI c.1) λq hq=>(e3 q hq).1⟩,iI (T:=Cm) (p:=VJ w k) λq hq=>(e3 q hq).2⟩)
structure VC (c:CT):Prop where
 vl:VL c.1
 tl:c.2.length=c.1.2.2.2.2.1.length
 t:∀t∈c.2,VT t
 sv:SV0 c.1
 j:∀k:Nat,k<c.2.length->∀i∈(aJ (T:=wP) c.2 (k:Int)).2,VJ c.1 (k:Int) i
structure CB (c:CT):Prop where
 th:c.2.length<=1000000
 ins:∀t∈c.2,t.2.length<=1000000
 rg:∀t∈c.2,1<=t.1
 wx:WX c.1
 ok:jS c=M J
theorem UL (c:CT) (h1:c.2.length<=1000000) (h2:∀t∈c.2,t.2.length<=1000000):Ok (jS c) λb=>b=J->VC c:=by
 obtain⟨w,l⟩:=c;dsimp only at h1 h2;unfold jS bx bw bC aX cQ aD cJ;refine aV (λx=>x.2=(w,l)/\(x.1=af->(VL w/\SV0 w)/\l.length=w.2.2.2.2.1.length)) ?_ ?_
 .refine ax (Cb w) λb hb=>?_
  refine em (λ_=>aj ⟨rfl,λh=>(by cases h)⟩) λh=>aj ⟨rfl,λL=>⟨hb h,?_⟩⟩
  simp at L;omega
 rintro⟨b,x⟩ ⟨e,s⟩;dsimp only at e s;subst e;refine aN (λ_=>aj λh=>(by cases h)) λh=>?_
 obtain⟨⟨hv,hsv⟩,hl⟩:=s h;refine bZ l.length (λi x=>x.1=(i:Int)/\x.2=(w,l)/\∀k:Nat,k<i->VT (aJ (T:=wP) l (k:Int))/\∀q∈(aJ (T:=wP) l (k:Int)).2,VJ w (k:Int) q) ?_ ?_ ⟨rfl,rfl,λk hk=>by omega⟩
 .rintro i ⟨a,x⟩ hi ⟨e1,e2,e3⟩;dsimp only at e1 e2 e3;subst e1;subst e2;refine dh ?_;refine b7 (aT ?_);have hm:=bN (T:=wP) (xs:=l) (j:=(i:Int)) (by omega) (by omega);revert hm;generalize A:(aJ (T:=wP) l (i:Int))=z;intro hm;refine ax (Jf w _ z (h2 z hm)) λb hb=>?_
  refine em (λ_=>aj λh=>(by cases h)) λh=>aj ?_
  dsimp only;refine ⟨gw (by omega),rfl,λk hk=>?_⟩;rcases ci k i with h1|h1
  .exact e3 k h1
  .rw[show k=i by omega,A];exact hb h
 .rintro⟨a,x⟩ ⟨e1,e2,e3⟩;dsimp only at e1 e2 e3;subst e1;subst e2;refine di (aj λ_=>⟨hv,hl,iI (T:=wP) (p:=VT) λk hk=>(e3 k hk).1,hsv,λk hk=>(e3 k hk).2⟩)
abbrev TT:Type:=Int×η×Y η×Int
structure TL (F:Int->Prop) (E:Nat) (l:η):Prop where
 a:Iw l
 m:∀y∈l,0<=y/\y<(E:Int)
 f:∀y∈l,F y
theorem Q1:∀(l:η) (lo hi:Int),Iw l->(∀y∈l,lo<=y/\y<hi)->(l.length:Int)<=max 0 (hi-lo)
 |[],lo,hi,_,_=>by simp;omega
 |x::r,lo,hi,h,hm=>by
  have h1:=hm x (c9 ..);have h2:=Q1 r (x+1) hi h.2 λy a=>⟨by have:=h.1 y a;omega,(hm y (cC _ a)).2⟩
  rw[cg];omega
variable {F:Int->Prop}
theorem TL.len {E:Nat} {l:η} (h:TL F E l):l.length<=E:=by
 have:=Q1 l 0 E h.a h.m;omega
theorem TL.nil (E:Nat):TL F E []:=⟨trivial,λy a=>(by cases a),λy a=>(by cases a)⟩
theorem TL.uni {E:Nat} {a b:η} (z:TL F E a) (hb:TL F E b):TL F E (xT a b):=
 ⟨Rt a b,λy s=>by
   rcases Jg.1 s with h|h
   .exact z.m y h
   .exact hb.m y h,λy s=>(Jg.1 s).elim (z.f y) (hb.f y)⟩
theorem TL.mono {E A:Nat} {z:Int->Prop} {l:η} (h:TL F E l) (hf:E<=A) (L:∀y,F y->z y):TL z A l:=⟨h.a,λy s=>⟨(h.m y s).1,by have:=(h.m y s).2;omega⟩,λy s=>L y (h.f y s)⟩
structure TH (F:Int->Prop) (E:Nat) (s:TT):Prop where
 r:s.2.1.length<=32
 t:s.2.2.1.length<=32
 l:∀l∈s.2.2.1,TL F E l
 e0:0<=s.2.2.2
 e1:s.2.2.2<=(E:Int)
theorem TH.zero (E:Nat):TH F E (0,[],[],0):=⟨by simp,by simp,λl hl=>(by cases hl),by simp,by simp⟩
theorem TH.mono {E z:Nat} {a:Int->Prop} {s:TT} (h:TH F E s) (hf:E<=z) (A:∀y,F y->a y):TH a z s:=⟨h.r,h.t,λl hl=>(h.l l hl).mono hf A,h.e0,by have:=h.e1;omega⟩
theorem dw (s:TT) (E:Nat) (Z:E<=100000) (h:TH F E s):cz s=M ((s.1,s.2.2.2),s.2.1,s.2.2.1):=by
 obtain⟨h1,h2,U,h4,h5⟩:=h;refine cf ?_;unfold cz aY bi bx bP cY bw bB bC aX cQ aD cJ;refine be (by simp;omega) (by omega) ?_;refine bZ s.2.2.1.length (λi x=>x.1=(i:Int)/\x.2.1=s/\x.2.2.2.1=(s.1,s.2.2.2)/\x.2.2.2.2.1=s.2.1/\x.2.2.2.2.2=s.2.2.1.take i) ?_ ?_ ⟨rfl,rfl,rfl,rfl,rfl⟩
 .rintro i ⟨a,b,c,d,e,f⟩ hi ⟨e1,e2,e3,A,z⟩;dsimp only at e1 e2 e3 A z;subst e1;subst e2;subst z;refine dh ?_;refine b7 (aT ?_);have L:=(U _ (bN (T:=.sl (.int .i64)) (xs:=b.2.2.1) (j:=(i:Int)) (by omega) (by omega))).len;refine be (by simp only[gE,bK];exact dy L (by omega)) (by omega) ?_;refine be (by simp;omega) (by omega) (aj ?_);dsimp only;refine ⟨gw (by omega),rfl,e3,A,?_⟩;rw[nu (T:=.sl (.int .i64)) hi];rfl
 .rintro⟨a,b,c,d,e,f⟩ ⟨e1,e2,e3,A,z⟩;dsimp only at e1 e2 e3 A z;subst e1;subst e2;subst z;refine di (aj ?_);show (d,e,_)=_;rw[e3,A,cO]
theorem wT (b:Bool):Ok (gi b) λ_=>True:=by
 unfold gi;with_reducible repeat' first|(refine OS.ok ?_;constructor)|refine IM.mk λ_=>?_
 all_goals trivial
theorem GG (n:Int):Ok (mL n) λ_=>True:=by
 unfold mL bw aD;with_reducible repeat' first|(refine OS.ok ?_;constructor)|refine IM.mk λ_=>?_
 all_goals trivial
theorem afx (x:ν):Ok (uU x) λ_=>True:=by
 unfold uU bg;refine aK (λ_=>aj trivial) λ_=>aK (λ_=>?_) λ_=>aj trivial
 exact ax (wT _) λ_ _=>aj trivial
theorem ac9 (x:π):Ok (s6 x) λ_=>True:=by
 unfold s6 bg jk bB aD;have t1:∀b,Ok (au (gi b) λy=>M (y,J)) λ_=>True:=λb=>ax (wT _) λ_ _=>aj trivial
 refine aK (λ_=>aj trivial) λ_=>aK (λ_=>aj trivial) λ_=>aK (λ_=>aj trivial) λ_=>?_
 refine aK (λ_=>aK (λ_=>aj trivial) λh=>zR h (aj trivial)) λ_=>?_
 refine aK (λ_=>aK (λ_=>aj trivial) λh=>zR h (aj trivial)) λ_=>?_
 refine aK (λ_=>t1 _) λ_=>aK (λ_=>t1 _) λ_=>aK (λ_=>t1 _) λ_=>aK (λ_=>t1 _) λ_=>aK (λ_=>t1 _) λ_=>aK (λ_=>t1 _) λ_=>?_
 refine aK (λ_=>aV (λ_=>True) (ca (λ_=>ax (wT _) λ_ _=>aj trivial) λ_=>ax (wT _) λ_ _=>aj trivial) λ_ _=>aj trivial) λ_=>?_
 exact aK (λ_=>aV (λ_=>True) (ca (λ_=>ax (wT _) λ_ _=>aj trivial) λ_=>ax (wT _) λ_ _=>aj trivial) λ_ _=>aj trivial) λ_=>aj trivial
theorem Zx (E:Nat) (hE:E<=100000) (i:IT) (p:ν) (R:η) (T:Y η) (hr:∀j∈i_ i,0<=j/\j<(R.length:Int)) (o1:1<=i.1) (o2:i.1<=5) (hR:R.length<=32) (s:T.length=R.length) (hl:∀l∈T,TL F E l):Ok (xc ((i,p),R,T)) λy=>y.1.1.2=p.2/\y.2.1.length=R.length/\y.2.2.length=T.length/\∀l∈y.2.2,TL F E l:=by
 unfold xc aY bi bx ck bg bw bB bC kZ aX cQ aD cJ;refine aS (ur i) ?_;have h3:=Ds i;refine bZ (i_ i).length (λj x=>x.1=(j:Int)/\x.2.1=R/\x.2.2.1=T/\x.2.2.2.1=i/\x.2.2.2.2.1=p) ?_ ?_ ⟨rfl,rfl,rfl,rfl,rfl⟩
 .rintro j ⟨a,b,c,d,e⟩ hj ⟨e1,e2,e3,Z,A⟩;dsimp only at e1 e2 e3 Z A;subst e1;subst e2;subst e3;subst Z;refine dh ?_;have hz:=hr _ (bN (T:=.int .i64) (xs:=i_ d) (j:=(j:Int)) (by omega) (by omega));refine aV (λx=>x.2=(b,c,d,e)/\x.1=af) ?_ ?_
  .refine b7 (aT ?_);refine bJ (λg=>?_) λ_=>?_
   .dsimp only at g;omega
   refine b7 (aT (aj ⟨rfl,?_⟩));dsimp only;rw[mE];exact hz.2
  rintro⟨b',x⟩ ⟨U,L⟩;dsimp only at U L;subst U;subst L;refine aN (λh=>(by cases h)) λ_=>aj ?_
  dsimp only;exact⟨gw (by omega),rfl,rfl,rfl,A⟩
 .rintro⟨a,b,c,d,e⟩ ⟨e1,e2,e3,Z,A⟩;dsimp only at e1 e2 e3 Z A;subst e1;subst e2;subst e3;subst Z;refine di ?_;obtain⟨e,e'⟩:=e;dsimp only at A;subst A;refine ax (P:=λy=>y.1.1.2=e.2/\y.2.1.length=b.length/\y.2.2.length=c.length/\∀l∈y.2.2,TL F E l) ?_ λr hr=>aj hr
  have hA:d.1≠5->0<=d.2.1/\d.2.1<(b.length:Int):=λh5=>hr _ (by
   unfold i_;(repeat' split)<;>simp<;>omega)
  have hB:2<=d.1->d.1≠5->0<=d.2.2.1/\d.2.2.1<(b.length:Int):=λh2 h5=>hr _ (by
   unfold i_;(repeat' split)<;>simp<;>omega)
  have hC:d.1=4->0<=d.2.2.2.1/\d.2.2.2.1<(b.length:Int):=λh5=>hr _ (by
   unfold i_;(repeat' split)<;>simp<;>omega)
  have hg:∀{j:Int},0<=j->j<(b.length:Int)->TL F E (aJ (T:=.sl (.int .i64)) c j):=λh0 h1=>hl _ (bN (T:=.sl (.int .i64)) (xs:=c) h0 (by rw[s];exact h1))
  refine aV (λx=>x.2.1=b/\x.2.2.1=c/\x.2.2.2.1=d/\x.2.2.2.2.1=e/\TL F E x.1.2.2/\d.1≠5) ?_ ?_
  .refine aK (λ_=>aj ⟨rfl,rfl,rfl,hl⟩) λz=>?_
   refine aK (λ_=>aj ⟨rfl,rfl,rfl,rfl,TL.nil E,z⟩) λn1=>?_
   dsimp only at n1 z;obtain⟨b0,b1⟩:=hB (by omega) z;refine aK (λ_=>?_) λn2=>?_
   .refine aR b0 b1 (aR b0 b1 (aT ?_));refine aR b0 (by dsimp only;rw[s];exact b1) (aR b0 (by dsimp only;rw[s];exact b1) (aT ?_));exact aj ⟨rfl,rfl,rfl,rfl,hg b0 b1,z⟩
   refine aK (λ_=>?_) λn3=>?_
   .refine ax (GG _) λy _=>?_
    refine aR b0 b1 (aR b0 b1 (aT ?_));refine ax (afx _) λy _=>?_
    refine aR b0 (by dsimp only;rw[s];exact b1) (aR b0 (by dsimp only;rw[s];exact b1) (aT ?_));exact aj ⟨rfl,rfl,rfl,rfl,hg b0 b1,z⟩
   dsimp only at n2 n3;obtain⟨c0,c1⟩:=hC (by omega);refine ax (GG _) λy _=>?_
   refine aR b0 b1 (aR b0 b1 (aT ?_));refine aR c0 c1 (aR c0 c1 (aT ?_));refine ax (ac9 _) λy _=>?_
   refine aR b0 (by dsimp only;rw[s];exact b1) (aR b0 (by dsimp only;rw[s];exact b1) (aT ?_));refine aR c0 (by dsimp only;rw[s];exact c1) (aR c0 (by dsimp only;rw[s];exact c1) (aT ?_));have g1:=hg b0 b1;have g2:=hg c0 c1;refine aS (UM _ _ (dy g1.len (by omega)) (dy g2.len (by omega))) ?_;exact aj ⟨rfl,rfl,rfl,rfl,g1.uni g2,z⟩
  rintro⟨⟨v,ok,tn⟩,b',c',d',e',e''⟩ ⟨U,L,f3,f4,f5,f6⟩;dsimp only at U L f3 f4 f5 f6;subst U;subst L;subst f3;subst f4;obtain⟨a0,a1⟩:=hA f6;have ht:=f5.len;refine be (by simp;omega) (by omega) ?_;refine aR a0 a1 (aR a0 a1 (aR a0 (by dsimp only;rw[s];exact a1) (aR a0 (by dsimp only;rw[s];exact a1) (aj ?_))));refine ⟨rfl,bY ..,bY ..,λl hm=>?_⟩;rcases Dm hm with h|h
  .exact hl l h
  .rw[h];exact f5
theorem abg (E:Nat) (hE:E<=100000) (c:Int×Y IT) (hc:c.2.length<=1000000) (hv:VT c) (s:TT) (h:TH F E s):Ok (nU (c,s)) λy=>TH F E y.1/\(y.1.2.1.length=0\/y.1.2.2.2=s.2.2.2):=by
 unfold nU aY bi bx bP dG cY bg bw iZ jk bB bC aX cQ aD cJ;have A:=h;obtain⟨h1,h2,h3,h4,h5⟩:=h;refine aV (λx=>x.2.1=c/\x.2.2.1=s/\(x.1=af->(s.2.1.length:Int)=c.1/\(s.2.2.1.length:Int)=c.1)) ?_ ?_
 .refine ca (λ_=>aj ⟨rfl,rfl,λh=>(by cases h)⟩) λg=>aj ⟨rfl,rfl,λh=>?_⟩
  simp at h;exact⟨g,h⟩
 rintro⟨b,c',s',z⟩ ⟨e1,e2,e3⟩;dsimp only at e1 e2 e3;subst e1;subst e2;refine aN (λ_=>aj ⟨TH.zero E,.inl rfl⟩) λhb=>?_
 obtain⟨q1,q2⟩:=e3 hb;refine aS (dw s' E hE A) ?_;refine qK (λx=>((c'.2.length:Int)+1-x.1).toNat) (λx=>0<=x.1/\x.1<=(c'.2.length:Int)+1/\x.2.1=c'/\x.2.2.1.2=s'.2.2.2/\x.2.2.2.2.1.length=s'.2.1.length/\x.2.2.2.2.2.length=s'.2.2.1.length/\∀l∈x.2.2.2.2.2,TL F E l) ?_ ⟨by dsimp only;omega,by dsimp only;omega,rfl,rfl,rfl,rfl,h3⟩;rintro⟨(n:Int),c,⟨(a:Int),ev⟩,z',R,T⟩ ⟨n0,n1,e1,e2,e3,e4,L⟩;dsimp only at n0 n1 e1 e2 e3 e4 L;subst e1;subst e2;refine fc (λg=>?_) λ_=>aj ⟨TH.zero E,.inl rfl⟩
 dsimp only[ak]at g;refine aV (λx=>x.2=(c,(a,s'.2.2.2),z',R,T)/\(x.1=af->0<=a/\a<(c.2.length:Int))) ?_ ?_
 .refine bJ (λ_=>aj ⟨rfl,λh=>(by cases h)⟩) λg1=>aj ⟨rfl,λh=>?_⟩
  dsimp only at g1 h;rw[mE]at h;exact⟨g1,h⟩
 rintro⟨b',x⟩ ⟨f1,f2⟩;dsimp only at f1 f2;subst f1;refine aN (λ_=>aj ⟨TH.zero E,.inl rfl⟩) λhb=>?_
 obtain⟨p0,p1⟩:=f2 hb;refine aR p0 p1 (aT ?_);have hi:=hv.i _ (bN (T:=Cm) (xs:=c.2) (j:=a) p0 p1);revert hi;generalize (aJ (T:=Cm) _ _)=i;intro hi;refine aS (Gn _) ?_;refine ca (λ_=>aj ⟨⟨by dsimp only;omega,by dsimp only;omega,L,h4,h5⟩,.inr rfl⟩) λhsil=>?_
 refine aK (λ_=>aj ⟨TH.zero E,.inl rfl⟩) λhn=>?_
 dsimp only[ak]at hn;refine ax (Zx E hE i (a,s'.2.2.2) R T (λj hj=>by have:=hi.r j hj;omega) hsil.1 hsil.2 (by omega) (by omega) L) λy hy=>?_
 obtain⟨⟨⟨pc',ev'⟩,ok⟩,R',T'⟩:=y;obtain⟨k1,k2,Z,U⟩:=hy;dsimp only at k1 k2 Z U;refine dc (mg Z.symm (dc (mg k2.symm (BE ?_))));refine em (λ_=>aj ⟨TH.zero E,.inl rfl⟩) λ_=>aj ?_
 dsimp only;rw[iw (by omega) (by omega)];exact⟨⟨by omega,by omega,rfl,k1,by omega,by omega,U⟩,by omega⟩
abbrev ST:Type:=SY×η×η×Y TT
structure TF (c:Int×List IT) (t:TT):Prop where
 p0:0<=t.1
 p1:t.1<(c.2.length:Int)
 r:(t.2.1.length:Int)=c.1
 t:(t.2.2.1.length:Int)=c.1
structure FSx (c:CT) (s:ST):Prop where
 vc:VC c
 cd:∀d∈c.1.2.2.1,0<=d.2/\d.2<(c.1.2.1.length:Int)
 e3:s.1.2.2.2.length=c.1.2.2.2.2.1.length
 ce:s.2.1.length=c.1.1.length
 fu:s.2.2.1.length=c.1.2.2.2.1.length
 th:s.2.2.2.length=c.2.length
 t:∀k:Nat,k<c.2.length->TF (aJ (T:=wP) c.2 (k:Int)) (aJ (T:=vB) s.2.2.2 (k:Int))
def FQ (L:Y ET) (k:Int) (y:Int):Prop:=1<=y/\L_ L k y
structure SV (n:Nat) (L:List ET) (s:ST):Prop where
 sb:SB n s.1
 ln:L.length=n
 t:∀k:Nat,k<s.2.2.2.length->TH (FQ L k) n (aJ (T:=vB) s.2.2.2 (k:Int))
theorem SV.ti {n:Nat} {L:Y ET} {s:ST} (h:SV n L s) {k:Int} (h0:0<=k) (h1:k<(s.2.2.2.length:Int)):TH (FQ L k) n (aJ (T:=vB) s.2.2.2 k):=by
 have:=h.t k.toNat (by omega);rw[show ((k.toNat:Nat):Int)=k by omega]at this;exact this
structure TG (c:CT) (L:List ET) (sy:SY) (k:Int) (t:TT):Prop where
 ev:t.2.2.2=((fl L k).length:Int)
 wi:(aJ (T:=jP) sy.2.2.2 k).1=3\/(aJ (T:=jP) sy.2.2.2 k).1=4->(aJ (T:=Cm) (aJ (T:=wP) c.2 k).2 t.1).1=21
 nw:(fl L k).length=0->(aJ (T:=jP) sy.2.2.2 k).1=0\/(aJ (T:=jP) sy.2.2.2 k).1=1
structure Mo (c:CT) (L:List ET) (s:ST):Prop where
 ac:Acw c.1 L s.1 s.2.1 s.2.2.1
 t:∀k:Nat,k<s.2.2.2.length->(aJ (T:=vB) s.2.2.2 (k:Int)).2.1.length=0\/TG c L s.1 (k:Int) (aJ (T:=vB) s.2.2.2 (k:Int))
theorem aih (c:CT) (s:ST) (hc:CB c):Ok (xa (c,s)) λb=>b=J->FSx c s:=by
 unfold xa aY bi dG cY bw iZ jk bC aX cQ aD cJ;refine aV (λx=>x.2=(c,s)/\(x.1=af->VC c/\(∀d∈c.1.2.2.1,0<=d.2/\d.2<(c.1.2.1.length:Int))/\s.1.2.2.2.length=c.1.2.2.2.2.1.length/\s.2.1.length=c.1.1.length/\s.2.2.1.length=c.1.2.2.2.1.length/\s.2.2.2.length=c.2.length)) ?_ ?_
 .refine ax (UL c hc.th hc.ins) λb hb=>?_
  refine em (λ_=>aj ⟨rfl,λh=>(by cases h)⟩) λh=>?_
  have hv:=hb h;refine ax (Rh c.1 s.1 (by have:=hv.vl.d;omega)) λb2 z=>?_
  refine em (λ_=>aj ⟨rfl,λh=>(by cases h)⟩) λh2=>?_
  obtain⟨A,_,_,g4⟩:=z h2;refine ca (λ_=>aj ⟨rfl,λh=>(by cases h)⟩) λk1=>?_
  refine ca (λ_=>aj ⟨rfl,λh=>(by cases h)⟩) λk2=>aj ⟨rfl,λU=>⟨hv,A,g4,?_,?_,?_⟩⟩
  .dsimp only[ak]at k1;omega
  .dsimp only[ak]at k2;omega
  .simp at U;omega
 rintro⟨b,x⟩ ⟨e,hb⟩;dsimp only at e hb;subst e;refine aN (λ_=>aj λh=>(by cases h)) λh=>?_
 obtain⟨hv,hcd,Z,hce,hfu,hth⟩:=hb h;have hcl:=hc.th;refine bZ c.2.length (λi x=>x.1=(i:Int)/\x.2=(c,s)/\∀k:Nat,k<i->TF (aJ (T:=wP) c.2 (k:Int)) (aJ (T:=vB) s.2.2.2 (k:Int))) ?_ ?_ ⟨rfl,rfl,λk hk=>by omega⟩
 .rintro i ⟨a,x⟩ hi ⟨e1,e2,e3⟩;dsimp only at e1 e2 e3;subst e1;subst e2;refine dh ?_;have hin:((i:Nat):Int)<(c.2.length:Int):=by omega
  refine b7 (aT ?_);refine aV (λx=>x.2=(c,s)/\(x.1=af->TF (aJ (T:=wP) c.2 (i:Int)) (aJ (T:=vB) s.2.2.2 (i:Int)))) ?_ ?_
  .refine bJ (λ_=>aj ⟨rfl,λh=>(by cases h)⟩) λg0=>?_
   refine aR (by dsimp only;omega) hin (aT ?_);refine fc (λ_=>aj ⟨rfl,λh=>(by cases h)⟩) λA=>?_
   refine aR (by dsimp only;omega) hin (aT ?_);refine ca (λ_=>aj ⟨rfl,λh=>(by cases h)⟩) λg2=>?_
   refine aR (by dsimp only;omega) hin (aT (aj ⟨rfl,λL=>⟨g0,A,g2,?_⟩⟩));simp at L;exact L
  rintro⟨b,x⟩ ⟨e,hb⟩;dsimp only at e hb;subst e;refine aN (λ_=>aj λh=>(by cases h)) λh=>aj ?_
  dsimp only;refine ⟨gw (by omega),rfl,λk hk=>?_⟩;rcases ci k i with h1|h1
  .exact e3 k h1
  .rw[show k=i by omega];exact hb h
 .rintro⟨a,x⟩ ⟨e1,e2,e3⟩;dsimp only at e1 e2 e3;subst e1;subst e2;refine di (aj λ_=>⟨hv,hcd,Z,hce,hfu,hth,e3⟩)
theorem akk {i:IT} (h:i.1=6\/i.1=7\/i.1=27\/i.1=10):i.2.1∈i_ i:=by
 unfold i_;(repeat' split)<;>simp<;>omega
theorem akj {i:IT} (h:i.1=8\/i.1=9\/i.1=26):i.2.2.1∈i_ i:=by
 unfold i_;(repeat' split)<;>simp<;>omega
theorem apl {i:IT} (h:i.1=7\/i.1=9):i.2.2.2.1∈i_ i:=by
 unfold i_;(repeat' split)<;>simp<;>omega
structure KD (op k:Int):Prop where
 ld:k=3->op=6\/op=7
 st:k=4->op=8\/op=9
 br:k=5->op=10
 se:k=22->op=26
 ge:k=23->op=27
 e1:k=2->op=28
 n1:¬k=1
 n17:¬k=17
 wt:k=16->op=21
 e2:¬k=0->op=28->k=2
 d7:¬k=0->op=7->k=3
 d8:¬k=0->op=8->k=4
 d9:¬k=0->op=9->k=4
 d10:¬k=0->op=10->k=5
 d26:¬k=0->op=26->k=22
theorem ahy (op:Int):Ok (w9 op) λk=>KD op k:=by
 unfold w9 bw kZ aD;refine aV (λx=>x.2=[3,3,4,4,5,6,7,8,9,10,11,12,13,14,15,16,18,19,20,21,22,23,2]/\(x.1=af->6<=op/\op<=28)) ?_ ?_
 .refine bJ (λ_=>aj ⟨rfl,λh=>(by cases h)⟩) λg=>aj ⟨rfl,λh=>?_⟩
  dsimp only at h;rw[gB]at h;exact⟨g,h⟩
 rintro⟨b,x⟩ ⟨e,hb⟩;dsimp only at e hb;subst e;refine aN (λ_=>aj (by constructor<;>first|decide|(intro h;first|(exact (h rfl).elim)|(cases h;done)))) λh=>?_
 obtain⟨h1,h2⟩:=hb h;dsimp only;rw[iw (n:=op-6) (by omega) (by omega)];refine aR (by omega) (by simp;omega) (aR (by omega) (by simp;omega) (aT (aj ?_)));have:op=6\/op=7\/op=8\/op=9\/op=10\/op=11\/op=12\/op=13\/op=14\/op=15\/op=16\/op=17\/op=18\/op=19\/op=20\/op=21\/op=22\/op=23\/op=24\/op=25\/op=26\/op=27\/op=28:=by omega
 rcases this with rfl|rfl|rfl|rfl|rfl|rfl|rfl|rfl|rfl|rfl|rfl|rfl|rfl|rfl|rfl|rfl|rfl|rfl|rfl|rfl|rfl|rfl|rfl;all_goals (constructor<;>decide)
theorem UW (a n:Int):Ok (rZ (a,n)) λr=>n=2->r=0\/r=1:=by
 unfold rZ bw bB aD;refine bJ (λ_=>aj λh=>(by dsimp only at *;omega)) λh=>?_
 dsimp only at h;refine zR (by dsimp only;omega) ?_;have t1:=Int.tmod_lt_of_pos a (b:=n) (by omega);have s:=Int.lt_tmod_of_pos a (b:=n) (by omega);refine aV (λr=>n=2->r=0\/r=1) (bJ (λg=>aj λh2=>?_) λg=>aj λh2=>?_) λ_ h=>aj h
 .dsimp only at g ⊢;rw[iw (by omega) (by omega)];omega
 .dsimp only at g ⊢;omega
theorem R3 (i:IT) (t:TT) (hr:∀j∈i_ i,0<=j/\j<(t.2.1.length:Int)):Ok (s5 (i,t)) λo=>(i.1=7->i.2.2.1=3->i.2.2.2.2.1=2->o=3\/o=4)/\(i.1=9->i.2.1=3->i.2.2.2.2.1=2->o=3\/o=4):=by
 unfold s5 aY bi bx bg bC aD;have s:i.1=7\/i.1=9->0<=i.2.2.2.1/\i.2.2.2.1<(t.2.1.length:Int):=λh=>hr _ (by
  unfold i_;(repeat' split)<;>simp<;>omega)
 have z:∀{o:Int},¬i.1=7->¬i.1=9->(i.1=7->i.2.2.1=3->i.2.2.2.2.1=2->o=3\/o=4)/\(i.1=9->i.2.1=3->i.2.2.2.2.1=2->o=3\/o=4):=λh1 h2=>⟨λh=>(h1 h).elim,λh=>(h2 h).elim⟩
 have wk:∀{b r n:Int},b=3->n=2->(n=2->r=0\/r=1)->bl .i64 (b+r)=3\/bl .i64 (b+r)=4:=λh1 h2 a=>by
  have:=a h2;rw[iw (by omega) (by omega)];omega
 refine aV (λx=>x.2=(i,t)/\(x.1=J->i.1=6\/i.1=27)) (aK (λh=>aj ⟨rfl,λ_=>.inl h⟩) λ_=>aj ⟨rfl,λh=>.inr (ba h)⟩) ?_;rintro⟨b,x⟩ ⟨e,hb⟩;dsimp only at e hb;subst e;refine aN (λh=>aj (z (by have:=hb h;omega) (by have:=hb h;omega))) λ_=>?_
 refine aK (λh=>?_) λA=>?_
 .exact aR (s (.inl h)).1 (s (.inl h)).2 (aT (ax (UW _ _) λy L=>aj ⟨λ_ a U=>wk a U L,λh9=>by dsimp only at h;omega⟩))
 refine aK (λh=>?_) λZ=>?_
 .exact aR (s (.inr h)).1 (s (.inr h)).2 (aT (ax (UW _ _) λy L=>aj ⟨λh7=>(A h7).elim,λ_ a U=>wk a U L⟩))
 refine aV (λ_=>True) ?_ λx _=>aN (λ_=>aj (z A Z)) λ_=>aj (z A Z)
 with_reducible repeat' first|(refine OS.ok ?_;constructor)|refine IM.mk λ_=>?_
 all_goals trivial
theorem al6 {w:WT} (a:w.1=C0) {b n:Int} (h:AR w b n):b=3/\n=2:=by
 obtain⟨b0,b1,ix,sz,sn⟩:=h;rw[a]at b1 ix sz sn;have b1:b<5:=b1;rcases (by omega:b=0\/b=1\/b=2\/b=3\/b=4) with rfl|rfl|rfl|rfl|rfl
 .exact (sz rfl).elim
 .exact (sz rfl).elim
 .exact (sz rfl).elim
 .exact⟨rfl,sn.symm⟩
 .exact b8 ix (by decide)
theorem akd {w:WT} (a:w.1=C0) {o:Int} (h:o=3\/o=4):¬(aJ (T:=Pd) w.1 o).2.2.1=0:=by
 rw[a];rcases h with rfl|rfl<;>decide
structure PE (n:Nat) (c:CT) (s:ST) (t:Int) (e:ET):Prop where
 fs:FSx c s
 t0:0<=t
 t1:t<(c.2.length:Int)
 et:e.1=t
 d:e.2.2.2.2.2.1.length<=n
 f:e.2.2.2.2.2.2.length<=n
 a:e.2.1=3\/e.2.1=23\/e.2.1=5->0<=(aJ (T:=Cm) (aJ (T:=wP) c.2 t).2 (aJ (T:=vB) s.2.2.2 t).1).2.1/\(aJ (T:=Cm) (aJ (T:=wP) c.2 t).2 (aJ (T:=vB) s.2.2.2 t).1).2.1<((aJ (T:=vB) s.2.2.2 t).2.1.length:Int)
 b:e.2.1=4\/e.2.1=22->0<=(aJ (T:=Cm) (aJ (T:=wP) c.2 t).2 (aJ (T:=vB) s.2.2.2 t).1).2.2.1/\(aJ (T:=Cm) (aJ (T:=wP) c.2 t).2 (aJ (T:=vB) s.2.2.2 t).1).2.2.1<((aJ (T:=vB) s.2.2.2 t).2.1.length:Int)
structure PS (c:CT) (L:List ET) (s:ST) (t:Int) (e:ET):Prop where
 tg:TG c L s.1 t (aJ (T:=vB) s.2.2.2 t)
 s1:e.2.1=1\/e.2.1=2->e.2.2.2.2.1= -1
 s2:¬(e.2.1=1\/e.2.1=2)->0<=e.2.2.2.2.1/\e.2.2.2.2.1<c.1.2.2.2.2.2.length/\(aJ (T:=yP) c.1.2.2.2.2.2 e.2.2.2.2.1).1=t
 de:0<e.2.2.2.2.2.1.length->e.2.1=5\/(e.2.1=3\/e.2.1=4)/\¬(aJ (T:=Pd) c.1.1 e.2.2.1).2.2.1=0
 fr:0<e.2.2.2.2.2.2.length->e.2.1=4\/e.2.1=22
 da:Iw e.2.2.2.2.2.1
 dq:∀y∈e.2.2.2.2.2.1,FQ L t y
 fa:Iw e.2.2.2.2.2.2
 fq:∀y∈e.2.2.2.2.2.2,FQ L t y
 wt:e.2.1=16->(aJ (T:=Cm) (aJ (T:=wP) c.2 t).2 (aJ (T:=vB) s.2.2.2 t).1).1=21
theorem XY (n:Nat) (hn:n<=100000) (c:CT) (L:Y ET) (s:ST) (hc:CB c) (hs:SV n L s) (hI:Mo c L s) (t:Int):Ok (oq (c,s,t)) λy=>y.2=J->PE n c s t y.1/\PS c L s t y.1:=by
 unfold oq aY bi bx bP dG cY bg bw bB bC aX aD;refine aV (λx=>x.2.1=c/\x.2.2.1=s/\(x.1=af->FSx c s/\0<=t/\t<(c.2.length:Int))) ?_ ?_
 .refine ax (aih c s hc) λb hb=>?_
  refine em (λ_=>aj ⟨rfl,rfl,λh=>(by cases h)⟩) λh=>?_
  refine bJ (λ_=>aj ⟨rfl,rfl,λh=>(by cases h)⟩) λg0=>aj ⟨rfl,rfl,λg1=>?_⟩
  dsimp only at g0 g1;rw[mE]at g1;exact⟨hb h,g0,g1⟩
 rintro⟨b,c',s',z⟩ ⟨e1,e2,hb⟩;dsimp only at e1 e2 hb;subst e1;subst e2;refine aN (λ_=>aj λh=>(by cases h)) λh=>?_
 obtain⟨hf,t0,t1⟩:=hb h;have hk:((t.toNat:Nat):Int)=t:=by omega
 have htf:=hf.t t.toNat (by omega);rw[hk]at htf;have hvt:=hf.vc.t _ (bN (T:=wP) (xs:=c'.2) (j:=t) t0 t1);have hth:=hs.ti t0 (by rw[hf.th];exact t1);have key:∀e:ET,e.1=t->e.2.2.2.2.2.1.length<=n->e.2.2.2.2.2.2.length<=n->(e.2.1=1\/e.2.1=17\/KD (aJ (T:=Cm) (aJ (T:=wP) c'.2 t).2 (aJ (T:=vB) s'.2.2.2 t).1).1 e.2.1)->PE n c' s' t e:=by
  intro e h1 h2 h3 U;have hi:=hvt.i _ (bN (T:=Cm) (xs:=(aJ (T:=wP) c'.2 t).2) (j:=(aJ (T:=vB) s'.2.2.2 t).1) htf.p0 htf.p1);refine ⟨hf,t0,t1,h1,h2,h3,λh5=>?_,λh5=>?_⟩
  .rw[htf.r];rcases U with U|U|U
   .omega
   .omega
   .refine hi.r _ ?_;have a1:=U.ld;have a2:=U.ge;have a3:=U.br;revert a1 a2 a3 h5;generalize (aJ (T:=Cm) (aJ (T:=wP) c'.2 t).2 (aJ (T:=vB) s'.2.2.2 t).1)=i;intro h5 a1 a2 a3;exact akk (by omega)
  .rw[htf.r];rcases U with U|U|U
   .omega
   .omega
   .refine hi.r _ ?_;have a1:=U.st;have a2:=U.se;revert a1 a2 h5;generalize (aJ (T:=Cm) (aJ (T:=wP) c'.2 t).2 (aJ (T:=vB) s'.2.2.2 t).1)=i;intro h5 a1 a2;exact akj (by omega)
 have hir:=(hvt.i _ (bN (T:=Cm) (xs:=(aJ (T:=wP) c'.2 t).2) (j:=(aJ (T:=vB) s'.2.2.2 t).1) htf.p0 htf.p1)).r;rw[<- htf.r]at hir;have hrg:=hc.rg _ (bN (T:=wP) (xs:=c'.2) (j:=t) t0 t1);have htg:TG c' L s'.1 t (aJ (T:=vB) s'.2.2.2 t):=by
  have:=hI.t t.toNat (by rw[hf.th];omega);rw[hk]at this;refine this.resolve_left λh=>?_
  have:=htf.r;omega
 have hvj:=hf.vc.j t.toNat (by omega);rw[hk]at hvj;have hvj:=hvj _ (bN (T:=Cm) (xs:=(aJ (T:=wP) c'.2 t).2) (j:=(aJ (T:=vB) s'.2.2.2 t).1) htf.p0 htf.p1);have hC0:=hc.wx.c;refine aR t0 (by dsimp only;rw[hf.th];exact t1) (aT ?_);refine aR t0 t1 (aT ?_);refine aR htf.p0 htf.p1 (aT ?_);have t4:t<(s'.1.2.2.2.length:Int):=by rw[hf.e3,<-hf.vc.tl];exact t1
 have tz:(aJ (T:=vB) s'.2.2.2 t).2.2.1.length=(aJ (T:=vB) s'.2.2.2 t).2.1.length:=by have:=htf.r;have:=htf.t;omega
 refine aR t0 t4 (aT ?_);refine aK (λ_=>aj λ_=>⟨key _ rfl (ie _) (ie _) (.inl rfl),⟨htg,λ_=>rfl,λh=>(h (.inl rfl)).elim,λh=>(by cases h),λh=>(by cases h),trivial,λy hy=>(by cases hy),trivial,λy hy=>(by cases hy),λh=>(by cases h)⟩⟩) λ_=>?_
 refine aK (λU=>aR t0 t4 (aT (aj λ_=>⟨key _ rfl (ie _) (ie _) (.inr (.inl rfl)),⟨htg,λh=>(by rcases h with h|h<;>cases h),λ_=>hvj.si (by rw[htg.wi (.inr U)];decide),λh=>(by cases h),λh=>(by cases h),trivial,λy hy=>(by cases hy),trivial,λy hy=>(by cases hy),λh=>(by cases h)⟩⟩))) λ_=>?_
 refine aK (λ_=>?_) λ_=>aj λh=>(by cases h)
 refine ax (ahy _) λk A=>?_
 refine ax (R3 _ _ hir) λo ho=>?_
 refine aK (λ_=>aj λh=>(by cases h)) λZ=>?_
 have fin:∀e:ET,e.1=t->e.2.1=k->e.2.2.1=o->e.2.2.2.2.1=(aJ (T:=Cm) (aJ (T:=wP) c'.2 t).2 (aJ (T:=vB) s'.2.2.2 t).1).2.2.2.2.2->(0<e.2.2.2.2.2.1.length->(aJ (T:=Cm) (aJ (T:=wP) c'.2 t).2 (aJ (T:=vB) s'.2.2.2 t).1).1=10\/(aJ (T:=Cm) (aJ (T:=wP) c'.2 t).2 (aJ (T:=vB) s'.2.2.2 t).1).1=7\/(aJ (T:=Cm) (aJ (T:=wP) c'.2 t).2 (aJ (T:=vB) s'.2.2.2 t).1).1=9)->(0<e.2.2.2.2.2.2.length->(aJ (T:=Cm) (aJ (T:=wP) c'.2 t).2 (aJ (T:=vB) s'.2.2.2 t).1).1=8\/(aJ (T:=Cm) (aJ (T:=wP) c'.2 t).2 (aJ (T:=vB) s'.2.2.2 t).1).1=9\/(aJ (T:=Cm) (aJ (T:=wP) c'.2 t).2 (aJ (T:=vB) s'.2.2.2 t).1).1=26)->TL (FQ L t) n e.2.2.2.2.2.1->TL (FQ L t) n e.2.2.2.2.2.2->PE n c' s' t e/\PS c' L s' t e:=by
  intro e h1 h2 h3 U h5 h6 h7 h8;refine ⟨key e h1 h7.len h8.len (.inr (.inr (h2▸A))),htg,λh=>?_,λh=>?_,λh=>?_,λh=>?_,h7.a,h7.f,h8.a,h8.f,λh=>A.wt (h2▸h)⟩
  .rw[U];rw[h2]at h;exact hvj.se (A.e1 (h.resolve_left A.n1))
  .rw[U];rw[h2]at h;exact hvj.si λh9=>h (.inr (A.e2 Z h9))
  .rw[h2,h3];rcases h5 h with g|g|g
   .exact .inl (A.d10 Z g)
   .obtain⟨q1,q2⟩:=al6 hC0 (hvj.a7 g);exact .inr ⟨.inl (A.d7 Z g),akd hC0 (ho.1 g q1 q2)⟩
   .obtain⟨q1,q2⟩:=al6 hC0 (hvj.a9 g);exact .inr ⟨.inr (A.d9 Z g),akd hC0 (ho.2 g q1 q2)⟩
  .rw[h2];rcases h6 h with g|g|g
   .exact .inl (A.d8 Z g)
   .exact .inl (A.d9 Z g)
   .exact .inr (A.d26 Z g)
 clear key htg hvj ho hC0 hrg;revert fin htf hvt hth hir tz A;dsimp only;generalize (aJ (T:=vB) s'.2.2.2 t)=th;generalize (aJ (T:=Cm) _ th.1)=i;intro htf hvt hth hir tz A fin;have hlen:∀{j:Int},0<=j->j<(th.2.2.1.length:Int)->TL (FQ L t) n (aJ (T:=.sl (.int .i64)) th.2.2.1 j):=λh0 h1=>hth.l _ (bN (T:=.sl (.int .i64)) (xs:=th.2.2.1) h0 h1)
 have hA:i.1=10->0<=i.2.1/\i.2.1<(th.2.2.1.length:Int):=λh=>by
  rw[tz];exact hir _ (akk (.inr (.inr (.inr h))))
 have hB:i.1=8\/i.1=9\/i.1=26->0<=i.2.2.1/\i.2.2.1<(th.2.2.1.length:Int):=λh=>by
  rw[tz];exact hir _ (akj (h))
 have hC:i.1=7\/i.1=9->0<=i.2.2.2.1/\i.2.2.2.1<(th.2.2.1.length:Int):=λh=>by
  rw[tz];exact hir _ (apl (h))
 refine aV (λx=>x.2.1=th/\x.2.2.1=i/\(x.2.2.2.1.1=t/\x.2.2.2.1.2.1=k/\x.2.2.2.1.2.2.1=o/\x.2.2.2.1.2.2.2.2=i.2.2.2.2.2)/\TL (FQ L t) n x.2.2.2.2/\(0<x.2.2.2.2.length->i.1=10\/i.1=7\/i.1=9)) ?_ ?_
 .refine aK (λh=>?_) λ_=>?_
  .obtain⟨a0,a1⟩:=hA h;refine aR a0 a1 (aT ?_);have:=hlen a0 a1;exact be (dy this.len (by omega)) (by omega) (aj ⟨rfl,rfl,⟨rfl,rfl,rfl,rfl⟩,this,λ_=>.inl h⟩)
  refine aV (λx=>x.2.2.1=th/\x.2.2.2.1=i/\(x.2.2.2.2.1=t/\x.2.2.2.2.2.1=k/\x.2.2.2.2.2.2.1=o/\x.2.2.2.2.2.2.2.2=i.2.2.2.2.2)/\(x.1=J->i.1=7\/i.1=9)) ?_ ?_
  .refine aK (λh=>aj ⟨rfl,rfl,⟨rfl,rfl,rfl,rfl⟩,λ_=>.inl h⟩) λ_=>aj ⟨rfl,rfl,⟨rfl,rfl,rfl,rfl⟩,λh=>.inr (ba h)⟩
  rintro⟨b,z0,th',i',t',k',z1⟩ ⟨e1,e2,e3,hb9⟩;dsimp only at e1 e2 e3 hb9;subst e1;subst e2;refine aN (λh=>?_) λ_=>aj ⟨rfl,rfl,e3,TL.nil n,λh=>(by cases h)⟩
  obtain⟨a0,a1⟩:=hC (hb9 h);refine aR a0 a1 (aT ?_);have:=hlen a0 a1;exact be (dy this.len (by omega)) (by omega) (aj ⟨rfl,rfl,e3,this,λ_=>.inr (hb9 h)⟩)
 rintro⟨z0,th',i',⟨t',k',z1⟩,ds⟩ ⟨e1,e2,e3,hd,hd2⟩;dsimp only at e1 e2 e3 hd hd2;subst e1;subst e2;refine aV (λx=>(x.2.1.1=t/\x.2.1.2.1=k/\x.2.1.2.2.1=o/\x.2.1.2.2.2.2=i'.2.2.2.2.2)/\x.2.2.1=ds/\TL (FQ L t) n x.2.2.2/\(0<x.2.2.2.length->i'.1=8\/i'.1=9\/i'.1=26)) ?_ ?_
 .refine aV (λx=>x.2=(z0,th',i',(t',k',z1),ds)/\(x.1=J->i'.1=8\/i'.1=9\/i'.1=26)) ?_ ?_
  .exact aK (λh=>aj ⟨rfl,λ_=>.inl h⟩) λ_=>aK (λh=>aj ⟨rfl,λ_=>.inr (.inl h)⟩) λ_=>aj ⟨rfl,λh=>.inr (.inr (ba h))⟩
  rintro⟨b,x⟩ ⟨e,hb9⟩;dsimp only at e hb9;subst e;refine aN (λh=>?_) λ_=>aj ⟨e3,rfl,TL.nil n,λh=>(by cases h)⟩
  obtain⟨a0,a1⟩:=hB (hb9 h);refine aR a0 a1 (aT ?_);have:=hlen a0 a1;exact be (dy this.len (by omega)) (by omega) (aj ⟨e3,rfl,this,λ_=>hb9 h⟩)
 rintro⟨z2,⟨t2,k2,o2,z3,si⟩,d2,f2⟩ ⟨e1,e2,h1,h2⟩;dsimp only at e1 e2 h1 h2;subst e2;obtain⟨g1,g2,g3,g4⟩:=e1;exact aj λ_=>fin _ g1 g2 g3 g4 hd2 h2 hd h1
theorem alx {n:Nat} {k:Int} (h0:0<=k) (h1:k<n):(aJ (T:=jP) (Zu n) k).1=0\/(aJ (T:=jP) (Zu n) k).1=1:=by
 have hm:=bN (T:=jP) (xs:=Zu n) h0 (by rw[IF];exact h1);revert hm;generalize aJ (T:=jP) (Zu n) k=z;intro hm;cases n with
 |zero=>cases hm
 |succ n=>
  rcases bm.1 hm with rfl|hm
  .exact .inr rfl
  .rw[qg hm];exact .inl rfl
theorem XT (c:CT) (hvt:jS c=M J) (hv:VC c):Ok (uQ c) λs=>SV 0 [] s/\Mo c [] s:=by
 unfold uQ aY bi bx cI bP dG cY fG bw wQ bB bC aX cQ aD cJ;refine aS hvt (em (λh=>(by cases h)) λ_=>?_);obtain⟨vc,vl,vd,vf,_,vt,_⟩:=id hv.vl;have htl:=hv.tl;refine aS (L2 c.1 hv.vl) ?_;refine bZ c.1.1.length (λi x=>x.1=(i:Int)/\x.2.1=c/\x.2.2.2.1=Rk c.1/\x.2.2.2.2=(c.1.1.take i).map λc=>c.2.2.2.2) ?_ ?_ ⟨rfl,rfl,rfl,rfl⟩
 .rintro i ⟨a,c',z,Z,l⟩ hi ⟨e1,e2,e3,A⟩;dsimp only at e1 e2 e3 A;subst e1;subst e2;subst e3;subst A;refine dh ?_;refine b7 (aT (be (by simp;omega) (by omega) (aj ?_)));dsimp only;exact⟨gw (by omega),rfl,rfl,by rw[nu (T:=Pd) hi,cM];rfl⟩
 rintro⟨a,c',z,Z,l⟩ ⟨e1,e2,e3,A⟩;dsimp only at e1 e2 e3 A;subst e1;subst e2;subst e3;rw[cO]at A;subst A;refine di ?_;refine ax (P:=λs=>SV 0 [] s/\Mo c' [] s) ?_ λr hr=>aj hr
 refine bZ c'.1.2.2.2.1.length (λi x=>x.1=(i:Int)/\x.2.1=c'/\x.2.2.2.1=Rk c'.1/\x.2.2.2.2.1=ce0 c'.1/\x.2.2.2.2.2=aA i 0) ?_ ?_ ⟨rfl,rfl,rfl,rfl,rfl⟩
 .rintro i ⟨a,c,z,y,l,f⟩ hi ⟨e1,e2,e3,A,L⟩;dsimp only at e1 e2 e3 A L;subst e1;subst e2;subst e3;subst L;refine dh ?_;refine be (by simp;omega) (by omega) (aj ?_);dsimp only;exact⟨gw (by omega),rfl,rfl,A,by rw[vz]⟩
 rintro⟨a,c,z,y,l,f⟩ ⟨e1,e2,e3,A,L⟩;dsimp only at e1 e2 e3 A L;subst e1;subst e2;subst e3;subst A;subst L;refine di ?_;refine ax (P:=λs=>SV 0 [] s/\Mo c [] s) ?_ λr hr=>aj hr
 refine bZ c.2.length (λi x=>x.1=(i:Int)/\x.2.1=c/\x.2.2.2.1=Rk c.1/\x.2.2.2.2.1=ce0 c.1/\x.2.2.2.2.2.1=fu0 c.1/\x.2.2.2.2.2.2.length=i/\∀t∈x.2.2.2.2.2.2,(∀F,TH F 0 t)/\t.2.2.2=0) ?_ ?_ ⟨rfl,rfl,rfl,rfl,rfl,rfl,λt ht=>(by cases ht)⟩
 .rintro i ⟨a,c,z,y,l,f,th⟩ hi ⟨e1,e2,e3,A,e4b,L,U⟩;dsimp only at e1 e2 e3 A e4b L U;subst e1;subst e2;subst e3;refine dh ?_;have hin:((i:Nat):Int)<(c.2.length:Int):=by omega
  have hvt:=hv.t _ (bN (T:=wP) (xs:=c.2) (j:=(i:Int)) (by omega) hin);have q0:=hvt.r0;have q1:=hvt.r1;refine aR (by dsimp only;omega) hin (aT ?_);refine dc (dc (dI q0 (dI (dx _) (be (by dsimp only;omega) (by omega) ?_))));refine aR (by dsimp only;omega) hin (aT ?_);refine dc (dc (dI q0 (dI (dx _) (be (by dsimp only;omega) (by omega) ?_))));refine be (by simp;omega) (by omega) (aj ?_);dsimp only;refine ⟨gw (by omega),rfl,rfl,A,e4b,by simp;omega,λt ht=>?_⟩;rcases bG.1 ht with h|h
  .exact U t h
  .rw[aI]at h;subst h;refine ⟨λF=>⟨?_,?_,λl hl=>?_,dx _,dx _⟩,rfl⟩
   .dsimp only;rw[bW];omega
   .dsimp only;rw[bW];omega
   .rw[qg hl];exact TL.nil 0
 .rintro⟨a,c,z,y,l,f,th⟩ ⟨e1,e2,e3,A,e4b,L,U⟩;dsimp only at e1 e2 e3 A e4b L U;subst e1;subst e2;subst e3;subst A;subst e4b;refine di (aj ?_);have hm:∀k:Nat,k<th.length->_:=λk hk=>U _ (bN (T:=vB) (xs:=th) (j:=(k:Int)) (by omega) (by omega))
  refine ⟨⟨Vw hv.vl,rfl,λk hk=>(hm k hk).1 _⟩,⟨.nil,λk hk=>.inr ?_⟩⟩;dsimp only at hk;have hst:=alx (n:=c.1.2.2.2.2.1.length) (k:=(k:Int)) (by omega) (by omega);exact⟨(hm k hk).2,λh=>(by rcases hst with q|q<;>rcases h with h|h<;>exact b8 (q.symm.trans h) (by decide)),λ_=>hst⟩
theorem Jk {th:Y (Int×Int×Bool)} {t x j:Int} (h0:0<=t) (h1:t<th.length) (hj:0<=j):(aJ (T:=jP) (yQ th t x) j).1=if j=t then x else (aJ (T:=jP) th j).1:=by
 unfold yQ;rw[sr (T:=jP) _ _ _ _ h0 h1 hj];split<;>rfl
theorem akz {th:Y (Int×Int×Bool)} {t x j:Int} (h0:0<=t) (h1:t<th.length) (hj:0<=j):(aJ (T:=jP) (cdP th t x) j).1=(aJ (T:=jP) th j).1:=by
 unfold cdP;rw[sr (T:=jP) _ _ _ _ h0 h1 hj];split
 .rename_i h;rw[h]
 .rfl
theorem al5 {th:Y (Int×Int×Bool)} {t j:Int} {x:Bool} (h0:0<=t) (h1:t<th.length) (hj:0<=j):(aJ (T:=jP) (atP th t x) j).1=(aJ (T:=jP) th j).1:=by
 unfold atP;rw[sr (T:=jP) _ _ _ _ h0 h1 hj];split
 .rename_i h;rw[h]
 .rfl
theorem ako {j:Int} (hj:0<=j):∀(l:η) (th:Y (Int×Int×Bool)),(∀u:Int,u∈l->0<=u/\u<th.length)->(aJ (T:=jP) (Dz th l) j).1=if j∈l then 4 else (aJ (T:=jP) th j).1
 |[],th,_=>by simp[Dz]
 |x::r,th,h=>by
  have a:=h x (c9 ..);have s:=ako hj r (yQ th x 4) λu hu=>by unfold yQ;rw[bY];exact h u (cC _ hu)
  have e:Dz th (x::r)=Dz (yQ th x 4) r:=rfl;rw[e,s,Jk a.1 a.2 hj];by_cases h1:j∈r
  .rw[aC h1,aC (cC _ h1)]
  .rw[aw h1];by_cases h2:j=x
   .rw[aC h2,aC (by rw[h2];exact c9 ..)]
   .rw[aw h2,aw λh=>(bm.1 h).elim h2 h1]
theorem I4 {l:η} (u:Int) (hl:¬l.length=0):Ca l u∈l:=by
 unfold Ca;rw[aw hl];split
 .rename_i h;exact tU.1 h
 .exact bN (T:=.int .i64) (by omega) (by omega)
theorem UC {w:WT} {s:SY} {t k o u v:Int} {sy:SY} (h:(sy,v)=rK w s t k o u):rK w s t k o v=(sy,v):=by
 by_cases hk:k=18
 .subst hk;rw[Gj]at h ⊢;by_cases hl:(wl s.2.2.2 o s.2.2.2.length).length=0
  .rw[aC hl]at h ⊢;exact h.symm
  .rw[aw hl]at h ⊢;have hm:=I4 u hl;generalize wl s.2.2.2 o s.2.2.2.length=l at h hl hm ⊢;obtain⟨rfl,rfl⟩:=Prod.mk.inj h;have:Ca l (Ca l u)=Ca l u:=by
    rw[Ca,aw hl,aC (tU.2 hm)]
   rw[this]
 .rw[Zh _ _ _ _ _ _ u hk,<-h]
theorem amv {w:WT} {s:SY} {t k o:Int} (u:Int) (he:EN w s t k o) (hr:XX w s t k o) {j:Int} (h0:0<=j):(¬j=t->(aJ (T:=jP) (rK w s t k o u).1.2.2.2 j).1=(aJ (T:=jP) s.2.2.2 j).1\/((aJ (T:=jP) s.2.2.2 j).1=3/\(aJ (T:=jP) (rK w s t k o u).1.2.2.2 j).1=4)\/((aJ (T:=jP) s.2.2.2 j).1=0/\(aJ (T:=jP) (rK w s t k o u).1.2.2.2 j).1=1))/\(j=t->¬k=16->¬(aJ (T:=jP) (rK w s t k o u).1.2.2.2 j).1=3/\¬(aJ (T:=jP) (rK w s t k o u).1.2.2.2 j).1=4):=by
 have t0:=he.t0;have t1:t<s.2.2.2.length:=by have:=he.t1;have:=he.e3;omega
 have L:=hr.r;have hml:∀u:Int,u∈wl s.2.2.2 o s.2.2.2.length->0<=u/\u<s.2.2.2.length:=λu hu=>⟨(rP.1 hu).1,(rP.1 hu).2.1⟩
 have h3:∀u:Int,u∈wl s.2.2.2 o s.2.2.2.length->(aJ (T:=jP) s.2.2.2 u).1=3:=λu hu=>by
  have:=(rP.1 hu).2.2;unfold Jc at this;rw[al]at this;exact ba this.1
 have same:¬k=1->¬k=17->∀th:Y (Int×Int×Bool),(aJ (T:=jP) th j).1=(aJ (T:=jP) s.2.2.2 j).1->(¬j=t->(aJ (T:=jP) th j).1=(aJ (T:=jP) s.2.2.2 j).1\/((aJ (T:=jP) s.2.2.2 j).1=3/\(aJ (T:=jP) th j).1=4)\/((aJ (T:=jP) s.2.2.2 j).1=0/\(aJ (T:=jP) th j).1=1))/\(j=t->¬k=16->¬(aJ (T:=jP) th j).1=3/\¬(aJ (T:=jP) th j).1=4):=λa b th h=>⟨λ_=>.inl h,λh2 _=>by rw[h,h2,L a b];decide⟩
 have st:∀x:Int,¬x=3\/k=16->¬x=4->∀th:Y (Int×Int×Bool),(aJ (T:=jP) th j).1=(if j=t then x else (aJ (T:=jP) s.2.2.2 j).1)->(¬j=t->(aJ (T:=jP) th j).1=(aJ (T:=jP) s.2.2.2 j).1\/((aJ (T:=jP) s.2.2.2 j).1=3/\(aJ (T:=jP) th j).1=4)\/((aJ (T:=jP) s.2.2.2 j).1=0/\(aJ (T:=jP) th j).1=1))/\(j=t->¬k=16->¬(aJ (T:=jP) th j).1=3/\¬(aJ (T:=jP) th j).1=4):=λx hx hx4 th h=>⟨λhn=>.inl (by rw[h,aw hn]),λh2 h16=>by rw[h,aC h2];exact⟨hx.resolve_right h16,hx4⟩⟩
 have U:∀x:Int,t<(yQ s.2.2.2 t x).length:=λx=>by unfold yQ;rw[bY];exact t1
 by_cases k1:k=1
 .subst k1;exact st 2 (.inl (by decide)) (by decide) _ (Jk t0 t1 h0)
 by_cases k2:k=2
 .subst k2;exact st 5 (.inl (by decide)) (by decide) _ (Jk t0 t1 h0)
 by_cases k16:k=16
 .subst k16;exact st 3 (.inr rfl) (by decide) _ ((akz t0 (U _) h0).trans (Jk t0 t1 h0))
 by_cases z:k=17
 .subst z;exact st 2 (.inl (by decide)) (by decide) _ ((akz t0 (U _) h0).trans (Jk t0 t1 h0))
 by_cases k14:k=14
 .subst k14;exact same k1 z _ (al5 t0 t1 h0)
 by_cases k15:k=15
 .subst k15;exact same k1 z _ (al5 t0 t1 h0)
 by_cases k18:k=18
 .subst k18;rw[Gj];by_cases hl:(wl s.2.2.2 o s.2.2.2.length).length=0
  .rw[aC hl];exact same k1 z _ rfl
  .rw[aw hl];have hc:=I4 u hl;have Z:=hml _ hc;have A:=h3 _ hc;dsimp only;rw[Jk Z.1 Z.2 h0];generalize Ca (wl s.2.2.2 o s.2.2.2.length) u=c at A;by_cases hj:j=c
   .rw[aC hj,hj];exact⟨λ_=>.inr (.inl ⟨A,rfl⟩),λh _=>by rw[h,L k1 z]at A;exact b8 A (by decide)⟩
   .rw[aw hj];exact⟨λ_=>.inl rfl,λh _=>by rw[h,L k1 z];decide⟩
 by_cases k19:k=19
 .subst k19;show (_->(aJ (T:=jP) (Dz _ _) j).1=_\/_/\(aJ (T:=jP) (Dz _ _) j).1=_\/_/\(aJ (T:=jP) (Dz _ _) j).1=_)/\(_->_->¬(aJ (T:=jP) (Dz _ _) j).1=_/\¬(aJ (T:=jP) (Dz _ _) j).1=_)
  rw[ako h0 _ _ hml];by_cases hj:j∈wl s.2.2.2 o s.2.2.2.length
  .rw[aC hj];have A:=h3 _ hj;exact⟨λ_=>.inr (.inl ⟨A,rfl⟩),λh _=>by rw[h,L k1 z]at A;exact b8 A (by decide)⟩
  .rw[aw hj];exact⟨λ_=>.inl rfl,λh _=>by rw[h,L k1 z];decide⟩
 by_cases k20:k=20
 .subst k20;obtain⟨o0,o1⟩:=he.nm.th (.inl rfl);obtain⟨hot,ho0⟩:=hr.sp rfl;have o1':o<s.2.2.2.length:=by rw[he.e3];exact o1
  show (_->(aJ (T:=jP) (yQ _ _ _) j).1=_\/_/\(aJ (T:=jP) (yQ _ _ _) j).1=_\/_/\(aJ (T:=jP) (yQ _ _ _) j).1=_)/\(_->_->¬(aJ (T:=jP) (yQ _ _ _) j).1=_/\¬(aJ (T:=jP) (yQ _ _ _) j).1=_)
  rw[Jk o0 o1' h0];by_cases hj:j=o
  .rw[aC hj,hj];exact⟨λ_=>.inr (.inr ⟨ho0,rfl⟩),λh _=>(hot h).elim⟩
  .rw[aw hj];exact⟨λ_=>.inl rfl,λh _=>by rw[h,L k1 z];decide⟩
 refine same k1 z _ ?_;unfold rK;rw[aw k1,aw k2];repeat' split
 all_goals first|rfl|omega
theorem aig {e e':ET} (h1:e'.1=e.1) (h2:e'.2.1=e.2.1) (t:Int):fl [e'] t=fl [e] t:=by
 by_cases h:e.1=t
 .rw[Ak h,Ak (h1.trans h)];unfold ue;rw[h2]
 .rw[xr h,xr (λg=>h (h1.symm.trans g))]
theorem ak6 {L:Y ET} {e e':ET} (h1:e'.1=e.1) (h2:e'.2.1=e.2.1) {k y:Int} (h:FQ (L++[e]) k y):FQ (L++[e']) k y:=by
 unfold FQ L_ at h ⊢;rw[vk,aig h1 h2,<-vk];exact h
theorem Kj {T:Ty} (xs:Y T.den) (i k:Nat) (x:T.den) (hi:i<xs.length):aJ (xs.set i x) (k:Int)=if k=i then x else aJ xs (k:Int):=by
 refine (sr xs (i:Int) (k:Int) x (by omega) (by omega) (by omega)).trans ?_;by_cases h:k=i
 .rw[aC h,aC (by omega)]
 .rw[aw h,aw (by omega)]
def SQ (n:Nat) (c:CT) (L:Y ET) (y:ST×ET×Bool):Prop:=y.2.2=J->SV (n+1) (L++[y.2.1]) y.1/\Mo c (L++[y.2.1]) y.1/\EvF c.1 y.2.1/\EvS y.2.1
theorem ajm {n:Nat} (hn:n+1<=100000) {c:CT} {L:Y ET} {s:ST} {i:Nat} {kd o v0 si:Int} {ds fs:η} {sy:SY} (hs:SV n L s) (hI:Mo c L s) (hp:PE n c s (i:Int) ((i:Int),kd,o,v0,si,ds,fs)) (hm:PS c L s (i:Int) ((i:Int),kd,o,v0,si,ds,fs)) (he:EN c.1 s.1 (i:Int) kd o) (hr:XX c.1 s.1 (i:Int) kd o) (ha:AP n s.1 sy) (a:Int) (ce fu:η) (t':TT) (hap:(rK c.1 s.1 (i:Int) kd o a).1=sy) (hva:VA c.1 s.1 s.2.1 s.2.2.1 (i:Int) kd o a) (hce:ce=ceP s.2.1 ((i:Int),kd,o,a,si,ds,fs)) (hfu:fu=fuP s.2.2.1 ((i:Int),kd,o,a,si,ds,fs)) (ht:TH (FQ (L++[((i:Int),kd,o,v0,si,ds,fs)]) (i:Int)) (n+1) t') (hg:t'.2.1.length=0\/t'.2.2.2=bl .i64 ((aJ (T:=vB) s.2.2.2 (i:Int)).2.2.2+1)/\(kd=16->t'.1=(aJ (T:=vB) s.2.2.2 (i:Int)).1)):SQ n c L ((sy,ce,fu,s.2.2.2.set i t'),((i:Int),kd,o,a,si,ds,fs),J):=by
 intro _;have q1:=hp.t1;have q2:=hp.fs.th;have q3:=hp.fs.e3;have q4:=hp.fs.vc.tl;have hil:i<s.2.2.2.length:=by omega
 have hln:=hs.ln;refine ⟨⟨ha.toSB hs.sb hn,by simp[hln],λk hk=>?_⟩,⟨?_,λk hk=>?_⟩,⟨he.nm,he.t0,he.t1,he.cd⟩,⟨dy hp.d (by omega),dy hp.f (by omega)⟩⟩
 .dsimp only at hk ⊢;rw[ij]at hk;rw[Kj (T:=vB) _ _ _ _ hil];split
  .rename_i h;subst h;exact ht.mono (bT _) λy z=>ak6 (e:=((k:Int),kd,o,v0,si,ds,fs)) (e':=((k:Int),kd,o,a,si,ds,fs)) rfl rfl z
  .exact (hs.t k hk).mono (by omega) λy z=>⟨z.1,z.2.app _⟩
 .rw[<- hap,hce,hfu];exact hI.ac.snoc (e:=((i:Int),kd,o,a,si,ds,fs)) ⟨he,hr,hm.s1,hm.s2,hm.de,hm.fr,⟨hm.da,λx U=>⟨(hm.dq x U).1,(hm.dq x U).2.lt⟩⟩,⟨hm.fa,λx U=>⟨(hm.fq x U).1,(hm.fq x U).2.lt⟩⟩,λy z=>(hm.dq y z).2,λy z=>(hm.fq y z).2,hva⟩
 .dsimp only at hk ⊢;rw[ij]at hk;rw[Kj (T:=vB) _ _ _ _ hil];obtain⟨Jl,st2⟩:=amv a he hr (j:=(k:Int)) (by omega);rw[hap]at Jl st2;have hfl:=YS L (i:Int);split
  .rename_i h;subst h;rcases hg with hg|⟨g1,g2⟩
   .exact .inl hg
   .refine .inr ⟨?_,λhw=>?_,λA=>?_⟩
    .rw[g1,hm.tg.ev,vk,Ak rfl,gw (by omega)];simp
    .have Z:kd=16:=wu λh=>hw.elim (st2 rfl h).1 (st2 rfl h).2
     rw[g2 Z];exact hm.wt Z
    .rw[vk,Ak rfl]at A;simp at A
  .rename_i h;have hki:¬(k:Int)=(i:Int):=by omega
   have hfo:∀e:ET,e.1=(i:Int)->fl (L++[e]) (k:Int)=fl L (k:Int):=λe h=>by
    rw[vk,xr (by rw[h];exact λh=>hki h.symm),ik]
   have Jl:=Jl hki;refine (hI.t k hk).imp id λg=>⟨by rw[hfo _ rfl];exact g.ev,λhw=>g.wi (by
    rcases Jl with h1|⟨h1,_⟩|⟨_,h1⟩
    .rw[<- h1];exact hw
    .exact .inl h1
    .exact hw.elim (λh=>b8 (h1.symm.trans h) (by decide)) λh=>b8 (h1.symm.trans h) (by decide)),λA=>?_⟩
   rw[hfo _ rfl]at A;have g2:=g.nw A;rcases Jl with h1|⟨h1,_⟩|⟨_,h1⟩
   .rw[h1];exact g2
   .exact (g2.elim (λh=>b8 (h1.symm.trans h) (by decide)) λh=>b8 (h1.symm.trans h) (by decide))
   .exact .inr h1
theorem kR {α R:Type} (o:I α):au o (λ_=>(D:I R))=D:=by cases o<;>rfl
theorem pm {R:Type} (b:Bool):chk b (λ_=>(D:I R))=D:=by cases b<;>rfl
theorem sL {α R:Type} (x:α):lt x (λ_=>(D:I R))=D:=rfl
def Ro {R:Type} (o:I R) (Q:R->Prop):Prop:=o=D\/Ok o Q
theorem Ro.or {R:Type} {a b:I R} {Q:R->Prop} (s:Ro a Q) (hb:Ro b Q):Ro (orE a b) Q:=by
 rcases s with rfl|⟨y,rfl,h⟩
 .exact hb
 .exact .inr ⟨y,rfl,h⟩
theorem Ok.orL {R:Type} {a b:I R} {Q:R->Prop} (s:Ok a Q):Ok (orE a b) Q:=by
 obtain⟨y,rfl,h⟩:=s;exact⟨y,rfl,h⟩
theorem Ro.orR {R:Type} {a b:I R} {Q:R->Prop} (s:Ro a Q) (hb:Ok b Q):Ok (orE a b) Q:=by
 rcases s with rfl|⟨y,rfl,h⟩
 .exact hb
 .exact⟨y,rfl,h⟩
theorem Jj {n:Nat} (hn:n+1<=100000) {c:CT} {L:Y ET} {s:ST} {t u:Int} (hc:CB c) (hs:SV n L s) (Z:Mo c L s) (G:I (ST×ET×Bool)->Prop) (hG:∀y,SQ n c L y->G (M y)) (k:ET×Bool->SY×Int×Bool->I (ST×ET×Bool))
 (hk:∀e v sy,PE n c s t e->PS c L s t e->EN c.1 s.1 t e.2.1 e.2.2.1->XX c.1 s.1 t e.2.1 e.2.2.1->AP n s.1 sy->(sy,v)=rK c.1 s.1 t e.2.1 e.2.2.1 u->G (k (e,J) (sy,v,J))):
 G (au (oq (c,s,t)) λz=>aF (!z.2) (M ((([],0,[],[]),[],[],[]),(0,0,0,0,0,[],[]),af)) (au (pQ (c.1,s.1,t,z.1.2.1,z.1.2.2.1,u)) λA=>aF (!A.2.2) (M ((([],0,[],[]),[],[],[]),(0,0,0,0,0,[],[]),af)) (k z A))):=by
 have U:=hG ((([],0,[],[]),[],[],[]),(0,0,0,0,0,[],[]),af) λh=>(by cases h)
 obtain⟨⟨e,b⟩,h1,h2⟩:=XY n (by omega) c L s hc hs Z t;rw[h1,YD];cases b with
 |false=>exact U
 |true=>
  obtain⟨hp,hm⟩:=h2 rfl;have hcd:c.1.2.2.1.length<=1000:=by have:=hp.fs.vc.vl.d;omega
  obtain⟨⟨sy,v,b⟩,h3,h4,_,_⟩:=Va c.1 s.1 hs.sb hcd t e.2.1 e.2.2.1 u;have e0:∀{R:Type} (a b:I R),aF (!J) a b=b:=λ_ _=>rfl
  rw[e0,h3,YD];cases b with
  |false=>exact U
  |true=>
   obtain⟨g1,g2,g3,g4⟩:=h4 rfl;exact hk e v sy hp hm g1 g2 g3 g4
theorem ac6 {E:Nat} {L:Y ET} (sy:SY) (ce fu:η) (a:TT) (h:SV E L (sy,ce,fu,[a])) (hce:ce.length<=1000) (hfu:fu.length<=1000):nS (sy,ce,fu,[a])=M ((sy.2.1,sy.1,sy.2.2.1,sy.2.2.2).1,(sy.2.1,sy.1,sy.2.2.1,sy.2.2.2).2.1,(sy.2.1,sy.1,sy.2.2.1,sy.2.2.2).2.2.1,(sy.2.1,sy.1,sy.2.2.1,sy.2.2.2).2.2.2,(([]:η)++ce),(([]:η)++fu),((a.1,a.2.2.2),a.2.1,a.2.2.1)):=by
 have z:=h.sb.n1;have s:TH (FQ L 0) E a:=h.t 0 (by simp);refine cf ?_;unfold nS aY bP bw bB bC aX;refine aS (rC sy h.sb) ?_;refine be (by simp;omega) (by omega) (be (by simp;omega) (by omega) ?_);refine fX rfl (bh rfl (aT (aS (dw a E z s) ?_)));exact gf rfl (aj rfl)
theorem U7 (sy:SY) (ce fu:η) (l:Y TT) (h0:l.length<=4) (h:l.length≠1):nS (sy,ce,fu,l)=D:=by
 unfold nS aY bP bw bB bC aX;rcases l with _|⟨a,_|⟨b,_|⟨c,_|⟨d,_|⟨e,l⟩⟩⟩⟩⟩;all_goals first|(simp at h;done)|(exfalso;simp only[cg]at h0;omega)|simp[fP,kR,pm,sL,bcT,bcF]
theorem ac5 {E:Nat} {L:Y ET} (sy:SY) (ce fu:η) (a b:TT) (h:SV E L (sy,ce,fu,[a,b])) (hce:ce.length<=1000) (hfu:fu.length<=1000):nR (sy,ce,fu,[a,b])=M ((sy.2.1,sy.1,sy.2.2.1,sy.2.2.2).1,(sy.2.1,sy.1,sy.2.2.1,sy.2.2.2).2.1,(sy.2.1,sy.1,sy.2.2.1,sy.2.2.2).2.2.1,(sy.2.1,sy.1,sy.2.2.1,sy.2.2.2).2.2.2,(([]:η)++ce),(([]:η)++fu),(((a.1,a.2.2.2),a.2.1,a.2.2.1).1.1,((a.1,a.2.2.2),a.2.1,a.2.2.1).1.2,((b.1,b.2.2.2),b.2.1,b.2.2.1).1.1,((b.1,b.2.2.2),b.2.1,b.2.2.1).2.1,((b.1,b.2.2.2),b.2.1,b.2.2.1).2.2,((b.1,b.2.2.2),b.2.1,b.2.2.1).1.2),((a.1,a.2.2.2),a.2.1,a.2.2.1).2):=by
 have s:=h.sb.n1;have z:TH (FQ L 0) E a:=h.t 0 (by simp);have hb:TH (FQ L 1) E b:=h.t 1 (by simp);refine cf ?_;unfold nR aY bP bw bB bC aX;refine aS (rC sy h.sb) ?_;refine be (by simp;omega) (by omega) (be (by simp;omega) (by omega) ?_);refine fX rfl (bh rfl (aT (aS (dw a E s z) ?_)));refine fX rfl (bh rfl (aT (aS (dw b E s hb) ?_)));exact gf rfl (aj rfl)
theorem U6 (sy:SY) (ce fu:η) (l:Y TT) (h0:l.length<=4) (h:l.length≠2):nR (sy,ce,fu,l)=D:=by
 unfold nR aY bP bw bB bC aX;rcases l with _|⟨a,_|⟨b,_|⟨c,_|⟨d,_|⟨e,l⟩⟩⟩⟩⟩;all_goals first|(simp at h;done)|(exfalso;simp only[cg]at h0;omega)|simp[fP,kR,pm,sL,bcT,bcF]
theorem ac4 {E:Nat} {L:Y ET} (sy:SY) (ce fu:η) (a b:TT) (h:SV E L (sy,ce,fu,[a,b])) (hce:ce.length<=1000) (hfu:fu.length<=1000):nQ (sy,ce,fu,[a,b])=M ((sy.2.1,sy.1,sy.2.2.1,sy.2.2.2).1,(sy.2.1,sy.1,sy.2.2.1,sy.2.2.2).2.1,(sy.2.1,sy.1,sy.2.2.1,sy.2.2.2).2.2.1,(sy.2.1,sy.1,sy.2.2.1,sy.2.2.2).2.2.2,(([]:η)++ce),(([]:η)++fu),((((a.1,a.2.2.2),a.2.1,a.2.2.1).1.1,((a.1,a.2.2.2),a.2.1,a.2.2.1).2.1,((a.1,a.2.2.2),a.2.1,a.2.2.1).2.2,((a.1,a.2.2.2),a.2.1,a.2.2.1).1.2),((b.1,b.2.2.2),b.2.1,b.2.2.1).1),((b.1,b.2.2.2),b.2.1,b.2.2.1).2):=by
 have s:=h.sb.n1;have z:TH (FQ L 0) E a:=h.t 0 (by simp);have hb:TH (FQ L 1) E b:=h.t 1 (by simp);refine cf ?_;unfold nQ aY bP bw bB bC aX;refine aS (rC sy h.sb) ?_;refine be (by simp;omega) (by omega) (be (by simp;omega) (by omega) ?_);refine fX rfl (bh rfl (aT (aS (dw a E s z) ?_)));refine fX rfl (bh rfl (aT (aS (dw b E s hb) ?_)));exact gf rfl (aj rfl)
theorem U5 (sy:SY) (ce fu:η) (l:Y TT) (h0:l.length<=4) (h:l.length≠2):nQ (sy,ce,fu,l)=D:=by
 unfold nQ aY bP bw bB bC aX;rcases l with _|⟨a,_|⟨b,_|⟨c,_|⟨d,_|⟨e,l⟩⟩⟩⟩⟩;all_goals first|(simp at h;done)|(exfalso;simp only[cg]at h0;omega)|simp[fP,kR,pm,sL,bcT,bcF]
theorem ac3 {E:Nat} {L:Y ET} (sy:SY) (ce fu:η) (a b c:TT) (h:SV E L (sy,ce,fu,[a,b,c])) (hce:ce.length<=1000) (hfu:fu.length<=1000):nP (sy,ce,fu,[a,b,c])=M ((sy.2.1,sy.1,sy.2.2.1,sy.2.2.2).1,(sy.2.1,sy.1,sy.2.2.1,sy.2.2.2).2.1,(sy.2.1,sy.1,sy.2.2.1,sy.2.2.2).2.2.1,(sy.2.1,sy.1,sy.2.2.1,sy.2.2.2).2.2.2,(([]:η)++ce),(([]:η)++fu),(((a.1,a.2.2.2),a.2.1,a.2.2.1).1.1,((a.1,a.2.2.2),a.2.1,a.2.2.1).1.2,(((b.1,b.2.2.2),b.2.1,b.2.2.1).1.1,((b.1,b.2.2.2),b.2.1,b.2.2.1).2.1,((b.1,b.2.2.2),b.2.1,b.2.2.1).2.2,((b.1,b.2.2.2),b.2.1,b.2.2.1).1.2),((c.1,c.2.2.2),c.2.1,c.2.2.1).1.1,((c.1,c.2.2.2),c.2.1,c.2.2.1).2.1,((c.1,c.2.2.2),c.2.1,c.2.2.1).2.2,((c.1,c.2.2.2),c.2.1,c.2.2.1).1.2),((a.1,a.2.2.2),a.2.1,a.2.2.1).2):=by
 have s:=h.sb.n1;have z:TH (FQ L 0) E a:=h.t 0 (by simp);have hb:TH (FQ L 1) E b:=h.t 1 (by simp);have hc:TH (FQ L 2) E c:=h.t 2 (by simp);refine cf ?_;unfold nP aY bP bw bB bC aX;refine aS (rC sy h.sb) ?_;refine be (by simp;omega) (by omega) (be (by simp;omega) (by omega) ?_);refine fX rfl (bh rfl (aT (aS (dw a E s z) ?_)));refine fX rfl (bh rfl (aT (aS (dw b E s hb) ?_)));refine fX rfl (bh rfl (aT (aS (dw c E s hc) ?_)));exact gf rfl (aj rfl)
theorem U4 (sy:SY) (ce fu:η) (l:Y TT) (h0:l.length<=4) (h:l.length≠3):nP (sy,ce,fu,l)=D:=by
 unfold nP aY bP bw bB bC aX;rcases l with _|⟨a,_|⟨b,_|⟨c,_|⟨d,_|⟨e,l⟩⟩⟩⟩⟩;all_goals first|(simp at h;done)|(exfalso;simp only[cg]at h0;omega)|simp[fP,kR,pm,sL,bcT,bcF]
theorem ac2 {E:Nat} {L:Y ET} (sy:SY) (ce fu:η) (a b c:TT) (h:SV E L (sy,ce,fu,[a,b,c])) (hce:ce.length<=1000) (hfu:fu.length<=1000):nO (sy,ce,fu,[a,b,c])=M ((sy.2.1,sy.1,sy.2.2.1,sy.2.2.2).1,(sy.2.1,sy.1,sy.2.2.1,sy.2.2.2).2.1,(sy.2.1,sy.1,sy.2.2.1,sy.2.2.2).2.2.1,(sy.2.1,sy.1,sy.2.2.1,sy.2.2.2).2.2.2,(([]:η)++ce),(([]:η)++fu),((((a.1,a.2.2.2),a.2.1,a.2.2.1).1.1,((a.1,a.2.2.2),a.2.1,a.2.2.1).2.1,((a.1,a.2.2.2),a.2.1,a.2.2.1).2.2,((a.1,a.2.2.2),a.2.1,a.2.2.1).1.2),((b.1,b.2.2.2),b.2.1,b.2.2.1).1.1,((b.1,b.2.2.2),b.2.1,b.2.2.1).1.2,((c.1,c.2.2.2),c.2.1,c.2.2.1).1.1,((c.1,c.2.2.2),c.2.1,c.2.2.1).2.1,((c.1,c.2.2.2),c.2.1,c.2.2.1).2.2,((c.1,c.2.2.2),c.2.1,c.2.2.1).1.2),((b.1,b.2.2.2),b.2.1,b.2.2.1).2):=by
 have s:=h.sb.n1;have z:TH (FQ L 0) E a:=h.t 0 (by simp);have hb:TH (FQ L 1) E b:=h.t 1 (by simp);have hc:TH (FQ L 2) E c:=h.t 2 (by simp);refine cf ?_;unfold nO aY bP bw bB bC aX;refine aS (rC sy h.sb) ?_;refine be (by simp;omega) (by omega) (be (by simp;omega) (by omega) ?_);refine fX rfl (bh rfl (aT (aS (dw a E s z) ?_)));refine fX rfl (bh rfl (aT (aS (dw b E s hb) ?_)));refine fX rfl (bh rfl (aT (aS (dw c E s hc) ?_)));exact gf rfl (aj rfl)
theorem U3 (sy:SY) (ce fu:η) (l:Y TT) (h0:l.length<=4) (h:l.length≠3):nO (sy,ce,fu,l)=D:=by
 unfold nO aY bP bw bB bC aX;rcases l with _|⟨a,_|⟨b,_|⟨c,_|⟨d,_|⟨e,l⟩⟩⟩⟩⟩;all_goals first|(simp at h;done)|(exfalso;simp only[cg]at h0;omega)|simp[fP,kR,pm,sL,bcT,bcF]
theorem ac1 {E:Nat} {L:Y ET} (sy:SY) (ce fu:η) (a b c:TT) (h:SV E L (sy,ce,fu,[a,b,c])) (hce:ce.length<=1000) (hfu:fu.length<=1000):nN (sy,ce,fu,[a,b,c])=M ((sy.2.1,sy.1,sy.2.2.1,sy.2.2.2).1,(sy.2.1,sy.1,sy.2.2.1,sy.2.2.2).2.1,(sy.2.1,sy.1,sy.2.2.1,sy.2.2.2).2.2.1,(sy.2.1,sy.1,sy.2.2.1,sy.2.2.2).2.2.2,(([]:η)++ce),(([]:η)++fu),((((a.1,a.2.2.2),a.2.1,a.2.2.1).1.1,((a.1,a.2.2.2),a.2.1,a.2.2.1).2.1,((a.1,a.2.2.2),a.2.1,a.2.2.1).2.2,((a.1,a.2.2.2),a.2.1,a.2.2.1).1.2),(((b.1,b.2.2.2),b.2.1,b.2.2.1).1.1,((b.1,b.2.2.2),b.2.1,b.2.2.1).2.1,((b.1,b.2.2.2),b.2.1,b.2.2.1).2.2,((b.1,b.2.2.2),b.2.1,b.2.2.1).1.2),((c.1,c.2.2.2),c.2.1,c.2.2.1).1),((c.1,c.2.2.2),c.2.1,c.2.2.1).2):=by
 have s:=h.sb.n1;have z:TH (FQ L 0) E a:=h.t 0 (by simp);have hb:TH (FQ L 1) E b:=h.t 1 (by simp);have hc:TH (FQ L 2) E c:=h.t 2 (by simp);refine cf ?_;unfold nN aY bP bw bB bC aX;refine aS (rC sy h.sb) ?_;refine be (by simp;omega) (by omega) (be (by simp;omega) (by omega) ?_);refine fX rfl (bh rfl (aT (aS (dw a E s z) ?_)));refine fX rfl (bh rfl (aT (aS (dw b E s hb) ?_)));refine fX rfl (bh rfl (aT (aS (dw c E s hc) ?_)));exact gf rfl (aj rfl)
theorem U2 (sy:SY) (ce fu:η) (l:Y TT) (h0:l.length<=4) (h:l.length≠3):nN (sy,ce,fu,l)=D:=by
 unfold nN aY bP bw bB bC aX;rcases l with _|⟨a,_|⟨b,_|⟨c,_|⟨d,_|⟨e,l⟩⟩⟩⟩⟩;all_goals first|(simp at h;done)|(exfalso;simp only[cg]at h0;omega)|simp[fP,kR,pm,sL,bcT,bcF]
theorem ac0 {E:Nat} {L:Y ET} (sy:SY) (ce fu:η) (a b c d:TT) (h:SV E L (sy,ce,fu,[a,b,c,d])) (hce:ce.length<=1000) (hfu:fu.length<=1000):nM (sy,ce,fu,[a,b,c,d])=M ((sy.2.1,sy.1,sy.2.2.1,sy.2.2.2).1,(sy.2.1,sy.1,sy.2.2.1,sy.2.2.2).2.1,(sy.2.1,sy.1,sy.2.2.1,sy.2.2.2).2.2.1,(sy.2.1,sy.1,sy.2.2.1,sy.2.2.2).2.2.2,(([]:η)++ce),(([]:η)++fu),(((a.1,a.2.2.2),a.2.1,a.2.2.1).1.1,((a.1,a.2.2.2),a.2.1,a.2.2.1).1.2,(((b.1,b.2.2.2),b.2.1,b.2.2.1).1.1,((b.1,b.2.2.2),b.2.1,b.2.2.1).2.1,((b.1,b.2.2.2),b.2.1,b.2.2.1).2.2,((b.1,b.2.2.2),b.2.1,b.2.2.1).1.2),(((c.1,c.2.2.2),c.2.1,c.2.2.1).1.1,((c.1,c.2.2.2),c.2.1,c.2.2.1).2.1,((c.1,c.2.2.2),c.2.1,c.2.2.1).2.2,((c.1,c.2.2.2),c.2.1,c.2.2.1).1.2),((d.1,d.2.2.2),d.2.1,d.2.2.1).1.1,((d.1,d.2.2.2),d.2.1,d.2.2.1).2.1,((d.1,d.2.2.2),d.2.1,d.2.2.1).2.2,((d.1,d.2.2.2),d.2.1,d.2.2.1).1.2),((a.1,a.2.2.2),a.2.1,a.2.2.1).2):=by
 have s:=h.sb.n1;have z:TH (FQ L 0) E a:=h.t 0 (by simp);have hb:TH (FQ L 1) E b:=h.t 1 (by simp);have hc:TH (FQ L 2) E c:=h.t 2 (by simp);have hd:TH (FQ L 3) E d:=h.t 3 (by simp);refine cf ?_;unfold nM aY bP bw bB bC aX;refine aS (rC sy h.sb) ?_;refine be (by simp;omega) (by omega) (be (by simp;omega) (by omega) ?_);refine fX rfl (bh rfl (aT (aS (dw a E s z) ?_)));refine fX rfl (bh rfl (aT (aS (dw b E s hb) ?_)));refine fX rfl (bh rfl (aT (aS (dw c E s hc) ?_)));refine fX rfl (bh rfl (aT (aS (dw d E s hd) ?_)));exact gf rfl (aj rfl)
theorem U1 (sy:SY) (ce fu:η) (l:Y TT) (h0:l.length<=4) (h:l.length≠4):nM (sy,ce,fu,l)=D:=by
 unfold nM aY bP bw bB bC aX;rcases l with _|⟨a,_|⟨b,_|⟨c,_|⟨d,_|⟨e,l⟩⟩⟩⟩⟩;all_goals first|(simp at h;done)|(exfalso;simp only[cg]at h0;omega)|simp[fP,kR,pm,sL,bcT,bcF]
theorem abz {E:Nat} {L:Y ET} (sy:SY) (ce fu:η) (a b c d:TT) (h:SV E L (sy,ce,fu,[a,b,c,d])) (hce:ce.length<=1000) (hfu:fu.length<=1000):nL (sy,ce,fu,[a,b,c,d])=M ((sy.2.1,sy.1,sy.2.2.1,sy.2.2.2).1,(sy.2.1,sy.1,sy.2.2.1,sy.2.2.2).2.1,(sy.2.1,sy.1,sy.2.2.1,sy.2.2.2).2.2.1,(sy.2.1,sy.1,sy.2.2.1,sy.2.2.2).2.2.2,(([]:η)++ce),(([]:η)++fu),((((a.1,a.2.2.2),a.2.1,a.2.2.1).1.1,((a.1,a.2.2.2),a.2.1,a.2.2.1).2.1,((a.1,a.2.2.2),a.2.1,a.2.2.1).2.2,((a.1,a.2.2.2),a.2.1,a.2.2.1).1.2),((b.1,b.2.2.2),b.2.1,b.2.2.1).1.1,((b.1,b.2.2.2),b.2.1,b.2.2.1).1.2,(((c.1,c.2.2.2),c.2.1,c.2.2.1).1.1,((c.1,c.2.2.2),c.2.1,c.2.2.1).2.1,((c.1,c.2.2.2),c.2.1,c.2.2.1).2.2,((c.1,c.2.2.2),c.2.1,c.2.2.1).1.2),((d.1,d.2.2.2),d.2.1,d.2.2.1).1.1,((d.1,d.2.2.2),d.2.1,d.2.2.1).2.1,((d.1,d.2.2.2),d.2.1,d.2.2.1).2.2,((d.1,d.2.2.2),d.2.1,d.2.2.1).1.2),((b.1,b.2.2.2),b.2.1,b.2.2.1).2):=by
 have s:=h.sb.n1;have z:TH (FQ L 0) E a:=h.t 0 (by simp);have hb:TH (FQ L 1) E b:=h.t 1 (by simp);have hc:TH (FQ L 2) E c:=h.t 2 (by simp);have hd:TH (FQ L 3) E d:=h.t 3 (by simp);refine cf ?_;unfold nL aY bP bw bB bC aX;refine aS (rC sy h.sb) ?_;refine be (by simp;omega) (by omega) (be (by simp;omega) (by omega) ?_);refine fX rfl (bh rfl (aT (aS (dw a E s z) ?_)));refine fX rfl (bh rfl (aT (aS (dw b E s hb) ?_)));refine fX rfl (bh rfl (aT (aS (dw c E s hc) ?_)));refine fX rfl (bh rfl (aT (aS (dw d E s hd) ?_)));exact gf rfl (aj rfl)
theorem U0 (sy:SY) (ce fu:η) (l:Y TT) (h0:l.length<=4) (h:l.length≠4):nL (sy,ce,fu,l)=D:=by
 unfold nL aY bP bw bB bC aX;rcases l with _|⟨a,_|⟨b,_|⟨c,_|⟨d,_|⟨e,l⟩⟩⟩⟩⟩;all_goals first|(simp at h;done)|(exfalso;simp only[cg]at h0;omega)|simp[fP,kR,pm,sL,bcT,bcF]
theorem aby {E:Nat} {L:Y ET} (sy:SY) (ce fu:η) (a b c d:TT) (h:SV E L (sy,ce,fu,[a,b,c,d])) (hce:ce.length<=1000) (hfu:fu.length<=1000):nK (sy,ce,fu,[a,b,c,d])=M ((sy.2.1,sy.1,sy.2.2.1,sy.2.2.2).1,(sy.2.1,sy.1,sy.2.2.1,sy.2.2.2).2.1,(sy.2.1,sy.1,sy.2.2.1,sy.2.2.2).2.2.1,(sy.2.1,sy.1,sy.2.2.1,sy.2.2.2).2.2.2,(([]:η)++ce),(([]:η)++fu),((((a.1,a.2.2.2),a.2.1,a.2.2.1).1.1,((a.1,a.2.2.2),a.2.1,a.2.2.1).2.1,((a.1,a.2.2.2),a.2.1,a.2.2.1).2.2,((a.1,a.2.2.2),a.2.1,a.2.2.1).1.2),(((b.1,b.2.2.2),b.2.1,b.2.2.1).1.1,((b.1,b.2.2.2),b.2.1,b.2.2.1).2.1,((b.1,b.2.2.2),b.2.1,b.2.2.1).2.2,((b.1,b.2.2.2),b.2.1,b.2.2.1).1.2),((c.1,c.2.2.2),c.2.1,c.2.2.1).1.1,((c.1,c.2.2.2),c.2.1,c.2.2.1).1.2,((d.1,d.2.2.2),d.2.1,d.2.2.1).1.1,((d.1,d.2.2.2),d.2.1,d.2.2.1).2.1,((d.1,d.2.2.2),d.2.1,d.2.2.1).2.2,((d.1,d.2.2.2),d.2.1,d.2.2.1).1.2),((c.1,c.2.2.2),c.2.1,c.2.2.1).2):=by
 have s:=h.sb.n1;have z:TH (FQ L 0) E a:=h.t 0 (by simp);have hb:TH (FQ L 1) E b:=h.t 1 (by simp);have hc:TH (FQ L 2) E c:=h.t 2 (by simp);have hd:TH (FQ L 3) E d:=h.t 3 (by simp);refine cf ?_;unfold nK aY bP bw bB bC aX;refine aS (rC sy h.sb) ?_;refine be (by simp;omega) (by omega) (be (by simp;omega) (by omega) ?_);refine fX rfl (bh rfl (aT (aS (dw a E s z) ?_)));refine fX rfl (bh rfl (aT (aS (dw b E s hb) ?_)));refine fX rfl (bh rfl (aT (aS (dw c E s hc) ?_)));refine fX rfl (bh rfl (aT (aS (dw d E s hd) ?_)));exact gf rfl (aj rfl)
theorem UZ (sy:SY) (ce fu:η) (l:Y TT) (h0:l.length<=4) (h:l.length≠4):nK (sy,ce,fu,l)=D:=by
 unfold nK aY bP bw bB bC aX;rcases l with _|⟨a,_|⟨b,_|⟨c,_|⟨d,_|⟨e,l⟩⟩⟩⟩⟩;all_goals first|(simp at h;done)|(exfalso;simp only[cg]at h0;omega)|simp[fP,kR,pm,sL,bcT,bcF]
theorem abx {E:Nat} {L:Y ET} (sy:SY) (ce fu:η) (a b c d:TT) (h:SV E L (sy,ce,fu,[a,b,c,d])) (hce:ce.length<=1000) (hfu:fu.length<=1000):nJ (sy,ce,fu,[a,b,c,d])=M ((sy.2.1,sy.1,sy.2.2.1,sy.2.2.2).1,(sy.2.1,sy.1,sy.2.2.1,sy.2.2.2).2.1,(sy.2.1,sy.1,sy.2.2.1,sy.2.2.2).2.2.1,(sy.2.1,sy.1,sy.2.2.1,sy.2.2.2).2.2.2,(([]:η)++ce),(([]:η)++fu),((((a.1,a.2.2.2),a.2.1,a.2.2.1).1.1,((a.1,a.2.2.2),a.2.1,a.2.2.1).2.1,((a.1,a.2.2.2),a.2.1,a.2.2.1).2.2,((a.1,a.2.2.2),a.2.1,a.2.2.1).1.2),(((b.1,b.2.2.2),b.2.1,b.2.2.1).1.1,((b.1,b.2.2.2),b.2.1,b.2.2.1).2.1,((b.1,b.2.2.2),b.2.1,b.2.2.1).2.2,((b.1,b.2.2.2),b.2.1,b.2.2.1).1.2),(((c.1,c.2.2.2),c.2.1,c.2.2.1).1.1,((c.1,c.2.2.2),c.2.1,c.2.2.1).2.1,((c.1,c.2.2.2),c.2.1,c.2.2.1).2.2,((c.1,c.2.2.2),c.2.1,c.2.2.1).1.2),((d.1,d.2.2.2),d.2.1,d.2.2.1).1),((d.1,d.2.2.2),d.2.1,d.2.2.1).2):=by
 have s:=h.sb.n1;have z:TH (FQ L 0) E a:=h.t 0 (by simp);have hb:TH (FQ L 1) E b:=h.t 1 (by simp);have hc:TH (FQ L 2) E c:=h.t 2 (by simp);have hd:TH (FQ L 3) E d:=h.t 3 (by simp);refine cf ?_;unfold nJ aY bP bw bB bC aX;refine aS (rC sy h.sb) ?_;refine be (by simp;omega) (by omega) (be (by simp;omega) (by omega) ?_);refine fX rfl (bh rfl (aT (aS (dw a E s z) ?_)));refine fX rfl (bh rfl (aT (aS (dw b E s hb) ?_)));refine fX rfl (bh rfl (aT (aS (dw c E s hc) ?_)));refine fX rfl (bh rfl (aT (aS (dw d E s hd) ?_)));exact gf rfl (aj rfl)
theorem UY (sy:SY) (ce fu:η) (l:Y TT) (h0:l.length<=4) (h:l.length≠4):nJ (sy,ce,fu,l)=D:=by
 unfold nJ aY bP bw bB bC aX;rcases l with _|⟨a,_|⟨b,_|⟨c,_|⟨d,_|⟨e,l⟩⟩⟩⟩⟩;all_goals first|(simp at h;done)|(exfalso;simp only[cg]at h0;omega)|simp[fP,kR,pm,sL,bcT,bcF]
theorem kdx (k:Int):k=1\/k=16\/k=2\/k=3\/k=23\/k=4\/k=22\/k=5\/((k=1)=False/\(k=16)=False/\(k=2)=False/\(k=3)=False/\(k=23)=False/\(k=4)=False/\(k=22)=False/\(k=5)=False):=by
 by_cases h:k=1\/k=16\/k=2\/k=3\/k=23\/k=4\/k=22\/k=5
 .omega
 .repeat (first|exact⟨eq_false (by omega),eq_false (by omega),eq_false (by omega),eq_false (by omega),eq_false (by omega),eq_false (by omega),eq_false (by omega),eq_false (by omega)⟩|refine Or.inr ?_)
def KR {Z:Type} (n:Nat) (a:CT) (L:Y ET) (i:Nat) (u:Int) (l:Y TT) (z:Z) (k:Int->(CT×SY×(ν)×Int×(υ)×ET×(ν)×(η)×(η)×Z×(η)×Y η)->I (ST×ET×Bool)):Prop:=
 ∀(F:Int->Prop) (p:Int) (sy:SY) (kd o v si:Int) (ds fs ce fu R:η) (T:Y η) (ev:Int),
  (kd≠16->kd≠2->Ok (nU (aJ (T:=wP) a.2 (i:Int),(p,R,T,bl .i64 (ev+1)))) λy=>TH F (n+1) y.1/\(y.1.2.1.length=0\/y.1.2.2.2=bl .i64 (ev+1)))->
  (kd=16\/kd=2->TH F (n+1) (p,R,T,bl .i64 (ev+1)))->
  (∀t',TH F (n+1) t'->(t'.2.1.length=0\/t'.2.2.2=bl .i64 (ev+1)/\(kd=16->t'.1=p))->SQ n a L ((sy,ce,fu,l.set i t'),((i:Int),kd,o,v,si,ds,fs),J))->(i:Int)<(a.2.length:Int)->
  ∀s,Ok (k p (a,sy,((i:Int),u),0,(0,0,0,0,0),((i:Int),kd,o,v,si,ds,fs),(s,ev),ce,fu,z,R,T)) (SQ n a L)
theorem Cc {Z:Type} (N i:Nat) {cp:SY×(η)×(η)×Y TT->I (Int×(Y (Int×η))×(θ)×(Y (Int×Int×Bool))×(η)×(η)×Z×(η)×Y η)} {pc ev:Z->Int} {k:Int->(CT×SY×(ν)×Int×(υ)×ET×(ν)×(η)×(η)×Z×(η)×Y η)->I (ST×ET×Bool)} {n:Nat} (hn:n+1<=100000) (A:CT) (L:Y ET) (s:ST) (t u:Int) (hc:CB A) (hs:SV n L s) (hI:Mo A L s)
 (h0:∀sy ce fu (l:Y TT),l.length<=4->l.length≠N->cp (sy,ce,fu,l)=D)
 (h1:∀sy ce fu (l:Y TT),SV n L (sy,ce,fu,l)->ce.length<=1000->fu.length<=1000->l.length=N->i<N/\∃y,cp (sy,ce,fu,l)=M y/\y.2.2.2.2.1=ce/\y.2.2.2.2.2.1=fu/\y.2.2.2.2.2.2.2.1=(aJ (T:=vB) l (i:Int)).2.1/\y.2.2.2.2.2.2.2.2=(aJ (T:=vB) l (i:Int)).2.2.1/\pc y.2.2.2.2.2.2.1=(aJ (T:=vB) l (i:Int)).1/\ev y.2.2.2.2.2.2.1=(aJ (T:=vB) l (i:Int)).2.2.2/\KR n A L i u l y.2.2.2.2.2.2.1 k):
 Ro (SG (i:Int) cp pc ev k (A,s,t,u)) (SQ n A L)/\(s.2.2.2.length=N->t=(i:Int)->Ok (SG (i:Int) cp pc ev k (A,s,t,u)) (SQ n A L)):=by
 by_cases hz:s.2.2.2.length=N/\t=(i:Int)
 .obtain⟨hz1,rfl⟩:=hz;suffices h:Ok (SG (i:Int) cp pc ev k (A,s,(i:Int),u)) (SQ n A L) from ⟨.inr h,λ_ _=>h⟩
  unfold SG E6 Prod.p11 Prod.p12 aY bi bx cI dY lh AM Db Prod.q10 Prod.q11 Prod.q13 bP dG kA Prod.q9 ck bg bC kZ aD;refine Jj hn hc hs hI (λo=>Ok o (SQ n A L)) (λy h=>aj h) _ λe v sy hp hm he hr ha hq=>?_
  obtain⟨sy0,ce,fu,l⟩:=s;obtain⟨e1,kd,o,e4,site,ds,fs⟩:=e;have het:=hp.et;dsimp only at hz1 he hr ha hq het;subst het;have vl:=hp.fs.vc.vl;have hce:=hp.fs.ce;have hfu:=hp.fs.fu;dsimp only at hce hfu;obtain⟨hiN,⟨q1,q2,q3,q4,ce',fu',z,R0,T0⟩,hcp,g1,g2,g3,g4,hpc,hve,hk⟩:=h1 sy0 ce fu l hs (by have:=vl.c;omega) (by have:=vl.f;omega) hz1;dsimp only at g1 g2 g3 g4 hpc hve hk;rw[g1,g2,g3,g4]at hcp;obtain⟨_,_,nmce,_,_,_,nmfu,_,_,_⟩:=id he.nm;have t1:(i:Int)<(A.2.length:Int):=hp.t1;have htf:TF (aJ (T:=wP) A.2 (i:Int)) (aJ (T:=vB) l (i:Int)):=hp.fs.t i (by omega);have hA:=hp.a;have hB:=hp.b;dsimp only at hA hB;have hvt:=hp.fs.vc.t _ (bN (T:=wP) (xs:=A.2) (j:=(i:Int)) (by omega) t1);have hci:=hc.ins _ (bN (T:=wP) (xs:=A.2) (j:=(i:Int)) (by omega) t1);have hth:TH (FQ L (i:Int)) n (aJ (T:=vB) l (i:Int)):=hs.t i (by dsimp only;omega);have done:=ajm hn hs hI hp hm he hr ha;have htg:=hm.tg;have hrun:=hr.r;dsimp only at done htg;have hgv:kd=3\/kd=23->FQ (L++[((i:Int),kd,o,e4,site,ds,fs)]) (i:Int) (aJ (T:=vB) l (i:Int)).2.2.2:=λh3=>by
   have h2:=hrun (by omega) (by omega);have hn0:¬(fl L (i:Int)).length=0:=λh=>(htg.nw h).elim (λg=>b8 (h2.symm.trans g) (by decide)) λg=>b8 (h2.symm.trans g) (by decide)
   refine ⟨by rw[htg.ev];omega,L_.last (e:=((i:Int),kd,o,e4,site,ds,fs)) ?_ htg.ev⟩;unfold ue;rcases h3 with h|h
   .rw[aP h];rfl
   .simp[h]
  have vaA:¬kd=3->¬kd=23->¬kd=5->VA A.1 sy0 ce fu (i:Int) kd o v:=λa b c=>⟨λh=>(a h).elim,λh=>(b h).elim,λh=>(c h).elim,λ_ _ _ _ _=>by rw[UC hq]⟩
  have apA:(rK A.1 sy0 (i:Int) kd o v).1=sy:=by rw[UC hq]
  have apB:¬kd=18->∀v',(rK A.1 sy0 (i:Int) kd o v').1=sy:=λh v'=>by rw[Zh _ _ _ _ _ _ u h,<-hq]
  have keep:∀x∈(aJ (T:=vB) l (i:Int)).2.2.1,TL (FQ (L++[((i:Int),kd,o,e4,site,ds,fs)]) (i:Int)) (n+1) x:=λx hx=>(hth.l x hx).mono (by omega) λy U=>⟨U.1,U.2.app _⟩
  clear g3 g4 hm hI hrun htg;revert done hgv keep;generalize FQ (L++[((i:Int),kd,o,e4,site,ds,fs)]) (i:Int)=F;generalize aJ (T:=vB) l (i:Int)=th at hcp hpc hve htf hA hB hth ⊢;intro done hgv keep;refine aS hcp ?_;dsimp only;rw[hpc,hve];refine fX (aP rfl) ?_;refine aR (by omega) t1 (aT (aR htf.p0 htf.p1 (aT ?_)));have htz:th.2.2.1.length=th.2.1.length:=by have:=htf.r;have:=htf.t;omega
  have fin:∀(p:Int) (R:η) (T:Y η),R.length=th.2.1.length->T.length=th.2.2.1.length->(∀x∈T,TL F (n+1) x)->Ok (nU (aJ (T:=wP) A.2 (i:Int),(p,R,T,bl .i64 (th.2.2.2+1)))) λy=>TH F (n+1) y.1/\(y.1.2.1.length=0\/y.1.2.2.2=bl .i64 (th.2.2.2+1)):=λp R T h1 h2 h3=>by
   have a1:=hth.e0;have a2:=hth.e1;have a3:=hth.r;have a4:=hth.t;rw[iw (n:=th.2.2.2+1) (by omega) (by omega)];exact abg (n+1) hn _ hci hvt _ ⟨by dsimp only;omega,by dsimp only;omega,h3,by dsimp only;omega,by dsimp only;omega⟩
  have mark:kd=3\/kd=23->∀j:Int,∀x∈cL th.2.2.1 j [th.2.2.2],TL F (n+1) x:=λh3 j x hx=>by
   rcases Dm hx with h|h
   .exact keep x h
   .rw[h];exact⟨⟨λy U=>(by cases U),trivial⟩,λy U=>by rw[aI]at U;have:=hth.e0;have:=hth.e1;rw[U];exact⟨by omega,by omega⟩,λy U=>by rw[aI]at U;rw[U];exact hgv h3⟩
  have nopark:TH F (n+1) (th.1,th.2.1,th.2.2.1,bl .i64 (th.2.2.2+1)):=by
   have a1:=hth.e0;have a2:=hth.e1;rw[iw (n:=th.2.2.2+1) (by omega) (by omega)];exact⟨hth.r,hth.t,keep,by dsimp only;omega,by dsimp only;omega⟩
  clear hp hs hc h0 h1 hcp g1 g2 hr ha hq he;generalize (aJ (T:=Cm) (aJ (T:=wP) A.2 (i:Int)).2 th.1)=ins at hA hB ⊢;rcases kdx kd with rfl|rfl|rfl|rfl|rfl|rfl|rfl|rfl|⟨k1,k2,k3,k4,k5,k6,k7,k8⟩
  case inr.inr.inr.inr.inr.inr.inr.inr=>
   simp only[k1,k2,k3,k4,k5,k6,k7,k8,aU,bp,tX];refine hk F _ _ _ _ _ _ _ _ _ _ _ _ _ (λ_ _=>fin _ _ _ rfl rfl keep) (λh=>by rw[k2,k3]at h;exact (h.elim id id).elim) (λt' h g=>?_) t1 _;exact done v ce fu t' apA (vaA (of_eq_false k4) (of_eq_false k5) (of_eq_false k8)) (aw (of_eq_false k6)).symm (aw (of_eq_false k7)).symm h (g.imp id λh=>⟨h.1,λh2=>(of_eq_false k2 h2).elim⟩)
  all_goals simp only[aU,bp,tX]
  .refine hk F _ _ _ _ _ _ _ _ _ _ _ _ _ (λ_ _=>fin _ _ _ rfl rfl keep) (λh=>by omega) (λt' h g=>?_) t1 _;exact done v ce fu t' apA (vaA (by decide) (by decide) (by decide)) rfl rfl h (g.imp id λh=>⟨h.1,λh2=>(by cases h2)⟩)
  .refine hk F _ _ _ _ _ _ _ _ _ _ _ _ _ (λh _=>(h rfl).elim) (λ_=>nopark) (λt' h g=>?_) t1 _;exact done v ce fu t' apA (vaA (by decide) (by decide) (by decide)) rfl rfl h g
  .refine hk F _ _ _ _ _ _ _ _ _ _ _ _ _ (λ_ h=>(h rfl).elim) (λ_=>nopark) (λt' h g=>?_) t1 _;exact done v ce fu t' apA (vaA (by decide) (by decide) (by decide)) rfl rfl h (g.imp id λh=>⟨h.1,λh2=>(by cases h2)⟩)
  .obtain⟨o0,o1⟩:=nmce (.inl rfl);rw[<- hce]at o1;obtain⟨a0,a1⟩:=hA (.inl rfl);have a2:ins.2.1<(th.2.2.1.length:Int):=by rw[htz];exact a1
   refine gJ (aR o0 o1 (aR o0 o1 (aj ?_)));simp only[aU,bp,tX];refine gJ (aR a0 a1 (aR a0 a1 (aR a0 a2 (aR a0 a2 (aj ?_)))));refine hk F _ _ _ _ _ _ _ _ _ _ _ _ _ (λ_ _=>fin _ _ _ (bY ..) (bY ..) (mark (.inl rfl) _)) (λh=>by omega) (λt' h g=>?_) t1 _;exact done _ ce fu t' (apB (by decide) _) ⟨λ_=>rfl,λh=>(by cases h),λh=>(by cases h),λh=>(h rfl).elim⟩ rfl rfl h (g.imp id λh=>⟨h.1,λh2=>(by cases h2)⟩)
  .obtain⟨o0,o1⟩:=nmfu (.inr rfl);rw[<- hfu]at o1;obtain⟨a0,a1⟩:=hA (.inr (.inl rfl));have a2:ins.2.1<(th.2.2.1.length:Int):=by rw[htz];exact a1
   refine gJ (aR o0 o1 (aR o0 o1 (aj ?_)));simp only[aU,bp,tX];refine gJ (aR a0 a1 (aR a0 a1 (aR a0 a2 (aR a0 a2 (aj ?_)))));refine hk F _ _ _ _ _ _ _ _ _ _ _ _ _ (λ_ _=>fin _ _ _ (bY ..) (bY ..) (mark (.inr rfl) _)) (λh=>by omega) (λt' h g=>?_) t1 _;exact done _ ce fu t' (apB (by decide) _) ⟨λh=>(by cases h),λ_=>rfl,λh=>(by cases h),λ_ h=>(h rfl).elim⟩ rfl rfl h (g.imp id λh=>⟨h.1,λh2=>(by cases h2)⟩)
  .obtain⟨o0,o1⟩:=nmce (.inr rfl);rw[<- hce]at o1;obtain⟨a0,a1⟩:=hB (.inl rfl);refine gJ (aR a0 a1 (aR a0 a1 (aR o0 o1 (aR o0 o1 (aj ?_)))));simp only[aU,bp,tX];refine hk F _ _ _ _ _ _ _ _ _ _ _ _ _ (λ_ _=>fin _ _ _ rfl rfl keep) (λh=>by omega) (λt' h g=>?_) t1 _;exact done _ _ fu t' (apB (by decide) _) ⟨λh=>(by cases h),λh=>(by cases h),λh=>(by cases h),λ_ _ _ h=>(h rfl).elim⟩ rfl rfl h (g.imp id λh=>⟨h.1,λh2=>(by cases h2)⟩)
  .obtain⟨o0,o1⟩:=nmfu (.inl rfl);rw[<- hfu]at o1;obtain⟨a0,a1⟩:=hB (.inr rfl);refine gJ (aR a0 a1 (aR a0 a1 (aR o0 o1 (aR o0 o1 (aj ?_)))));simp only[aU,bp,tX];refine hk F _ _ _ _ _ _ _ _ _ _ _ _ _ (λ_ _=>fin _ _ _ rfl rfl keep) (λh=>by omega) (λt' h g=>?_) t1 _;exact done _ ce _ t' (apB (by decide) _) ⟨λh=>(by cases h),λh=>(by cases h),λh=>(by cases h),λ_ _ _ _ h=>(h rfl).elim⟩ rfl rfl h (g.imp id λh=>⟨h.1,λh2=>(by cases h2)⟩)
  .obtain⟨a0,a1⟩:=hA (.inr (.inr rfl));refine gJ (aR a0 a1 (aR a0 a1 (aK (λ_=>aj ?_) λ_=>aj ?_)));all_goals
    simp only[aU,bp,tX];refine hk F _ _ _ _ _ _ _ _ _ _ _ _ _ (λ_ _=>fin _ _ _ rfl rfl keep) (λh=>by omega) (λt' h g=>?_) t1 _;exact done _ ce fu t' (apB (by decide) _) ⟨λh=>(by cases h),λh=>(by cases h),λ_=>(by decide),λ_ _ h=>(h rfl).elim⟩ rfl rfl h (g.imp id λh=>⟨h.1,λh2=>(by cases h2)⟩)
 .refine ⟨?_,λh1 h2=>(hz ⟨h1,h2⟩).elim⟩;unfold SG E6 Prod.p11 Prod.p12 aY bi bx cI dY lh AM Db Prod.q10 Prod.q11 Prod.q13 bP dG kA Prod.q9 ck bg bC kZ aD;refine Jj hn hc hs hI (λo=>Ro o (SQ n A L)) (λy h=>.inr (aj h)) _ λe v sy hp _ _ _ _ _=>.inl ?_
  obtain⟨sy0,ce,fu,l⟩:=s;have vl:=hp.fs.vc.vl;by_cases hl:l.length=N
  .have ht:¬t=(i:Int):=λh=>hz ⟨hl,h⟩
   dsimp only;cases cp (sy0,ce,fu,l) with
   |none=>rfl
   |some y=>rw[YD,bt ht];rfl
  .show au (cp (sy0,ce,fu,l)) _=D;rw[h0 sy0 ce fu l (by have h1:l.length=A.2.length:=hp.fs.th;have:=hp.fs.vc.tl;have:=vl.t;omega) hl];rfl
theorem Cd {Z W V:Type} {n:Nat} {U:CT} {L:Y ET} {i:Nat} {u:Int} {l:Y TT} {z:Z} {t1:Z->η->Y η->W} {s:W->V} {a:V->TT->Y TT} (h3:∀R T t',a (s (t1 z R T)) t'=l.set i t'):KR n U L i u l z (KG (i:Int) t1 s a):=by
 intro F p sy kd o v si ds fs ce fu R T ev fin park done ht pc;unfold KG E6 aY bi bx cI dY lh AM Db Prod.q10 Prod.q11 qH bg jk bC aD cJ;dsimp only;have done:∀t',TH F (n+1) t'->(t'.2.1.length=0\/t'.2.2.2=bl .i64 (ev+1)/\(kd=16->t'.1=p))->SQ n U L ((sy,ce,fu,a (s (t1 z R T)) t'),((i:Int),kd,o,v,si,ds,fs),J):=λt' h g=>by rw[h3];exact done t' h g
 by_cases h1:kd=16
 .subst h1;exact gJ (gJ (gf rfl (aj (gf rfl (aj (fX (aP rfl) (aj (done _ (park (.inl rfl)) (.inr ⟨rfl,λ_=>rfl⟩)))))))))
 by_cases h2:kd=2
 .subst h2;exact gJ (gJ (fX rfl (aj (gf rfl (aj (fX (aP rfl) (aj (done _ (park (.inr rfl)) (.inr ⟨rfl,λh=>(by cases h)⟩)))))))))
 rw[bt h1,bt h2];exact gJ (gJ (fX rfl (aj (fX rfl (aR (dZ i) ht (aT (ax (fin h1 h2) λy A=>aj (fX (aP rfl) (aj (done _ A.1 (A.2.imp id λh=>⟨h,λh2=>(h1 h2).elim⟩)))))))))))
theorem ab7 {n:Nat} (hn:n+1<=100000) (z:CT) (L:Y ET) (s:ST) (t u:Int) (hc:CB z) (hs:SV n L s) (A:Mo z L s):Ro (nI (z,s,t,u)) (SQ n z L)/\(s.2.2.2.length=4->t=0->Ok (nI (z,s,t,u)) (SQ n z L)):=by
 refine Cc 4 0 hn z L s t u hc hs A U1 λsy ce fu l hs hce hfu hl=>⟨by decide,?_⟩
 obtain⟨a,b,c,d,rfl⟩:∃a b c d,l=[a,b,c,d]:=by
  rcases l with _|⟨a,_|⟨b,_|⟨c,_|⟨d,_|⟨e,l⟩⟩⟩⟩⟩;all_goals first|exact⟨_,_,_,_,rfl⟩|(simp at hl;done)|(exfalso;simp only[cg]at hl;omega)
 refine ⟨_,ac0 sy ce fu a b c d hs hce hfu,rfl,rfl,rfl,rfl,rfl,rfl,Cd λR T t'=>rfl⟩
theorem ab6 {n:Nat} (hn:n+1<=100000) (z:CT) (L:Y ET) (s:ST) (t u:Int) (hc:CB z) (hs:SV n L s) (A:Mo z L s):Ro (nG (z,s,t,u)) (SQ n z L)/\(s.2.2.2.length=4->t=1->Ok (nG (z,s,t,u)) (SQ n z L)):=by
 refine Cc 4 1 hn z L s t u hc hs A U0 λsy ce fu l hs hce hfu hl=>⟨by decide,?_⟩
 obtain⟨a,b,c,d,rfl⟩:∃a b c d,l=[a,b,c,d]:=by
  rcases l with _|⟨a,_|⟨b,_|⟨c,_|⟨d,_|⟨e,l⟩⟩⟩⟩⟩;all_goals first|exact⟨_,_,_,_,rfl⟩|(simp at hl;done)|(exfalso;simp only[cg]at hl;omega)
 refine ⟨_,abz sy ce fu a b c d hs hce hfu,rfl,rfl,rfl,rfl,rfl,rfl,Cd λR T t'=>rfl⟩
theorem ab5 {n:Nat} (hn:n+1<=100000) (z:CT) (L:Y ET) (s:ST) (t u:Int) (hc:CB z) (hs:SV n L s) (A:Mo z L s):Ro (l7 (z,s,t,u)) (SQ n z L)/\(s.2.2.2.length=4->t=2->Ok (l7 (z,s,t,u)) (SQ n z L)):=by
 refine Cc 4 2 hn z L s t u hc hs A UZ λsy ce fu l hs hce hfu hl=>⟨by decide,?_⟩
 obtain⟨a,b,c,d,rfl⟩:∃a b c d,l=[a,b,c,d]:=by
  rcases l with _|⟨a,_|⟨b,_|⟨c,_|⟨d,_|⟨e,l⟩⟩⟩⟩⟩;all_goals first|exact⟨_,_,_,_,rfl⟩|(simp at hl;done)|(exfalso;simp only[cg]at hl;omega)
 refine ⟨_,aby sy ce fu a b c d hs hce hfu,rfl,rfl,rfl,rfl,rfl,rfl,Cd λR T t'=>rfl⟩
theorem ab4 {n:Nat} (hn:n+1<=100000) (z:CT) (L:Y ET) (s:ST) (t u:Int) (hc:CB z) (hs:SV n L s) (A:Mo z L s):Ro (kC (z,s,t,u)) (SQ n z L)/\(s.2.2.2.length=4->t=3->Ok (kC (z,s,t,u)) (SQ n z L)):=by
 refine Cc 4 3 hn z L s t u hc hs A UY λsy ce fu l hs hce hfu hl=>⟨by decide,?_⟩
 obtain⟨a,b,c,d,rfl⟩:∃a b c d,l=[a,b,c,d]:=by
  rcases l with _|⟨a,_|⟨b,_|⟨c,_|⟨d,_|⟨e,l⟩⟩⟩⟩⟩;all_goals first|exact⟨_,_,_,_,rfl⟩|(simp at hl;done)|(exfalso;simp only[cg]at hl;omega)
 refine ⟨_,abx sy ce fu a b c d hs hce hfu,rfl,rfl,rfl,rfl,rfl,rfl,Cd λR T t'=>rfl⟩
theorem aba {n:Nat} (hn:n+1<=100000) (z:CT) (L:Y ET) (s:ST) (t u:Int) (hc:CB z) (hs:SV n L s) (A:Mo z L s):Ro (jI (z,s,t,u)) (SQ n z L)/\(s.2.2.2.length=3->t=0->Ok (jI (z,s,t,u)) (SQ n z L)):=by
 refine Cc 3 0 hn z L s t u hc hs A U4 λsy ce fu l hs hce hfu hl=>⟨by decide,?_⟩
 obtain⟨a,b,c,rfl⟩:∃a b c,l=[a,b,c]:=by
  rcases l with _|⟨a,_|⟨b,_|⟨c,_|⟨d,_|⟨e,l⟩⟩⟩⟩⟩;all_goals first|exact⟨_,_,_,rfl⟩|(simp at hl;done)|(exfalso;simp only[cg]at hl;omega)
 refine ⟨_,ac3 sy ce fu a b c hs hce hfu,rfl,rfl,rfl,rfl,rfl,rfl,Cd λR T t'=>rfl⟩
theorem ab9 {n:Nat} (hn:n+1<=100000) (z:CT) (L:Y ET) (s:ST) (t u:Int) (hc:CB z) (hs:SV n L s) (A:Mo z L s):Ro (iT (z,s,t,u)) (SQ n z L)/\(s.2.2.2.length=3->t=1->Ok (iT (z,s,t,u)) (SQ n z L)):=by
 refine Cc 3 1 hn z L s t u hc hs A U3 λsy ce fu l hs hce hfu hl=>⟨by decide,?_⟩
 obtain⟨a,b,c,rfl⟩:∃a b c,l=[a,b,c]:=by
  rcases l with _|⟨a,_|⟨b,_|⟨c,_|⟨d,_|⟨e,l⟩⟩⟩⟩⟩;all_goals first|exact⟨_,_,_,rfl⟩|(simp at hl;done)|(exfalso;simp only[cg]at hl;omega)
 refine ⟨_,ac2 sy ce fu a b c hs hce hfu,rfl,rfl,rfl,rfl,rfl,rfl,Cd λR T t'=>rfl⟩
theorem ab8 {n:Nat} (hn:n+1<=100000) (z:CT) (L:Y ET) (s:ST) (t u:Int) (hc:CB z) (hs:SV n L s) (A:Mo z L s):Ro (im (z,s,t,u)) (SQ n z L)/\(s.2.2.2.length=3->t=2->Ok (im (z,s,t,u)) (SQ n z L)):=by
 refine Cc 3 2 hn z L s t u hc hs A U2 λsy ce fu l hs hce hfu hl=>⟨by decide,?_⟩
 obtain⟨a,b,c,rfl⟩:∃a b c,l=[a,b,c]:=by
  rcases l with _|⟨a,_|⟨b,_|⟨c,_|⟨d,_|⟨e,l⟩⟩⟩⟩⟩;all_goals first|exact⟨_,_,_,rfl⟩|(simp at hl;done)|(exfalso;simp only[cg]at hl;omega)
 refine ⟨_,ac1 sy ce fu a b c hs hce hfu,rfl,rfl,rfl,rfl,rfl,rfl,Cd λR T t'=>rfl⟩
theorem abc {n:Nat} (hn:n+1<=100000) (z:CT) (L:Y ET) (s:ST) (t u:Int) (hc:CB z) (hs:SV n L s) (A:Mo z L s):Ro (gP (z,s,t,u)) (SQ n z L)/\(s.2.2.2.length=2->t=0->Ok (gP (z,s,t,u)) (SQ n z L)):=by
 refine Cc 2 0 hn z L s t u hc hs A U6 λsy ce fu l hs hce hfu hl=>⟨by decide,?_⟩
 obtain⟨a,b,rfl⟩:∃a b,l=[a,b]:=by
  rcases l with _|⟨a,_|⟨b,_|⟨c,_|⟨d,_|⟨e,l⟩⟩⟩⟩⟩;all_goals first|exact⟨_,_,rfl⟩|(simp at hl;done)|(exfalso;simp only[cg]at hl;omega)
 refine ⟨_,ac5 sy ce fu a b hs hce hfu,rfl,rfl,rfl,rfl,rfl,rfl,Cd λR T t'=>rfl⟩
theorem abb {n:Nat} (hn:n+1<=100000) (z:CT) (L:Y ET) (s:ST) (t u:Int) (hc:CB z) (hs:SV n L s) (A:Mo z L s):Ro (gm (z,s,t,u)) (SQ n z L)/\(s.2.2.2.length=2->t=1->Ok (gm (z,s,t,u)) (SQ n z L)):=by
 refine Cc 2 1 hn z L s t u hc hs A U5 λsy ce fu l hs hce hfu hl=>⟨by decide,?_⟩
 obtain⟨a,b,rfl⟩:∃a b,l=[a,b]:=by
  rcases l with _|⟨a,_|⟨b,_|⟨c,_|⟨d,_|⟨e,l⟩⟩⟩⟩⟩;all_goals first|exact⟨_,_,rfl⟩|(simp at hl;done)|(exfalso;simp only[cg]at hl;omega)
 refine ⟨_,ac4 sy ce fu a b hs hce hfu,rfl,rfl,rfl,rfl,rfl,rfl,Cd λR T t'=>rfl⟩
theorem abd {n:Nat} (hn:n+1<=100000) (z:CT) (L:Y ET) (s:ST) (t u:Int) (hc:CB z) (hs:SV n L s) (A:Mo z L s):Ro (gq (z,s,t,u)) (SQ n z L)/\(s.2.2.2.length=1->t=0->Ok (gq (z,s,t,u)) (SQ n z L)):=by
 refine Cc 1 0 hn z L s t u hc hs A U7 λsy ce fu l hs hce hfu hl=>⟨by decide,?_⟩
 obtain⟨a,rfl⟩:∃a,l=[a]:=by
  rcases l with _|⟨a,_|⟨b,_|⟨c,_|⟨d,_|⟨e,l⟩⟩⟩⟩⟩;all_goals first|exact⟨_,rfl⟩|(simp at hl;done)|(exfalso;simp only[cg]at hl;omega)
 refine ⟨_,ac6 sy ce fu a hs hce hfu,rfl,rfl,rfl,rfl,rfl,rfl,Cd λR T t'=>rfl⟩
theorem abe {n:Nat} (hn:n+1<=100000) (c:CT) (L:Y ET) (s:ST) (t u:Int) (hc:CB c) (hs:SV n L s) (hI:Mo c L s):Ok (AY (c,s,t,u)) (SQ n c L):=by
 unfold AY;have a:=ab7 hn c L s t u hc hs hI;have z:=ab6 hn c L s t u hc hs hI;have A:=ab5 hn c L s t u hc hs hI;have U:=ab4 hn c L s t u hc hs hI;have Z:=aba hn c L s t u hc hs hI;have a31:=ab9 hn c L s t u hc hs hI;have a32:=ab8 hn c L s t u hc hs hI;have a20:=abc hn c L s t u hc hs hI;have a21:=abb hn c L s t u hc hs hI;have a10:=abd hn c L s t u hc hs hI;by_cases hz:s.2.2.2.length<=4/\0<=t/\t<(s.2.2.2.length:Int)
 .obtain⟨h1,h2,h3⟩:=hz;have:(s.2.2.2.length=4/\t=0)\/(s.2.2.2.length=4/\t=1)\/(s.2.2.2.length=4/\t=2)\/(s.2.2.2.length=4/\t=3)\/(s.2.2.2.length=3/\t=0)\/(s.2.2.2.length=3/\t=1)\/(s.2.2.2.length=3/\t=2)\/(s.2.2.2.length=2/\t=0)\/(s.2.2.2.length=2/\t=1)\/(s.2.2.2.length=1/\t=0):=by omega
  rcases this with h|h|h|h|h|h|h|h|h|h
  .exact (a.2 h.1 h.2).orL
  .exact a.1.orR (z.2 h.1 h.2).orL
  .exact a.1.orR (z.1.orR (A.2 h.1 h.2).orL)
  .exact a.1.orR (z.1.orR (A.1.orR (U.2 h.1 h.2).orL))
  .exact a.1.orR (z.1.orR (A.1.orR (U.1.orR (Z.2 h.1 h.2).orL)))
  .exact a.1.orR (z.1.orR (A.1.orR (U.1.orR (Z.1.orR (a31.2 h.1 h.2).orL))))
  .exact a.1.orR (z.1.orR (A.1.orR (U.1.orR (Z.1.orR (a31.1.orR (a32.2 h.1 h.2).orL)))))
  .exact a.1.orR (z.1.orR (A.1.orR (U.1.orR (Z.1.orR (a31.1.orR (a32.1.orR (a20.2 h.1 h.2).orL))))))
  .exact a.1.orR (z.1.orR (A.1.orR (U.1.orR (Z.1.orR (a31.1.orR (a32.1.orR (a20.1.orR (a21.2 h.1 h.2).orL)))))))
  .exact a.1.orR (z.1.orR (A.1.orR (U.1.orR (Z.1.orR (a31.1.orR (a32.1.orR (a20.1.orR (a21.1.orR (a10.2 h.1 h.2)))))))))
 .refine Ok.orL ?_;unfold nI aY bi dG;refine Jj hn hc hs hI (λo=>Ok o (SQ n c L)) (λy h=>aj h) _ λe v sy hp _ _ _ _ _=>(hz ?_).elim
  have h1:s.2.2.2.length=c.2.length:=hp.fs.th;have h2:c.2.length=c.1.2.2.2.2.1.length:=hp.fs.vc.tl;have h3:c.1.2.2.2.2.1.length<=4:=hp.fs.vc.vl.t;have h4:0<=t:=hp.t0;have h5:t<(c.2.length:Int):=hp.t1;exact⟨by omega,h4,by omega⟩
theorem aie (c:CT) (s:ST) (l:Y ν) (hc:CB c) (hs:SV 0 [] s) (hI:Mo c [] s) (hl:l.length<=9223372036854775806):Ok (w_ (c,s,l)) λy=>y.1.length<=400/\(∀e∈y.1,EvF c.1 e/\EvS e)/\∃sy ce fu,Acw c.1 y.1 sy ce fu:=by
 unfold w_ aY bi dG bw bB bC aX cQ aD cJ;refine qK (λx=>((l.length:Int)-x.1).toNat) (λx=>0<=x.1/\x.2.2.1=c/\SV x.2.1.length x.2.1 x.2.2.2.1/\Mo c x.2.1 x.2.2.2.1/\x.2.1.length<=400/\∀e∈x.2.1,EvF c.1 e/\EvS e) ?_ ⟨dx _,rfl,hs,hI,by simp,λe he=>(by cases he)⟩;rintro⟨(i:Int),es,c',s',z⟩ ⟨U,e1,e2,eI,e3,a⟩;dsimp only at U e1 e2 eI e3 a;subst e1;refine aV (λx=>x.2=(es,c',s',z)/\(x.1=J->i<(l.length:Int)/\es.length<400)) ?_ ?_
 .refine bJ (λg=>aj ⟨rfl,λh=>⟨g,?_⟩⟩) λ_=>aj ⟨rfl,λh=>(by cases h)⟩
  dsimp only at h;rw[sO]at h;dsimp only[ak]at h;omega
 rintro⟨b,x⟩ ⟨f1,Z⟩;dsimp only at f1 Z;subst f1;refine aN (λh=>?_) λ_=>aj ⟨e3,a,_,_,_,eI.ac⟩
 obtain⟨g1,g2⟩:=Z h;refine aV (λx=>x.2.1=c'/\SV x.1.length x.1 x.2.2.1/\Mo c' x.1 x.2.2.1/\x.1.length<=400/\∀e∈x.1,EvF c'.1 e/\EvS e) ?_ ?_
 .refine aR U g1 (aT ?_);refine ax (abe (n:=es.length) (by omega) c' es s' _ _ hc e2 eI) λy hy=>?_
  refine aN (λh=>?_) λ_=>aj ⟨rfl,e2,eI,e3,a⟩
  obtain⟨h1,hJ,h2,h3⟩:=hy h;refine be (by simp;omega) (by omega) (aj ⟨rfl,?_,hJ,by simp;omega,λe he=>?_⟩)
  .dsimp only;rw[bf,cX];exact h1
  .rcases bG.1 he with he|he
   .exact a e he
   .rw[aI]at he;subst he;exact⟨h2,h3⟩
 rintro⟨es',c2,s2,z2⟩ ⟨k1,k2,kI,L,A⟩;dsimp only at k1 k2 kI L A;subst k1;refine aj ?_;dsimp only;rw[iw (n:=i+1) (by omega) (by omega)];exact⟨⟨by omega,rfl,k2,kI,L,A⟩,by omega⟩
theorem CB.vc {c:CT} (hc:CB c):VC c:=by
 obtain⟨b,h1,h2⟩:=UL c hc.th hc.ins;rw[hc.ok]at h1;cases h1;exact h2 rfl
theorem ang (c:CT) (l:Y ν) (hc:CB c) (hl:l.length<=9223372036854775806):Ok (zV (c,l)) λy=>TR y.1:=by
 unfold zV;refine aS hc.ok (em (λh=>(by cases h)) λ_=>?_);have hv:=hc.vc;refine ax (XT c hc.ok hv) λs hs=>?_
 refine ax (aie c s l hc hs.1 hs.2 hl) λy a=>aj ?_
 exact⟨hv.vl.wb,hv.vl,λe he=>(a.2.1 e he).1,by have:=a.1;dsimp only;omega,λe he=>(a.2.1 e he).2,hc.wx,a.2.2⟩
theorem X7 (l:η) (hl:l.length<=1000000):Ok (ph l) λy=>y.length=l.length:=by
 unfold ph bw bB bC aX cQ aD cJ;refine bZ l.length (λi x=>x.1=(i:Int)/\x.2.length=i) ?_ ?_ ⟨rfl,rfl⟩
 .rintro i ⟨a,b⟩ hi ⟨e1,e2⟩;dsimp only at e1 e2;subst e1;refine dh ?_;refine b7 (aT (b7 (aT (be (by simp;omega) (by omega) (aj ?_)))));dsimp only;exact⟨gw (by omega),by simp;omega⟩
 .rintro⟨a,b⟩ ⟨e1,e2⟩;dsimp only at e1 e2;subst e1;exact di (aj e2)
theorem fE (e:Xp):eC (Xp.op e,Xp.n e,Xp.name e,Xp.l e)=e:=by cases e;rfl
theorem zL (s:Sx):oz (Sx.op s,Sx.line s,Sx.name s,Sx.arg s,Sx.index s,Sx.expr s,Sx.body s,Sx.els s)=s:=by cases s;rfl
abbrev NV:Y ζ:=[[97],[98],[120],[121],[118]]
def GE:Nat->Xp->Prop
 |0,_=>False
 |d+1,e=>(e.op=3->e.name=[113])/\(e.op≠1->e.op≠2->1<=e.l.length)/\e.l.length<=2/\(∀x∈e.l,GE d x)/\(e.op=2->e.name∈NV)/\(e.op≠1->e.op≠2->e.op≠3->2<=e.l.length/\6<=e.op/\e.op<=18)
theorem GE.mono:∀{d:Nat} {e:Xp},GE d e->GE (d+1) e
 |0,_,h=>h.elim
 |_+1,_,h=>⟨h.1,h.2.1,h.2.2.1,λx a=>(h.2.2.2.1 x a).mono,h.2.2.2.2⟩
theorem GE.le {d k:Nat} {e:Xp} (h:GE d e) (hk:d<=k):GE k e:=by
 induction hk with
 |refl=>exact h
 |step _ a=>exact a.mono
theorem Pw (n:Int):r_ n=M (.mk 1 n [] []):=rfl
theorem IL (s:ζ):pY s=M (.mk 2 0 s []):=rfl
theorem Gh (o:Int) (a b:Xp):oy (o,a,b)=M (.mk o 0 [] [a,b]):=by
 cases a;cases b;rfl
theorem uC (s:ζ) (e:Xp):jG (s,e)=M (.mk 1 0 s [] [] e [] []):=by
 cases e;rfl
abbrev MK:Type:=Int×Int×Bool×Bool×Bool×Bool
abbrev Q7:Type:=η×Int
abbrev HD:Type:=Bool×Y ζ
theorem GE.num (n:Int) (d:Nat):GE (d+1) (.mk 1 n [] []):=⟨λh=>(by cases h),λh=>(h rfl).elim,by simp[Xp.l],λx a=>(by cases a),λh=>(by cases h),λh=>(h rfl).elim⟩
theorem GE.nm {s:ζ} (hs:s∈NV) (d:Nat):GE (d+1) (.mk 2 0 s []):=⟨λh=>(by cases h),λ_ h=>(h rfl).elim,by simp[Xp.l],λx a=>(by cases a),λ_=>hs,λ_ h=>(h rfl).elim⟩
theorem GE.bin {o:Int} {a b:Xp} {d:Nat} (z:6<=o/\o<=18) (A:GE d a) (hb:GE d b):GE (d+1) (.mk o 0 [] [a,b]):=
 ⟨λh=>(by have h:o=3:=h;omega),λ_ _=>by simp[Xp.l],by simp[Xp.l],λx s=>by
   simp only[Xp.l,bm,cF,gu]at s;rcases s with rfl|rfl
   .exact A
   .exact hb,λh=>(by have h:o=2:=h;omega),λ_ _ _=>⟨by simp[Xp.l],z⟩⟩
theorem GE.ix {a:Xp} {d:Nat} (z:GE d a):GE (d+1) (.mk 3 0 [113] [a]):=
 ⟨λ_=>rfl,λ_ _=>by simp[Xp.l],by simp[Xp.l],λx s=>by
   simp only[Xp.l,bm,cF,gu]at s;rw[s];exact z,λh=>(by cases h),λ_ _ h=>(h rfl).elim⟩
theorem D6:∀(n d:Nat),d<n->d<=10->∀(m:MK) (t:Q7) (h:HD),TP t->Ok (iH n ((d:Int),m,t,h)) λy=>GE (d+1) y.1/\y.2.1=m/\vH t y.2.2.1/\y.2.2.2=h
 |0,d,hd,_,_,_,_,_=>by omega
 |n+1,d,hd,h10,m,t,h,ht=>by
  rw[zB];unfold oF aY bi bP dG cY bg bw bB kZ aX aD;refine ax (gG 10 t ht) λy a=>?_
  obtain⟨k,t1⟩:=y;obtain⟨s1,k0,k1,_⟩:=a;have k1:=k1 (by decide);dsimp only at s1 k0 k1;refine aV (λx=>x.2=(m,t1,h,(0,0,[]),[[97],[98],[120],[121],[118],[120],[121]])/\(x.1=af->2<=k/\(d=0->k<7))) ?_ ?_
  .refine bJ (λ_=>aj ⟨rfl,λh=>(by cases h)⟩) λg=>aK (λg2=>aj ⟨rfl,λg3=>⟨g,λ_=>?_⟩⟩) λg2=>aj ⟨rfl,λ_=>⟨g,λh=>(g2 (by dsimp only;omega)).elim⟩⟩
   dsimp only at g3;rw[mE]at g3;exact g3
  rintro⟨b,x⟩ ⟨e,hb⟩;dsimp only at e hb;subst e;refine aN (λ_=>?_) λg=>?_
  .refine ax (gG 4 t1 s1.p) λy a=>?_
   refine aS (Pw _) (aj ?_);exact⟨GE.num _ _,rfl,s1.trans a.1,rfl⟩
  obtain⟨q0,q1⟩:=hb g;refine bJ (λg=>?_) λg=>?_
  .refine ax (gG _ t1 s1.p) λy a=>?_
   obtain⟨u1,A,s,_⟩:=a;have s:=s (show (1:Int)<=7 by decide);refine aR A s (aR A s (aT ?_));refine aS (IL _) (aj ?_);have hnv:∀z∈([[97],[98],[120],[121],[118],[120],[121]]:Y ζ),z∈NV:=by decide
   exact⟨GE.nm (hnv _ (bN (T:=.str) A s)) _,rfl,s1.trans u1,rfl⟩
  dsimp only at g;have hd0:d≠0:=λh=>by have:=q1 h;omega
  obtain⟨d,rfl⟩:∃k,d=k+1:=⟨d-1,by omega⟩
  refine aK (λg=>?_) λg=>?_
  .refine ax (D6 n 0 (by omega) (by omega) m t1 h s1.p) λy a=>?_
   obtain⟨e,m',t',h'⟩:=y;obtain⟨v1,Z,L,U⟩:=a;dsimp only at v1 Z L U;subst Z;subst U;refine bh (by simp) (aj ?_);dsimp only;rw[fE];exact⟨(GE.ix (v1.le (by omega):GE (d+1) e)),rfl,s1.trans L,rfl⟩
  .refine ax (gG _ t1 s1.p) λy a=>?_
   obtain⟨k2,t2⟩:=y;obtain⟨u1,A,s,_⟩:=a;have s:=s (by decide);dsimp only at u1 A s;refine aR A s (aR A s (aT ?_));have ho:(6:Int)<=aJ (T:=.int .i64) [6,7,8,11,13,17] k2/\aJ (T:=.int .i64) [6,7,8,11,13,17] k2<=(18:Int):=by
    have h1:=bN (T:=.int .i64) (xs:=([6,7,8,11,13,17]:η)) A s;have:∀z:Int,z∈([6,7,8,11,13,17]:η)->6<=z/\z<=18:=by decide
    exact this _ h1
   have ew:bl .i64 (((d+1:Nat):Int)-1)=(d:Int):=by rw[iw (by omega) (by omega)];omega
   dsimp only;rw[ew];refine ax (D6 n d (by omega) (by omega) m t2 h u1.p) λy a=>?_
   obtain⟨e,m',t',h'⟩:=y;obtain⟨v1,Z,L,U⟩:=a;dsimp only at v1 Z L U;subst Z;subst U;refine bh (by simp) ?_;refine ax (D6 n d (by omega) (by omega) m' t' h' L.p) λy a=>?_
   obtain⟨e2,m2,t2',h2⟩:=y;obtain⟨w1,w2,w3,w4⟩:=a;dsimp only at w1 w2 w3 w4;subst w2;subst w4;refine bh (by simp) ?_;refine aS (Gh _ _ _) (aj ?_);dsimp only;rw[fE];exact⟨GE.bin ho v1 w1,rfl,s1.trans (u1.trans (L.trans w3)),rfl⟩
theorem adt (d:Nat) (hd:d<=10) (m:MK) (t:Q7) (h:HD) (ht:TP t):Ok (fy ((d:Int),m,t,h)) λy=>GE (d+1) y.1/\y.2.1=m/\vH t y.2.2.1/\y.2.2.2=h:=D6 fuel d (by rw[kg];omega) hd m t h ht
end
end Go.Proofs.YtloaobgmjdjhhaaGreatDoor.AI
